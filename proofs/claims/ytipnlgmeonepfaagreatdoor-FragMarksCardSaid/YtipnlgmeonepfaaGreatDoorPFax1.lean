-- PRINTED by print.py (a twelfth state) out of the translation. Not trusted: Lean checks it.
import Derived.Test.YtipnlgmeonepfaaGreatDoorPFax0
namespace Go.Proofs.YtipnlgmeonepfaaGreatDoor.PFa
open Go.RowKit Go.Proofs.YtipnlgmeonepfaaGreatDoorW.PrintWords Go.Proofs.YtipnlgmeonepfaaGreatDoorW.PrintLast Go.Proofs.YtipnlgmeonepfaaGreatDoorW.PrintMore
attribute [local go_sem] max2_int min2_int max_two min_two max_three min_three max_four min_four   -- for this text's walks alone
set_option linter.unusedVariables false
set_option linter.unusedSimpArgs false

/-! ### fragment_Words: function 18 -/
def fragment_Words.f  : Option (List ByteArray) := some (([(⟨#[98, 101, 103, 105, 110]⟩ : ByteArray), (⟨#[105, 102]⟩ : ByteArray), (⟨#[98, 108, 111, 99, 107]⟩ : ByteArray), (⟨#[109, 101, 116, 104, 111, 100]⟩ : ByteArray), (⟨#[99, 108, 97, 115, 115]⟩ : ByteArray), (⟨#[109, 97, 99, 114, 111]⟩ : ByteArray)] : List ByteArray))
set_option maxHeartbeats 8000000 in
set_option maxRecDepth 100000 in
theorem fragment_Words.calls  (r : List ByteArray) (w : World) (h : fragment_Words.f  = some r) :
  Calls Tryz.prog 18 #[] w fun e w' => ∃ v0_ : Value, e = .returned (v0_) ∧ Kd.R Kd.string 9 w' w.heap.size (fun _ => True) v0_ r ∧ Below w.heap.size w w' := by
 have HB := Aside0.mk (Below.refl w.heap.size w)
 have H : (some (([(⟨#[98, 101, 103, 105, 110]⟩ : ByteArray), (⟨#[105, 102]⟩ : ByteArray), (⟨#[98, 108, 111, 99, 107]⟩ : ByteArray), (⟨#[109, 101, 116, 104, 111, 100]⟩ : ByteArray), (⟨#[99, 108, 97, 115, 115]⟩ : ByteArray), (⟨#[109, 97, 99, 114, 111]⟩ : ByteArray)] : List ByteArray))) = some r := h
 clear h
 obtain ⟨y101, hy101⟩ : ∃ y_ : List ByteArray, y_ = (([(⟨#[98, 101, 103, 105, 110]⟩ : ByteArray), (⟨#[105, 102]⟩ : ByteArray), (⟨#[98, 108, 111, 99, 107]⟩ : ByteArray), (⟨#[109, 101, 116, 104, 111, 100]⟩ : ByteArray), (⟨#[99, 108, 97, 115, 115]⟩ : ByteArray), (⟨#[109, 97, 99, 114, 111]⟩ : ByteArray)] : List ByteArray)) := ⟨_, rfl⟩
 replace H : (some y101) = some r := by first | (rw [hy101]; with_reducible exact H) | (have H2_ := (Option.bind_some _ _).symm.trans H; rw [hy101]; with_reducible exact H2_) | (have H2_ := (Option.bind_some _ _).symm.trans H; with_reducible exact H2_) | with_reducible exact H | (rw [hy101]; exact H) | exact H
 have Ny101 := Aside0.mk hy101
 clear hy101
 obtain rfl := Option.some.inj H
 go_enter Tryz.func18, Tryz.ntmps18
 go_wp2_with (first | ((with_reducible refine gate_dst (N := 1) rfl ?_); refine Kd.R_lit Kd.string _ 9 ?hg (N := 1) ?hd (xs := ([(⟨#[98, 101, 103, 105, 110]⟩ : ByteArray), (⟨#[105, 102]⟩ : ByteArray), (⟨#[98, 108, 111, 99, 107]⟩ : ByteArray), (⟨#[109, 101, 116, 104, 111, 100]⟩ : ByteArray), (⟨#[99, 108, 97, 115, 115]⟩ : ByteArray), (⟨#[109, 97, 99, 114, 111]⟩ : ByteArray)] : List ByteArray)) (inner := [.string (⟨#[98, 101, 103, 105, 110]⟩ : ByteArray), .string (⟨#[105, 102]⟩ : ByteArray), .string (⟨#[98, 108, 111, 99, 107]⟩ : ByteArray), .string (⟨#[109, 101, 116, 104, 111, 100]⟩ : ByteArray), .string (⟨#[99, 108, 97, 115, 115]⟩ : ByteArray), .string (⟨#[109, 97, 99, 114, 111]⟩ : ByteArray)]) (ok := fun _ => True) (okp := fun _ => True) ?hr ?hp (fun _ hk => hk) trivial (Below.refl _ _) (Nat.le_refl _) (by simp) ?_; (case hd => rfl); (case hg => rfl); (case hr => first | (go_simp; done) | (go_simp; rfl)); (case hp => exact (Reps.one (show Kd.M Kd.string _ _ _ (⟨#[98, 101, 103, 105, 110]⟩ : ByteArray) [.string (⟨#[98, 101, 103, 105, 110]⟩ : ByteArray)] from rfl) (Reps.one (show Kd.M Kd.string _ _ _ (⟨#[105, 102]⟩ : ByteArray) [.string (⟨#[105, 102]⟩ : ByteArray)] from rfl) (Reps.one (show Kd.M Kd.string _ _ _ (⟨#[98, 108, 111, 99, 107]⟩ : ByteArray) [.string (⟨#[98, 108, 111, 99, 107]⟩ : ByteArray)] from rfl) (Reps.one (show Kd.M Kd.string _ _ _ (⟨#[109, 101, 116, 104, 111, 100]⟩ : ByteArray) [.string (⟨#[109, 101, 116, 104, 111, 100]⟩ : ByteArray)] from rfl) (Reps.one (show Kd.M Kd.string _ _ _ (⟨#[99, 108, 97, 115, 115]⟩ : ByteArray) [.string (⟨#[99, 108, 97, 115, 115]⟩ : ByteArray)] from rfl) (Reps.one (show Kd.M Kd.string _ _ _ (⟨#[109, 97, 99, 114, 111]⟩ : ByteArray) [.string (⟨#[109, 97, 99, 114, 111]⟩ : ByteArray)] from rfl) (Reps.none _ _)))))))); intro v102 w1 ho2 hb hg_ hnew_; clear hg_ hnew_; (first | rw [← Ny101.out] at ho2 | (simp only [Int.reduceToNat] at ho2; rw [← Ny101.out] at ho2)); have n0_ := Aside0.mk (Kd.R_lower ho2 (below_size (by repeat (first | (with_reducible first | exact HB.out | apply below_alloc | apply pw_below_drewN | apply below_drew1) | exact HB.out)))); have n1_ := Aside0.mk (below_step (by repeat (first | (with_reducible first | exact HB.out | apply below_alloc | apply pw_below_drewN | apply below_drew1) | exact HB.out)) hb); clear HB; have HO103 := n0_; have HB := n1_; clear n0_ n1_; clear hb ho2))
 go_ret
 exact ⟨_, by first | rfl | (simp [errW_none, errW_some] <;> rfl) | (simp [*, errW_none, errW_some] <;> rfl), by (with_reducible repeat (first | apply Kd.R_alloc | apply Kd.R_drewN | apply Kd.R_drew)); exact HO103.out, by repeat (first | (with_reducible first | exact HB.out | apply below_alloc | apply pw_below_drewN | apply below_drew1) | exact HB.out)⟩

/-! ### lex_Pieces: function 143 -/
def lex_Pieces.f (a0 : ByteArray) : Option ((List (S129)) × Int × Int) := some ((Lx.outL a0).map (fun p => ⟨(p.kind : Int), (p.at_ : Int), (p.len : Int)⟩), Lx.outAt a0, Lx.outE a0)
theorem lex_Pieces.calls (a0 : ByteArray) (r1 : List (S129)) (r2 : Int) (r3 : Int) (w : World) (h : lex_Pieces.f a0 = some (r1, r2, r3)) (hE : Lx.Env w) :
  Calls Tryz.prog 143 #[.string a0] w fun e w' => ∃ v0_ : Value, e = .returned (.tuple #[v0_, .int .i64 r2, .int .i64 r3]) ∧ Kd.R k129 129 w' w.heap.size (fun _ => True) v0_ r1 ∧ Below w.heap.size w w' := by
 simp only [lex_Pieces.f, Option.some.injEq, Prod.mk.injEq] at h
 obtain ⟨rfl, rfl, rfl⟩ := h
 refine (Lx.pieces_out a0 hE).mono ?_
 rintro e w' ⟨v, rfl, ho, hb⟩
 refine ⟨v, rfl, ⟨fun _ _ => trivial, Lx.cellsOf (Lx.outL a0), by rw [List.length_map]; exact ho, ?_⟩, hb⟩
 refine ⟨by rw [List.length_map]; exact Lx.cellsOf_len _, fun j p hp => ?_⟩
 rw [List.getElem?_map] at hp
 obtain ⟨q, hq, rfl⟩ := Option.map_eq_some_iff.1 hp
 have e := Lx.cells_at _ _ _ hq
 exact e ▸ k129_mkM _ _ _ _

/-! ### lex_value: function 144 -/
def lex_value.f (a0 : ByteArray) : Option (Int × Bool) := if a0.size ≤ 140737488351232 then some (Lx.valN a0.data.toList, Lx.valB a0.data.toList) else none
theorem lex_value.calls (a0 : ByteArray) (r1 : Int) (r2 : Bool) (w : World) (h : lex_value.f a0 = some (r1, r2)) (hE : Lx.Env w) :
  Calls Tryz.prog 144 #[.string a0] w fun e w' => e = .returned (.tuple #[.int .i64 r1, .bool r2]) ∧ Below w.heap.size w w' := by
 unfold lex_value.f at h
 split at h
 ·rename_i hs
  simp only [Option.some.injEq, Prod.mk.injEq] at h
  obtain ⟨rfl, rfl⟩ := h
  exact Lx.value_walk a0 hs w hE
 ·cases h

/-! ### lex_Scan: function 134 -/
def lex_Scan.l0 : Nat → ByteArray → List (S39) → List (S129) → Int → Int → Option ((List (S39)) × Int × Int)
 | 0, _, _, _, _, _ => none
 | k + 1, x0, x8, x22, x23, x24 => if x24 < x23 then (if 0 ≤ x24 then (if x24 < (x22.length : Int) then (if ((rd_T129 x22 x24).f0) > 6 then (lex_Scan.l0 k x0 x8 x22 x23 (wrap64 (x24 + 1))) else (if 0 ≤ ((rd_T129 x22 x24).f1) then (if ((rd_T129 x22 x24).f1) ≤ (wrap64 (((rd_T129 x22 x24).f1) + ((rd_T129 x22 x24).f2))) then (if (wrap64 (((rd_T129 x22 x24).f1) + ((rd_T129 x22 x24).f2))) ≤ (x0.size : Int) then (if ((rd_T129 x22 x24).f0) = 2 then ((lex_value.f (x0.extract (((rd_T129 x22 x24).f1) : Int).toNat ((wrap64 (((rd_T129 x22 x24).f1) + ((rd_T129 x22 x24).f2))) : Int).toNat)).bind fun bt112 => (if x8.length < 2932031007402 then (lex_Scan.l0 k x0 (x8 ++ [(⟨(rd_T129 x22 x24).f0, bt112.1, x0.extract (((rd_T129 x22 x24).f1) : Int).toNat ((wrap64 (((rd_T129 x22 x24).f1) + ((rd_T129 x22 x24).f2))) : Int).toNat, (rd_T129 x22 x24).f1, 0⟩ : S39)]) x22 x23 (wrap64 (x24 + 1))) else (none))) else (if x8.length < 2932031007402 then (lex_Scan.l0 k x0 (x8 ++ [(⟨(rd_T129 x22 x24).f0, 0, x0.extract (((rd_T129 x22 x24).f1) : Int).toNat ((wrap64 (((rd_T129 x22 x24).f1) + ((rd_T129 x22 x24).f2))) : Int).toNat, (rd_T129 x22 x24).f1, 0⟩ : S39)]) x22 x23 (wrap64 (x24 + 1))) else (none))) else (none)) else (none)) else (none))) else (none)) else (none)) else (some (x8, 0, 0))
def lex_Scan.f (k : Nat) (a0 : ByteArray) : Option ((List (S39)) × Int × Int) := (lex_Pieces.f a0).bind fun bt104 => (if bt104.2.2 = 0 then (lex_Scan.l0 k a0 ([] : List (S39)) bt104.1 (bt104.1.length : Int) 0) else (some (([] : List (S39)), bt104.2.1, bt104.2.2)))
def lex_Scan.T9 : Bool × List (List Nat × List Nat) := (true, [([], []), ([0], [0]), ([], []), ([], []), ([3], [3]), ([], []), ([5], [5]), ([], []), ([7], [7]), ([6, 8], [6, 8]), ([2, 4, 9], [2, 4, 9]), ([], []), ([11], [11]), ([1, 10, 12], [1, 10, 12]), ([], []), ([14, 13, 0, 1, 2, 3, 4, 5, 6, 7, 8, 9, 10, 11, 12, 13, 14], [13, 14])])
def lex_Scan.B9 : List Nat := [0, 1, 0, 0, 8, 0, 32, 0, 128, 480, 1020, 0, 2048, 8191, 0, 32767]
theorem lex_Scan.tab9 : rtab .any (opsOf Tryz.f134 9) = lex_Scan.T9 := by kernel_rfl
theorem lex_Scan.bits9 : waitsOk lex_Scan.T9.2 lex_Scan.B9 = true := by kernel_rfl
set_option maxHeartbeats 8000000 in
set_option maxRecDepth 100000 in
theorem lex_Scan.calls (k : Nat) (a0 : ByteArray) (r1 : List (S39)) (r2 : Int) (r3 : Int) (w : World) (h : lex_Scan.f k a0 = some (r1, r2, r3)) (hE : Lx.Env w) :
  Calls Tryz.prog 134 #[.string a0] w fun e w' => ∃ v0_ : Value, e = .returned (.tuple #[v0_, .int .i64 r2, .int .i64 r3]) ∧ Kd.R k39 39 w' w.heap.size (fun _ => True) v0_ r1 ∧ Below w.heap.size w w' := by
 have HE := Lib.hid hE
 clear hE
 have hu129 := Tryz.underlying129
 have hu39 := Tryz.underlying39
 have HB := Aside0.mk (Below.refl w.heap.size w)
 have H : ((lex_Pieces.f a0).bind fun bt104 => (if bt104.2.2 = 0 then (lex_Scan.l0 k a0 ([] : List (S39)) bt104.1 (bt104.1.length : Int) 0) else (some (([] : List (S39)), bt104.2.1, bt104.2.2)))) = some (r1, r2, r3) := h
 clear h
 replace H := Option.bind_eq_some_iff.mp H
 obtain ⟨⟨t104, t105, t106⟩, A20, H⟩ := H
 replace H : (if t106 = 0 then (lex_Scan.l0 k a0 ([] : List (S39)) t104 (t104.length : Int) 0) else (some (([] : List (S39)), t105, t106))) = some (r1, r2, r3) := H
 have A2 := Aside0.mk A20
 clear A20
 by_cases c3 : t106 = 0
 ·rw [if_pos c3] at H
  have c3b0 : (t106 == 0) = true := beq_iff_eq.mpr c3
  have c3b1 : (t106 != 0) = false := bne_eq_false_iff_eq.mpr c3
  clear c3
  have H' := Aside0.mk H
  clear H
  go_enter Tryz.func134, Tryz.ntmps134
  go_wp2_with (first | ((with_reducible refine gate_callee (f := 143) rfl ?_); refine goesL_ (some 14) rfl rfl Tryz.func143 (by kernel_rfl) rfl #[.string a0] rfl (by (try simp only [List.map_toArray, List.map_cons, List.map_nil]); first | done | rfl | (simp only [List.length_drop, List.length_take]; rfl)) ?_; (with_reducible refine (lex_Pieces.calls a0 t104 t105 t106 _ A2.out (Lx.Env.below HE.out (by repeat (first | (with_reducible first | exact HB.out | apply below_alloc | apply pw_below_drewN | apply below_drew1 | refine below_set ?_ GE110.out | refine below_set ?_ GE111.out) | exact HB.out)))).mono ?_); rintro e w4 ⟨v107, rfl, ho0, hb⟩; refine ⟨_, rfl, ?_⟩; have n0_ := Aside0.mk (Kd.R_lower ho0 (below_size (by repeat (first | (with_reducible first | exact HB.out | apply below_alloc | apply pw_below_drewN | apply below_drew1) | exact HB.out)))); have n1_ := Aside0.mk (below_step (by repeat (first | (with_reducible first | exact HB.out | apply below_alloc | apply pw_below_drewN | apply below_drew1) | exact HB.out)) hb); clear HB; have HO108 := n0_; have HB := n1_; clear n0_ n1_; (try clear hb); (try clear hb2); (try clear hk); (try clear hi); (try clear ho0); obtain ⟨Ao5, co5, eo5⟩ := Kd.R_slice HO108.out; subst eo5))
  go_loopg [8, 24] k (fun kq v8 v24 w' => ∃ (x8_1 : List (S39)) (x24_1 : Int), v24 = .int .i64 x24_1 ∧ Aside0 (lex_Scan.l0 kq a0 x8_1 t104 (t104.length : Int) x24_1 = some (r1, r2, r3)) ∧ Aside0 (kq ≤ k) ∧ Aside0 (Kd.R k39 39 w' w.heap.size (fun _ => True) v8 x8_1) ∧ Aside0 (Kd.R k129 129 w' w.heap.size (fun _ => True) (.slice Ao5 t104.length co5) t104) ∧ Aside0 (Below w.heap.size w w'))
  case atStart => exact ⟨(([] : List (S39))), (0), (by first | rfl | (simp; done) | (simp [*]; done)), H', ⟨Nat.le_refl _⟩, ⟨by first | exact Kd.R_nil _ _ _ _ _ | exact Kd.N_nil _ _ _ _ _ | exact Kd.V_nil _ _ _ _ _ | exact Kd.Q_nil _ _ _ _ _ | exact Kd.S_nil _ _ _ _ _⟩, ⟨by (with_reducible repeat (first | apply Kd.R_alloc | apply Kd.R_drewN | apply Kd.R_drew)); exact HO108.out⟩, ⟨by repeat (first | (with_reducible first | exact HB.out | apply below_alloc | apply pw_below_drewN | apply below_drew1) | exact HB.out)⟩⟩
  case round =>
   clear H'
   try clear c1
   try clear p2
   try clear c3
   try clear c3b0
   try clear c3b1
   obtain ⟨x8_1, x24_1, rfl, HA, HK1, HO_8, HO_22, HB⟩ := hrel
   cases gk with
   | zero => exact absurd HA.out (by simp [lex_Scan.l0])
   | succ k1 =>
    have H := HA.out
    clear HA
    simp only [lex_Scan.l0] at H
    by_cases c6 : x24_1 < (t104.length : Int)
    ·rw [if_pos c6] at H
     have c6b0 : decide (x24_1 < (t104.length : Int)) = true := decide_eq_true c6
     clear c6
     by_cases c7 : 0 ≤ x24_1
     ·rw [if_pos c7] at H
      have c7b0 : decide (0 ≤ x24_1) = true := decide_eq_true c7
      clear c7
      by_cases c8 : x24_1 < (t104.length : Int)
      ·rw [if_pos c8] at H
       have c8b0 : decide (x24_1 < (t104.length : Int)) = true := decide_eq_true c8
       clear c8
       by_cases c9 : ((rd_T129 t104 x24_1).f0) > 6
       ·rw [if_pos c9] at H
        have c9b0 : decide (6 < ((rd_T129 t104 x24_1).f0)) = true := decide_eq_true c9
        clear c9
        have H' := Aside0.mk H
        clear H
        have p109 : 0 ≤ (x24_1 : Int) := of_decide_eq_true (by first | (with_reducible assumption) | assumption)
        have q109 : x24_1 < (t104.length : Int) := of_decide_eq_true (by first | (with_reducible assumption) | assumption)
        obtain ⟨ad109, e109, hx109_0, hx109_1, hx109_2⟩ := at_T129 (Kd.R_reads' HO_22.out).2.2 x24_1 p109 q109
        cases e109
        replace p109 := eq_true p109
        replace q109 := eq_true q109
        go_wp2_with (first | ((with_reducible refine gate_dst (N := 10) rfl ?_); refine box_event ?hg (N := 10) ?hd (cs := #[.int .i64 0, .int .i64 0, .int .i64 0]) (t := 129) ?hr ?_; (case hd => rfl); (case hg => rfl); (case hr => first | (go_simp; done) | (go_simp; rfl)); intro gb110 hg w10 hbox hb; have n0_ := Aside0.mk (Kd.R_below (by (with_reducible repeat (first | apply Kd.R_alloc | apply Kd.R_drewN | apply Kd.R_drew)); exact HO_8.out) hb); have n1_ := Aside0.mk (Kd.R_below (Kd.R_elderB (by (with_reducible repeat (first | apply Kd.R_alloc | apply Kd.R_drewN | apply Kd.R_drew)); exact HO_22.out) gb110 (Nat.le_of_eq hg.symm)) hb); have n2_ := Aside0.mk (below_step (by repeat (first | (with_reducible first | exact HB.out | apply below_alloc | apply pw_below_drewN | apply below_drew1) | exact HB.out)) hb); have n3_ := Aside0.mk (hbox); have n4_ := Aside0.mk ((by rw [hg]; exact (below_size (by repeat (first | (with_reducible first | exact HB.out | apply below_alloc | apply pw_below_drewN | apply below_drew1) | exact HB.out))) : w.heap.size ≤ gb110)); have n5_ := Aside0.mk ((by rw [hg]; exact (below_size (by repeat (first | (with_reducible first | exact HB.out | apply below_alloc | apply pw_below_drewN | apply below_drew1) | exact HB.out))) : w.heap.size ≤ gb110)); clear HO_8; clear HO_22; clear HB; have HO_8 := n0_; have HO_22 := n1_; have HB := n2_; have BK110 := n3_; have GW110 := n4_; have GE110 := n5_; clear n0_ n1_ n2_ n3_ n4_ n5_; clear hb hbox hg; have hcz11_0 : w10.cell? ⟨gb110, 0, none⟩ = some (.int .i64 0) := (blk_cell BK110.out 0).trans rfl; have hcz11_1 : w10.cell? ⟨gb110, 1, none⟩ = some (.int .i64 0) := (blk_cell BK110.out 1).trans rfl; have hcz11_2 : w10.cell? ⟨gb110, 2, none⟩ = some (.int .i64 0) := (blk_cell BK110.out 2).trans rfl; have hfz11_0 := blk_frozen BK110.out 0; have hfz11_1 := blk_frozen BK110.out 1; have hfz11_2 := blk_frozen BK110.out 2))
        go_roundg k1
        case measure => have := HK1.out; omega
        case rel => exact ⟨(x8_1), (wrap64 (x24_1 + 1)), (by first | rfl | (simp; done) | (simp [*]; done)), H', ⟨by have := HK1.out; omega⟩, ⟨by (with_reducible repeat (first | apply Kd.R_alloc | apply Kd.R_drewN | apply Kd.R_drew)); exact Kd.R_mono (Kd.R_far (p := ⟨gb110, 2, none⟩) (Kd.R_far (p := ⟨gb110, 1, none⟩) (Kd.R_far (p := ⟨gb110, 0, none⟩) (Kd.R_types HO_8.out BK110.out (by decide)) (fun _ hk => hk.2) (.int .i64 ((rd_T129 t104 x24_1).f0))) (fun _ hk => hk.2) (.int .i64 ((rd_T129 t104 x24_1).f1))) (fun _ hk => hk.2) (.int .i64 ((rd_T129 t104 x24_1).f2))) (fun _ hk => trivial)⟩, ⟨by (with_reducible repeat (first | apply Kd.R_alloc | apply Kd.R_drewN | apply Kd.R_drew)); exact Kd.R_mono (Kd.R_far (p := ⟨gb110, 2, none⟩) (Kd.R_far (p := ⟨gb110, 1, none⟩) (Kd.R_far (p := ⟨gb110, 0, none⟩) (Kd.R_mono HO_22.out (fun k_ hk => (⟨hk, hk.2⟩ : _ ∧ k_ ≠ gb110))) (fun _ hk => hk.2) (.int .i64 ((rd_T129 t104 x24_1).f0))) (fun _ hk => hk.2) (.int .i64 ((rd_T129 t104 x24_1).f1))) (fun _ hk => hk.2) (.int .i64 ((rd_T129 t104 x24_1).f2))) (fun _ hk => trivial)⟩, ⟨by repeat (first | (with_reducible first | exact HB.out | apply below_alloc | apply pw_below_drewN | apply below_drew1 | refine below_set ?_ GE110.out) | exact HB.out)⟩⟩
       ·rw [if_neg c9] at H
        have c9b0 : decide (6 < ((rd_T129 t104 x24_1).f0)) = false := decide_eq_false c9
        clear c9
        by_cases c12 : 0 ≤ ((rd_T129 t104 x24_1).f1)
        ·rw [if_pos c12] at H
         have c12b0 := eq_true c12
         have c12b1 : decide (0 ≤ ((rd_T129 t104 x24_1).f1)) = true := decide_eq_true c12
         clear c12
         by_cases c13 : ((rd_T129 t104 x24_1).f1) ≤ (wrap64 (((rd_T129 t104 x24_1).f1) + ((rd_T129 t104 x24_1).f2)))
         ·rw [if_pos c13] at H
          have c13b0 := eq_true c13
          have c13b1 : decide (((rd_T129 t104 x24_1).f1) ≤ (wrap64 (((rd_T129 t104 x24_1).f1) + ((rd_T129 t104 x24_1).f2)))) = true := decide_eq_true c13
          by_cases c14 : (wrap64 (((rd_T129 t104 x24_1).f1) + ((rd_T129 t104 x24_1).f2))) ≤ (a0.size : Int)
          ·rw [if_pos c14] at H
           have c14b0 := eq_true c14
           have c14b1 : decide ((wrap64 (((rd_T129 t104 x24_1).f1) + ((rd_T129 t104 x24_1).f2))) ≤ (a0.size : Int)) = true := decide_eq_true c14
           by_cases c15 : ((rd_T129 t104 x24_1).f0) = 2
           ·rw [if_pos c15] at H
            have c15b0 : (((rd_T129 t104 x24_1).f0) == 2) = true := beq_iff_eq.mpr c15
            have c15b1 : (((rd_T129 t104 x24_1).f0) != 2) = false := bne_eq_false_iff_eq.mpr c15
            clear c15
            replace H := Option.bind_eq_some_iff.mp H
            obtain ⟨⟨t112, t113⟩, A160, H⟩ := H
            replace H : (if x8_1.length < 2932031007402 then (lex_Scan.l0 k1 a0 (x8_1 ++ [(⟨(rd_T129 t104 x24_1).f0, t112, a0.extract (((rd_T129 t104 x24_1).f1) : Int).toNat ((wrap64 (((rd_T129 t104 x24_1).f1) + ((rd_T129 t104 x24_1).f2))) : Int).toNat, (rd_T129 t104 x24_1).f1, 0⟩ : S39)]) t104 (t104.length : Int) (wrap64 (x24_1 + 1))) else (none)) = some (r1, r2, r3) := H
            have A16 := Aside0.mk A160
            clear A160
            by_cases c17 : x8_1.length < 2932031007402
            ·rw [if_pos c17] at H
             have LMc17 := Aside0.mk c17
             clear c17
             obtain ⟨y114, hy114⟩ : ∃ y_ : List (S39), y_ = (x8_1 ++ [(⟨(rd_T129 t104 x24_1).f0, t112, a0.extract (((rd_T129 t104 x24_1).f1) : Int).toNat ((wrap64 (((rd_T129 t104 x24_1).f1) + ((rd_T129 t104 x24_1).f2))) : Int).toNat, (rd_T129 t104 x24_1).f1, 0⟩ : S39)]) := ⟨_, rfl⟩
             replace H : (lex_Scan.l0 k1 a0 y114 t104 (t104.length : Int) (wrap64 (x24_1 + 1))) = some (r1, r2, r3) := by first | (rw [hy114]; with_reducible exact H) | (have H2_ := (Option.bind_some _ _).symm.trans H; rw [hy114]; with_reducible exact H2_) | (have H2_ := (Option.bind_some _ _).symm.trans H; with_reducible exact H2_) | with_reducible exact H | (rw [hy114]; exact H) | exact H
             have Ny114 := Aside0.mk hy114
             clear hy114
             have H' := Aside0.mk H
             clear H
             have p109 : 0 ≤ (x24_1 : Int) := of_decide_eq_true (by first | (with_reducible assumption) | assumption)
             have q109 : x24_1 < (t104.length : Int) := of_decide_eq_true (by first | (with_reducible assumption) | assumption)
             obtain ⟨ad109, e109, hx109_0, hx109_1, hx109_2⟩ := at_T129 (Kd.R_reads' HO_22.out).2.2 x24_1 p109 q109
             cases e109
             replace p109 := eq_true p109
             replace q109 := eq_true q109
             try go_wp2_with (first | ((with_reducible refine gate_dst (N := 10) rfl ?_); refine box_event ?hg (N := 10) ?hd (cs := #[.int .i64 0, .int .i64 0, .int .i64 0]) (t := 129) ?hr ?_; (case hd => rfl); (case hg => rfl); (case hr => first | (go_simp; done) | (go_simp; rfl)); intro gb110 hg w18 hbox hb; have n0_ := Aside0.mk (Kd.R_below (by (with_reducible repeat (first | apply Kd.R_alloc | apply Kd.R_drewN | apply Kd.R_drew)); exact HO_8.out) hb); have n1_ := Aside0.mk (Kd.R_below (Kd.R_elderB (by (with_reducible repeat (first | apply Kd.R_alloc | apply Kd.R_drewN | apply Kd.R_drew)); exact HO_22.out) gb110 (Nat.le_of_eq hg.symm)) hb); have n2_ := Aside0.mk (below_step (by repeat (first | (with_reducible first | exact HB.out | apply below_alloc | apply pw_below_drewN | apply below_drew1) | exact HB.out)) hb); have n3_ := Aside0.mk (hbox); have n4_ := Aside0.mk ((by rw [hg]; exact (below_size (by repeat (first | (with_reducible first | exact HB.out | apply below_alloc | apply pw_below_drewN | apply below_drew1) | exact HB.out))) : w.heap.size ≤ gb110)); have n5_ := Aside0.mk ((by rw [hg]; exact (below_size (by repeat (first | (with_reducible first | exact HB.out | apply below_alloc | apply pw_below_drewN | apply below_drew1) | exact HB.out))) : w.heap.size ≤ gb110)); clear HO_8; clear HO_22; clear HB; have HO_8 := n0_; have HO_22 := n1_; have HB := n2_; have BK110 := n3_; have GW110 := n4_; have GE110 := n5_; clear n0_ n1_ n2_ n3_ n4_ n5_; clear hb hbox hg; have hcz19_0 : w18.cell? ⟨gb110, 0, none⟩ = some (.int .i64 0) := (blk_cell BK110.out 0).trans rfl; have hcz19_1 : w18.cell? ⟨gb110, 1, none⟩ = some (.int .i64 0) := (blk_cell BK110.out 1).trans rfl; have hcz19_2 : w18.cell? ⟨gb110, 2, none⟩ = some (.int .i64 0) := (blk_cell BK110.out 2).trans rfl; have hfz19_0 := blk_frozen BK110.out 0; have hfz19_1 := blk_frozen BK110.out 1; have hfz19_2 := blk_frozen BK110.out 2))
             have n0_ : Aside0 (Kd.R k39 39 (((w18.setCell ⟨gb110, 0, none⟩ (.int .i64 ((rd_T129 t104 x24_1).f0))).setCell ⟨gb110, 1, none⟩ (.int .i64 ((rd_T129 t104 x24_1).f1))).setCell ⟨gb110, 2, none⟩ (.int .i64 ((rd_T129 t104 x24_1).f2))) w.heap.size (fun _ => True) u8 x8_1) := ⟨by (with_reducible repeat (first | apply Kd.R_alloc | apply Kd.R_drewN | apply Kd.R_drew)); exact Kd.R_mono (Kd.R_far (p := ⟨gb110, 2, none⟩) (Kd.R_far (p := ⟨gb110, 1, none⟩) (Kd.R_far (p := ⟨gb110, 0, none⟩) (Kd.R_types HO_8.out BK110.out (by decide)) (fun _ hk => hk.2) (.int .i64 ((rd_T129 t104 x24_1).f0))) (fun _ hk => hk.2) (.int .i64 ((rd_T129 t104 x24_1).f1))) (fun _ hk => hk.2) (.int .i64 ((rd_T129 t104 x24_1).f2))) (fun _ hk => trivial)⟩
             have n1_ : Aside0 (Kd.R k129 129 (((w18.setCell ⟨gb110, 0, none⟩ (.int .i64 ((rd_T129 t104 x24_1).f0))).setCell ⟨gb110, 1, none⟩ (.int .i64 ((rd_T129 t104 x24_1).f1))).setCell ⟨gb110, 2, none⟩ (.int .i64 ((rd_T129 t104 x24_1).f2))) w.heap.size (fun k_ => k_ ≠ gb110) (.slice (some ad109) t104.length co5) t104) := ⟨by (with_reducible repeat (first | apply Kd.R_alloc | apply Kd.R_drewN | apply Kd.R_drew)); exact Kd.R_mono (Kd.R_far (p := ⟨gb110, 2, none⟩) (Kd.R_far (p := ⟨gb110, 1, none⟩) (Kd.R_far (p := ⟨gb110, 0, none⟩) (Kd.R_mono HO_22.out (fun k_ hk => (⟨hk, hk.2⟩ : _ ∧ k_ ≠ gb110))) (fun _ hk => hk.2) (.int .i64 ((rd_T129 t104 x24_1).f0))) (fun _ hk => hk.2) (.int .i64 ((rd_T129 t104 x24_1).f1))) (fun _ hk => hk.2) (.int .i64 ((rd_T129 t104 x24_1).f2))) (fun _ hk => hk.1.2)⟩
             have n2_ : Aside0 ((((w18.setCell ⟨gb110, 0, none⟩ (.int .i64 ((rd_T129 t104 x24_1).f0))).setCell ⟨gb110, 1, none⟩ (.int .i64 ((rd_T129 t104 x24_1).f1))).setCell ⟨gb110, 2, none⟩ (.int .i64 ((rd_T129 t104 x24_1).f2))).heap[gb110]? = some (.cells #[.int .i64 ((rd_T129 t104 x24_1).f0), .int .i64 ((rd_T129 t104 x24_1).f1), .int .i64 ((rd_T129 t104 x24_1).f2)] 129 (0, 0))) := ⟨by (with_reducible repeat (first | refine blk_drewN ?_ _ | refine blk_drew ?_ | refine blk_alloc ?_ _)); refine blk_put (cs := #[.int .i64 ((rd_T129 t104 x24_1).f0), .int .i64 ((rd_T129 t104 x24_1).f1), .int .i64 0]) ?_ 2 _ rfl; (with_reducible repeat (first | refine blk_drewN ?_ _ | refine blk_drew ?_ | refine blk_alloc ?_ _)); refine blk_put (cs := #[.int .i64 ((rd_T129 t104 x24_1).f0), .int .i64 0, .int .i64 0]) ?_ 1 _ rfl; (with_reducible repeat (first | refine blk_drewN ?_ _ | refine blk_drew ?_ | refine blk_alloc ?_ _)); refine blk_put (cs := #[.int .i64 0, .int .i64 0, .int .i64 0]) ?_ 0 _ rfl; (with_reducible repeat (first | refine blk_drewN ?_ _ | refine blk_drew ?_ | refine blk_alloc ?_ _)); exact BK110.out⟩
             have n3_ : Aside0 (Below w.heap.size w (((w18.setCell ⟨gb110, 0, none⟩ (.int .i64 ((rd_T129 t104 x24_1).f0))).setCell ⟨gb110, 1, none⟩ (.int .i64 ((rd_T129 t104 x24_1).f1))).setCell ⟨gb110, 2, none⟩ (.int .i64 ((rd_T129 t104 x24_1).f2)))) := ⟨by repeat (first | (with_reducible first | exact HB.out | apply below_alloc | apply pw_below_drewN | apply below_drew1 | refine below_set ?_ GE110.out) | exact HB.out)⟩
             (try clear HO_8)
             (try clear HO_22)
             (try clear BK110)
             (try clear HB)
             generalize (((w18.setCell ⟨gb110, 0, none⟩ (.int .i64 ((rd_T129 t104 x24_1).f0))).setCell ⟨gb110, 1, none⟩ (.int .i64 ((rd_T129 t104 x24_1).f1))).setCell ⟨gb110, 2, none⟩ (.int .i64 ((rd_T129 t104 x24_1).f2))) = w20 at n0_ n1_ n2_ n3_ ⊢
             have HO_8 := n0_
             have HO_22 := n1_
             have BK110 := n2_
             have HB := n3_
             clear n0_ n1_ n2_ n3_
             have n0_ := Aside0.mk (Kd.R_drew HO_8.out)
             have n1_ := Aside0.mk (Kd.R_drew HO_22.out)
             have n2_ := Aside0.mk (blk_drew BK110.out)
             have n3_ := Aside0.mk (below_drew1 HB.out)
             clear HO_8
             clear HO_22
             clear BK110
             clear HB
             have HO_8 := n0_
             have HO_22 := n1_
             have BK110 := n2_
             have HB := n3_
             clear n0_ n1_ n2_ n3_
             refine start_ (n := 16) (S := fun w' => w'.cell? ⟨gb110, 0, none⟩ = some (.int .i64 ((rd_T129 t104 x24_1).f0)) ∧ w'.cell? ⟨gb110, 1, none⟩ = some (.int .i64 ((rd_T129 t104 x24_1).f1)) ∧ w'.cell? ⟨gb110, 2, none⟩ = some (.int .i64 ((rd_T129 t104 x24_1).f2))) (ds := []) #[false, false, false, false, false, false, false, false, false, false, false, false, false, false, false, false] (by kernel_rfl) rfl rfl ⟨(blk_cell BK110.out 0).trans rfl, (blk_cell BK110.out 1).trans rfl, (blk_cell BK110.out 2).trans rfl⟩ (fun hHeld => ?_); refine with_tabW lex_Scan.tab9 lex_Scan.bits9 (fun HT_ HW_ => ?_)
             generalize w20.drew = w21 at HO_8 HO_22 BK110 HB hHeld ⊢
             refine pure_ (i := 0) (N := some 31) (v := ?_) (a' := ?_) #[true, false, false, false, false, false, false, false, false, false, false, false, false, false, false, false] rfl rfl (any_of HT_.out (by kernel_rfl)) (fun _ _ _ h => h) (Or.inl ⟨by rfl, ?_⟩) ?_ ?_
             rotate_left
             ·intro w'
              go_simp
              with_reducible rfl
             rotate_left
             ·simp only [Act.put, List.setIfInBounds_toArray, List.set_cons_zero, List.set_cons_succ, i64_w, i32_w]
              rfl
             refine pure_ (i := 2) (N := some 33) (v := ?_) (a' := ?_) #[true, false, true, false, false, false, false, false, false, false, false, false, false, false, false, false] rfl rfl (any_of HT_.out (by kernel_rfl)) (fun _ _ _ h => h) (Or.inl ⟨by rfl, ?_⟩) ?_ ?_
             rotate_left
             ·intro w'
              go_simp
              with_reducible rfl
             rotate_left
             ·simp only [Act.put, List.setIfInBounds_toArray, List.set_cons_zero, List.set_cons_succ, i64_w, i32_w]
              rfl
             refine pure_ (i := 3) (N := some 34) (v := ?_) (a' := ?_) #[true, false, true, true, false, false, false, false, false, false, false, false, false, false, false, false] rfl rfl (any_of HT_.out (by kernel_rfl)) (fun _ _ _ h => h) (Or.inl ⟨by rfl, ?_⟩) ?_ ?_
             rotate_left
             ·intro w'
              go_simp
              with_reducible rfl
             rotate_left
             ·simp only [Act.put, List.setIfInBounds_toArray, List.set_cons_zero, List.set_cons_succ, i64_w, i32_w]
              rfl
             refine pure_ (i := 5) (N := some 36) (v := ?_) (a' := ?_) #[true, false, true, true, false, true, false, false, false, false, false, false, false, false, false, false] rfl rfl (any_of HT_.out (by kernel_rfl)) (fun _ _ _ h => h) (Or.inl ⟨by rfl, ?_⟩) ?_ ?_
             rotate_left
             ·intro w'
              go_simp
              with_reducible rfl
             rotate_left
             ·simp only [Act.put, List.setIfInBounds_toArray, List.set_cons_zero, List.set_cons_succ, i64_w, i32_w]
              rfl
             refine pure_ (i := 7) (N := some 38) (v := ?_) (a' := ?_) #[true, false, true, true, false, true, false, true, false, false, false, false, false, false, false, false] rfl rfl (any_of HT_.out (by kernel_rfl)) (fun _ _ _ h => h) (Or.inl ⟨by rfl, ?_⟩) ?_ ?_
             rotate_left
             ·intro w'
              go_simp
              with_reducible rfl
             rotate_left
             ·simp only [Act.put, List.setIfInBounds_toArray, List.set_cons_zero, List.set_cons_succ, i64_w, i32_w]
              rfl
             refine pure_ (i := 11) (N := some 42) (v := ?_) (a' := ?_) #[true, false, true, true, false, true, false, true, false, false, false, true, false, false, false, false] rfl rfl (any_of HT_.out (by kernel_rfl)) (fun _ _ _ h => h) (Or.inl ⟨by rfl, ?_⟩) ?_ ?_
             rotate_left
             ·intro w'
              go_simp
              with_reducible rfl
             rotate_left
             ·simp only [Act.put, List.setIfInBounds_toArray, List.set_cons_zero, List.set_cons_succ, i64_w, i32_w]
              rfl
             refine take_ (i := 1) (N := some 32) (v := ?_) (a' := ?_) #[true, true, true, true, false, true, false, true, false, false, false, true, false, false, false, false] rfl rfl (take_ofW HT_.out HW_.out (by kernel_rfl)) (fun _ _ _ h => h) (Or.inl ⟨by rfl, ?_⟩) hHeld ?_ ?_
             rotate_left
             ·rintro w' ⟨s0, s1, s2⟩
              go_simp
              with_reducible rfl
             rotate_left
             ·simp only [Act.put, List.setIfInBounds_toArray, List.set_cons_zero, List.set_cons_succ, i64_w, i32_w]
              rfl
             refine take_ (i := 4) (N := some 35) (v := ?_) (a' := ?_) #[true, true, true, true, true, true, false, true, false, false, false, true, false, false, false, false] rfl rfl (take_ofW HT_.out HW_.out (by kernel_rfl)) (fun _ _ _ h => h) (Or.inl ⟨by rfl, ?_⟩) hHeld ?_ ?_
             rotate_left
             ·rintro w' ⟨s0, s1, s2⟩
              go_simp
              with_reducible rfl
             rotate_left
             ·simp only [Act.put, List.setIfInBounds_toArray, List.set_cons_zero, List.set_cons_succ, i64_w, i32_w]
              rfl
             refine take_ (i := 6) (N := some 37) (v := ?_) (a' := ?_) #[true, true, true, true, true, true, true, true, false, false, false, true, false, false, false, false] rfl rfl (take_ofW HT_.out HW_.out (by kernel_rfl)) (fun _ _ _ h => h) (Or.inl ⟨by rfl, ?_⟩) hHeld ?_ ?_
             rotate_left
             ·rintro w' ⟨s0, s1, s2⟩
              go_simp
              with_reducible rfl
             rotate_left
             ·simp only [Act.put, List.setIfInBounds_toArray, List.set_cons_zero, List.set_cons_succ, i64_w, i32_w]
              rfl
             refine take_ (i := 8) (N := some 39) (v := ?_) (a' := ?_) #[true, true, true, true, true, true, true, true, true, false, false, true, false, false, false, false] rfl rfl (take_ofW HT_.out HW_.out (by kernel_rfl)) (fun _ _ _ h => h) (Or.inl ⟨by rfl, ?_⟩) hHeld ?_ ?_
             rotate_left
             ·rintro w' ⟨s0, s1, s2⟩
              go_simp
              with_reducible rfl
             rotate_left
             ·simp only [Act.put, List.setIfInBounds_toArray, List.set_cons_zero, List.set_cons_succ, i64_w, i32_w]
              rfl
             refine pure_ (i := 9) (N := some 40) (v := ?_) (a' := ?_) #[true, true, true, true, true, true, true, true, true, true, false, true, false, false, false, false] rfl rfl (any_of HT_.out (by kernel_rfl)) (fun _ _ _ h => h) (Or.inl ⟨by rfl, ?_⟩) ?_ ?_
             rotate_left
             ·intro w'
              go_simp
              with_reducible rfl
             rotate_left
             ·simp only [Act.put, List.setIfInBounds_toArray, List.set_cons_zero, List.set_cons_succ, i64_w, i32_w]
              rfl
             refine pure_ (i := 10) (N := some 41) (v := ?_) (a' := ?_) #[true, true, true, true, true, true, true, true, true, true, true, true, false, false, false, false] rfl rfl (any_of HT_.out (by kernel_rfl)) (fun _ _ _ h => h) (Or.inl ⟨by rfl, ?_⟩) ?_ ?_
             rotate_left
             ·intro w'
              go_simp
              with_reducible rfl
             rotate_left
             ·simp only [Act.put, List.setIfInBounds_toArray, List.set_cons_zero, List.set_cons_succ, i64_w, i32_w]
              rfl
             refine take_ (i := 12) (N := some 43) (v := ?_) (a' := ?_) #[true, true, true, true, true, true, true, true, true, true, true, true, true, false, false, false] rfl rfl (take_ofW HT_.out HW_.out (by kernel_rfl)) (fun _ _ _ h => h) (Or.inl ⟨by rfl, ?_⟩) hHeld ?_ ?_
             rotate_left
             ·rintro w' ⟨s0, s1, s2⟩
              go_simp
              with_reducible rfl
             rotate_left
             ·simp only [Act.put, List.setIfInBounds_toArray, List.set_cons_zero, List.set_cons_succ, i64_w, i32_w]
              rfl
             refine pure_ (i := 13) (N := some 44) (v := ?_) (a' := ?_) #[true, true, true, true, true, true, true, true, true, true, true, true, true, true, false, false] rfl rfl (any_of HT_.out (by kernel_rfl)) (fun _ _ _ h => h) (Or.inl ⟨by rfl, ?_⟩) ?_ ?_
             rotate_left
             ·intro w'
              go_simp
              with_reducible rfl
             rotate_left
             ·simp only [Act.put, List.setIfInBounds_toArray, List.set_cons_zero, List.set_cons_succ, i64_w, i32_w]
              rfl
             refine one_ (i := 14) (N := some 11) #[true, true, true, true, true, true, true, true, true, true, true, true, true, true, true, false] rfl rfl (one_of HT_.out (by kernel_rfl)) (by decide) (fun K hK => ?_)
             refine box_step ?hg (N := 11) ?hd (cs := #[.int .i64 0, .int .i64 0, .string (⟨#[]⟩ : ByteArray), .int .i64 0, .int .i64 0]) (t := 39) ?hr ?_; (case hd => rfl); (case hg => rfl); (case hr => first | (go_simp; done) | (go_simp; rfl))
             intro gb111 hg w22 hbox hb
             have n0_ := Aside0.mk (Kd.R_below (Kd.R_elderB (by (with_reducible repeat (first | apply Kd.R_alloc | apply Kd.R_drewN | apply Kd.R_drew)); exact HO_8.out) gb111 (Nat.le_of_eq hg.symm)) hb)
             have n1_ := Aside0.mk (Kd.R_below (by (with_reducible repeat (first | apply Kd.R_alloc | apply Kd.R_drewN | apply Kd.R_drew)); exact HO_22.out) hb)
             have n2_ := Aside0.mk (blk_below (g := gb110) (o := .cells #[.int .i64 ((rd_T129 t104 x24_1).f0), .int .i64 ((rd_T129 t104 x24_1).f1), .int .i64 ((rd_T129 t104 x24_1).f2)] 129 (0, 0)) (by (with_reducible repeat (first | refine blk_drewN ?_ _ | refine blk_drew ?_ | refine blk_alloc ?_ _)); exact BK110.out) hb)
             have n3_ := Aside0.mk (below_step (by repeat (first | (with_reducible first | exact HB.out | apply below_alloc | apply pw_below_drewN | apply below_drew1 | refine below_set ?_ GE110.out) | exact HB.out)) hb)
             have n4_ := Aside0.mk (hbox)
             have n5_ := Aside0.mk ((by rw [hg]; exact (below_size (by repeat (first | (with_reducible first | exact HB.out | apply below_alloc | apply pw_below_drewN | apply below_drew1 | refine below_set ?_ GE110.out) | exact HB.out))) : w.heap.size ≤ gb111))
             have n6_ := Aside0.mk ((by rw [hg]; exact (below_size (by repeat (first | (with_reducible first | exact HB.out | apply below_alloc | apply pw_below_drewN | apply below_drew1 | refine below_set ?_ GE110.out) | exact HB.out))) : w.heap.size ≤ gb111))
             have n7_ := Aside0.mk ((by rw [hg]; exact Nat.ne_of_lt (blk_lt (g := gb110) (o := .cells #[.int .i64 ((rd_T129 t104 x24_1).f0), .int .i64 ((rd_T129 t104 x24_1).f1), .int .i64 ((rd_T129 t104 x24_1).f2)] 129 (0, 0)) (by (with_reducible repeat (first | refine blk_drewN ?_ _ | refine blk_drew ?_ | refine blk_alloc ?_ _)); exact BK110.out)) : gb110 ≠ gb111))
             have n8_ := Aside0.mk ((by rw [hg]; exact Nat.ne_of_gt (blk_lt (g := gb110) (o := .cells #[.int .i64 ((rd_T129 t104 x24_1).f0), .int .i64 ((rd_T129 t104 x24_1).f1), .int .i64 ((rd_T129 t104 x24_1).f2)] 129 (0, 0)) (by (with_reducible repeat (first | refine blk_drewN ?_ _ | refine blk_drew ?_ | refine blk_alloc ?_ _)); exact BK110.out)) : gb111 ≠ gb110))
             clear HO_8
             clear HO_22
             clear BK110
             clear HB
             have HO_8 := n0_
             have HO_22 := n1_
             have BK110 := n2_
             have HB := n3_
             have BK111 := n4_
             have GW111 := n5_
             have GE111 := n6_
             have NB110_111 := n7_
             have NB111_110 := n8_
             clear n0_ n1_ n2_ n3_ n4_ n5_ n6_ n7_ n8_
             clear hb hbox hg
             refine hK.out _ _ ⟨(blk_cell BK110.out 0).trans rfl, (blk_cell BK110.out 1).trans rfl, (blk_cell BK110.out 2).trans rfl⟩ (fun hHeld => ?_)
             clear hK K
             refine norm_ (a' := ?_) ?_ ?_
             rotate_left
             ·show Act.put _ (some 11) _ = _
              simp only [Act.put, List.setIfInBounds_toArray, List.set_cons_zero, List.set_cons_succ, i64_w, i32_w]
              rfl
             refine one_ (i := 15) (N := none) #[true, true, true, true, true, true, true, true, true, true, true, true, true, true, true, true] rfl rfl (one_of HT_.out (by kernel_rfl)) (by decide) (fun K hK => ?_)
             have hs23 : w22.cell? ⟨gb111, 0, none⟩ = some (.int .i64 0) := (blk_cell BK111.out 0).trans rfl
             have hfs23 := blk_frozen BK111.out 0
             have hns23_0 := NB110_111.out
             have hms23_0 := NB111_110.out
             have hs24 : w22.cell? ⟨gb111, 1, none⟩ = some (.int .i64 0) := (blk_cell BK111.out 1).trans rfl
             have hfs24 := blk_frozen BK111.out 1
             have hns24_0 := NB110_111.out
             have hms24_0 := NB111_110.out
             have hs25 : w22.cell? ⟨gb111, 2, none⟩ = some (.string (⟨#[]⟩ : ByteArray)) := (blk_cell BK111.out 2).trans rfl
             have hfs25 := blk_frozen BK111.out 2
             have hns25_0 := NB110_111.out
             have hms25_0 := NB111_110.out
             have hs26 : w22.cell? ⟨gb111, 3, none⟩ = some (.int .i64 0) := (blk_cell BK111.out 3).trans rfl
             have hfs26 := blk_frozen BK111.out 3
             have hns26_0 := NB110_111.out
             have hms26_0 := NB111_110.out
             have hs27 : w22.cell? ⟨gb111, 4, none⟩ = some (.int .i64 0) := (blk_cell BK111.out 4).trans rfl
             have hfs27 := blk_frozen BK111.out 4
             have hns27_0 := NB110_111.out
             have hms27_0 := NB111_110.out
             refine skip_ (w1 := ?_) (by rfl) rfl ?_ ?_
             rotate_left
             ·go_simp
              rfl
             refine hK.out _ _ ⟨((cell_far (p := ⟨gb111, _, none⟩) NB110_111.out _).trans (((cell_far (p := ⟨gb111, _, none⟩) NB110_111.out _).trans (((cell_far (p := ⟨gb111, _, none⟩) NB110_111.out _).trans (((cell_far (p := ⟨gb111, _, none⟩) NB110_111.out _).trans (((cell_far (p := ⟨gb111, _, none⟩) NB110_111.out _).trans (hHeld.1)))))))))), ((cell_far (p := ⟨gb111, _, none⟩) NB110_111.out _).trans (((cell_far (p := ⟨gb111, _, none⟩) NB110_111.out _).trans (((cell_far (p := ⟨gb111, _, none⟩) NB110_111.out _).trans (((cell_far (p := ⟨gb111, _, none⟩) NB110_111.out _).trans (((cell_far (p := ⟨gb111, _, none⟩) NB110_111.out _).trans (hHeld.2.1)))))))))), ((cell_far (p := ⟨gb111, _, none⟩) NB110_111.out _).trans (((cell_far (p := ⟨gb111, _, none⟩) NB110_111.out _).trans (((cell_far (p := ⟨gb111, _, none⟩) NB110_111.out _).trans (((cell_far (p := ⟨gb111, _, none⟩) NB110_111.out _).trans (((cell_far (p := ⟨gb111, _, none⟩) NB110_111.out _).trans (hHeld.2.2))))))))))⟩ (fun hHeld => ?_)
             clear hK K
             refine done_ (done_of HT_.out (by kernel_rfl)) ?_
             have hnb28 := NB110_111.out
             have hnc28 := NB111_110.out
             have hcz29_0 : w22.cell? ⟨gb110, 0, none⟩ = some (.int .i64 ((rd_T129 t104 x24_1).f0)) := (blk_cell BK110.out 0).trans rfl
             have hcz29_1 : w22.cell? ⟨gb110, 1, none⟩ = some (.int .i64 ((rd_T129 t104 x24_1).f1)) := (blk_cell BK110.out 1).trans rfl
             have hcz29_2 : w22.cell? ⟨gb110, 2, none⟩ = some (.int .i64 ((rd_T129 t104 x24_1).f2)) := (blk_cell BK110.out 2).trans rfl
             have hfz29_0 := blk_frozen BK110.out 0
             have hfz29_1 := blk_frozen BK110.out 1
             have hfz29_2 := blk_frozen BK110.out 2
             have hcz30_0 : w22.cell? ⟨gb111, 0, none⟩ = some (.int .i64 0) := (blk_cell BK111.out 0).trans rfl
             have hcz30_1 : w22.cell? ⟨gb111, 1, none⟩ = some (.int .i64 0) := (blk_cell BK111.out 1).trans rfl
             have hcz30_2 : w22.cell? ⟨gb111, 2, none⟩ = some (.string (⟨#[]⟩ : ByteArray)) := (blk_cell BK111.out 2).trans rfl
             have hcz30_3 : w22.cell? ⟨gb111, 3, none⟩ = some (.int .i64 0) := (blk_cell BK111.out 3).trans rfl
             have hcz30_4 : w22.cell? ⟨gb111, 4, none⟩ = some (.int .i64 0) := (blk_cell BK111.out 4).trans rfl
             have hfz30_0 := blk_frozen BK111.out 0
             have hfz30_1 := blk_frozen BK111.out 1
             have hfz30_2 := blk_frozen BK111.out 2
             have hfz30_3 := blk_frozen BK111.out 3
             have hfz30_4 := blk_frozen BK111.out 4
             try go_wp2_with (first | ((with_reducible refine gate_callee (f := 144) rfl ?_); refine goesL_ (some 51) rfl rfl Tryz.func144 (by kernel_rfl) rfl #[.string (a0.extract (((rd_T129 t104 x24_1).f1) : Int).toNat ((wrap64 (((rd_T129 t104 x24_1).f1) + ((rd_T129 t104 x24_1).f2))) : Int).toNat)] rfl (by (try simp only [List.map_toArray, List.map_cons, List.map_nil]); first | done | rfl | (simp only [List.length_drop, List.length_take]; rfl)) ?_; (with_reducible refine (lex_value.calls (a0.extract (((rd_T129 t104 x24_1).f1) : Int).toNat ((wrap64 (((rd_T129 t104 x24_1).f1) + ((rd_T129 t104 x24_1).f2))) : Int).toNat) t112 t113 _ A16.out (Lx.Env.below HE.out (by repeat (first | (with_reducible first | exact HB.out | apply below_alloc | apply pw_below_drewN | apply below_drew1 | refine below_set ?_ GE110.out | refine below_set ?_ GE111.out) | exact HB.out)))).mono ?_); rintro e w31 ⟨rfl, hb⟩; refine ⟨_, rfl, ?_⟩; have n0_ := Aside0.mk (Kd.R_below (by (with_reducible repeat (first | apply Kd.R_alloc | apply Kd.R_drewN | apply Kd.R_drew)); exact (Kd.R_mono (Kd.R_far (p := ⟨gb111, 4, none⟩) (Kd.R_far (p := ⟨gb111, 3, none⟩) (Kd.R_far (p := ⟨gb111, 2, none⟩) (Kd.R_far (p := ⟨gb111, 1, none⟩) (Kd.R_far (p := ⟨gb111, 0, none⟩) (Kd.R_mono HO_8.out (fun k_ hk => (⟨hk, hk.2⟩ : _ ∧ k_ ≠ gb111))) (fun _ hk => hk.2) (.int .i64 ((rd_T129 t104 x24_1).f0))) (fun _ hk => hk.2) (.int .i64 0)) (fun _ hk => hk.2) (.string (a0.extract (((rd_T129 t104 x24_1).f1) : Int).toNat ((wrap64 (((rd_T129 t104 x24_1).f1) + ((rd_T129 t104 x24_1).f2))) : Int).toNat))) (fun _ hk => hk.2) (.int .i64 ((rd_T129 t104 x24_1).f1))) (fun _ hk => hk.2) (.int .i64 0)) (fun _ h_ => h_.1))) hb); have n1_ := Aside0.mk (Kd.R_below (by (with_reducible repeat (first | apply Kd.R_alloc | apply Kd.R_drewN | apply Kd.R_drew)); exact (Kd.R_mono (Kd.R_far (p := ⟨gb111, 4, none⟩) (Kd.R_far (p := ⟨gb111, 3, none⟩) (Kd.R_far (p := ⟨gb111, 2, none⟩) (Kd.R_far (p := ⟨gb111, 1, none⟩) (Kd.R_far (p := ⟨gb111, 0, none⟩) (Kd.R_types HO_22.out BK111.out (by decide)) (fun _ hk => hk.2) (.int .i64 ((rd_T129 t104 x24_1).f0))) (fun _ hk => hk.2) (.int .i64 0)) (fun _ hk => hk.2) (.string (a0.extract (((rd_T129 t104 x24_1).f1) : Int).toNat ((wrap64 (((rd_T129 t104 x24_1).f1) + ((rd_T129 t104 x24_1).f2))) : Int).toNat))) (fun _ hk => hk.2) (.int .i64 ((rd_T129 t104 x24_1).f1))) (fun _ hk => hk.2) (.int .i64 0)) (fun _ h_ => h_.1))) hb); have n2_ := Aside0.mk (blk_below (g := gb110) (o := .cells #[.int .i64 ((rd_T129 t104 x24_1).f0), .int .i64 ((rd_T129 t104 x24_1).f1), .int .i64 ((rd_T129 t104 x24_1).f2)] 129 (0, 0)) (by (with_reducible repeat (first | refine blk_drewN ?_ _ | refine blk_drew ?_ | refine blk_alloc ?_ _)); refine blk_far ?_ NB110_111.out _; (with_reducible repeat (first | refine blk_drewN ?_ _ | refine blk_drew ?_ | refine blk_alloc ?_ _)); refine blk_far ?_ NB110_111.out _; (with_reducible repeat (first | refine blk_drewN ?_ _ | refine blk_drew ?_ | refine blk_alloc ?_ _)); refine blk_far ?_ NB110_111.out _; (with_reducible repeat (first | refine blk_drewN ?_ _ | refine blk_drew ?_ | refine blk_alloc ?_ _)); refine blk_far ?_ NB110_111.out _; (with_reducible repeat (first | refine blk_drewN ?_ _ | refine blk_drew ?_ | refine blk_alloc ?_ _)); refine blk_far ?_ NB110_111.out _; (with_reducible repeat (first | refine blk_drewN ?_ _ | refine blk_drew ?_ | refine blk_alloc ?_ _)); exact BK110.out) hb); have n3_ := Aside0.mk (blk_below (g := gb111) (o := .cells #[.int .i64 ((rd_T129 t104 x24_1).f0), .int .i64 0, .string (a0.extract (((rd_T129 t104 x24_1).f1) : Int).toNat ((wrap64 (((rd_T129 t104 x24_1).f1) + ((rd_T129 t104 x24_1).f2))) : Int).toNat), .int .i64 ((rd_T129 t104 x24_1).f1), .int .i64 0] 39 (0, 0)) (by (with_reducible repeat (first | refine blk_drewN ?_ _ | refine blk_drew ?_ | refine blk_alloc ?_ _)); refine blk_put (cs := #[.int .i64 ((rd_T129 t104 x24_1).f0), .int .i64 0, .string (a0.extract (((rd_T129 t104 x24_1).f1) : Int).toNat ((wrap64 (((rd_T129 t104 x24_1).f1) + ((rd_T129 t104 x24_1).f2))) : Int).toNat), .int .i64 ((rd_T129 t104 x24_1).f1), .int .i64 0]) ?_ 4 _ rfl; (with_reducible repeat (first | refine blk_drewN ?_ _ | refine blk_drew ?_ | refine blk_alloc ?_ _)); refine blk_put (cs := #[.int .i64 ((rd_T129 t104 x24_1).f0), .int .i64 0, .string (a0.extract (((rd_T129 t104 x24_1).f1) : Int).toNat ((wrap64 (((rd_T129 t104 x24_1).f1) + ((rd_T129 t104 x24_1).f2))) : Int).toNat), .int .i64 0, .int .i64 0]) ?_ 3 _ rfl; (with_reducible repeat (first | refine blk_drewN ?_ _ | refine blk_drew ?_ | refine blk_alloc ?_ _)); refine blk_put (cs := #[.int .i64 ((rd_T129 t104 x24_1).f0), .int .i64 0, .string (⟨#[]⟩ : ByteArray), .int .i64 0, .int .i64 0]) ?_ 2 _ rfl; (with_reducible repeat (first | refine blk_drewN ?_ _ | refine blk_drew ?_ | refine blk_alloc ?_ _)); refine blk_put (cs := #[.int .i64 ((rd_T129 t104 x24_1).f0), .int .i64 0, .string (⟨#[]⟩ : ByteArray), .int .i64 0, .int .i64 0]) ?_ 1 _ rfl; (with_reducible repeat (first | refine blk_drewN ?_ _ | refine blk_drew ?_ | refine blk_alloc ?_ _)); refine blk_put (cs := #[.int .i64 0, .int .i64 0, .string (⟨#[]⟩ : ByteArray), .int .i64 0, .int .i64 0]) ?_ 0 _ rfl; (with_reducible repeat (first | refine blk_drewN ?_ _ | refine blk_drew ?_ | refine blk_alloc ?_ _)); exact BK111.out) hb); have n4_ := Aside0.mk (below_step (by repeat (first | (with_reducible first | exact HB.out | apply below_alloc | apply pw_below_drewN | apply below_drew1 | refine below_set ?_ GE110.out | refine below_set ?_ GE111.out) | exact HB.out)) hb); clear HO_8; clear HO_22; clear BK110; clear BK111; clear HB; have HO_8 := n0_; have HO_22 := n1_; have BK110 := n2_; have BK111 := n3_; have HB := n4_; clear n0_ n1_ n2_ n3_ n4_; (try clear hb); (try clear hb2); (try clear hk); (try clear hi); have hcz32_0 : w31.cell? ⟨gb111, 0, none⟩ = some (.int .i64 ((rd_T129 t104 x24_1).f0)) := (blk_cell BK111.out 0).trans rfl; have hcz32_1 : w31.cell? ⟨gb111, 1, none⟩ = some (.int .i64 0) := (blk_cell BK111.out 1).trans rfl; have hcz32_2 : w31.cell? ⟨gb111, 2, none⟩ = some (.string (a0.extract (((rd_T129 t104 x24_1).f1) : Int).toNat ((wrap64 (((rd_T129 t104 x24_1).f1) + ((rd_T129 t104 x24_1).f2))) : Int).toNat)) := (blk_cell BK111.out 2).trans rfl; have hcz32_3 : w31.cell? ⟨gb111, 3, none⟩ = some (.int .i64 ((rd_T129 t104 x24_1).f1)) := (blk_cell BK111.out 3).trans rfl; have hcz32_4 : w31.cell? ⟨gb111, 4, none⟩ = some (.int .i64 0) := (blk_cell BK111.out 4).trans rfl; have hfz32_0 := blk_frozen BK111.out 0; have hfz32_1 := blk_frozen BK111.out 1; have hfz32_2 := blk_frozen BK111.out 2; have hfz32_3 := blk_frozen BK111.out 3; have hfz32_4 := blk_frozen BK111.out 4) | ((with_reducible refine gate_builtin (b := .append) (xs := #[.tmp 55, .tmp 57]) rfl ?_); at_builtin; refine Kd.R_append k39 (w0 := w) w.heap.size rfl (.tmp 55) (.tmp 57) 22 39 (.agg #[(.int .i64 0), (.int .i64 0), (.string ⟨#[]⟩), (.int .i64 0), (.int .i64 0)]) 48 rfl Tryz.underlying22 info39 rfl (by decide) (by omega) u8 x8_1 (⟨(rd_T129 t104 x24_1).f0, t112, a0.extract (((rd_T129 t104 x24_1).f1) : Int).toNat ((wrap64 (((rd_T129 t104 x24_1).f1) + ((rd_T129 t104 x24_1).f2))) : Int).toNat, (rd_T129 t104 x24_1).f1, 0⟩ : S39) [.int .i64 ((rd_T129 t104 x24_1).f0), .int .i64 t112, .string (a0.extract (((rd_T129 t104 x24_1).f1) : Int).toNat ((wrap64 (((rd_T129 t104 x24_1).f1) + ((rd_T129 t104 x24_1).f2))) : Int).toNat), .int .i64 ((rd_T129 t104 x24_1).f1), .int .i64 0] (fun k_ => k_ ≠ gb111) (fun _ => False) rfl (by first | (go_simp; done) | (go_simp; rfl)) ?aP (fun _ hk => hk.elim) ?aF ?aO ?aB ?aS ?aL ?_; (case aP => exact k39_mkM _ _ _ (⟨(rd_T129 t104 x24_1).f0, t112, a0.extract (((rd_T129 t104 x24_1).f1) : Int).toNat ((wrap64 (((rd_T129 t104 x24_1).f1) + ((rd_T129 t104 x24_1).f2))) : Int).toNat, (rd_T129 t104 x24_1).f1, 0⟩ : S39)); (case aB => exact (by repeat (first | (with_reducible first | exact HB.out | apply below_alloc | apply pw_below_drewN | apply below_drew1 | refine below_set ?_ GE110.out | refine below_set ?_ GE111.out) | exact HB.out))); (case aF => exact (fun k_ hk => Kd.freshB (g := gb111) (o := .cells #[.int .i64 ((rd_T129 t104 x24_1).f0), .int .i64 t112, .string (a0.extract (((rd_T129 t104 x24_1).f1) : Int).toNat ((wrap64 (((rd_T129 t104 x24_1).f1) + ((rd_T129 t104 x24_1).f2))) : Int).toNat), .int .i64 ((rd_T129 t104 x24_1).f1), .int .i64 0] 39 (0, 0)) (by (with_reducible repeat (first | refine blk_drewN ?_ _ | refine blk_drew ?_ | refine blk_alloc ?_ _)); refine blk_put (cs := #[.int .i64 ((rd_T129 t104 x24_1).f0), .int .i64 0, .string (a0.extract (((rd_T129 t104 x24_1).f1) : Int).toNat ((wrap64 (((rd_T129 t104 x24_1).f1) + ((rd_T129 t104 x24_1).f2))) : Int).toNat), .int .i64 ((rd_T129 t104 x24_1).f1), .int .i64 0]) ?_ 1 _ rfl; (with_reducible repeat (first | refine blk_drewN ?_ _ | refine blk_drew ?_ | refine blk_alloc ?_ _)); exact BK111.out) k_ hk)); (case aO => exact (by (with_reducible repeat (first | apply Kd.R_alloc | apply Kd.R_drewN | apply Kd.R_drew)); exact Kd.R_mono (Kd.R_far (p := ⟨gb111, 1, none⟩) (Kd.R_mono HO_8.out (fun k_ hk => (⟨hk, hk.2⟩ : _ ∧ k_ ≠ gb111))) (fun _ hk => hk.2) (.int .i64 t112)) (fun _ hk => hk.1.2))); (case aS => exact (below_size (by repeat (first | (with_reducible first | exact HB.out | apply below_alloc | apply pw_below_drewN | apply below_drew1 | refine below_set ?_ GE110.out | refine below_set ?_ GE111.out) | exact HB.out)))); (case aL => have := LMc17.out; omega); intro v115 w33 ho hb hg hat; rw [← Ny114.out] at ho; have n0_ := Aside0.mk (Kd.R_over' (by (with_reducible repeat (first | apply Kd.R_alloc | apply Kd.R_drewN | apply Kd.R_drew)); exact (Kd.R_mono (Kd.R_far (p := ⟨gb111, 1, none⟩) (Kd.R_types HO_22.out BK111.out (by decide)) (fun _ hk => hk.2) (.int .i64 t112)) (fun _ h_ => h_.1))) (Kd.R_typed (by (with_reducible repeat (first | apply Kd.R_alloc | apply Kd.R_drewN | apply Kd.R_drew)); exact (Kd.R_mono (Kd.R_far (p := ⟨gb111, 1, none⟩) (Kd.R_mono HO_8.out (fun k_ hk => (⟨hk, hk.2⟩ : _ ∧ k_ ≠ gb111))) (fun _ hk => hk.2) (.int .i64 t112)) (fun _ h_ => h_.1)))) (by decide) hg); have n1_ := Aside0.mk (blk_grown (g := gb110) (o := .cells #[.int .i64 ((rd_T129 t104 x24_1).f0), .int .i64 ((rd_T129 t104 x24_1).f1), .int .i64 ((rd_T129 t104 x24_1).f2)] 129 (0, 0)) (by (with_reducible repeat (first | refine blk_drewN ?_ _ | refine blk_drew ?_ | refine blk_alloc ?_ _)); refine blk_far ?_ NB110_111.out _; (with_reducible repeat (first | refine blk_drewN ?_ _ | refine blk_drew ?_ | refine blk_alloc ?_ _)); exact BK110.out) hg (Kd.R_ne HO_8.out BK110.out (by decide))); have n2_ := Aside0.mk (blk_grown (g := gb111) (o := .cells #[.int .i64 ((rd_T129 t104 x24_1).f0), .int .i64 t112, .string (a0.extract (((rd_T129 t104 x24_1).f1) : Int).toNat ((wrap64 (((rd_T129 t104 x24_1).f1) + ((rd_T129 t104 x24_1).f2))) : Int).toNat), .int .i64 ((rd_T129 t104 x24_1).f1), .int .i64 0] 39 (0, 0)) (by (with_reducible repeat (first | refine blk_drewN ?_ _ | refine blk_drew ?_ | refine blk_alloc ?_ _)); refine blk_put (cs := #[.int .i64 ((rd_T129 t104 x24_1).f0), .int .i64 0, .string (a0.extract (((rd_T129 t104 x24_1).f1) : Int).toNat ((wrap64 (((rd_T129 t104 x24_1).f1) + ((rd_T129 t104 x24_1).f2))) : Int).toNat), .int .i64 ((rd_T129 t104 x24_1).f1), .int .i64 0]) ?_ 1 _ rfl; (with_reducible repeat (first | refine blk_drewN ?_ _ | refine blk_drew ?_ | refine blk_alloc ?_ _)); exact BK111.out) hg (Kd.R_away HO_8.out (fun _ hk => hk.2))); have n3_ := Aside0.mk (hb); have n4_ := Aside0.mk (ho); clear HO_22; clear BK110; clear BK111; clear HB; clear HO_8; have HO_22 := n0_; have BK110 := n1_; have BK111 := n2_; have HB := n3_; have HO116 := n4_; clear n0_ n1_ n2_ n3_ n4_; clear ho hb hg hat))
             go_roundg k1
             case measure => have := HK1.out; omega
             case rel => exact ⟨(y114), (wrap64 (x24_1 + 1)), (by first | rfl | (simp; done) | (simp [*]; done)), H', ⟨by have := HK1.out; omega⟩, ⟨by (with_reducible repeat (first | apply Kd.R_alloc | apply Kd.R_drewN | apply Kd.R_drew)); exact Kd.R_mono HO116.out (fun _ hk => trivial)⟩, ⟨by (with_reducible repeat (first | apply Kd.R_alloc | apply Kd.R_drewN | apply Kd.R_drew)); exact Kd.R_mono HO_22.out (fun _ hk => trivial)⟩, ⟨by repeat (first | (with_reducible first | exact HB.out | apply below_alloc | apply pw_below_drewN | apply below_drew1 | refine below_set ?_ GE110.out | refine below_set ?_ GE111.out) | exact HB.out)⟩⟩
            ·rw [if_neg c17] at H
             exact absurd H (by simp)
           ·rw [if_neg c15] at H
            have c15b0 : (((rd_T129 t104 x24_1).f0) == 2) = false := beq_eq_false_iff_ne.mpr c15
            have c15b1 : (((rd_T129 t104 x24_1).f0) != 2) = true := bne_iff_ne.mpr c15
            by_cases c34 : x8_1.length < 2932031007402
            ·rw [if_pos c34] at H
             have LMc34 := Aside0.mk c34
             clear c34
             obtain ⟨y117, hy117⟩ : ∃ y_ : List (S39), y_ = (x8_1 ++ [(⟨(rd_T129 t104 x24_1).f0, 0, a0.extract (((rd_T129 t104 x24_1).f1) : Int).toNat ((wrap64 (((rd_T129 t104 x24_1).f1) + ((rd_T129 t104 x24_1).f2))) : Int).toNat, (rd_T129 t104 x24_1).f1, 0⟩ : S39)]) := ⟨_, rfl⟩
             replace H : (lex_Scan.l0 k1 a0 y117 t104 (t104.length : Int) (wrap64 (x24_1 + 1))) = some (r1, r2, r3) := by first | (rw [hy117]; with_reducible exact H) | (have H2_ := (Option.bind_some _ _).symm.trans H; rw [hy117]; with_reducible exact H2_) | (have H2_ := (Option.bind_some _ _).symm.trans H; with_reducible exact H2_) | with_reducible exact H | (rw [hy117]; exact H) | exact H
             have Ny117 := Aside0.mk hy117
             clear hy117
             have H' := Aside0.mk H
             clear H
             have p109 : 0 ≤ (x24_1 : Int) := of_decide_eq_true (by first | (with_reducible assumption) | assumption)
             have q109 : x24_1 < (t104.length : Int) := of_decide_eq_true (by first | (with_reducible assumption) | assumption)
             obtain ⟨ad109, e109, hx109_0, hx109_1, hx109_2⟩ := at_T129 (Kd.R_reads' HO_22.out).2.2 x24_1 p109 q109
             cases e109
             replace p109 := eq_true p109
             replace q109 := eq_true q109
             try go_wp2_with (first | ((with_reducible refine gate_dst (N := 10) rfl ?_); refine box_event ?hg (N := 10) ?hd (cs := #[.int .i64 0, .int .i64 0, .int .i64 0]) (t := 129) ?hr ?_; (case hd => rfl); (case hg => rfl); (case hr => first | (go_simp; done) | (go_simp; rfl)); intro gb110 hg w35 hbox hb; have n0_ := Aside0.mk (Kd.R_below (by (with_reducible repeat (first | apply Kd.R_alloc | apply Kd.R_drewN | apply Kd.R_drew)); exact HO_8.out) hb); have n1_ := Aside0.mk (Kd.R_below (Kd.R_elderB (by (with_reducible repeat (first | apply Kd.R_alloc | apply Kd.R_drewN | apply Kd.R_drew)); exact HO_22.out) gb110 (Nat.le_of_eq hg.symm)) hb); have n2_ := Aside0.mk (below_step (by repeat (first | (with_reducible first | exact HB.out | apply below_alloc | apply pw_below_drewN | apply below_drew1) | exact HB.out)) hb); have n3_ := Aside0.mk (hbox); have n4_ := Aside0.mk ((by rw [hg]; exact (below_size (by repeat (first | (with_reducible first | exact HB.out | apply below_alloc | apply pw_below_drewN | apply below_drew1) | exact HB.out))) : w.heap.size ≤ gb110)); have n5_ := Aside0.mk ((by rw [hg]; exact (below_size (by repeat (first | (with_reducible first | exact HB.out | apply below_alloc | apply pw_below_drewN | apply below_drew1) | exact HB.out))) : w.heap.size ≤ gb110)); clear HO_8; clear HO_22; clear HB; have HO_8 := n0_; have HO_22 := n1_; have HB := n2_; have BK110 := n3_; have GW110 := n4_; have GE110 := n5_; clear n0_ n1_ n2_ n3_ n4_ n5_; clear hb hbox hg; have hcz36_0 : w35.cell? ⟨gb110, 0, none⟩ = some (.int .i64 0) := (blk_cell BK110.out 0).trans rfl; have hcz36_1 : w35.cell? ⟨gb110, 1, none⟩ = some (.int .i64 0) := (blk_cell BK110.out 1).trans rfl; have hcz36_2 : w35.cell? ⟨gb110, 2, none⟩ = some (.int .i64 0) := (blk_cell BK110.out 2).trans rfl; have hfz36_0 := blk_frozen BK110.out 0; have hfz36_1 := blk_frozen BK110.out 1; have hfz36_2 := blk_frozen BK110.out 2))
             have n0_ : Aside0 (Kd.R k39 39 (((w35.setCell ⟨gb110, 0, none⟩ (.int .i64 ((rd_T129 t104 x24_1).f0))).setCell ⟨gb110, 1, none⟩ (.int .i64 ((rd_T129 t104 x24_1).f1))).setCell ⟨gb110, 2, none⟩ (.int .i64 ((rd_T129 t104 x24_1).f2))) w.heap.size (fun _ => True) u8 x8_1) := ⟨by (with_reducible repeat (first | apply Kd.R_alloc | apply Kd.R_drewN | apply Kd.R_drew)); exact Kd.R_mono (Kd.R_far (p := ⟨gb110, 2, none⟩) (Kd.R_far (p := ⟨gb110, 1, none⟩) (Kd.R_far (p := ⟨gb110, 0, none⟩) (Kd.R_types HO_8.out BK110.out (by decide)) (fun _ hk => hk.2) (.int .i64 ((rd_T129 t104 x24_1).f0))) (fun _ hk => hk.2) (.int .i64 ((rd_T129 t104 x24_1).f1))) (fun _ hk => hk.2) (.int .i64 ((rd_T129 t104 x24_1).f2))) (fun _ hk => trivial)⟩
             have n1_ : Aside0 (Kd.R k129 129 (((w35.setCell ⟨gb110, 0, none⟩ (.int .i64 ((rd_T129 t104 x24_1).f0))).setCell ⟨gb110, 1, none⟩ (.int .i64 ((rd_T129 t104 x24_1).f1))).setCell ⟨gb110, 2, none⟩ (.int .i64 ((rd_T129 t104 x24_1).f2))) w.heap.size (fun k_ => k_ ≠ gb110) (.slice (some ad109) t104.length co5) t104) := ⟨by (with_reducible repeat (first | apply Kd.R_alloc | apply Kd.R_drewN | apply Kd.R_drew)); exact Kd.R_mono (Kd.R_far (p := ⟨gb110, 2, none⟩) (Kd.R_far (p := ⟨gb110, 1, none⟩) (Kd.R_far (p := ⟨gb110, 0, none⟩) (Kd.R_mono HO_22.out (fun k_ hk => (⟨hk, hk.2⟩ : _ ∧ k_ ≠ gb110))) (fun _ hk => hk.2) (.int .i64 ((rd_T129 t104 x24_1).f0))) (fun _ hk => hk.2) (.int .i64 ((rd_T129 t104 x24_1).f1))) (fun _ hk => hk.2) (.int .i64 ((rd_T129 t104 x24_1).f2))) (fun _ hk => hk.1.2)⟩
             have n2_ : Aside0 ((((w35.setCell ⟨gb110, 0, none⟩ (.int .i64 ((rd_T129 t104 x24_1).f0))).setCell ⟨gb110, 1, none⟩ (.int .i64 ((rd_T129 t104 x24_1).f1))).setCell ⟨gb110, 2, none⟩ (.int .i64 ((rd_T129 t104 x24_1).f2))).heap[gb110]? = some (.cells #[.int .i64 ((rd_T129 t104 x24_1).f0), .int .i64 ((rd_T129 t104 x24_1).f1), .int .i64 ((rd_T129 t104 x24_1).f2)] 129 (0, 0))) := ⟨by (with_reducible repeat (first | refine blk_drewN ?_ _ | refine blk_drew ?_ | refine blk_alloc ?_ _)); refine blk_put (cs := #[.int .i64 ((rd_T129 t104 x24_1).f0), .int .i64 ((rd_T129 t104 x24_1).f1), .int .i64 0]) ?_ 2 _ rfl; (with_reducible repeat (first | refine blk_drewN ?_ _ | refine blk_drew ?_ | refine blk_alloc ?_ _)); refine blk_put (cs := #[.int .i64 ((rd_T129 t104 x24_1).f0), .int .i64 0, .int .i64 0]) ?_ 1 _ rfl; (with_reducible repeat (first | refine blk_drewN ?_ _ | refine blk_drew ?_ | refine blk_alloc ?_ _)); refine blk_put (cs := #[.int .i64 0, .int .i64 0, .int .i64 0]) ?_ 0 _ rfl; (with_reducible repeat (first | refine blk_drewN ?_ _ | refine blk_drew ?_ | refine blk_alloc ?_ _)); exact BK110.out⟩
             have n3_ : Aside0 (Below w.heap.size w (((w35.setCell ⟨gb110, 0, none⟩ (.int .i64 ((rd_T129 t104 x24_1).f0))).setCell ⟨gb110, 1, none⟩ (.int .i64 ((rd_T129 t104 x24_1).f1))).setCell ⟨gb110, 2, none⟩ (.int .i64 ((rd_T129 t104 x24_1).f2)))) := ⟨by repeat (first | (with_reducible first | exact HB.out | apply below_alloc | apply pw_below_drewN | apply below_drew1 | refine below_set ?_ GE110.out) | exact HB.out)⟩
             (try clear HO_8)
             (try clear HO_22)
             (try clear BK110)
             (try clear HB)
             generalize (((w35.setCell ⟨gb110, 0, none⟩ (.int .i64 ((rd_T129 t104 x24_1).f0))).setCell ⟨gb110, 1, none⟩ (.int .i64 ((rd_T129 t104 x24_1).f1))).setCell ⟨gb110, 2, none⟩ (.int .i64 ((rd_T129 t104 x24_1).f2))) = w37 at n0_ n1_ n2_ n3_ ⊢
             have HO_8 := n0_
             have HO_22 := n1_
             have BK110 := n2_
             have HB := n3_
             clear n0_ n1_ n2_ n3_
             have n0_ := Aside0.mk (Kd.R_drew HO_8.out)
             have n1_ := Aside0.mk (Kd.R_drew HO_22.out)
             have n2_ := Aside0.mk (blk_drew BK110.out)
             have n3_ := Aside0.mk (below_drew1 HB.out)
             clear HO_8
             clear HO_22
             clear BK110
             clear HB
             have HO_8 := n0_
             have HO_22 := n1_
             have BK110 := n2_
             have HB := n3_
             clear n0_ n1_ n2_ n3_
             refine start_ (n := 16) (S := fun w' => w'.cell? ⟨gb110, 0, none⟩ = some (.int .i64 ((rd_T129 t104 x24_1).f0)) ∧ w'.cell? ⟨gb110, 1, none⟩ = some (.int .i64 ((rd_T129 t104 x24_1).f1)) ∧ w'.cell? ⟨gb110, 2, none⟩ = some (.int .i64 ((rd_T129 t104 x24_1).f2))) (ds := []) #[false, false, false, false, false, false, false, false, false, false, false, false, false, false, false, false] (by kernel_rfl) rfl rfl ⟨(blk_cell BK110.out 0).trans rfl, (blk_cell BK110.out 1).trans rfl, (blk_cell BK110.out 2).trans rfl⟩ (fun hHeld => ?_); refine with_tabW lex_Scan.tab9 lex_Scan.bits9 (fun HT_ HW_ => ?_)
             generalize w37.drew = w38 at HO_8 HO_22 BK110 HB hHeld ⊢
             refine pure_ (i := 0) (N := some 31) (v := ?_) (a' := ?_) #[true, false, false, false, false, false, false, false, false, false, false, false, false, false, false, false] rfl rfl (any_of HT_.out (by kernel_rfl)) (fun _ _ _ h => h) (Or.inl ⟨by rfl, ?_⟩) ?_ ?_
             rotate_left
             ·intro w'
              go_simp
              with_reducible rfl
             rotate_left
             ·simp only [Act.put, List.setIfInBounds_toArray, List.set_cons_zero, List.set_cons_succ, i64_w, i32_w]
              rfl
             refine pure_ (i := 2) (N := some 33) (v := ?_) (a' := ?_) #[true, false, true, false, false, false, false, false, false, false, false, false, false, false, false, false] rfl rfl (any_of HT_.out (by kernel_rfl)) (fun _ _ _ h => h) (Or.inl ⟨by rfl, ?_⟩) ?_ ?_
             rotate_left
             ·intro w'
              go_simp
              with_reducible rfl
             rotate_left
             ·simp only [Act.put, List.setIfInBounds_toArray, List.set_cons_zero, List.set_cons_succ, i64_w, i32_w]
              rfl
             refine pure_ (i := 3) (N := some 34) (v := ?_) (a' := ?_) #[true, false, true, true, false, false, false, false, false, false, false, false, false, false, false, false] rfl rfl (any_of HT_.out (by kernel_rfl)) (fun _ _ _ h => h) (Or.inl ⟨by rfl, ?_⟩) ?_ ?_
             rotate_left
             ·intro w'
              go_simp
              with_reducible rfl
             rotate_left
             ·simp only [Act.put, List.setIfInBounds_toArray, List.set_cons_zero, List.set_cons_succ, i64_w, i32_w]
              rfl
             refine pure_ (i := 5) (N := some 36) (v := ?_) (a' := ?_) #[true, false, true, true, false, true, false, false, false, false, false, false, false, false, false, false] rfl rfl (any_of HT_.out (by kernel_rfl)) (fun _ _ _ h => h) (Or.inl ⟨by rfl, ?_⟩) ?_ ?_
             rotate_left
             ·intro w'
              go_simp
              with_reducible rfl
             rotate_left
             ·simp only [Act.put, List.setIfInBounds_toArray, List.set_cons_zero, List.set_cons_succ, i64_w, i32_w]
              rfl
             refine pure_ (i := 7) (N := some 38) (v := ?_) (a' := ?_) #[true, false, true, true, false, true, false, true, false, false, false, false, false, false, false, false] rfl rfl (any_of HT_.out (by kernel_rfl)) (fun _ _ _ h => h) (Or.inl ⟨by rfl, ?_⟩) ?_ ?_
             rotate_left
             ·intro w'
              go_simp
              with_reducible rfl
             rotate_left
             ·simp only [Act.put, List.setIfInBounds_toArray, List.set_cons_zero, List.set_cons_succ, i64_w, i32_w]
              rfl
             refine pure_ (i := 11) (N := some 42) (v := ?_) (a' := ?_) #[true, false, true, true, false, true, false, true, false, false, false, true, false, false, false, false] rfl rfl (any_of HT_.out (by kernel_rfl)) (fun _ _ _ h => h) (Or.inl ⟨by rfl, ?_⟩) ?_ ?_
             rotate_left
             ·intro w'
              go_simp
              with_reducible rfl
             rotate_left
             ·simp only [Act.put, List.setIfInBounds_toArray, List.set_cons_zero, List.set_cons_succ, i64_w, i32_w]
              rfl
             refine take_ (i := 1) (N := some 32) (v := ?_) (a' := ?_) #[true, true, true, true, false, true, false, true, false, false, false, true, false, false, false, false] rfl rfl (take_ofW HT_.out HW_.out (by kernel_rfl)) (fun _ _ _ h => h) (Or.inl ⟨by rfl, ?_⟩) hHeld ?_ ?_
             rotate_left
             ·rintro w' ⟨s0, s1, s2⟩
              go_simp
              with_reducible rfl
             rotate_left
             ·simp only [Act.put, List.setIfInBounds_toArray, List.set_cons_zero, List.set_cons_succ, i64_w, i32_w]
              rfl
             refine take_ (i := 4) (N := some 35) (v := ?_) (a' := ?_) #[true, true, true, true, true, true, false, true, false, false, false, true, false, false, false, false] rfl rfl (take_ofW HT_.out HW_.out (by kernel_rfl)) (fun _ _ _ h => h) (Or.inl ⟨by rfl, ?_⟩) hHeld ?_ ?_
             rotate_left
             ·rintro w' ⟨s0, s1, s2⟩
              go_simp
              with_reducible rfl
             rotate_left
             ·simp only [Act.put, List.setIfInBounds_toArray, List.set_cons_zero, List.set_cons_succ, i64_w, i32_w]
              rfl
             refine take_ (i := 6) (N := some 37) (v := ?_) (a' := ?_) #[true, true, true, true, true, true, true, true, false, false, false, true, false, false, false, false] rfl rfl (take_ofW HT_.out HW_.out (by kernel_rfl)) (fun _ _ _ h => h) (Or.inl ⟨by rfl, ?_⟩) hHeld ?_ ?_
             rotate_left
             ·rintro w' ⟨s0, s1, s2⟩
              go_simp
              with_reducible rfl
             rotate_left
             ·simp only [Act.put, List.setIfInBounds_toArray, List.set_cons_zero, List.set_cons_succ, i64_w, i32_w]
              rfl
             refine take_ (i := 8) (N := some 39) (v := ?_) (a' := ?_) #[true, true, true, true, true, true, true, true, true, false, false, true, false, false, false, false] rfl rfl (take_ofW HT_.out HW_.out (by kernel_rfl)) (fun _ _ _ h => h) (Or.inl ⟨by rfl, ?_⟩) hHeld ?_ ?_
             rotate_left
             ·rintro w' ⟨s0, s1, s2⟩
              go_simp
              with_reducible rfl
             rotate_left
             ·simp only [Act.put, List.setIfInBounds_toArray, List.set_cons_zero, List.set_cons_succ, i64_w, i32_w]
              rfl
             refine pure_ (i := 9) (N := some 40) (v := ?_) (a' := ?_) #[true, true, true, true, true, true, true, true, true, true, false, true, false, false, false, false] rfl rfl (any_of HT_.out (by kernel_rfl)) (fun _ _ _ h => h) (Or.inl ⟨by rfl, ?_⟩) ?_ ?_
             rotate_left
             ·intro w'
              go_simp
              with_reducible rfl
             rotate_left
             ·simp only [Act.put, List.setIfInBounds_toArray, List.set_cons_zero, List.set_cons_succ, i64_w, i32_w]
              rfl
             refine pure_ (i := 10) (N := some 41) (v := ?_) (a' := ?_) #[true, true, true, true, true, true, true, true, true, true, true, true, false, false, false, false] rfl rfl (any_of HT_.out (by kernel_rfl)) (fun _ _ _ h => h) (Or.inl ⟨by rfl, ?_⟩) ?_ ?_
             rotate_left
             ·intro w'
              go_simp
              with_reducible rfl
             rotate_left
             ·simp only [Act.put, List.setIfInBounds_toArray, List.set_cons_zero, List.set_cons_succ, i64_w, i32_w]
              rfl
             refine take_ (i := 12) (N := some 43) (v := ?_) (a' := ?_) #[true, true, true, true, true, true, true, true, true, true, true, true, true, false, false, false] rfl rfl (take_ofW HT_.out HW_.out (by kernel_rfl)) (fun _ _ _ h => h) (Or.inl ⟨by rfl, ?_⟩) hHeld ?_ ?_
             rotate_left
             ·rintro w' ⟨s0, s1, s2⟩
              go_simp
              with_reducible rfl
             rotate_left
             ·simp only [Act.put, List.setIfInBounds_toArray, List.set_cons_zero, List.set_cons_succ, i64_w, i32_w]
              rfl
             refine pure_ (i := 13) (N := some 44) (v := ?_) (a' := ?_) #[true, true, true, true, true, true, true, true, true, true, true, true, true, true, false, false] rfl rfl (any_of HT_.out (by kernel_rfl)) (fun _ _ _ h => h) (Or.inl ⟨by rfl, ?_⟩) ?_ ?_
             rotate_left
             ·intro w'
              go_simp
              with_reducible rfl
             rotate_left
             ·simp only [Act.put, List.setIfInBounds_toArray, List.set_cons_zero, List.set_cons_succ, i64_w, i32_w]
              rfl
             refine one_ (i := 14) (N := some 11) #[true, true, true, true, true, true, true, true, true, true, true, true, true, true, true, false] rfl rfl (one_of HT_.out (by kernel_rfl)) (by decide) (fun K hK => ?_)
             refine box_step ?hg (N := 11) ?hd (cs := #[.int .i64 0, .int .i64 0, .string (⟨#[]⟩ : ByteArray), .int .i64 0, .int .i64 0]) (t := 39) ?hr ?_; (case hd => rfl); (case hg => rfl); (case hr => first | (go_simp; done) | (go_simp; rfl))
             intro gb111 hg w39 hbox hb
             have n0_ := Aside0.mk (Kd.R_below (Kd.R_elderB (by (with_reducible repeat (first | apply Kd.R_alloc | apply Kd.R_drewN | apply Kd.R_drew)); exact HO_8.out) gb111 (Nat.le_of_eq hg.symm)) hb)
             have n1_ := Aside0.mk (Kd.R_below (by (with_reducible repeat (first | apply Kd.R_alloc | apply Kd.R_drewN | apply Kd.R_drew)); exact HO_22.out) hb)
             have n2_ := Aside0.mk (blk_below (g := gb110) (o := .cells #[.int .i64 ((rd_T129 t104 x24_1).f0), .int .i64 ((rd_T129 t104 x24_1).f1), .int .i64 ((rd_T129 t104 x24_1).f2)] 129 (0, 0)) (by (with_reducible repeat (first | refine blk_drewN ?_ _ | refine blk_drew ?_ | refine blk_alloc ?_ _)); exact BK110.out) hb)
             have n3_ := Aside0.mk (below_step (by repeat (first | (with_reducible first | exact HB.out | apply below_alloc | apply pw_below_drewN | apply below_drew1 | refine below_set ?_ GE110.out) | exact HB.out)) hb)
             have n4_ := Aside0.mk (hbox)
             have n5_ := Aside0.mk ((by rw [hg]; exact (below_size (by repeat (first | (with_reducible first | exact HB.out | apply below_alloc | apply pw_below_drewN | apply below_drew1 | refine below_set ?_ GE110.out) | exact HB.out))) : w.heap.size ≤ gb111))
             have n6_ := Aside0.mk ((by rw [hg]; exact (below_size (by repeat (first | (with_reducible first | exact HB.out | apply below_alloc | apply pw_below_drewN | apply below_drew1 | refine below_set ?_ GE110.out) | exact HB.out))) : w.heap.size ≤ gb111))
             have n7_ := Aside0.mk ((by rw [hg]; exact Nat.ne_of_lt (blk_lt (g := gb110) (o := .cells #[.int .i64 ((rd_T129 t104 x24_1).f0), .int .i64 ((rd_T129 t104 x24_1).f1), .int .i64 ((rd_T129 t104 x24_1).f2)] 129 (0, 0)) (by (with_reducible repeat (first | refine blk_drewN ?_ _ | refine blk_drew ?_ | refine blk_alloc ?_ _)); exact BK110.out)) : gb110 ≠ gb111))
             have n8_ := Aside0.mk ((by rw [hg]; exact Nat.ne_of_gt (blk_lt (g := gb110) (o := .cells #[.int .i64 ((rd_T129 t104 x24_1).f0), .int .i64 ((rd_T129 t104 x24_1).f1), .int .i64 ((rd_T129 t104 x24_1).f2)] 129 (0, 0)) (by (with_reducible repeat (first | refine blk_drewN ?_ _ | refine blk_drew ?_ | refine blk_alloc ?_ _)); exact BK110.out)) : gb111 ≠ gb110))
             clear HO_8
             clear HO_22
             clear BK110
             clear HB
             have HO_8 := n0_
             have HO_22 := n1_
             have BK110 := n2_
             have HB := n3_
             have BK111 := n4_
             have GW111 := n5_
             have GE111 := n6_
             have NB110_111 := n7_
             have NB111_110 := n8_
             clear n0_ n1_ n2_ n3_ n4_ n5_ n6_ n7_ n8_
             clear hb hbox hg
             refine hK.out _ _ ⟨(blk_cell BK110.out 0).trans rfl, (blk_cell BK110.out 1).trans rfl, (blk_cell BK110.out 2).trans rfl⟩ (fun hHeld => ?_)
             clear hK K
             refine norm_ (a' := ?_) ?_ ?_
             rotate_left
             ·show Act.put _ (some 11) _ = _
              simp only [Act.put, List.setIfInBounds_toArray, List.set_cons_zero, List.set_cons_succ, i64_w, i32_w]
              rfl
             refine one_ (i := 15) (N := none) #[true, true, true, true, true, true, true, true, true, true, true, true, true, true, true, true] rfl rfl (one_of HT_.out (by kernel_rfl)) (by decide) (fun K hK => ?_)
             have hs40 : w39.cell? ⟨gb111, 0, none⟩ = some (.int .i64 0) := (blk_cell BK111.out 0).trans rfl
             have hfs40 := blk_frozen BK111.out 0
             have hns40_0 := NB110_111.out
             have hms40_0 := NB111_110.out
             have hs41 : w39.cell? ⟨gb111, 1, none⟩ = some (.int .i64 0) := (blk_cell BK111.out 1).trans rfl
             have hfs41 := blk_frozen BK111.out 1
             have hns41_0 := NB110_111.out
             have hms41_0 := NB111_110.out
             have hs42 : w39.cell? ⟨gb111, 2, none⟩ = some (.string (⟨#[]⟩ : ByteArray)) := (blk_cell BK111.out 2).trans rfl
             have hfs42 := blk_frozen BK111.out 2
             have hns42_0 := NB110_111.out
             have hms42_0 := NB111_110.out
             have hs43 : w39.cell? ⟨gb111, 3, none⟩ = some (.int .i64 0) := (blk_cell BK111.out 3).trans rfl
             have hfs43 := blk_frozen BK111.out 3
             have hns43_0 := NB110_111.out
             have hms43_0 := NB111_110.out
             have hs44 : w39.cell? ⟨gb111, 4, none⟩ = some (.int .i64 0) := (blk_cell BK111.out 4).trans rfl
             have hfs44 := blk_frozen BK111.out 4
             have hns44_0 := NB110_111.out
             have hms44_0 := NB111_110.out
             refine skip_ (w1 := ?_) (by rfl) rfl ?_ ?_
             rotate_left
             ·go_simp
              rfl
             refine hK.out _ _ ⟨((cell_far (p := ⟨gb111, _, none⟩) NB110_111.out _).trans (((cell_far (p := ⟨gb111, _, none⟩) NB110_111.out _).trans (((cell_far (p := ⟨gb111, _, none⟩) NB110_111.out _).trans (((cell_far (p := ⟨gb111, _, none⟩) NB110_111.out _).trans (((cell_far (p := ⟨gb111, _, none⟩) NB110_111.out _).trans (hHeld.1)))))))))), ((cell_far (p := ⟨gb111, _, none⟩) NB110_111.out _).trans (((cell_far (p := ⟨gb111, _, none⟩) NB110_111.out _).trans (((cell_far (p := ⟨gb111, _, none⟩) NB110_111.out _).trans (((cell_far (p := ⟨gb111, _, none⟩) NB110_111.out _).trans (((cell_far (p := ⟨gb111, _, none⟩) NB110_111.out _).trans (hHeld.2.1)))))))))), ((cell_far (p := ⟨gb111, _, none⟩) NB110_111.out _).trans (((cell_far (p := ⟨gb111, _, none⟩) NB110_111.out _).trans (((cell_far (p := ⟨gb111, _, none⟩) NB110_111.out _).trans (((cell_far (p := ⟨gb111, _, none⟩) NB110_111.out _).trans (((cell_far (p := ⟨gb111, _, none⟩) NB110_111.out _).trans (hHeld.2.2))))))))))⟩ (fun hHeld => ?_)
             clear hK K
             refine done_ (done_of HT_.out (by kernel_rfl)) ?_
             have hnb45 := NB110_111.out
             have hnc45 := NB111_110.out
             have hcz46_0 : w39.cell? ⟨gb110, 0, none⟩ = some (.int .i64 ((rd_T129 t104 x24_1).f0)) := (blk_cell BK110.out 0).trans rfl
             have hcz46_1 : w39.cell? ⟨gb110, 1, none⟩ = some (.int .i64 ((rd_T129 t104 x24_1).f1)) := (blk_cell BK110.out 1).trans rfl
             have hcz46_2 : w39.cell? ⟨gb110, 2, none⟩ = some (.int .i64 ((rd_T129 t104 x24_1).f2)) := (blk_cell BK110.out 2).trans rfl
             have hfz46_0 := blk_frozen BK110.out 0
             have hfz46_1 := blk_frozen BK110.out 1
             have hfz46_2 := blk_frozen BK110.out 2
             have hcz47_0 : w39.cell? ⟨gb111, 0, none⟩ = some (.int .i64 0) := (blk_cell BK111.out 0).trans rfl
             have hcz47_1 : w39.cell? ⟨gb111, 1, none⟩ = some (.int .i64 0) := (blk_cell BK111.out 1).trans rfl
             have hcz47_2 : w39.cell? ⟨gb111, 2, none⟩ = some (.string (⟨#[]⟩ : ByteArray)) := (blk_cell BK111.out 2).trans rfl
             have hcz47_3 : w39.cell? ⟨gb111, 3, none⟩ = some (.int .i64 0) := (blk_cell BK111.out 3).trans rfl
             have hcz47_4 : w39.cell? ⟨gb111, 4, none⟩ = some (.int .i64 0) := (blk_cell BK111.out 4).trans rfl
             have hfz47_0 := blk_frozen BK111.out 0
             have hfz47_1 := blk_frozen BK111.out 1
             have hfz47_2 := blk_frozen BK111.out 2
             have hfz47_3 := blk_frozen BK111.out 3
             have hfz47_4 := blk_frozen BK111.out 4
             try go_wp2_with (first | ((with_reducible refine gate_builtin (b := .append) (xs := #[.tmp 55, .tmp 57]) rfl ?_); at_builtin; refine Kd.R_append k39 (w0 := w) w.heap.size rfl (.tmp 55) (.tmp 57) 22 39 (.agg #[(.int .i64 0), (.int .i64 0), (.string ⟨#[]⟩), (.int .i64 0), (.int .i64 0)]) 48 rfl Tryz.underlying22 info39 rfl (by decide) (by omega) u8 x8_1 (⟨(rd_T129 t104 x24_1).f0, 0, a0.extract (((rd_T129 t104 x24_1).f1) : Int).toNat ((wrap64 (((rd_T129 t104 x24_1).f1) + ((rd_T129 t104 x24_1).f2))) : Int).toNat, (rd_T129 t104 x24_1).f1, 0⟩ : S39) [.int .i64 ((rd_T129 t104 x24_1).f0), .int .i64 0, .string (a0.extract (((rd_T129 t104 x24_1).f1) : Int).toNat ((wrap64 (((rd_T129 t104 x24_1).f1) + ((rd_T129 t104 x24_1).f2))) : Int).toNat), .int .i64 ((rd_T129 t104 x24_1).f1), .int .i64 0] (fun k_ => k_ ≠ gb111) (fun _ => False) rfl (by first | (go_simp; done) | (go_simp; rfl)) ?aP (fun _ hk => hk.elim) ?aF ?aO ?aB ?aS ?aL ?_; (case aP => exact k39_mkM _ _ _ (⟨(rd_T129 t104 x24_1).f0, 0, a0.extract (((rd_T129 t104 x24_1).f1) : Int).toNat ((wrap64 (((rd_T129 t104 x24_1).f1) + ((rd_T129 t104 x24_1).f2))) : Int).toNat, (rd_T129 t104 x24_1).f1, 0⟩ : S39)); (case aB => exact (by repeat (first | (with_reducible first | exact HB.out | apply below_alloc | apply pw_below_drewN | apply below_drew1 | refine below_set ?_ GE110.out | refine below_set ?_ GE111.out) | exact HB.out))); (case aF => exact (fun k_ hk => Kd.freshB (g := gb111) (o := .cells #[.int .i64 ((rd_T129 t104 x24_1).f0), .int .i64 0, .string (a0.extract (((rd_T129 t104 x24_1).f1) : Int).toNat ((wrap64 (((rd_T129 t104 x24_1).f1) + ((rd_T129 t104 x24_1).f2))) : Int).toNat), .int .i64 ((rd_T129 t104 x24_1).f1), .int .i64 0] 39 (0, 0)) (by (with_reducible repeat (first | refine blk_drewN ?_ _ | refine blk_drew ?_ | refine blk_alloc ?_ _)); refine blk_put (cs := #[.int .i64 ((rd_T129 t104 x24_1).f0), .int .i64 0, .string (a0.extract (((rd_T129 t104 x24_1).f1) : Int).toNat ((wrap64 (((rd_T129 t104 x24_1).f1) + ((rd_T129 t104 x24_1).f2))) : Int).toNat), .int .i64 ((rd_T129 t104 x24_1).f1), .int .i64 0]) ?_ 4 _ rfl; (with_reducible repeat (first | refine blk_drewN ?_ _ | refine blk_drew ?_ | refine blk_alloc ?_ _)); refine blk_put (cs := #[.int .i64 ((rd_T129 t104 x24_1).f0), .int .i64 0, .string (a0.extract (((rd_T129 t104 x24_1).f1) : Int).toNat ((wrap64 (((rd_T129 t104 x24_1).f1) + ((rd_T129 t104 x24_1).f2))) : Int).toNat), .int .i64 0, .int .i64 0]) ?_ 3 _ rfl; (with_reducible repeat (first | refine blk_drewN ?_ _ | refine blk_drew ?_ | refine blk_alloc ?_ _)); refine blk_put (cs := #[.int .i64 ((rd_T129 t104 x24_1).f0), .int .i64 0, .string (⟨#[]⟩ : ByteArray), .int .i64 0, .int .i64 0]) ?_ 2 _ rfl; (with_reducible repeat (first | refine blk_drewN ?_ _ | refine blk_drew ?_ | refine blk_alloc ?_ _)); refine blk_put (cs := #[.int .i64 ((rd_T129 t104 x24_1).f0), .int .i64 0, .string (⟨#[]⟩ : ByteArray), .int .i64 0, .int .i64 0]) ?_ 1 _ rfl; (with_reducible repeat (first | refine blk_drewN ?_ _ | refine blk_drew ?_ | refine blk_alloc ?_ _)); refine blk_put (cs := #[.int .i64 0, .int .i64 0, .string (⟨#[]⟩ : ByteArray), .int .i64 0, .int .i64 0]) ?_ 0 _ rfl; (with_reducible repeat (first | refine blk_drewN ?_ _ | refine blk_drew ?_ | refine blk_alloc ?_ _)); exact BK111.out) k_ hk)); (case aO => exact (by (with_reducible repeat (first | apply Kd.R_alloc | apply Kd.R_drewN | apply Kd.R_drew)); exact Kd.R_mono (Kd.R_far (p := ⟨gb111, 4, none⟩) (Kd.R_far (p := ⟨gb111, 3, none⟩) (Kd.R_far (p := ⟨gb111, 2, none⟩) (Kd.R_far (p := ⟨gb111, 1, none⟩) (Kd.R_far (p := ⟨gb111, 0, none⟩) (Kd.R_mono HO_8.out (fun k_ hk => (⟨hk, hk.2⟩ : _ ∧ k_ ≠ gb111))) (fun _ hk => hk.2) (.int .i64 ((rd_T129 t104 x24_1).f0))) (fun _ hk => hk.2) (.int .i64 0)) (fun _ hk => hk.2) (.string (a0.extract (((rd_T129 t104 x24_1).f1) : Int).toNat ((wrap64 (((rd_T129 t104 x24_1).f1) + ((rd_T129 t104 x24_1).f2))) : Int).toNat))) (fun _ hk => hk.2) (.int .i64 ((rd_T129 t104 x24_1).f1))) (fun _ hk => hk.2) (.int .i64 0)) (fun _ hk => hk.1.2))); (case aS => exact (below_size (by repeat (first | (with_reducible first | exact HB.out | apply below_alloc | apply pw_below_drewN | apply below_drew1 | refine below_set ?_ GE110.out | refine below_set ?_ GE111.out) | exact HB.out)))); (case aL => have := LMc34.out; omega); intro v118 w48 ho hb hg hat; rw [← Ny117.out] at ho; have n0_ := Aside0.mk (Kd.R_over' (by (with_reducible repeat (first | apply Kd.R_alloc | apply Kd.R_drewN | apply Kd.R_drew)); exact (Kd.R_mono (Kd.R_far (p := ⟨gb111, 4, none⟩) (Kd.R_far (p := ⟨gb111, 3, none⟩) (Kd.R_far (p := ⟨gb111, 2, none⟩) (Kd.R_far (p := ⟨gb111, 1, none⟩) (Kd.R_far (p := ⟨gb111, 0, none⟩) (Kd.R_types HO_22.out BK111.out (by decide)) (fun _ hk => hk.2) (.int .i64 ((rd_T129 t104 x24_1).f0))) (fun _ hk => hk.2) (.int .i64 0)) (fun _ hk => hk.2) (.string (a0.extract (((rd_T129 t104 x24_1).f1) : Int).toNat ((wrap64 (((rd_T129 t104 x24_1).f1) + ((rd_T129 t104 x24_1).f2))) : Int).toNat))) (fun _ hk => hk.2) (.int .i64 ((rd_T129 t104 x24_1).f1))) (fun _ hk => hk.2) (.int .i64 0)) (fun _ h_ => h_.1))) (Kd.R_typed (by (with_reducible repeat (first | apply Kd.R_alloc | apply Kd.R_drewN | apply Kd.R_drew)); exact (Kd.R_mono (Kd.R_far (p := ⟨gb111, 4, none⟩) (Kd.R_far (p := ⟨gb111, 3, none⟩) (Kd.R_far (p := ⟨gb111, 2, none⟩) (Kd.R_far (p := ⟨gb111, 1, none⟩) (Kd.R_far (p := ⟨gb111, 0, none⟩) (Kd.R_mono HO_8.out (fun k_ hk => (⟨hk, hk.2⟩ : _ ∧ k_ ≠ gb111))) (fun _ hk => hk.2) (.int .i64 ((rd_T129 t104 x24_1).f0))) (fun _ hk => hk.2) (.int .i64 0)) (fun _ hk => hk.2) (.string (a0.extract (((rd_T129 t104 x24_1).f1) : Int).toNat ((wrap64 (((rd_T129 t104 x24_1).f1) + ((rd_T129 t104 x24_1).f2))) : Int).toNat))) (fun _ hk => hk.2) (.int .i64 ((rd_T129 t104 x24_1).f1))) (fun _ hk => hk.2) (.int .i64 0)) (fun _ h_ => h_.1)))) (by decide) hg); have n1_ := Aside0.mk (blk_grown (g := gb110) (o := .cells #[.int .i64 ((rd_T129 t104 x24_1).f0), .int .i64 ((rd_T129 t104 x24_1).f1), .int .i64 ((rd_T129 t104 x24_1).f2)] 129 (0, 0)) (by (with_reducible repeat (first | refine blk_drewN ?_ _ | refine blk_drew ?_ | refine blk_alloc ?_ _)); refine blk_far ?_ NB110_111.out _; (with_reducible repeat (first | refine blk_drewN ?_ _ | refine blk_drew ?_ | refine blk_alloc ?_ _)); refine blk_far ?_ NB110_111.out _; (with_reducible repeat (first | refine blk_drewN ?_ _ | refine blk_drew ?_ | refine blk_alloc ?_ _)); refine blk_far ?_ NB110_111.out _; (with_reducible repeat (first | refine blk_drewN ?_ _ | refine blk_drew ?_ | refine blk_alloc ?_ _)); refine blk_far ?_ NB110_111.out _; (with_reducible repeat (first | refine blk_drewN ?_ _ | refine blk_drew ?_ | refine blk_alloc ?_ _)); refine blk_far ?_ NB110_111.out _; (with_reducible repeat (first | refine blk_drewN ?_ _ | refine blk_drew ?_ | refine blk_alloc ?_ _)); exact BK110.out) hg (Kd.R_ne HO_8.out BK110.out (by decide))); have n2_ := Aside0.mk (blk_grown (g := gb111) (o := .cells #[.int .i64 ((rd_T129 t104 x24_1).f0), .int .i64 0, .string (a0.extract (((rd_T129 t104 x24_1).f1) : Int).toNat ((wrap64 (((rd_T129 t104 x24_1).f1) + ((rd_T129 t104 x24_1).f2))) : Int).toNat), .int .i64 ((rd_T129 t104 x24_1).f1), .int .i64 0] 39 (0, 0)) (by (with_reducible repeat (first | refine blk_drewN ?_ _ | refine blk_drew ?_ | refine blk_alloc ?_ _)); refine blk_put (cs := #[.int .i64 ((rd_T129 t104 x24_1).f0), .int .i64 0, .string (a0.extract (((rd_T129 t104 x24_1).f1) : Int).toNat ((wrap64 (((rd_T129 t104 x24_1).f1) + ((rd_T129 t104 x24_1).f2))) : Int).toNat), .int .i64 ((rd_T129 t104 x24_1).f1), .int .i64 0]) ?_ 4 _ rfl; (with_reducible repeat (first | refine blk_drewN ?_ _ | refine blk_drew ?_ | refine blk_alloc ?_ _)); refine blk_put (cs := #[.int .i64 ((rd_T129 t104 x24_1).f0), .int .i64 0, .string (a0.extract (((rd_T129 t104 x24_1).f1) : Int).toNat ((wrap64 (((rd_T129 t104 x24_1).f1) + ((rd_T129 t104 x24_1).f2))) : Int).toNat), .int .i64 0, .int .i64 0]) ?_ 3 _ rfl; (with_reducible repeat (first | refine blk_drewN ?_ _ | refine blk_drew ?_ | refine blk_alloc ?_ _)); refine blk_put (cs := #[.int .i64 ((rd_T129 t104 x24_1).f0), .int .i64 0, .string (⟨#[]⟩ : ByteArray), .int .i64 0, .int .i64 0]) ?_ 2 _ rfl; (with_reducible repeat (first | refine blk_drewN ?_ _ | refine blk_drew ?_ | refine blk_alloc ?_ _)); refine blk_put (cs := #[.int .i64 ((rd_T129 t104 x24_1).f0), .int .i64 0, .string (⟨#[]⟩ : ByteArray), .int .i64 0, .int .i64 0]) ?_ 1 _ rfl; (with_reducible repeat (first | refine blk_drewN ?_ _ | refine blk_drew ?_ | refine blk_alloc ?_ _)); refine blk_put (cs := #[.int .i64 0, .int .i64 0, .string (⟨#[]⟩ : ByteArray), .int .i64 0, .int .i64 0]) ?_ 0 _ rfl; (with_reducible repeat (first | refine blk_drewN ?_ _ | refine blk_drew ?_ | refine blk_alloc ?_ _)); exact BK111.out) hg (Kd.R_away HO_8.out (fun _ hk => hk.2))); have n3_ := Aside0.mk (hb); have n4_ := Aside0.mk (ho); clear HO_22; clear BK110; clear BK111; clear HB; clear HO_8; have HO_22 := n0_; have BK110 := n1_; have BK111 := n2_; have HB := n3_; have HO119 := n4_; clear n0_ n1_ n2_ n3_ n4_; clear ho hb hg hat))
             go_roundg k1
             case measure => have := HK1.out; omega
             case rel => exact ⟨(y117), (wrap64 (x24_1 + 1)), (by first | rfl | (simp; done) | (simp [*]; done)), H', ⟨by have := HK1.out; omega⟩, ⟨by (with_reducible repeat (first | apply Kd.R_alloc | apply Kd.R_drewN | apply Kd.R_drew)); exact Kd.R_mono HO119.out (fun _ hk => trivial)⟩, ⟨by (with_reducible repeat (first | apply Kd.R_alloc | apply Kd.R_drewN | apply Kd.R_drew)); exact Kd.R_mono HO_22.out (fun _ hk => trivial)⟩, ⟨by repeat (first | (with_reducible first | exact HB.out | apply below_alloc | apply pw_below_drewN | apply below_drew1 | refine below_set ?_ GE110.out | refine below_set ?_ GE111.out) | exact HB.out)⟩⟩
            ·rw [if_neg c34] at H
             exact absurd H (by simp)
          ·rw [if_neg c14] at H
           exact absurd H (by simp)
         ·rw [if_neg c13] at H
          exact absurd H (by simp)
        ·rw [if_neg c12] at H
         exact absurd H (by simp)
      ·rw [if_neg c8] at H
       exact absurd H (by simp)
     ·rw [if_neg c7] at H
      exact absurd H (by simp)
    ·rw [if_neg c6] at H
     have c6b0 : decide (x24_1 < (t104.length : Int)) = false := decide_eq_false c6
     clear c6
     simp only [Option.some.injEq, Prod.mk.injEq] at H
     obtain ⟨rfl, rfl, rfl⟩ := H
     go_wp2
     go_ret3
     exact ⟨_, by first | rfl | (simp [errW_none, errW_some] <;> rfl) | (simp [*, errW_none, errW_some] <;> rfl), by (with_reducible repeat (first | apply Kd.R_alloc | apply Kd.R_drewN | apply Kd.R_drew)); exact HO_8.out, by repeat (first | (with_reducible first | exact HB.out | apply below_alloc | apply pw_below_drewN | apply below_drew1) | exact HB.out)⟩
 ·rw [if_neg c3] at H
  have c3b0 : (t106 == 0) = false := beq_eq_false_iff_ne.mpr c3
  have c3b1 : (t106 != 0) = true := bne_iff_ne.mpr c3
  simp only [Option.some.injEq, Prod.mk.injEq] at H
  obtain ⟨rfl, rfl, rfl⟩ := H
  go_enter Tryz.func134, Tryz.ntmps134
  go_wp2_with (first | ((with_reducible refine gate_callee (f := 143) rfl ?_); refine goesL_ (some 14) rfl rfl Tryz.func143 (by kernel_rfl) rfl #[.string a0] rfl (by (try simp only [List.map_toArray, List.map_cons, List.map_nil]); first | done | rfl | (simp only [List.length_drop, List.length_take]; rfl)) ?_; (with_reducible refine (lex_Pieces.calls a0 t104 t105 t106 _ A2.out (Lx.Env.below HE.out (by repeat (first | (with_reducible first | exact HB.out | apply below_alloc | apply pw_below_drewN | apply below_drew1 | refine below_set ?_ GE110.out | refine below_set ?_ GE111.out) | exact HB.out)))).mono ?_); rintro e w49 ⟨v107, rfl, ho0, hb⟩; refine ⟨_, rfl, ?_⟩; have n0_ := Aside0.mk (Kd.R_lower ho0 (below_size (by repeat (first | (with_reducible first | exact HB.out | apply below_alloc | apply pw_below_drewN | apply below_drew1) | exact HB.out)))); have n1_ := Aside0.mk (below_step (by repeat (first | (with_reducible first | exact HB.out | apply below_alloc | apply pw_below_drewN | apply below_drew1) | exact HB.out)) hb); clear HB; have HO108 := n0_; have HB := n1_; clear n0_ n1_; (try clear hb); (try clear hb2); (try clear hk); (try clear hi); (try clear ho0)))
  go_ret3
  exact ⟨_, by first | rfl | (simp [errW_none, errW_some] <;> rfl) | (simp [*, errW_none, errW_some] <;> rfl), by first | exact Kd.R_nil _ _ _ _ _ | exact Kd.N_nil _ _ _ _ _ | exact Kd.V_nil _ _ _ _ _ | exact Kd.Q_nil _ _ _ _ _ | exact Kd.S_nil _ _ _ _ _, by repeat (first | (with_reducible first | exact HB.out | apply below_alloc | apply pw_below_drewN | apply below_drew1) | exact HB.out)⟩

end Go.Proofs.YtipnlgmeonepfaaGreatDoor.PFa
