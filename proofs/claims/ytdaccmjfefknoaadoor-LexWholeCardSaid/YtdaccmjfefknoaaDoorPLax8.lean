-- PRINTED by print.py (a twelfth state) out of the translation. Not trusted: Lean checks it.
import Derived.Test.YtdaccmjfefknoaaDoorPLax0
import Derived.Test.YtdaccmjfefknoaaDoorPLax3
import Derived.Test.YtdaccmjfefknoaaDoorPLax7
namespace Go.Proofs.YtdaccmjfefknoaaDoor.PLa
open Go.RowKit Go.Proofs.YtdaccmjfefknoaaDoorW.PrintWords Go.Proofs.YtdaccmjfefknoaaDoorW.PrintLast Go.Proofs.YtdaccmjfefknoaaDoorW.PrintMore
attribute [local go_sem] max2_int min2_int max_two min_two max_three min_three max_four min_four   -- for this text's walks alone
set_option linter.unusedVariables false
set_option linter.unusedSimpArgs false

/-! ### skerrylaw01_LexWhole: function 4 -/
mutual
def skerrylaw01_LexWhole.l0 : Nat → ByteArray → Bool → List (S40) → Int → Int → Option (Bool)
 | 0, _, _, _, _, _ => none
 | k + 1, x0, x3, x4, x7, x8 => if x8 < (x4.length : Int) then (if 0 ≤ x8 then (if ((rd_T40 x4 x8).f1) = x7 then (if ((rd_T40 x4 x8).f2) < 1 then (skerrylaw01_LexWhole.j1 k x0 x3 x4 x7 x8 true) else (if ((rd_T40 x4 x8).f2) > (wrap64 ((x0.size : Int) - x7)) then (skerrylaw01_LexWhole.j1 k x0 x3 x4 x7 x8 true) else (if ((rd_T40 x4 x8).f0) < 1 then (skerrylaw01_LexWhole.j1 k x0 x3 x4 x7 x8 true) else (skerrylaw01_LexWhole.j1 k x0 x3 x4 x7 x8 (decide (((rd_T40 x4 x8).f0) > 8)))))) else (skerrylaw01_LexWhole.j1 k x0 x3 x4 x7 x8 true)) else (none)) else (if x3 = true then (some (x7 == (x0.size : Int))) else (some false))
def skerrylaw01_LexWhole.j1 : Nat → ByteArray → Bool → List (S40) → Int → Int → Bool → Option (Bool)
 | 0, _, _, _, _, _, _ => none
 | k + 1, x0, x3, x4, x7, x8, x72 => if x72 = true then (some false) else (if 0 ≤ x8 then (if x8 < (x4.length : Int) then (skerrylaw01_LexWhole.l0 k x0 x3 x4 (wrap64 (x7 + ((rd_T40 x4 x8).f2))) (wrap64 (x8 + 1))) else (none)) else (none))
end
def skerrylaw01_LexWhole.f (k : Nat) (a0 : ByteArray) : Option (Bool) := (skerrylaw01_sane.f k).bind fun t187 => ((lex_Pieces.f a0).bind fun bt188 => (if bt188.2.2 = 0 then (skerrylaw01_LexWhole.l0 k a0 t187 bt188.1 0 0) else (if t187 = true then (some ((bt188.1.length : Int) == 0)) else (some false))))
theorem skerrylaw01_LexWhole.mono_l : ∀ k, (∀ y0 y1 y2 y3 y4, LeO (skerrylaw01_LexWhole.l0 k y0 y1 y2 y3 y4) (skerrylaw01_LexWhole.l0 (k + 1) y0 y1 y2 y3 y4)) ∧ (∀ y0 y1 y2 y3 y4 y5, LeO (skerrylaw01_LexWhole.j1 k y0 y1 y2 y3 y4 y5) (skerrylaw01_LexWhole.j1 (k + 1) y0 y1 y2 y3 y4 y5))
 | 0 => ⟨fun _ _ _ _ _ r h => by simp [skerrylaw01_LexWhole.l0] at h, fun _ _ _ _ _ _ r h => by simp [skerrylaw01_LexWhole.j1] at h⟩
 | k + 1 => by
  obtain ⟨ih0, ih1⟩ := skerrylaw01_LexWhole.mono_l k
  refine ⟨?_, ?_⟩
  ·intro y0 y1 y2 y3 y4
   unfold skerrylaw01_LexWhole.l0
   repeat' first
   | (with_reducible exact ih0 _ _ _ _ _)
   | (with_reducible exact ih1 _ _ _ _ _ _)
   | (with_reducible exact skerrylaw01_sane.mono _)
   | (with_reducible exact LeO.refl _)
   | (with_reducible exact LeO.none _)
   | (with_reducible refine LeO.ite ?_ ?_)
   | (with_reducible refine LeO.bind ?_ (fun _ => ?_))
   | exact ih0 _ _ _ _ _
   | exact ih1 _ _ _ _ _ _
   | exact skerrylaw01_sane.mono _
   | exact LeO.none _
   | refine LeO.ite ?_ ?_
   | refine LeO.bind ?_ (fun _ => ?_)
  ·intro y0 y1 y2 y3 y4 y5
   unfold skerrylaw01_LexWhole.j1
   repeat' first
   | (with_reducible exact ih0 _ _ _ _ _)
   | (with_reducible exact ih1 _ _ _ _ _ _)
   | (with_reducible exact skerrylaw01_sane.mono _)
   | (with_reducible exact LeO.refl _)
   | (with_reducible exact LeO.none _)
   | (with_reducible refine LeO.ite ?_ ?_)
   | (with_reducible refine LeO.bind ?_ (fun _ => ?_))
   | exact ih0 _ _ _ _ _
   | exact ih1 _ _ _ _ _ _
   | exact skerrylaw01_sane.mono _
   | exact LeO.none _
   | refine LeO.ite ?_ ?_
   | refine LeO.bind ?_ (fun _ => ?_)
theorem skerrylaw01_LexWhole.mono : ∀ a0 k, LeO (skerrylaw01_LexWhole.f k a0) (skerrylaw01_LexWhole.f (k + 1) a0) := by
 intro a0 k
 obtain ⟨ih0, ih1⟩ := skerrylaw01_LexWhole.mono_l k
 unfold skerrylaw01_LexWhole.f
 repeat' first
   | (with_reducible exact ih0 _ _ _ _ _)
   | (with_reducible exact ih1 _ _ _ _ _ _)
   | (with_reducible exact skerrylaw01_sane.mono _)
   | (with_reducible exact LeO.refl _)
   | (with_reducible exact LeO.none _)
   | (with_reducible refine LeO.ite ?_ ?_)
   | (with_reducible refine LeO.bind ?_ (fun _ => ?_))
   | exact ih0 _ _ _ _ _
   | exact ih1 _ _ _ _ _ _
   | exact skerrylaw01_sane.mono _
   | exact LeO.none _
   | refine LeO.ite ?_ ?_
   | refine LeO.bind ?_ (fun _ => ?_)
set_option maxHeartbeats 8000000 in
set_option maxRecDepth 100000 in
theorem skerrylaw01_LexWhole.calls (k : Nat) (a0 : ByteArray) (r : Bool) (w : World) (h : skerrylaw01_LexWhole.f k a0 = some r) (hE : Lx.Env w) :
  Calls Tryd.prog 4 #[.string a0] w fun e w' => e = .returned (.bool r) ∧ Below w.heap.size w w' := by
 have HE := Lib.hid hE
 clear hE
 have HB := Aside0.mk (Below.refl w.heap.size w)
 have H : ((skerrylaw01_sane.f k).bind fun t187 => ((lex_Pieces.f a0).bind fun bt188 => (if bt188.2.2 = 0 then (skerrylaw01_LexWhole.l0 k a0 t187 bt188.1 0 0) else (if t187 = true then (some ((bt188.1.length : Int) == 0)) else (some false))))) = some r := h
 clear h
 replace H := Option.bind_eq_some_iff.mp H
 obtain ⟨t187, A20, H⟩ := H
 replace H : ((lex_Pieces.f a0).bind fun bt188 => (if bt188.2.2 = 0 then (skerrylaw01_LexWhole.l0 k a0 t187 bt188.1 0 0) else (if t187 = true then (some ((bt188.1.length : Int) == 0)) else (some false)))) = some r := H
 have A2 := Aside0.mk A20
 clear A20
 replace H := Option.bind_eq_some_iff.mp H
 obtain ⟨⟨t188, t189, t190⟩, A30, H⟩ := H
 replace H : (if t190 = 0 then (skerrylaw01_LexWhole.l0 k a0 t187 t188 0 0) else (if t187 = true then (some ((t188.length : Int) == 0)) else (some false))) = some r := H
 have A3 := Aside0.mk A30
 clear A30
 by_cases c4 : t190 = 0
 ·rw [if_pos c4] at H
  have c4b0 : (t190 == 0) = true := beq_iff_eq.mpr c4
  have c4b1 : (t190 != 0) = false := bne_eq_false_iff_eq.mpr c4
  clear c4
  have H' := Aside0.mk H
  clear H
  go_enter Tryd.func4, Tryd.ntmps4
  go_wp2_with (first | ((with_reducible refine gate_callee (f := 12) rfl ?_); refine goesL_ (some 9) rfl rfl Tryd.func12 (by kernel_rfl) rfl #[] rfl (by (try simp only [List.map_toArray, List.map_cons, List.map_nil]); first | done | rfl | (simp only [List.length_drop, List.length_take]; rfl)) ?_; (with_reducible refine (skerrylaw01_sane.calls k  t187 _ A2.out (Lx.Env.below HE.out (by repeat (first | (with_reducible first | exact HB.out | apply below_alloc | apply pw_below_drewN | apply below_drew1) | exact HB.out)))).mono ?_); rintro e w5 ⟨rfl, hb⟩; refine ⟨_, rfl, ?_⟩; have n0_ := Aside0.mk (below_step (by repeat (first | (with_reducible first | exact HB.out | apply below_alloc | apply pw_below_drewN | apply below_drew1) | exact HB.out)) hb); clear HB; have HB := n0_; clear n0_; (try clear hb); (try clear hb2); (try clear hk); (try clear hi)) | ((with_reducible refine gate_callee (f := 13) rfl ?_); refine goesL_ (some 12) rfl rfl Tryd.func13 (by kernel_rfl) rfl #[.string a0] rfl (by (try simp only [List.map_toArray, List.map_cons, List.map_nil]); first | done | rfl | (simp only [List.length_drop, List.length_take]; rfl)) ?_; (with_reducible refine (lex_Pieces.calls a0 t188 t189 t190 _ A3.out (Lx.Env.below HE.out (by repeat (first | (with_reducible first | exact HB.out | apply below_alloc | apply pw_below_drewN | apply below_drew1) | exact HB.out)))).mono ?_); rintro e w6 ⟨v191, rfl, ho0, hb⟩; refine ⟨_, rfl, ?_⟩; have n0_ := Aside0.mk (Kd.R_lower ho0 (below_size (by repeat (first | (with_reducible first | exact HB.out | apply below_alloc | apply pw_below_drewN | apply below_drew1) | exact HB.out)))); have n1_ := Aside0.mk (below_step (by repeat (first | (with_reducible first | exact HB.out | apply below_alloc | apply pw_below_drewN | apply below_drew1) | exact HB.out)) hb); clear HB; have HO192 := n0_; have HB := n1_; clear n0_ n1_; (try clear hb); (try clear hb2); (try clear hk); (try clear hi); (try clear ho0)))
  go_loopg [7, 8] k (fun kq v7 v8 w' => ∃ (x7_1 : Int) (x8_1 : Int), v7 = .int .i64 x7_1 ∧ v8 = .int .i64 x8_1 ∧ Aside0 (skerrylaw01_LexWhole.l0 kq a0 t187 t188 x7_1 x8_1 = some r) ∧ Aside0 (kq ≤ k) ∧ Aside0 (Kd.R k40 40 w' w.heap.size (fun _ => True) v191 t188) ∧ Aside0 (Below w.heap.size w w'))
  case atStart => exact ⟨(0), (0), (by first | rfl | (simp; done) | (simp [*]; done)), (by first | rfl | (simp; done) | (simp [*]; done)), H', ⟨Nat.le_refl _⟩, ⟨by (with_reducible repeat (first | apply Kd.R_alloc | apply Kd.R_drewN | apply Kd.R_drew)); exact HO192.out⟩, ⟨by repeat (first | (with_reducible first | exact HB.out | apply below_alloc | apply pw_below_drewN | apply below_drew1) | exact HB.out)⟩⟩
  case round =>
   clear H'
   try clear c1
   try clear p2
   try clear c4
   try clear c4b0
   try clear c4b1
   obtain ⟨x7_1, x8_1, rfl, rfl, HA, HK1, HO_4, HB⟩ := hrel
   cases gk with
   | zero => exact absurd HA.out (by simp [skerrylaw01_LexWhole.l0])
   | succ k1 =>
    have H := HA.out
    clear HA
    simp only [skerrylaw01_LexWhole.l0] at H
    by_cases c7 : x8_1 < (t188.length : Int)
    ·rw [if_pos c7] at H
     have c7b0 : decide (x8_1 < (t188.length : Int)) = true := decide_eq_true c7
     clear c7
     have HC8 := Aside0.mk H
     clear H
     obtain ⟨Ao9, co9, eo9⟩ := Kd.R_slice HO_4.out
     subst eo9
     go_upto_region 9 with (fail)
     go_cut [72] (fun v72 wc => ∃ (kq : Nat) (x72_7 : Bool), v72 = .bool x72_7 ∧ Aside0 (skerrylaw01_LexWhole.j1 kq a0 t187 t188 x7_1 x8_1 x72_7 = some r) ∧ Aside0 (kq ≤ k1) ∧ Aside0 (Kd.R k40 40 wc w.heap.size (fun _ => True) (.slice Ao9 t188.length co9) t188) ∧ Aside0 (Below w.heap.size w wc))
     case first =>
      have H := HC8.out
      clear HC8
      by_cases c10 : 0 ≤ x8_1
      ·rw [if_pos c10] at H
       have c10b0 : decide (0 ≤ x8_1) = true := decide_eq_true c10
       clear c10
       (first | rw [c10b0] | (simp only [i64_w, i32_w]; rw [c10b0]) | skip)
       by_cases c11 : ((rd_T40 t188 x8_1).f1) = x7_1
       ·rw [if_pos c11] at H
        have c11b0 : (((rd_T40 t188 x8_1).f1) == x7_1) = true := beq_iff_eq.mpr c11
        have c11b1 : (((rd_T40 t188 x8_1).f1) != x7_1) = false := bne_eq_false_iff_eq.mpr c11
        clear c11
        by_cases c12 : ((rd_T40 t188 x8_1).f2) < 1
        ·rw [if_pos c12] at H
         have c12b0 : decide (((rd_T40 t188 x8_1).f2) < 1) = true := decide_eq_true c12
         clear c12
         have H' := Aside0.mk H
         clear H
         have p193 : 0 ≤ (x8_1 : Int) := of_decide_eq_true (by first | (with_reducible assumption) | assumption)
         have q193 : x8_1 < (t188.length : Int) := of_decide_eq_true (by first | (with_reducible assumption) | assumption)
         obtain ⟨ad193, e193, hx193_0, hx193_1, hx193_2⟩ := at_T40 (Kd.R_reads' HO_4.out).2.2 x8_1 p193 q193
         cases e193
         replace p193 := eq_true p193
         replace q193 := eq_true q193
         have p194 : 0 ≤ (x8_1 : Int) := of_decide_eq_true (by first | (with_reducible assumption) | assumption)
         have q194 : x8_1 < (t188.length : Int) := of_decide_eq_true (by first | (with_reducible assumption) | assumption)
         obtain ⟨ad194, e194, hx194_0, hx194_1, hx194_2⟩ := at_T40 (Kd.R_reads' HO_4.out).2.2 x8_1 p194 q194
         obtain rfl : ad193 = ad194 := (by injection e194)
         replace p194 := eq_true p194
         replace q194 := eq_true q194
         go_wp2
         go_meet
         case rel => exact ⟨_, (true), (by first | rfl | (simp; done) | (simp [*]; done)), H', ⟨by have := HK1.out; first | omega | exact Nat.le_refl _⟩, ⟨by (with_reducible repeat (first | apply Kd.R_alloc | apply Kd.R_drewN | apply Kd.R_drew)); exact HO_4.out⟩, ⟨by repeat (first | (with_reducible first | exact HB.out | apply below_alloc | apply pw_below_drewN | apply below_drew1) | exact HB.out)⟩⟩
        ·rw [if_neg c12] at H
         have c12b0 : decide (((rd_T40 t188 x8_1).f2) < 1) = false := decide_eq_false c12
         clear c12
         by_cases c13 : ((rd_T40 t188 x8_1).f2) > (wrap64 ((a0.size : Int) - x7_1))
         ·rw [if_pos c13] at H
          have c13b0 : decide ((wrap64 ((a0.size : Int) - x7_1)) < ((rd_T40 t188 x8_1).f2)) = true := decide_eq_true c13
          clear c13
          have H' := Aside0.mk H
          clear H
          have p193 : 0 ≤ (x8_1 : Int) := of_decide_eq_true (by first | (with_reducible assumption) | assumption)
          have q193 : x8_1 < (t188.length : Int) := of_decide_eq_true (by first | (with_reducible assumption) | assumption)
          obtain ⟨ad193, e193, hx193_0, hx193_1, hx193_2⟩ := at_T40 (Kd.R_reads' HO_4.out).2.2 x8_1 p193 q193
          cases e193
          replace p193 := eq_true p193
          replace q193 := eq_true q193
          have p194 : 0 ≤ (x8_1 : Int) := of_decide_eq_true (by first | (with_reducible assumption) | assumption)
          have q194 : x8_1 < (t188.length : Int) := of_decide_eq_true (by first | (with_reducible assumption) | assumption)
          obtain ⟨ad194, e194, hx194_0, hx194_1, hx194_2⟩ := at_T40 (Kd.R_reads' HO_4.out).2.2 x8_1 p194 q194
          obtain rfl : ad193 = ad194 := (by injection e194)
          replace p194 := eq_true p194
          replace q194 := eq_true q194
          have p195 : 0 ≤ (x8_1 : Int) := of_decide_eq_true (by first | (with_reducible assumption) | assumption)
          have q195 : x8_1 < (t188.length : Int) := of_decide_eq_true (by first | (with_reducible assumption) | assumption)
          obtain ⟨ad195, e195, hx195_0, hx195_1, hx195_2⟩ := at_T40 (Kd.R_reads' HO_4.out).2.2 x8_1 p195 q195
          obtain rfl : ad193 = ad195 := (by injection e195)
          replace p195 := eq_true p195
          replace q195 := eq_true q195
          go_wp2
          go_meet
          case rel => exact ⟨_, (true), (by first | rfl | (simp; done) | (simp [*]; done)), H', ⟨by have := HK1.out; first | omega | exact Nat.le_refl _⟩, ⟨by (with_reducible repeat (first | apply Kd.R_alloc | apply Kd.R_drewN | apply Kd.R_drew)); exact HO_4.out⟩, ⟨by repeat (first | (with_reducible first | exact HB.out | apply below_alloc | apply pw_below_drewN | apply below_drew1) | exact HB.out)⟩⟩
         ·rw [if_neg c13] at H
          have c13b0 : decide ((wrap64 ((a0.size : Int) - x7_1)) < ((rd_T40 t188 x8_1).f2)) = false := decide_eq_false c13
          clear c13
          by_cases c14 : ((rd_T40 t188 x8_1).f0) < 1
          ·rw [if_pos c14] at H
           have c14b0 : decide (((rd_T40 t188 x8_1).f0) < 1) = true := decide_eq_true c14
           clear c14
           have H' := Aside0.mk H
           clear H
           have p193 : 0 ≤ (x8_1 : Int) := of_decide_eq_true (by first | (with_reducible assumption) | assumption)
           have q193 : x8_1 < (t188.length : Int) := of_decide_eq_true (by first | (with_reducible assumption) | assumption)
           obtain ⟨ad193, e193, hx193_0, hx193_1, hx193_2⟩ := at_T40 (Kd.R_reads' HO_4.out).2.2 x8_1 p193 q193
           cases e193
           replace p193 := eq_true p193
           replace q193 := eq_true q193
           have p194 : 0 ≤ (x8_1 : Int) := of_decide_eq_true (by first | (with_reducible assumption) | assumption)
           have q194 : x8_1 < (t188.length : Int) := of_decide_eq_true (by first | (with_reducible assumption) | assumption)
           obtain ⟨ad194, e194, hx194_0, hx194_1, hx194_2⟩ := at_T40 (Kd.R_reads' HO_4.out).2.2 x8_1 p194 q194
           obtain rfl : ad193 = ad194 := (by injection e194)
           replace p194 := eq_true p194
           replace q194 := eq_true q194
           have p195 : 0 ≤ (x8_1 : Int) := of_decide_eq_true (by first | (with_reducible assumption) | assumption)
           have q195 : x8_1 < (t188.length : Int) := of_decide_eq_true (by first | (with_reducible assumption) | assumption)
           obtain ⟨ad195, e195, hx195_0, hx195_1, hx195_2⟩ := at_T40 (Kd.R_reads' HO_4.out).2.2 x8_1 p195 q195
           obtain rfl : ad193 = ad195 := (by injection e195)
           replace p195 := eq_true p195
           replace q195 := eq_true q195
           have p196 : 0 ≤ (x8_1 : Int) := of_decide_eq_true (by first | (with_reducible assumption) | assumption)
           have q196 : x8_1 < (t188.length : Int) := of_decide_eq_true (by first | (with_reducible assumption) | assumption)
           obtain ⟨ad196, e196, hx196_0, hx196_1, hx196_2⟩ := at_T40 (Kd.R_reads' HO_4.out).2.2 x8_1 p196 q196
           obtain rfl : ad193 = ad196 := (by injection e196)
           replace p196 := eq_true p196
           replace q196 := eq_true q196
           go_wp2
           go_meet
           case rel => exact ⟨_, (true), (by first | rfl | (simp; done) | (simp [*]; done)), H', ⟨by have := HK1.out; first | omega | exact Nat.le_refl _⟩, ⟨by (with_reducible repeat (first | apply Kd.R_alloc | apply Kd.R_drewN | apply Kd.R_drew)); exact HO_4.out⟩, ⟨by repeat (first | (with_reducible first | exact HB.out | apply below_alloc | apply pw_below_drewN | apply below_drew1) | exact HB.out)⟩⟩
          ·rw [if_neg c14] at H
           have c14b0 : decide (((rd_T40 t188 x8_1).f0) < 1) = false := decide_eq_false c14
           clear c14
           have H' := Aside0.mk H
           clear H
           have p193 : 0 ≤ (x8_1 : Int) := of_decide_eq_true (by first | (with_reducible assumption) | assumption)
           have q193 : x8_1 < (t188.length : Int) := of_decide_eq_true (by first | (with_reducible assumption) | assumption)
           obtain ⟨ad193, e193, hx193_0, hx193_1, hx193_2⟩ := at_T40 (Kd.R_reads' HO_4.out).2.2 x8_1 p193 q193
           cases e193
           replace p193 := eq_true p193
           replace q193 := eq_true q193
           have p194 : 0 ≤ (x8_1 : Int) := of_decide_eq_true (by first | (with_reducible assumption) | assumption)
           have q194 : x8_1 < (t188.length : Int) := of_decide_eq_true (by first | (with_reducible assumption) | assumption)
           obtain ⟨ad194, e194, hx194_0, hx194_1, hx194_2⟩ := at_T40 (Kd.R_reads' HO_4.out).2.2 x8_1 p194 q194
           obtain rfl : ad193 = ad194 := (by injection e194)
           replace p194 := eq_true p194
           replace q194 := eq_true q194
           have p195 : 0 ≤ (x8_1 : Int) := of_decide_eq_true (by first | (with_reducible assumption) | assumption)
           have q195 : x8_1 < (t188.length : Int) := of_decide_eq_true (by first | (with_reducible assumption) | assumption)
           obtain ⟨ad195, e195, hx195_0, hx195_1, hx195_2⟩ := at_T40 (Kd.R_reads' HO_4.out).2.2 x8_1 p195 q195
           obtain rfl : ad193 = ad195 := (by injection e195)
           replace p195 := eq_true p195
           replace q195 := eq_true q195
           have p196 : 0 ≤ (x8_1 : Int) := of_decide_eq_true (by first | (with_reducible assumption) | assumption)
           have q196 : x8_1 < (t188.length : Int) := of_decide_eq_true (by first | (with_reducible assumption) | assumption)
           obtain ⟨ad196, e196, hx196_0, hx196_1, hx196_2⟩ := at_T40 (Kd.R_reads' HO_4.out).2.2 x8_1 p196 q196
           obtain rfl : ad193 = ad196 := (by injection e196)
           replace p196 := eq_true p196
           replace q196 := eq_true q196
           have p197 : 0 ≤ (x8_1 : Int) := of_decide_eq_true (by first | (with_reducible assumption) | assumption)
           have q197 : x8_1 < (t188.length : Int) := of_decide_eq_true (by first | (with_reducible assumption) | assumption)
           obtain ⟨ad197, e197, hx197_0, hx197_1, hx197_2⟩ := at_T40 (Kd.R_reads' HO_4.out).2.2 x8_1 p197 q197
           obtain rfl : ad193 = ad197 := (by injection e197)
           replace p197 := eq_true p197
           replace q197 := eq_true q197
           go_wp2
           go_meet
           case rel => exact ⟨_, (decide (((rd_T40 t188 x8_1).f0) > 8)), (by first | rfl | (simp; done) | (simp [*]; done)), H', ⟨by have := HK1.out; first | omega | exact Nat.le_refl _⟩, ⟨by (with_reducible repeat (first | apply Kd.R_alloc | apply Kd.R_drewN | apply Kd.R_drew)); exact HO_4.out⟩, ⟨by repeat (first | (with_reducible first | exact HB.out | apply below_alloc | apply pw_below_drewN | apply below_drew1) | exact HB.out)⟩⟩
       ·rw [if_neg c11] at H
        have c11b0 : (((rd_T40 t188 x8_1).f1) == x7_1) = false := beq_eq_false_iff_ne.mpr c11
        have c11b1 : (((rd_T40 t188 x8_1).f1) != x7_1) = true := bne_iff_ne.mpr c11
        have H' := Aside0.mk H
        clear H
        have p193 : 0 ≤ (x8_1 : Int) := of_decide_eq_true (by first | (with_reducible assumption) | assumption)
        have q193 : x8_1 < (t188.length : Int) := of_decide_eq_true (by first | (with_reducible assumption) | assumption)
        obtain ⟨ad193, e193, hx193_0, hx193_1, hx193_2⟩ := at_T40 (Kd.R_reads' HO_4.out).2.2 x8_1 p193 q193
        cases e193
        replace p193 := eq_true p193
        replace q193 := eq_true q193
        go_wp2
        go_meet
        case rel => exact ⟨_, (true), (by first | rfl | (simp; done) | (simp [*]; done)), H', ⟨by have := HK1.out; first | omega | exact Nat.le_refl _⟩, ⟨by (with_reducible repeat (first | apply Kd.R_alloc | apply Kd.R_drewN | apply Kd.R_drew)); exact HO_4.out⟩, ⟨by repeat (first | (with_reducible first | exact HB.out | apply below_alloc | apply pw_below_drewN | apply below_drew1) | exact HB.out)⟩⟩
      ·rw [if_neg c10] at H
       exact absurd H (by simp)
     case rest =>
      clear HC8
      try clear c1
      try clear p1
      try clear q1
      try clear hx1
      try clear p2
      try clear c4
      try clear c4b0
      try clear c4b1
      try clear p6
      try clear c7
      try clear c7b0
      try clear c10
      try clear c10b0
      try clear c11
      try clear c11b0
      try clear c11b1
      try clear c12
      try clear c12b0
      try clear c13
      try clear c13b0
      try clear c14
      try clear c14b0
      try clear hx193_0
      try clear hx193_1
      try clear hx193_2
      try clear hx194_0
      try clear hx194_1
      try clear hx194_2
      try clear hx195_0
      try clear hx195_1
      try clear hx195_2
      try clear hx196_0
      try clear hx196_1
      try clear hx196_2
      try clear hx197_0
      try clear hx197_1
      try clear hx197_2
      try clear p193
      try clear p194
      try clear p195
      try clear p196
      try clear p197
      try clear p2
      try clear q193
      try clear q194
      try clear q195
      try clear q196
      try clear q197
      obtain ⟨kq, x72_7, rfl, HA, HJ7, HO_4, HB⟩ := hcut
      cases kq with
      | zero => exact absurd HA.out (by simp [skerrylaw01_LexWhole.j1])
      | succ kj7 =>
       have H := HA.out
       clear HA
       simp only [skerrylaw01_LexWhole.j1] at H
       by_cases c15 : x72_7 = true
       ·subst c15
        have H1 : (some false) = some r := by rw [if_pos rfl] at H; exact H
        clear H
        have H := H1
        clear H1
        obtain rfl := Option.some.inj H
        go_wp2
        go_ret
        exact ⟨by first | rfl | (simp [errW_none, errW_some] <;> rfl) | (simp [*, errW_none, errW_some] <;> rfl), by repeat (first | (with_reducible first | exact HB.out | apply below_alloc | apply pw_below_drewN | apply below_drew1) | exact HB.out)⟩
       ·replace c15 := Bool.eq_false_iff.mpr c15
        subst c15
        have H1 : (if 0 ≤ x8_1 then (if x8_1 < (t188.length : Int) then (skerrylaw01_LexWhole.l0 kj7 a0 t187 t188 (wrap64 (x7_1 + ((rd_T40 t188 x8_1).f2))) (wrap64 (x8_1 + 1))) else (none)) else (none)) = some r := by rw [if_neg (show ¬ (false = true) by decide)] at H; exact H
        clear H
        have H := H1
        clear H1
        by_cases c16 : 0 ≤ x8_1
        ·rw [if_pos c16] at H
         have c16b0 : decide (0 ≤ x8_1) = true := decide_eq_true c16
         clear c16
         by_cases c17 : x8_1 < (t188.length : Int)
         ·rw [if_pos c17] at H
          have c17b0 : decide (x8_1 < (t188.length : Int)) = true := decide_eq_true c17
          clear c17
          have H' := Aside0.mk H
          clear H
          have p198 : 0 ≤ (x8_1 : Int) := of_decide_eq_true (by first | (with_reducible assumption) | assumption)
          have q198 : x8_1 < (t188.length : Int) := of_decide_eq_true (by first | (with_reducible assumption) | assumption)
          obtain ⟨ad198, e198, hx198_0, hx198_1, hx198_2⟩ := at_T40 (Kd.R_reads' HO_4.out).2.2 x8_1 p198 q198
          cases e198
          replace p198 := eq_true p198
          replace q198 := eq_true q198
          go_wp2
          go_roundg kj7
          case measure => have := HK1.out; have := HJ7.out; omega
          case rel => exact ⟨(wrap64 (x7_1 + ((rd_T40 t188 x8_1).f2))), (wrap64 (x8_1 + 1)), (by first | rfl | (simp; done) | (simp [*]; done)), (by first | rfl | (simp; done) | (simp [*]; done)), H', ⟨by have := HK1.out; have := HJ7.out; omega⟩, ⟨by (with_reducible repeat (first | apply Kd.R_alloc | apply Kd.R_drewN | apply Kd.R_drew)); exact HO_4.out⟩, ⟨by repeat (first | (with_reducible first | exact HB.out | apply below_alloc | apply pw_below_drewN | apply below_drew1) | exact HB.out)⟩⟩
         ·rw [if_neg c17] at H
          exact absurd H (by simp)
        ·rw [if_neg c16] at H
         exact absurd H (by simp)
    ·rw [if_neg c7] at H
     have c7b0 : decide (x8_1 < (t188.length : Int)) = false := decide_eq_false c7
     clear c7
     by_cases c18 : t187 = true
     ·subst c18
      have H1 : (some (x7_1 == (a0.size : Int))) = some r := by rw [if_pos rfl] at H; exact H
      clear H
      have H := H1
      clear H1
      obtain rfl := Option.some.inj H
      obtain ⟨Ao19, co19, eo19⟩ := Kd.R_slice HO_4.out
      subst eo19
      go_wp2
      go_ret
      exact ⟨by first | rfl | (simp [errW_none, errW_some] <;> rfl) | (simp [*, errW_none, errW_some] <;> rfl), by repeat (first | (with_reducible first | exact HB.out | apply below_alloc | apply pw_below_drewN | apply below_drew1) | exact HB.out)⟩
     ·replace c18 := Bool.eq_false_iff.mpr c18
      subst c18
      have H1 : (some false) = some r := by rw [if_neg (show ¬ (false = true) by decide)] at H; exact H
      clear H
      have H := H1
      clear H1
      obtain rfl := Option.some.inj H
      obtain ⟨Ao20, co20, eo20⟩ := Kd.R_slice HO_4.out
      subst eo20
      go_wp2
      go_ret
      exact ⟨by first | rfl | (simp [errW_none, errW_some] <;> rfl) | (simp [*, errW_none, errW_some] <;> rfl), by repeat (first | (with_reducible first | exact HB.out | apply below_alloc | apply pw_below_drewN | apply below_drew1) | exact HB.out)⟩
 ·rw [if_neg c4] at H
  have c4b0 : (t190 == 0) = false := beq_eq_false_iff_ne.mpr c4
  have c4b1 : (t190 != 0) = true := bne_iff_ne.mpr c4
  by_cases c21 : t187 = true
  ·subst c21
   have H1 : (some ((t188.length : Int) == 0)) = some r := by rw [if_pos rfl] at H; exact H
   clear H
   have H := H1
   clear H1
   obtain rfl := Option.some.inj H
   go_enter Tryd.func4, Tryd.ntmps4
   go_wp2_with (first | ((with_reducible refine gate_callee (f := 12) rfl ?_); refine goesL_ (some 9) rfl rfl Tryd.func12 (by kernel_rfl) rfl #[] rfl (by (try simp only [List.map_toArray, List.map_cons, List.map_nil]); first | done | rfl | (simp only [List.length_drop, List.length_take]; rfl)) ?_; (with_reducible refine (skerrylaw01_sane.calls k  true _ A2.out (Lx.Env.below HE.out (by repeat (first | (with_reducible first | exact HB.out | apply below_alloc | apply pw_below_drewN | apply below_drew1) | exact HB.out)))).mono ?_); rintro e w22 ⟨rfl, hb⟩; refine ⟨_, rfl, ?_⟩; have n0_ := Aside0.mk (below_step (by repeat (first | (with_reducible first | exact HB.out | apply below_alloc | apply pw_below_drewN | apply below_drew1) | exact HB.out)) hb); clear HB; have HB := n0_; clear n0_; (try clear hb); (try clear hb2); (try clear hk); (try clear hi)) | ((with_reducible refine gate_callee (f := 13) rfl ?_); refine goesL_ (some 12) rfl rfl Tryd.func13 (by kernel_rfl) rfl #[.string a0] rfl (by (try simp only [List.map_toArray, List.map_cons, List.map_nil]); first | done | rfl | (simp only [List.length_drop, List.length_take]; rfl)) ?_; (with_reducible refine (lex_Pieces.calls a0 t188 t189 t190 _ A3.out (Lx.Env.below HE.out (by repeat (first | (with_reducible first | exact HB.out | apply below_alloc | apply pw_below_drewN | apply below_drew1) | exact HB.out)))).mono ?_); rintro e w23 ⟨v191, rfl, ho0, hb⟩; refine ⟨_, rfl, ?_⟩; have n0_ := Aside0.mk (Kd.R_lower ho0 (below_size (by repeat (first | (with_reducible first | exact HB.out | apply below_alloc | apply pw_below_drewN | apply below_drew1) | exact HB.out)))); have n1_ := Aside0.mk (below_step (by repeat (first | (with_reducible first | exact HB.out | apply below_alloc | apply pw_below_drewN | apply below_drew1) | exact HB.out)) hb); clear HB; have HO192 := n0_; have HB := n1_; clear n0_ n1_; (try clear hb); (try clear hb2); (try clear hk); (try clear hi); (try clear ho0); obtain ⟨Ao24, co24, eo24⟩ := Kd.R_slice HO192.out; subst eo24))
   go_ret
   exact ⟨by first | rfl | (simp [errW_none, errW_some] <;> rfl) | (simp [*, errW_none, errW_some] <;> rfl), by repeat (first | (with_reducible first | exact HB.out | apply below_alloc | apply pw_below_drewN | apply below_drew1) | exact HB.out)⟩
  ·replace c21 := Bool.eq_false_iff.mpr c21
   subst c21
   have H1 : (some false) = some r := by rw [if_neg (show ¬ (false = true) by decide)] at H; exact H
   clear H
   have H := H1
   clear H1
   obtain rfl := Option.some.inj H
   go_enter Tryd.func4, Tryd.ntmps4
   go_wp2_with (first | ((with_reducible refine gate_callee (f := 12) rfl ?_); refine goesL_ (some 9) rfl rfl Tryd.func12 (by kernel_rfl) rfl #[] rfl (by (try simp only [List.map_toArray, List.map_cons, List.map_nil]); first | done | rfl | (simp only [List.length_drop, List.length_take]; rfl)) ?_; (with_reducible refine (skerrylaw01_sane.calls k  false _ A2.out (Lx.Env.below HE.out (by repeat (first | (with_reducible first | exact HB.out | apply below_alloc | apply pw_below_drewN | apply below_drew1) | exact HB.out)))).mono ?_); rintro e w25 ⟨rfl, hb⟩; refine ⟨_, rfl, ?_⟩; have n0_ := Aside0.mk (below_step (by repeat (first | (with_reducible first | exact HB.out | apply below_alloc | apply pw_below_drewN | apply below_drew1) | exact HB.out)) hb); clear HB; have HB := n0_; clear n0_; (try clear hb); (try clear hb2); (try clear hk); (try clear hi)) | ((with_reducible refine gate_callee (f := 13) rfl ?_); refine goesL_ (some 12) rfl rfl Tryd.func13 (by kernel_rfl) rfl #[.string a0] rfl (by (try simp only [List.map_toArray, List.map_cons, List.map_nil]); first | done | rfl | (simp only [List.length_drop, List.length_take]; rfl)) ?_; (with_reducible refine (lex_Pieces.calls a0 t188 t189 t190 _ A3.out (Lx.Env.below HE.out (by repeat (first | (with_reducible first | exact HB.out | apply below_alloc | apply pw_below_drewN | apply below_drew1) | exact HB.out)))).mono ?_); rintro e w26 ⟨v191, rfl, ho0, hb⟩; refine ⟨_, rfl, ?_⟩; have n0_ := Aside0.mk (Kd.R_lower ho0 (below_size (by repeat (first | (with_reducible first | exact HB.out | apply below_alloc | apply pw_below_drewN | apply below_drew1) | exact HB.out)))); have n1_ := Aside0.mk (below_step (by repeat (first | (with_reducible first | exact HB.out | apply below_alloc | apply pw_below_drewN | apply below_drew1) | exact HB.out)) hb); clear HB; have HO192 := n0_; have HB := n1_; clear n0_ n1_; (try clear hb); (try clear hb2); (try clear hk); (try clear hi); (try clear ho0)))
   go_ret
   exact ⟨by first | rfl | (simp [errW_none, errW_some] <;> rfl) | (simp [*, errW_none, errW_some] <;> rfl), by repeat (first | (with_reducible first | exact HB.out | apply below_alloc | apply pw_below_drewN | apply below_drew1) | exact HB.out)⟩

/-- THE ONE PURE STATEMENT of skerrylaw01_LexWhole: yours. -/
def skerrylaw01_LexWhole.Pure : Prop := ∀ (a0 : ByteArray), a0.size ≤ 140737488351232 → ∃ k, skerrylaw01_LexWhole.f k a0 = some true
theorem skerrylaw01_LexWhole.walk (P : skerrylaw01_LexWhole.Pure) (a0 : ByteArray) (w : World) (w0 : a0.size ≤ 140737488351232) (hE : Lx.Env w) :
  Calls Tryd.prog 4 #[.string a0] w fun e w' => e = .returned (.bool true) ∧ Below w.heap.size w w' := by
 obtain ⟨k, h⟩ := P a0 w0
 refine (skerrylaw01_LexWhole.calls k a0 true w h hE).mono ?_
 rintro e w' ⟨rfl, hd⟩
 exact ⟨rfl, hd⟩

end Go.Proofs.YtdaccmjfefknoaaDoor.PLa
