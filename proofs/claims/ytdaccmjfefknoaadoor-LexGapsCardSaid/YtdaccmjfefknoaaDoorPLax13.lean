-- PRINTED by print.py (a twelfth state) out of the translation. Not trusted: Lean checks it.
import Derived.Test.YtdaccmjfefknoaaDoorPLax0
import Derived.Test.YtdaccmjfefknoaaDoorPLax3
import Derived.Test.YtdaccmjfefknoaaDoorPLax4
import Derived.Test.YtdaccmjfefknoaaDoorPLax7
import Derived.Test.YtdaccmjfefknoaaDoorPLax11
import Derived.Test.YtdaccmjfefknoaaDoorPLax12
namespace Go.Proofs.YtdaccmjfefknoaaDoor.PLa
open Go.RowKit Go.Proofs.YtdaccmjfefknoaaDoorW.PrintWords Go.Proofs.YtdaccmjfefknoaaDoorW.PrintLast Go.Proofs.YtdaccmjfefknoaaDoorW.PrintMore
attribute [local go_sem] max2_int min2_int max_two min_two max_three min_three max_four min_four   -- for this text's walks alone
set_option linter.unusedVariables false
set_option linter.unusedSimpArgs false

/-! ### skerrylaw01_LexGaps: function 5 -/
mutual
def skerrylaw01_LexGaps.j0 : Nat → ByteArray → Int → ByteArray → Bool → List (S40) → List (S54) → Bool → Option (Bool)
 | 0, _, _, _, _, _, _, _ => none
 | k + 1, x0, x1, x2, x7, x8, x11, x45 => if x45 = true then (some x7) else ((skerryref01_Mod.f x1 (x8.length : Int)).bind fun t275 => (if 0 ≤ t275 then (if t275 < (x8.length : Int) then ((skerrylaw01_gap.f k x2).bind fun t277 => (if ((rd_T40 x8 t275).f0) ≥ 7 then (skerrylaw01_LexGaps.j1 k x0 x7 x8 x11 t275 ((rd_T40 x8 t275).f1) ((rd_T40 x8 t275).f2) t277) else (skerrylaw01_LexGaps.j1 k x0 x7 x8 x11 t275 ((rd_T40 x8 t275).f1) 0 t277))) else (none)) else (none)))
def skerrylaw01_LexGaps.j1 : Nat → ByteArray → Bool → List (S40) → List (S54) → Int → Int → Int → ByteArray → Option (Bool)
 | 0, _, _, _, _, _, _, _, _ => none
 | k + 1, x0, x7, x8, x11, x14, x279000, x279001, x279002 => if x14 > 0 then (if 0 ≤ (wrap64 (x14 - 1)) then (if (wrap64 (x14 - 1)) < (x8.length : Int) then (if ((rd_T40 x8 (wrap64 (x14 - 1))).f0) = 8 then (if ((rd_T40 x8 (wrap64 (x14 - 1))).f2) > 1 then (if 0 ≤ (wrap64 (((rd_T40 x8 (wrap64 (x14 - 1))).f1) + 1)) then (if (wrap64 (((rd_T40 x8 (wrap64 (x14 - 1))).f1) + 1)) < (x0.size : Int) then (skerrylaw01_LexGaps.j2 k x0 x7 x11 ((bt x0 (wrap64 (((rd_T40 x8 (wrap64 (x14 - 1))).f1) + 1))) == 47) x279000 x279001 x279002) else (none)) else (none)) else (skerrylaw01_LexGaps.j2 k x0 x7 x11 false x279000 x279001 x279002)) else (skerrylaw01_LexGaps.j2 k x0 x7 x11 false x279000 x279001 x279002)) else (none)) else (none)) else (skerrylaw01_LexGaps.j2 k x0 x7 x11 false x279000 x279001 x279002)
def skerrylaw01_LexGaps.j2 : Nat → ByteArray → Bool → List (S54) → Bool → Int → Int → ByteArray → Option (Bool)
 | 0, _, _, _, _, _, _, _ => none
 | k + 1, x0, x7, x11, x102, x279000, x279001, x279002 => if x102 = true then (some x7) else ((lex_Change.f k x0 x279000 x279001 x279002).bind fun bt284 => ((lex_Scan.f k bt284.1).bind fun bt286 => (if x7 = true then (if bt284.2 = 0 then (if bt286.2.2 = 0 then ((skerryref01_Same.f k x11 bt286.1).bind fun t291 => (some t291)) else (some false)) else (some false)) else (some false))))
end
def skerrylaw01_LexGaps.f (k : Nat) (a0 : ByteArray) (a1 : Int) (a2 : ByteArray) : Option (Bool) := (skerrylaw01_sane.f k).bind fun t264 => ((lex_Pieces.f a0).bind fun bt265 => ((lex_Scan.f k a0).bind fun bt270 => (if bt265.2.2 = 0 then (if (bt265.1.length : Int) = 0 then (skerrylaw01_LexGaps.j0 k a0 a1 a2 t264 bt265.1 bt270.1 true) else (skerrylaw01_LexGaps.j0 k a0 a1 a2 t264 bt265.1 bt270.1 (decide ((a0.size : Int) > 19800)))) else (skerrylaw01_LexGaps.j0 k a0 a1 a2 t264 bt265.1 bt270.1 true))))
theorem skerrylaw01_LexGaps.mono_l : ∀ k, (∀ y0 y1 y2 y3 y4 y5 y6, LeO (skerrylaw01_LexGaps.j0 k y0 y1 y2 y3 y4 y5 y6) (skerrylaw01_LexGaps.j0 (k + 1) y0 y1 y2 y3 y4 y5 y6)) ∧ (∀ y0 y1 y2 y3 y4 y5 y6 y7, LeO (skerrylaw01_LexGaps.j1 k y0 y1 y2 y3 y4 y5 y6 y7) (skerrylaw01_LexGaps.j1 (k + 1) y0 y1 y2 y3 y4 y5 y6 y7)) ∧ (∀ y0 y1 y2 y3 y4 y5 y6, LeO (skerrylaw01_LexGaps.j2 k y0 y1 y2 y3 y4 y5 y6) (skerrylaw01_LexGaps.j2 (k + 1) y0 y1 y2 y3 y4 y5 y6))
 | 0 => ⟨fun _ _ _ _ _ _ _ r h => by simp [skerrylaw01_LexGaps.j0] at h, fun _ _ _ _ _ _ _ _ r h => by simp [skerrylaw01_LexGaps.j1] at h, fun _ _ _ _ _ _ _ r h => by simp [skerrylaw01_LexGaps.j2] at h⟩
 | k + 1 => by
  obtain ⟨ih0, ih1, ih2⟩ := skerrylaw01_LexGaps.mono_l k
  refine ⟨?_, ?_, ?_⟩
  ·intro y0 y1 y2 y3 y4 y5 y6
   unfold skerrylaw01_LexGaps.j0
   repeat' first
   | (with_reducible exact ih0 _ _ _ _ _ _ _)
   | (with_reducible exact ih1 _ _ _ _ _ _ _ _)
   | (with_reducible exact ih2 _ _ _ _ _ _ _)
   | (with_reducible exact lex_Change.mono _ _ _ _ _)
   | (with_reducible exact lex_Scan.mono _ _)
   | (with_reducible exact skerrylaw01_gap.mono _ _)
   | (with_reducible exact skerrylaw01_sane.mono _)
   | (with_reducible exact skerryref01_Same.mono _ _ _)
   | (with_reducible exact LeO.refl _)
   | (with_reducible exact LeO.none _)
   | (with_reducible refine LeO.ite ?_ ?_)
   | (with_reducible refine LeO.bind ?_ (fun _ => ?_))
   | exact ih0 _ _ _ _ _ _ _
   | exact ih1 _ _ _ _ _ _ _ _
   | exact ih2 _ _ _ _ _ _ _
   | exact lex_Change.mono _ _ _ _ _
   | exact lex_Scan.mono _ _
   | exact skerrylaw01_gap.mono _ _
   | exact skerrylaw01_sane.mono _
   | exact skerryref01_Same.mono _ _ _
   | exact LeO.none _
   | refine LeO.ite ?_ ?_
   | refine LeO.bind ?_ (fun _ => ?_)
  ·intro y0 y1 y2 y3 y4 y5 y6 y7
   unfold skerrylaw01_LexGaps.j1
   repeat' first
   | (with_reducible exact ih0 _ _ _ _ _ _ _)
   | (with_reducible exact ih1 _ _ _ _ _ _ _ _)
   | (with_reducible exact ih2 _ _ _ _ _ _ _)
   | (with_reducible exact lex_Change.mono _ _ _ _ _)
   | (with_reducible exact lex_Scan.mono _ _)
   | (with_reducible exact skerrylaw01_gap.mono _ _)
   | (with_reducible exact skerrylaw01_sane.mono _)
   | (with_reducible exact skerryref01_Same.mono _ _ _)
   | (with_reducible exact LeO.refl _)
   | (with_reducible exact LeO.none _)
   | (with_reducible refine LeO.ite ?_ ?_)
   | (with_reducible refine LeO.bind ?_ (fun _ => ?_))
   | exact ih0 _ _ _ _ _ _ _
   | exact ih1 _ _ _ _ _ _ _ _
   | exact ih2 _ _ _ _ _ _ _
   | exact lex_Change.mono _ _ _ _ _
   | exact lex_Scan.mono _ _
   | exact skerrylaw01_gap.mono _ _
   | exact skerrylaw01_sane.mono _
   | exact skerryref01_Same.mono _ _ _
   | exact LeO.none _
   | refine LeO.ite ?_ ?_
   | refine LeO.bind ?_ (fun _ => ?_)
  ·intro y0 y1 y2 y3 y4 y5 y6
   unfold skerrylaw01_LexGaps.j2
   repeat' first
   | (with_reducible exact ih0 _ _ _ _ _ _ _)
   | (with_reducible exact ih1 _ _ _ _ _ _ _ _)
   | (with_reducible exact ih2 _ _ _ _ _ _ _)
   | (with_reducible exact lex_Change.mono _ _ _ _ _)
   | (with_reducible exact lex_Scan.mono _ _)
   | (with_reducible exact skerrylaw01_gap.mono _ _)
   | (with_reducible exact skerrylaw01_sane.mono _)
   | (with_reducible exact skerryref01_Same.mono _ _ _)
   | (with_reducible exact LeO.refl _)
   | (with_reducible exact LeO.none _)
   | (with_reducible refine LeO.ite ?_ ?_)
   | (with_reducible refine LeO.bind ?_ (fun _ => ?_))
   | exact ih0 _ _ _ _ _ _ _
   | exact ih1 _ _ _ _ _ _ _ _
   | exact ih2 _ _ _ _ _ _ _
   | exact lex_Change.mono _ _ _ _ _
   | exact lex_Scan.mono _ _
   | exact skerrylaw01_gap.mono _ _
   | exact skerrylaw01_sane.mono _
   | exact skerryref01_Same.mono _ _ _
   | exact LeO.none _
   | refine LeO.ite ?_ ?_
   | refine LeO.bind ?_ (fun _ => ?_)
theorem skerrylaw01_LexGaps.mono : ∀ a0 a1 a2 k, LeO (skerrylaw01_LexGaps.f k a0 a1 a2) (skerrylaw01_LexGaps.f (k + 1) a0 a1 a2) := by
 intro a0 a1 a2 k
 obtain ⟨ih0, ih1, ih2⟩ := skerrylaw01_LexGaps.mono_l k
 unfold skerrylaw01_LexGaps.f
 repeat' first
   | (with_reducible exact ih0 _ _ _ _ _ _ _)
   | (with_reducible exact ih1 _ _ _ _ _ _ _ _)
   | (with_reducible exact ih2 _ _ _ _ _ _ _)
   | (with_reducible exact lex_Change.mono _ _ _ _ _)
   | (with_reducible exact lex_Scan.mono _ _)
   | (with_reducible exact skerrylaw01_gap.mono _ _)
   | (with_reducible exact skerrylaw01_sane.mono _)
   | (with_reducible exact skerryref01_Same.mono _ _ _)
   | (with_reducible exact LeO.refl _)
   | (with_reducible exact LeO.none _)
   | (with_reducible refine LeO.ite ?_ ?_)
   | (with_reducible refine LeO.bind ?_ (fun _ => ?_))
   | exact ih0 _ _ _ _ _ _ _
   | exact ih1 _ _ _ _ _ _ _ _
   | exact ih2 _ _ _ _ _ _ _
   | exact lex_Change.mono _ _ _ _ _
   | exact lex_Scan.mono _ _
   | exact skerrylaw01_gap.mono _ _
   | exact skerrylaw01_sane.mono _
   | exact skerryref01_Same.mono _ _ _
   | exact LeO.none _
   | refine LeO.ite ?_ ?_
   | refine LeO.bind ?_ (fun _ => ?_)
def skerrylaw01_LexGaps.T7 : Bool × List (List Nat × List Nat) := (true, [([], []), ([], []), ([0, 1], [0, 1]), ([2], [2]), ([3], [3]), ([], []), ([5], [5]), ([4, 6], [4, 6]), ([], []), ([8, 7, 6, 0, 1, 2, 3, 4, 5, 6, 7, 8], [7, 8])])
def skerrylaw01_LexGaps.B7 : List Nat := [0, 0, 3, 7, 15, 0, 32, 127, 0, 511]
theorem skerrylaw01_LexGaps.tab7 : rtab .any (opsOf Tryd.f5 7) = skerrylaw01_LexGaps.T7 := by kernel_rfl
theorem skerrylaw01_LexGaps.bits7 : waitsOk skerrylaw01_LexGaps.T7.2 skerrylaw01_LexGaps.B7 = true := by kernel_rfl
set_option maxHeartbeats 8000000 in
set_option maxRecDepth 100000 in
theorem skerrylaw01_LexGaps.calls (k : Nat) (a0 : ByteArray) (a1 : Int) (a2 : ByteArray) (r : Bool) (w : World) (h : skerrylaw01_LexGaps.f k a0 a1 a2 = some r) (hE : Lx.Env w) :
  Calls Tryd.prog 5 #[.string a0, .int .i64 a1, .string a2] w fun e w' => e = .returned (.bool r) ∧ Below w.heap.size w w' := by
 have HE := Lib.hid hE
 clear hE
 have hu44 := Tryd.underlying44
 have HB := Aside0.mk (Below.refl w.heap.size w)
 have H : ((skerrylaw01_sane.f k).bind fun t264 => ((lex_Pieces.f a0).bind fun bt265 => ((lex_Scan.f k a0).bind fun bt270 => (if bt265.2.2 = 0 then (if (bt265.1.length : Int) = 0 then (skerrylaw01_LexGaps.j0 k a0 a1 a2 t264 bt265.1 bt270.1 true) else (skerrylaw01_LexGaps.j0 k a0 a1 a2 t264 bt265.1 bt270.1 (decide ((a0.size : Int) > 19800)))) else (skerrylaw01_LexGaps.j0 k a0 a1 a2 t264 bt265.1 bt270.1 true))))) = some r := h
 clear h
 replace H := Option.bind_eq_some_iff.mp H
 obtain ⟨t264, A40, H⟩ := H
 replace H : ((lex_Pieces.f a0).bind fun bt265 => ((lex_Scan.f k a0).bind fun bt270 => (if bt265.2.2 = 0 then (if (bt265.1.length : Int) = 0 then (skerrylaw01_LexGaps.j0 k a0 a1 a2 t264 bt265.1 bt270.1 true) else (skerrylaw01_LexGaps.j0 k a0 a1 a2 t264 bt265.1 bt270.1 (decide ((a0.size : Int) > 19800)))) else (skerrylaw01_LexGaps.j0 k a0 a1 a2 t264 bt265.1 bt270.1 true)))) = some r := H
 have A4 := Aside0.mk A40
 clear A40
 replace H := Option.bind_eq_some_iff.mp H
 obtain ⟨⟨t265, t266, t267⟩, A50, H⟩ := H
 replace H : ((lex_Scan.f k a0).bind fun bt270 => (if t267 = 0 then (if (t265.length : Int) = 0 then (skerrylaw01_LexGaps.j0 k a0 a1 a2 t264 t265 bt270.1 true) else (skerrylaw01_LexGaps.j0 k a0 a1 a2 t264 t265 bt270.1 (decide ((a0.size : Int) > 19800)))) else (skerrylaw01_LexGaps.j0 k a0 a1 a2 t264 t265 bt270.1 true))) = some r := H
 have A5 := Aside0.mk A50
 clear A50
 replace H := Option.bind_eq_some_iff.mp H
 obtain ⟨⟨t270, t271, t272⟩, A60, H⟩ := H
 replace H : (if t267 = 0 then (if (t265.length : Int) = 0 then (skerrylaw01_LexGaps.j0 k a0 a1 a2 t264 t265 t270 true) else (skerrylaw01_LexGaps.j0 k a0 a1 a2 t264 t265 t270 (decide ((a0.size : Int) > 19800)))) else (skerrylaw01_LexGaps.j0 k a0 a1 a2 t264 t265 t270 true)) = some r := H
 have A6 := Aside0.mk A60
 clear A60
 have HC7 := Aside0.mk H
 clear H
 go_enter Tryd.func5, Tryd.ntmps5
 go_upto_region 4 with (first | ((with_reducible refine gate_callee (f := 12) rfl ?_); refine goesL_ (some 21) rfl rfl Tryd.func12 (by kernel_rfl) rfl #[] rfl (by (try simp only [List.map_toArray, List.map_cons, List.map_nil]); first | done | rfl | (simp only [List.length_drop, List.length_take]; rfl)) ?_; (with_reducible refine (skerrylaw01_sane.calls k  t264 _ A4.out (Lx.Env.below HE.out (by repeat (first | (with_reducible first | exact HB.out | apply below_alloc | apply pw_below_drewN | apply below_drew1 | refine below_set ?_ GE278.out) | exact HB.out)))).mono ?_); rintro e w8 ⟨rfl, hb⟩; refine ⟨_, rfl, ?_⟩; have n0_ := Aside0.mk (below_step (by repeat (first | (with_reducible first | exact HB.out | apply below_alloc | apply pw_below_drewN | apply below_drew1) | exact HB.out)) hb); clear HB; have HB := n0_; clear n0_; (try clear hb); (try clear hb2); (try clear hk); (try clear hi)) | ((with_reducible refine gate_callee (f := 13) rfl ?_); refine goesL_ (some 24) rfl rfl Tryd.func13 (by kernel_rfl) rfl #[.string a0] rfl (by (try simp only [List.map_toArray, List.map_cons, List.map_nil]); first | done | rfl | (simp only [List.length_drop, List.length_take]; rfl)) ?_; (with_reducible refine (lex_Pieces.calls a0 t265 t266 t267 _ A5.out (Lx.Env.below HE.out (by repeat (first | (with_reducible first | exact HB.out | apply below_alloc | apply pw_below_drewN | apply below_drew1 | refine below_set ?_ GE278.out) | exact HB.out)))).mono ?_); rintro e w9 ⟨v268, rfl, ho0, hb⟩; refine ⟨_, rfl, ?_⟩; have n0_ := Aside0.mk (Kd.R_lower ho0 (below_size (by repeat (first | (with_reducible first | exact HB.out | apply below_alloc | apply pw_below_drewN | apply below_drew1) | exact HB.out)))); have n1_ := Aside0.mk (below_step (by repeat (first | (with_reducible first | exact HB.out | apply below_alloc | apply pw_below_drewN | apply below_drew1) | exact HB.out)) hb); clear HB; have HO269 := n0_; have HB := n1_; clear n0_ n1_; (try clear hb); (try clear hb2); (try clear hk); (try clear hi); (try clear ho0)) | ((with_reducible refine gate_callee (f := 15) rfl ?_); refine goesL_ (some 30) rfl rfl Tryd.func15 (by kernel_rfl) rfl #[.string a0] rfl (by (try simp only [List.map_toArray, List.map_cons, List.map_nil]); first | done | rfl | (simp only [List.length_drop, List.length_take]; rfl)) ?_; (with_reducible refine (lex_Scan.calls k a0 t270 t271 t272 _ A6.out (Lx.Env.below HE.out (by repeat (first | (with_reducible first | exact HB.out | apply below_alloc | apply pw_below_drewN | apply below_drew1 | refine below_set ?_ GE278.out) | exact HB.out)))).mono ?_); rintro e w10 ⟨v273, rfl, ho0, hb⟩; refine ⟨_, rfl, ?_⟩; have n0_ := Aside0.mk (Kd.R_below (by (with_reducible repeat (first | apply Kd.R_alloc | apply Kd.R_drewN | apply Kd.R_drew)); exact HO269.out) hb); have n1_ := Aside0.mk (Kd.R_lower ho0 (below_size (by repeat (first | (with_reducible first | exact HB.out | apply below_alloc | apply pw_below_drewN | apply below_drew1) | exact HB.out)))); have n2_ := Aside0.mk (below_step (by repeat (first | (with_reducible first | exact HB.out | apply below_alloc | apply pw_below_drewN | apply below_drew1) | exact HB.out)) hb); clear HO269; clear HB; have HO269 := n0_; have HO274 := n1_; have HB := n2_; clear n0_ n1_ n2_; (try clear hb); (try clear hb2); (try clear hk); (try clear hi); (try clear ho0)))
 (try simp only [Act.put, List.setIfInBounds_toArray, List.set_cons_zero, List.set_cons_succ])
 go_cut [45] (fun v45 wc => ∃ (kq : Nat) (x45_6 : Bool), v45 = .bool x45_6 ∧ Aside0 (skerrylaw01_LexGaps.j0 kq a0 a1 a2 t264 t265 t270 x45_6 = some r) ∧ Aside0 (kq ≤ k) ∧ Aside0 (Kd.R k40 40 wc w.heap.size (fun _ => True) v268 t265) ∧ Aside0 (Kd.R k54 54 wc w.heap.size (fun _ => True) v273 t270) ∧ Aside0 (Below w.heap.size w wc))
 case first =>
  have H := HC7.out
  clear HC7
  by_cases c11 : t267 = 0
  ·rw [if_pos c11] at H
   have c11b0 : (t267 == 0) = true := beq_iff_eq.mpr c11
   have c11b1 : (t267 != 0) = false := bne_eq_false_iff_eq.mpr c11
   clear c11
   (first | rw [c11b0] | (simp only [i64_w, i32_w]; rw [c11b0]) | skip)
   by_cases c12 : (t265.length : Int) = 0
   ·rw [if_pos c12] at H
    have c12b0 : ((t265.length : Int) == 0) = true := beq_iff_eq.mpr c12
    have c12b1 : ((t265.length : Int) != 0) = false := bne_eq_false_iff_eq.mpr c12
    clear c12
    have H' := Aside0.mk H
    clear H
    obtain ⟨Ao13, co13, eo13⟩ := Kd.R_slice HO269.out
    subst eo13
    go_wp2
    go_meet
    case rel => exact ⟨_, (true), (by first | rfl | (simp; done) | (simp [*]; done)), H', ⟨by first | omega | exact Nat.le_refl _⟩, ⟨by (with_reducible repeat (first | apply Kd.R_alloc | apply Kd.R_drewN | apply Kd.R_drew)); exact HO269.out⟩, ⟨by (with_reducible repeat (first | apply Kd.R_alloc | apply Kd.R_drewN | apply Kd.R_drew)); exact HO274.out⟩, ⟨by repeat (first | (with_reducible first | exact HB.out | apply below_alloc | apply pw_below_drewN | apply below_drew1) | exact HB.out)⟩⟩
   ·rw [if_neg c12] at H
    have c12b0 : ((t265.length : Int) == 0) = false := beq_eq_false_iff_ne.mpr c12
    have c12b1 : ((t265.length : Int) != 0) = true := bne_iff_ne.mpr c12
    have c12b2 : ¬ (t265 = []) := fun h_ => c12 (by rw [h_]; rfl)
    have H' := Aside0.mk H
    clear H
    obtain ⟨Ao14, co14, eo14⟩ := Kd.R_slice HO269.out
    subst eo14
    go_wp2
    go_meet
    case rel => exact ⟨_, (decide ((a0.size : Int) > 19800)), (by first | rfl | (simp; done) | (simp [*]; done)), H', ⟨by first | omega | exact Nat.le_refl _⟩, ⟨by (with_reducible repeat (first | apply Kd.R_alloc | apply Kd.R_drewN | apply Kd.R_drew)); exact HO269.out⟩, ⟨by (with_reducible repeat (first | apply Kd.R_alloc | apply Kd.R_drewN | apply Kd.R_drew)); exact HO274.out⟩, ⟨by repeat (first | (with_reducible first | exact HB.out | apply below_alloc | apply pw_below_drewN | apply below_drew1) | exact HB.out)⟩⟩
  ·rw [if_neg c11] at H
   have c11b0 : (t267 == 0) = false := beq_eq_false_iff_ne.mpr c11
   have c11b1 : (t267 != 0) = true := bne_iff_ne.mpr c11
   (first | rw [c11b0] | (simp only [i64_w, i32_w]; rw [c11b0]) | skip)
   have H' := Aside0.mk H
   clear H
   go_wp2
   go_meet
   case rel => exact ⟨_, (true), (by first | rfl | (simp; done) | (simp [*]; done)), H', ⟨by first | omega | exact Nat.le_refl _⟩, ⟨by (with_reducible repeat (first | apply Kd.R_alloc | apply Kd.R_drewN | apply Kd.R_drew)); exact HO269.out⟩, ⟨by (with_reducible repeat (first | apply Kd.R_alloc | apply Kd.R_drewN | apply Kd.R_drew)); exact HO274.out⟩, ⟨by repeat (first | (with_reducible first | exact HB.out | apply below_alloc | apply pw_below_drewN | apply below_drew1) | exact HB.out)⟩⟩
 case rest =>
  clear HC7
  try clear c1
  try clear p2
  try clear c5
  try clear c11
  try clear c11b0
  try clear c11b1
  try clear c12
  try clear c12b0
  try clear c12b1
  try clear c12b2
  try clear c13
  obtain ⟨kq, x45_6, rfl, HA, HJ6, HO_8, HO_11, HB⟩ := hcut
  cases kq with
  | zero => exact absurd HA.out (by simp [skerrylaw01_LexGaps.j0])
  | succ kj6 =>
   have H := HA.out
   clear HA
   simp only [skerrylaw01_LexGaps.j0] at H
   by_cases c15 : x45_6 = true
   ·subst c15
    have H1 : (some t264) = some r := by rw [if_pos rfl] at H; exact H
    clear H
    have H := H1
    clear H1
    obtain rfl := Option.some.inj H
    go_wp2
    go_ret
    exact ⟨by first | rfl | (simp [errW_none, errW_some] <;> rfl) | (simp [*, errW_none, errW_some] <;> rfl), by repeat (first | (with_reducible first | exact HB.out | apply below_alloc | apply pw_below_drewN | apply below_drew1) | exact HB.out)⟩
   ·replace c15 := Bool.eq_false_iff.mpr c15
    subst c15
    have H1 : ((skerryref01_Mod.f a1 (t265.length : Int)).bind fun t275 => (if 0 ≤ t275 then (if t275 < (t265.length : Int) then ((skerrylaw01_gap.f kj6 a2).bind fun t277 => (if ((rd_T40 t265 t275).f0) ≥ 7 then (skerrylaw01_LexGaps.j1 kj6 a0 t264 t265 t270 t275 ((rd_T40 t265 t275).f1) ((rd_T40 t265 t275).f2) t277) else (skerrylaw01_LexGaps.j1 kj6 a0 t264 t265 t270 t275 ((rd_T40 t265 t275).f1) 0 t277))) else (none)) else (none))) = some r := by rw [if_neg (show ¬ (false = true) by decide)] at H; exact H
    clear H
    have H := H1
    clear H1
    replace H := Option.bind_eq_some_iff.mp H
    obtain ⟨t275, A160, H⟩ := H
    replace H : (if 0 ≤ t275 then (if t275 < (t265.length : Int) then ((skerrylaw01_gap.f kj6 a2).bind fun t277 => (if ((rd_T40 t265 t275).f0) ≥ 7 then (skerrylaw01_LexGaps.j1 kj6 a0 t264 t265 t270 t275 ((rd_T40 t265 t275).f1) ((rd_T40 t265 t275).f2) t277) else (skerrylaw01_LexGaps.j1 kj6 a0 t264 t265 t270 t275 ((rd_T40 t265 t275).f1) 0 t277))) else (none)) else (none)) = some r := H
    have A16 := Aside0.mk A160
    clear A160
    by_cases c17 : 0 ≤ t275
    ·rw [if_pos c17] at H
     have c17b0 : decide (0 ≤ t275) = true := decide_eq_true c17
     clear c17
     by_cases c18 : t275 < (t265.length : Int)
     ·rw [if_pos c18] at H
      have c18b0 : decide (t275 < (t265.length : Int)) = true := decide_eq_true c18
      clear c18
      replace H := Option.bind_eq_some_iff.mp H
      obtain ⟨t277, A190, H⟩ := H
      replace H : (if ((rd_T40 t265 t275).f0) ≥ 7 then (skerrylaw01_LexGaps.j1 kj6 a0 t264 t265 t270 t275 ((rd_T40 t265 t275).f1) ((rd_T40 t265 t275).f2) t277) else (skerrylaw01_LexGaps.j1 kj6 a0 t264 t265 t270 t275 ((rd_T40 t265 t275).f1) 0 t277)) = some r := H
      have A19 := Aside0.mk A190
      clear A190
      have HC20 := Aside0.mk H
      clear H
      obtain ⟨Ao21, co21, eo21⟩ := Kd.R_slice HO_8.out
      subst eo21
      try go_wp2_with (first | ((with_reducible refine gate_callee (f := 19) rfl ?_); refine goesL_ (some 50) rfl rfl Tryd.func19 (by kernel_rfl) rfl #[.int .i64 a1, .int .i64 (t265.length : Int)] rfl (by (try simp only [List.map_toArray, List.map_cons, List.map_nil]); first | done | rfl | (simp only [List.length_drop, List.length_take]; rfl)) ?_; (with_reducible refine (skerryref01_Mod.calls a1 (t265.length : Int) t275 _ A16.out).mono ?_); rintro e w' ⟨rfl, ⟨nd, rfl⟩⟩; refine ⟨_, rfl, ?_⟩; (try (rw [drewN_self wc]; generalize hq_ : World.drewN wc _ = wc; have n0_ : Aside0 (Kd.R k54 54 wc w.heap.size (fun _ => True) v273 t270) := ⟨by rw [← hq_]; exact (by (with_reducible repeat (first | apply Kd.R_alloc | apply Kd.R_drewN | apply Kd.R_drew)); exact HO_11.out)⟩; have n1_ : Aside0 (Kd.R k40 40 wc w.heap.size (fun _ => True) (.slice Ao21 t265.length co21) t265) := ⟨by rw [← hq_]; exact (by (with_reducible repeat (first | apply Kd.R_alloc | apply Kd.R_drewN | apply Kd.R_drew)); exact HO_8.out)⟩; have n2_ : Aside0 (Below w.heap.size w wc) := ⟨by rw [← hq_]; exact (by repeat (first | (with_reducible first | exact HB.out | apply below_alloc | apply pw_below_drewN | apply below_drew1) | exact HB.out))⟩; clear HO_11 HO_8 HB hq_; have HO_11 := n0_; have HO_8 := n1_; have HB := n2_; clear n0_ n1_ n2_))))
      have n0_ := Aside0.mk (Kd.R_drew HO_8.out)
      have n1_ := Aside0.mk (Kd.R_drew HO_11.out)
      have n2_ := Aside0.mk (below_drew1 HB.out)
      clear HO_8
      clear HO_11
      clear HB
      have HO_8 := n0_
      have HO_11 := n1_
      have HB := n2_
      clear n0_ n1_ n2_
      have p276 : 0 ≤ (t275 : Int) := of_decide_eq_true (by first | (with_reducible assumption) | assumption)
      have q276 : t275 < (t265.length : Int) := of_decide_eq_true (by first | (with_reducible assumption) | assumption)
      obtain ⟨ad276, e276, hx276_0, hx276_1, hx276_2⟩ := at_T40 (Kd.R_reads' HO_8.out).2.2 t275 p276 q276
      cases e276
      replace p276 := eq_true p276
      replace q276 := eq_true q276
      refine start_ (n := 10) (S := fun w' => w'.cell? (ad276.add ((t275).toNat * 3)) = some (.int .i64 ((rd_T40 t265 t275).f0)) ∧ w'.cell? ⟨(ad276.add ((t275).toNat * 3)).block, (ad276.add ((t275).toNat * 3)).off + 1, none⟩ = some (.int .i64 ((rd_T40 t265 t275).f1)) ∧ w'.cell? ⟨(ad276.add ((t275).toNat * 3)).block, (ad276.add ((t275).toNat * 3)).off + 2, none⟩ = some (.int .i64 ((rd_T40 t265 t275).f2))) (ds := []) #[false, false, false, false, false, false, false, false, false, false] (by kernel_rfl) rfl rfl ⟨hx276_0, hx276_1, hx276_2⟩ (fun hHeld => ?_); refine with_tabW skerrylaw01_LexGaps.tab7 skerrylaw01_LexGaps.bits7 (fun HT_ HW_ => ?_)
      generalize wc.drew = w22 at HO_8 HO_11 HB hx276_0 hx276_1 hx276_2 hHeld ⊢
      refine pure_ (i := 0) (N := some 51) (v := ?_) (a' := ?_) #[true, false, false, false, false, false, false, false, false, false] rfl rfl (any_of HT_.out (by kernel_rfl)) (fun _ _ _ h => h) (Or.inl ⟨by rfl, ?_⟩) ?_ ?_
      rotate_left
      ·intro w'
       go_simp
       with_reducible rfl
      rotate_left
      ·simp only [Act.put, List.setIfInBounds_toArray, List.set_cons_zero, List.set_cons_succ, i64_w, i32_w]
       rfl
      refine pure_ (i := 1) (N := some 52) (v := ?_) (a' := ?_) #[true, true, false, false, false, false, false, false, false, false] rfl rfl (any_of HT_.out (by kernel_rfl)) (fun _ _ _ h => h) (Or.inl ⟨by rfl, ?_⟩) ?_ ?_
      rotate_left
      ·intro w'
       go_simp
       with_reducible rfl
      rotate_left
      ·simp only [Act.put, List.setIfInBounds_toArray, List.set_cons_zero, List.set_cons_succ, i64_w, i32_w]
       rfl
      refine pure_ (i := 2) (N := some 53) (v := ?_) (a' := ?_) #[true, true, true, false, false, false, false, false, false, false] rfl rfl (any_of HT_.out (by kernel_rfl)) (fun _ _ _ h => h) (Or.inl ⟨by rfl, ?_⟩) ?_ ?_
      rotate_left
      ·intro w'
       go_simp
       with_reducible rfl
      rotate_left
      ·simp only [Act.put, List.setIfInBounds_toArray, List.set_cons_zero, List.set_cons_succ, i64_w, i32_w]
       rfl
      refine pure_ (i := 3) (N := some 54) (v := ?_) (a' := ?_) #[true, true, true, true, false, false, false, false, false, false] rfl rfl (any_of HT_.out (by kernel_rfl)) (fun _ _ _ h => h) (Or.inl ⟨by rfl, ?_⟩) ?_ ?_
      rotate_left
      ·intro w'
       go_simp
       with_reducible rfl
      rotate_left
      ·simp only [Act.put, List.setIfInBounds_toArray, List.set_cons_zero, List.set_cons_succ, i64_w, i32_w]
       rfl
      refine pure_ (i := 5) (N := some 56) (v := ?_) (a' := ?_) #[true, true, true, true, false, true, false, false, false, false] rfl rfl (any_of HT_.out (by kernel_rfl)) (fun _ _ _ h => h) (Or.inl ⟨by rfl, ?_⟩) ?_ ?_
      rotate_left
      ·intro w'
       go_simp
       with_reducible rfl
      rotate_left
      ·simp only [Act.put, List.setIfInBounds_toArray, List.set_cons_zero, List.set_cons_succ, i64_w, i32_w]
       rfl
      refine take_ (i := 4) (N := some 55) (v := ?_) (a' := ?_) #[true, true, true, true, true, true, false, false, false, false] rfl rfl (take_ofW HT_.out HW_.out (by kernel_rfl)) (fun _ _ _ h => h) (Or.inl ⟨by rfl, ?_⟩) hHeld ?_ ?_
      rotate_left
      ·rintro w' ⟨s0, s1, s2⟩
       go_simp
       with_reducible rfl
      rotate_left
      ·simp only [Act.put, List.setIfInBounds_toArray, List.set_cons_zero, List.set_cons_succ, i64_w, i32_w]
       rfl
      refine join_ (σ := Nat) 1 #[true, true, true, true, true, true, true, true, true, false] (fun s_ => [(57, .string t277), (15, .pointer (some ⟨s_, 0, none⟩)), (58, .agg #[.int .i64 ((rd_T40 t265 t275).f1), .int .i64 0, .string t277])]) (fun s_ w' => (w'.cell? (ad276.add ((t275).toNat * 3)) = some (.int .i64 ((rd_T40 t265 t275).f0)) ∧ w'.cell? ⟨(ad276.add ((t275).toNat * 3)).block, (ad276.add ((t275).toNat * 3)).off + 1, none⟩ = some (.int .i64 ((rd_T40 t265 t275).f1)) ∧ w'.cell? ⟨(ad276.add ((t275).toNat * 3)).block, (ad276.add ((t275).toNat * 3)).off + 2, none⟩ = some (.int .i64 ((rd_T40 t265 t275).f2))) ∧ (Kd.R k54 54 w' w.heap.size (fun _ => True) v273 t270) ∧ (Kd.R k40 40 w' w.heap.size (fun _ => True) (.slice (some ad276) t265.length co21) t265) ∧ (w'.heap[s_]? = some (.cells #[.int .i64 0, .int .i64 0, .string (⟨#[]⟩ : ByteArray)] 44 (0, 0))) ∧ (w.heap.size ≤ s_) ∧ (w.heap.size ≤ s_) ∧ (Below w.heap.size w w')) ?_ ?_
      rotate_left
      ·intro hCont
       refine two_ (i := 6) (j := 8) (Ni := some 57) (Nj := some 15) #[true, true, true, true, true, true, true, false, false, false] #[true, true, true, true, true, true, false, false, true, false] rfl rfl rfl rfl (two_of HT_.out (by kernel_rfl)) (by decide) (by decide) (fun K hK => ?_) (fun K hK => ?_)
       ·skip
        refine goes_ Tryd.func20 (by kernel_rfl) rfl #[.string a2] (by rfl) rfl rfl (by (try simp only [List.map_toArray, List.map_cons, List.map_nil]); first | done | rfl | (simp only [List.length_drop, List.length_take]; rfl)) ?_
        with_reducible refine (skerrylaw01_gap.calls kj6 a2 t277 _ A19.out).mono ?_
        rintro e w' ⟨rfl, ⟨nd, rfl⟩⟩
        refine ⟨_, rfl, ?_⟩
        refine hK.out _ _ ⟨hHeld.1, hHeld.2.1, hHeld.2.2⟩ (fun hHeld => ?_)
        clear hK K
        refine norm_ (a' := ?_) ?_ ?_
        rotate_left
        ·show Act.put _ (some 57) _ = _
         simp only [Act.put, List.setIfInBounds_toArray, List.set_cons_zero, List.set_cons_succ, i64_w, i32_w]
         rfl
        refine pure_ (i := 7) (N := some 58) (v := ?_) (a' := ?_) #[true, true, true, true, true, true, true, true, false, false] rfl rfl (any_of HT_.out (by kernel_rfl)) (fun _ _ _ h => h) (Or.inl ⟨by rfl, ?_⟩) ?_ ?_
        rotate_left
        ·intro w'
         go_simp
         with_reducible rfl
        rotate_left
        ·simp only [Act.put, List.setIfInBounds_toArray, List.set_cons_zero, List.set_cons_succ, i64_w, i32_w]
         rfl
        refine one_ (i := 8) (N := some 15) #[true, true, true, true, true, true, true, true, true, false] rfl rfl (one_of HT_.out (by kernel_rfl)) (by decide) (fun K hK => ?_)
        refine box_step ?hg (N := 15) ?hd (cs := #[.int .i64 0, .int .i64 0, .string (⟨#[]⟩ : ByteArray)]) (t := 44) ?hr ?_; (case hd => rfl); (case hg => rfl); (case hr => first | (go_simp; done) | (go_simp; rfl))
        intro gb278 hg w23 hbox hb
        have HS0_ := (hb.cell (World.block_lt_of_cell? _ _ (hHeld.1))).trans (hHeld.1)
        have HS1_ := (hb.cell (World.block_lt_of_cell? _ _ (hHeld.2.1))).trans (hHeld.2.1)
        have HS2_ := (hb.cell (World.block_lt_of_cell? _ _ (hHeld.2.2))).trans (hHeld.2.2)
        have n0_ := Aside0.mk (Kd.R_below (by (with_reducible repeat (first | apply Kd.R_alloc | apply Kd.R_drewN | apply Kd.R_drew)); exact HO_8.out) hb)
        have n1_ := Aside0.mk (Kd.R_below (by (with_reducible repeat (first | apply Kd.R_alloc | apply Kd.R_drewN | apply Kd.R_drew)); exact HO_11.out) hb)
        have n2_ := Aside0.mk (below_step (by repeat (first | (with_reducible first | exact HB.out | apply below_alloc | apply pw_below_drewN | apply below_drew1) | exact HB.out)) hb)
        have n3_ := Aside0.mk (hbox)
        have n4_ := Aside0.mk ((by rw [hg]; exact (below_size (by repeat (first | (with_reducible first | exact HB.out | apply below_alloc | apply pw_below_drewN | apply below_drew1) | exact HB.out))) : w.heap.size ≤ gb278))
        have n5_ := Aside0.mk ((by rw [hg]; exact (below_size (by repeat (first | (with_reducible first | exact HB.out | apply below_alloc | apply pw_below_drewN | apply below_drew1) | exact HB.out))) : w.heap.size ≤ gb278))
        clear HO_8
        clear HO_11
        clear HB
        have HO_8 := n0_
        have HO_11 := n1_
        have HB := n2_
        have BK278 := n3_
        have GW278 := n4_
        have GE278 := n5_
        clear n0_ n1_ n2_ n3_ n4_ n5_
        clear hb hbox hg
        refine hK.out _ _ ⟨HS0_, HS1_, HS2_⟩ (fun hHeld => ?_)
        clear hK K
        refine norm_ (a' := ?_) ?_ ?_
        rotate_left
        ·show Act.put _ (some 15) _ = _
         simp only [Act.put, List.setIfInBounds_toArray, List.set_cons_zero, List.set_cons_succ, i64_w, i32_w]
         rfl
        exact norm_ (by simp only [putAll, Act.put, List.setIfInBounds_toArray, List.set_cons_zero, List.set_cons_succ]) (hCont (gb278) _ ⟨hHeld, (by (with_reducible repeat (first | apply Kd.R_alloc | apply Kd.R_drewN | apply Kd.R_drew)); exact HO_11.out), (by (with_reducible repeat (first | apply Kd.R_alloc | apply Kd.R_drewN | apply Kd.R_drew)); exact HO_8.out), (by (with_reducible repeat (first | refine blk_drewN ?_ _ | refine blk_drew ?_ | refine blk_alloc ?_ _)); exact BK278.out), GW278.out, GE278.out, (by repeat (first | (with_reducible first | exact HB.out | apply below_alloc | apply pw_below_drewN | apply below_drew1 | refine below_set ?_ GE278.out) | exact HB.out))⟩)
       ·skip
        refine box_step ?hg (N := 15) ?hd (cs := #[.int .i64 0, .int .i64 0, .string (⟨#[]⟩ : ByteArray)]) (t := 44) ?hr ?_; (case hd => rfl); (case hg => rfl); (case hr => first | (go_simp; done) | (go_simp; rfl))
        intro gb278 hg w23 hbox hb
        have HS0_ := (hb.cell (World.block_lt_of_cell? _ _ (hHeld.1))).trans (hHeld.1)
        have HS1_ := (hb.cell (World.block_lt_of_cell? _ _ (hHeld.2.1))).trans (hHeld.2.1)
        have HS2_ := (hb.cell (World.block_lt_of_cell? _ _ (hHeld.2.2))).trans (hHeld.2.2)
        have n0_ := Aside0.mk (Kd.R_below (by (with_reducible repeat (first | apply Kd.R_alloc | apply Kd.R_drewN | apply Kd.R_drew)); exact HO_8.out) hb)
        have n1_ := Aside0.mk (Kd.R_below (by (with_reducible repeat (first | apply Kd.R_alloc | apply Kd.R_drewN | apply Kd.R_drew)); exact HO_11.out) hb)
        have n2_ := Aside0.mk (below_step (by repeat (first | (with_reducible first | exact HB.out | apply below_alloc | apply pw_below_drewN | apply below_drew1) | exact HB.out)) hb)
        have n3_ := Aside0.mk (hbox)
        have n4_ := Aside0.mk ((by rw [hg]; exact (below_size (by repeat (first | (with_reducible first | exact HB.out | apply below_alloc | apply pw_below_drewN | apply below_drew1) | exact HB.out))) : w.heap.size ≤ gb278))
        have n5_ := Aside0.mk ((by rw [hg]; exact (below_size (by repeat (first | (with_reducible first | exact HB.out | apply below_alloc | apply pw_below_drewN | apply below_drew1) | exact HB.out))) : w.heap.size ≤ gb278))
        clear HO_8
        clear HO_11
        clear HB
        have HO_8 := n0_
        have HO_11 := n1_
        have HB := n2_
        have BK278 := n3_
        have GW278 := n4_
        have GE278 := n5_
        clear n0_ n1_ n2_ n3_ n4_ n5_
        clear hb hbox hg
        refine hK.out _ _ ⟨HS0_, HS1_, HS2_⟩ (fun hHeld => ?_)
        clear hK K
        refine norm_ (a' := ?_) ?_ ?_
        rotate_left
        ·show Act.put _ (some 15) _ = _
         simp only [Act.put, List.setIfInBounds_toArray, List.set_cons_zero, List.set_cons_succ, i64_w, i32_w]
         rfl
        refine one_ (i := 6) (N := some 57) #[true, true, true, true, true, true, true, false, true, false] rfl rfl (one_of HT_.out (by kernel_rfl)) (by decide) (fun K hK => ?_)
        refine goes_ Tryd.func20 (by kernel_rfl) rfl #[.string a2] (by rfl) rfl rfl (by (try simp only [List.map_toArray, List.map_cons, List.map_nil]); first | done | rfl | (simp only [List.length_drop, List.length_take]; rfl)) ?_
        with_reducible refine (skerrylaw01_gap.calls kj6 a2 t277 _ A19.out).mono ?_
        rintro e w' ⟨rfl, ⟨nd, rfl⟩⟩
        refine ⟨_, rfl, ?_⟩
        refine hK.out _ _ ⟨hHeld.1, hHeld.2.1, hHeld.2.2⟩ (fun hHeld => ?_)
        clear hK K
        refine norm_ (a' := ?_) ?_ ?_
        rotate_left
        ·show Act.put _ (some 57) _ = _
         simp only [Act.put, List.setIfInBounds_toArray, List.set_cons_zero, List.set_cons_succ, i64_w, i32_w]
         rfl
        refine pure_ (i := 7) (N := some 58) (v := ?_) (a' := ?_) #[true, true, true, true, true, true, true, true, true, false] rfl rfl (any_of HT_.out (by kernel_rfl)) (fun _ _ _ h => h) (Or.inl ⟨by rfl, ?_⟩) ?_ ?_
        rotate_left
        ·intro w'
         go_simp
         with_reducible rfl
        rotate_left
        ·simp only [Act.put, List.setIfInBounds_toArray, List.set_cons_zero, List.set_cons_succ, i64_w, i32_w]
         rfl
        exact norm_ (by simp only [putAll, Act.put, List.setIfInBounds_toArray, List.set_cons_zero, List.set_cons_succ]) (hCont (gb278) _ ⟨hHeld, (by (with_reducible repeat (first | apply Kd.R_alloc | apply Kd.R_drewN | apply Kd.R_drew)); exact HO_11.out), (by (with_reducible repeat (first | apply Kd.R_alloc | apply Kd.R_drewN | apply Kd.R_drew)); exact HO_8.out), (by (with_reducible repeat (first | refine blk_drewN ?_ _ | refine blk_drew ?_ | refine blk_alloc ?_ _)); exact BK278.out), GW278.out, GE278.out, (by repeat (first | (with_reducible first | exact HB.out | apply below_alloc | apply pw_below_drewN | apply below_drew1 | refine below_set ?_ GE278.out) | exact HB.out))⟩)
      rintro gb278 w24 ⟨hS_, h0_, h1_, h2_, h3_, h4_, h5_⟩
      have n0_ : Aside0 (Kd.R k54 54 w24 w.heap.size (fun _ => True) v273 t270) := ⟨h0_⟩
      have n1_ : Aside0 (Kd.R k40 40 w24 w.heap.size (fun _ => True) (.slice (some ad276) t265.length co21) t265) := ⟨h1_⟩
      have n2_ : Aside0 (w24.heap[gb278]? = some (.cells #[.int .i64 0, .int .i64 0, .string (⟨#[]⟩ : ByteArray)] 44 (0, 0))) := ⟨h2_⟩
      have n3_ : Aside0 (w.heap.size ≤ gb278) := ⟨h3_⟩
      have n4_ : Aside0 (w.heap.size ≤ gb278) := ⟨h4_⟩
      have n5_ : Aside0 (Below w.heap.size w w24) := ⟨h5_⟩
      clear HO_8
      clear HO_11
      clear HB
      clear h0_ h1_ h2_ h3_ h4_ h5_
      have HO_11 := n0_
      have HO_8 := n1_
      have BK278 := n2_
      have GW278 := n3_
      have GE278 := n4_
      have HB := n5_
      clear n0_ n1_ n2_ n3_ n4_ n5_
      have hHeld : w24.cell? (ad276.add ((t275).toNat * 3)) = some (.int .i64 ((rd_T40 t265 t275).f0)) ∧ w24.cell? ⟨(ad276.add ((t275).toNat * 3)).block, (ad276.add ((t275).toNat * 3)).off + 1, none⟩ = some (.int .i64 ((rd_T40 t265 t275).f1)) ∧ w24.cell? ⟨(ad276.add ((t275).toNat * 3)).block, (ad276.add ((t275).toNat * 3)).off + 2, none⟩ = some (.int .i64 ((rd_T40 t265 t275).f2)) := hS_
      refine norm_ (a' := ?_) ?_ ?_
      rotate_left
      ·simp only [putAll, Act.put, List.setIfInBounds_toArray, List.set_cons_zero, List.set_cons_succ]
       rfl
      refine one_ (i := 9) (N := none) #[true, true, true, true, true, true, true, true, true, true] rfl rfl (one_of HT_.out (by kernel_rfl)) (by decide) (fun K hK => ?_)
      have hs25 : w24.cell? ⟨gb278, 0, none⟩ = some (.int .i64 0) := (blk_cell BK278.out 0).trans rfl
      have hfs25 := blk_frozen BK278.out 0
      have hs26 : w24.cell? ⟨gb278, 1, none⟩ = some (.int .i64 0) := (blk_cell BK278.out 1).trans rfl
      have hfs26 := blk_frozen BK278.out 1
      have hs27 : w24.cell? ⟨gb278, 2, none⟩ = some (.string (⟨#[]⟩ : ByteArray)) := (blk_cell BK278.out 2).trans rfl
      have hfs27 := blk_frozen BK278.out 2
      refine skip_ (w1 := ?_) (by rfl) rfl ?_ ?_
      rotate_left
      ·go_simp
       rfl
      refine hK.out _ _ ⟨((cell_far (p := ⟨gb278, _, none⟩) (by first | exact Kd.own_blk (Kd.R_ne HO_8.out BK278.out (by decide)) | (rw [add_block]; exact Kd.own_blk (Kd.R_ne HO_8.out BK278.out (by decide))) | (show (Addr.add _ _).block ≠ _; rw [add_block]; exact Kd.own_blk (Kd.R_ne HO_8.out BK278.out (by decide))) | (dsimp only; exact Kd.own_blk (Kd.R_ne HO_8.out BK278.out (by decide)))) _).trans (((cell_far (p := ⟨gb278, _, none⟩) (by first | exact Kd.own_blk (Kd.R_ne HO_8.out BK278.out (by decide)) | (rw [add_block]; exact Kd.own_blk (Kd.R_ne HO_8.out BK278.out (by decide))) | (show (Addr.add _ _).block ≠ _; rw [add_block]; exact Kd.own_blk (Kd.R_ne HO_8.out BK278.out (by decide))) | (dsimp only; exact Kd.own_blk (Kd.R_ne HO_8.out BK278.out (by decide)))) _).trans (((cell_far (p := ⟨gb278, _, none⟩) (by first | exact Kd.own_blk (Kd.R_ne HO_8.out BK278.out (by decide)) | (rw [add_block]; exact Kd.own_blk (Kd.R_ne HO_8.out BK278.out (by decide))) | (show (Addr.add _ _).block ≠ _; rw [add_block]; exact Kd.own_blk (Kd.R_ne HO_8.out BK278.out (by decide))) | (dsimp only; exact Kd.own_blk (Kd.R_ne HO_8.out BK278.out (by decide)))) _).trans (hHeld.1)))))), ((cell_far (p := ⟨gb278, _, none⟩) (by first | exact Kd.own_blk (Kd.R_ne HO_8.out BK278.out (by decide)) | (rw [add_block]; exact Kd.own_blk (Kd.R_ne HO_8.out BK278.out (by decide))) | (show (Addr.add _ _).block ≠ _; rw [add_block]; exact Kd.own_blk (Kd.R_ne HO_8.out BK278.out (by decide))) | (dsimp only; exact Kd.own_blk (Kd.R_ne HO_8.out BK278.out (by decide)))) _).trans (((cell_far (p := ⟨gb278, _, none⟩) (by first | exact Kd.own_blk (Kd.R_ne HO_8.out BK278.out (by decide)) | (rw [add_block]; exact Kd.own_blk (Kd.R_ne HO_8.out BK278.out (by decide))) | (show (Addr.add _ _).block ≠ _; rw [add_block]; exact Kd.own_blk (Kd.R_ne HO_8.out BK278.out (by decide))) | (dsimp only; exact Kd.own_blk (Kd.R_ne HO_8.out BK278.out (by decide)))) _).trans (((cell_far (p := ⟨gb278, _, none⟩) (by first | exact Kd.own_blk (Kd.R_ne HO_8.out BK278.out (by decide)) | (rw [add_block]; exact Kd.own_blk (Kd.R_ne HO_8.out BK278.out (by decide))) | (show (Addr.add _ _).block ≠ _; rw [add_block]; exact Kd.own_blk (Kd.R_ne HO_8.out BK278.out (by decide))) | (dsimp only; exact Kd.own_blk (Kd.R_ne HO_8.out BK278.out (by decide)))) _).trans (hHeld.2.1)))))), ((cell_far (p := ⟨gb278, _, none⟩) (by first | exact Kd.own_blk (Kd.R_ne HO_8.out BK278.out (by decide)) | (rw [add_block]; exact Kd.own_blk (Kd.R_ne HO_8.out BK278.out (by decide))) | (show (Addr.add _ _).block ≠ _; rw [add_block]; exact Kd.own_blk (Kd.R_ne HO_8.out BK278.out (by decide))) | (dsimp only; exact Kd.own_blk (Kd.R_ne HO_8.out BK278.out (by decide)))) _).trans (((cell_far (p := ⟨gb278, _, none⟩) (by first | exact Kd.own_blk (Kd.R_ne HO_8.out BK278.out (by decide)) | (rw [add_block]; exact Kd.own_blk (Kd.R_ne HO_8.out BK278.out (by decide))) | (show (Addr.add _ _).block ≠ _; rw [add_block]; exact Kd.own_blk (Kd.R_ne HO_8.out BK278.out (by decide))) | (dsimp only; exact Kd.own_blk (Kd.R_ne HO_8.out BK278.out (by decide)))) _).trans (((cell_far (p := ⟨gb278, _, none⟩) (by first | exact Kd.own_blk (Kd.R_ne HO_8.out BK278.out (by decide)) | (rw [add_block]; exact Kd.own_blk (Kd.R_ne HO_8.out BK278.out (by decide))) | (show (Addr.add _ _).block ≠ _; rw [add_block]; exact Kd.own_blk (Kd.R_ne HO_8.out BK278.out (by decide))) | (dsimp only; exact Kd.own_blk (Kd.R_ne HO_8.out BK278.out (by decide)))) _).trans (hHeld.2.2))))))⟩ (fun hHeld => ?_)
      clear hK K
      refine done_ (done_of HT_.out (by kernel_rfl)) ?_
      have p279 : 0 ≤ (t275 : Int) := of_decide_eq_true (by first | (with_reducible assumption) | assumption)
      have q279 : t275 < (t265.length : Int) := of_decide_eq_true (by first | (with_reducible assumption) | assumption)
      obtain ⟨ad279, e279, hx279_0, hx279_1, hx279_2⟩ := at_T40 (Kd.R_reads' HO_8.out).2.2 t275 p279 q279
      obtain rfl : ad276 = ad279 := (by injection e279)
      have hn279_0 : ad276.block ≠ gb278 := Kd.own_blk (Kd.R_ne HO_8.out BK278.out (by decide))
      have hn279_1 : ad276.block ≠ gb278 := Kd.own_blk (Kd.R_ne HO_8.out BK278.out (by decide))
      have hn279_2 : ad276.block ≠ gb278 := Kd.own_blk (Kd.R_ne HO_8.out BK278.out (by decide))
      replace hx279_0 := (cell_far (p := ⟨gb278, 0, none⟩) (by first | (rw [add_block]; exact hn279_0) | (show (Addr.add _ _).block ≠ _; rw [add_block]; exact hn279_0) | exact hn279_0) (.int .i64 ((rd_T40 t265 t275).f1))).trans hx279_0
      replace hx279_1 := (cell_far (p := ⟨gb278, 0, none⟩) (by first | (rw [add_block]; exact hn279_0) | (show (Addr.add _ _).block ≠ _; rw [add_block]; exact hn279_0) | exact hn279_0) (.int .i64 ((rd_T40 t265 t275).f1))).trans hx279_1
      replace hx279_2 := (cell_far (p := ⟨gb278, 0, none⟩) (by first | (rw [add_block]; exact hn279_0) | (show (Addr.add _ _).block ≠ _; rw [add_block]; exact hn279_0) | exact hn279_0) (.int .i64 ((rd_T40 t265 t275).f1))).trans hx279_2
      replace hx279_0 := (cell_far (p := ⟨gb278, 1, none⟩) (by first | (rw [add_block]; exact hn279_1) | (show (Addr.add _ _).block ≠ _; rw [add_block]; exact hn279_1) | exact hn279_1) (.int .i64 0)).trans hx279_0
      replace hx279_1 := (cell_far (p := ⟨gb278, 1, none⟩) (by first | (rw [add_block]; exact hn279_1) | (show (Addr.add _ _).block ≠ _; rw [add_block]; exact hn279_1) | exact hn279_1) (.int .i64 0)).trans hx279_1
      replace hx279_2 := (cell_far (p := ⟨gb278, 1, none⟩) (by first | (rw [add_block]; exact hn279_1) | (show (Addr.add _ _).block ≠ _; rw [add_block]; exact hn279_1) | exact hn279_1) (.int .i64 0)).trans hx279_2
      replace hx279_0 := (cell_far (p := ⟨gb278, 2, none⟩) (by first | (rw [add_block]; exact hn279_2) | (show (Addr.add _ _).block ≠ _; rw [add_block]; exact hn279_2) | exact hn279_2) (.string t277)).trans hx279_0
      replace hx279_1 := (cell_far (p := ⟨gb278, 2, none⟩) (by first | (rw [add_block]; exact hn279_2) | (show (Addr.add _ _).block ≠ _; rw [add_block]; exact hn279_2) | exact hn279_2) (.string t277)).trans hx279_1
      replace hx279_2 := (cell_far (p := ⟨gb278, 2, none⟩) (by first | (rw [add_block]; exact hn279_2) | (show (Addr.add _ _).block ≠ _; rw [add_block]; exact hn279_2) | exact hn279_2) (.string t277)).trans hx279_2
      clear hn279_0
      clear hn279_1
      clear hn279_2
      replace p279 := eq_true p279
      replace q279 := eq_true q279
      go_upto_if 64 with (fail)
      go_cut [] (fun wc => ∃ (kq : Nat) (x279001_19 : Int), Aside0 (skerrylaw01_LexGaps.j1 kq a0 t264 t265 t270 t275 ((rd_T40 t265 t275).f1) x279001_19 t277 = some r) ∧ Aside0 (kq ≤ kj6) ∧ Aside0 (Kd.R k40 40 wc w.heap.size (fun _ => True) (.slice (some ad276) t265.length co21) t265) ∧ Aside0 (Kd.R k54 54 wc w.heap.size (fun _ => True) v273 t270) ∧ Aside0 (wc.heap[gb278]? = some (.cells #[.int .i64 ((rd_T40 t265 t275).f1), .int .i64 x279001_19, .string t277] 44 (0, 0))) ∧ Aside0 (Below w.heap.size w wc))
      case first =>
       have H := HC20.out
       clear HC20
       by_cases c28 : ((rd_T40 t265 t275).f0) ≥ 7
       ·rw [if_pos c28] at H
        have c28b0 : decide (7 ≤ ((rd_T40 t265 t275).f0)) = true := decide_eq_true c28
        clear c28
        (first | rw [c28b0] | (simp only [i64_w, i32_w]; rw [c28b0]) | skip)
        have H' := Aside0.mk H
        clear H
        have p280 : 0 ≤ (t275 : Int) := of_decide_eq_true (by first | (with_reducible assumption) | assumption)
        have q280 : t275 < (t265.length : Int) := of_decide_eq_true (by first | (with_reducible assumption) | assumption)
        obtain ⟨ad280, e280, hx280_0, hx280_1, hx280_2⟩ := at_T40 (Kd.R_reads' HO_8.out).2.2 t275 p280 q280
        obtain rfl : ad276 = ad280 := (by injection e280)
        have hn280_0 : ad276.block ≠ gb278 := Kd.own_blk (Kd.R_ne HO_8.out BK278.out (by decide))
        have hn280_1 : ad276.block ≠ gb278 := Kd.own_blk (Kd.R_ne HO_8.out BK278.out (by decide))
        have hn280_2 : ad276.block ≠ gb278 := Kd.own_blk (Kd.R_ne HO_8.out BK278.out (by decide))
        replace hx280_0 := (cell_far (p := ⟨gb278, 0, none⟩) (by first | (rw [add_block]; exact hn280_0) | (show (Addr.add _ _).block ≠ _; rw [add_block]; exact hn280_0) | exact hn280_0) (.int .i64 ((rd_T40 t265 t275).f1))).trans hx280_0
        replace hx280_1 := (cell_far (p := ⟨gb278, 0, none⟩) (by first | (rw [add_block]; exact hn280_0) | (show (Addr.add _ _).block ≠ _; rw [add_block]; exact hn280_0) | exact hn280_0) (.int .i64 ((rd_T40 t265 t275).f1))).trans hx280_1
        replace hx280_2 := (cell_far (p := ⟨gb278, 0, none⟩) (by first | (rw [add_block]; exact hn280_0) | (show (Addr.add _ _).block ≠ _; rw [add_block]; exact hn280_0) | exact hn280_0) (.int .i64 ((rd_T40 t265 t275).f1))).trans hx280_2
        replace hx280_0 := (cell_far (p := ⟨gb278, 1, none⟩) (by first | (rw [add_block]; exact hn280_1) | (show (Addr.add _ _).block ≠ _; rw [add_block]; exact hn280_1) | exact hn280_1) (.int .i64 0)).trans hx280_0
        replace hx280_1 := (cell_far (p := ⟨gb278, 1, none⟩) (by first | (rw [add_block]; exact hn280_1) | (show (Addr.add _ _).block ≠ _; rw [add_block]; exact hn280_1) | exact hn280_1) (.int .i64 0)).trans hx280_1
        replace hx280_2 := (cell_far (p := ⟨gb278, 1, none⟩) (by first | (rw [add_block]; exact hn280_1) | (show (Addr.add _ _).block ≠ _; rw [add_block]; exact hn280_1) | exact hn280_1) (.int .i64 0)).trans hx280_2
        replace hx280_0 := (cell_far (p := ⟨gb278, 2, none⟩) (by first | (rw [add_block]; exact hn280_2) | (show (Addr.add _ _).block ≠ _; rw [add_block]; exact hn280_2) | exact hn280_2) (.string t277)).trans hx280_0
        replace hx280_1 := (cell_far (p := ⟨gb278, 2, none⟩) (by first | (rw [add_block]; exact hn280_2) | (show (Addr.add _ _).block ≠ _; rw [add_block]; exact hn280_2) | exact hn280_2) (.string t277)).trans hx280_1
        replace hx280_2 := (cell_far (p := ⟨gb278, 2, none⟩) (by first | (rw [add_block]; exact hn280_2) | (show (Addr.add _ _).block ≠ _; rw [add_block]; exact hn280_2) | exact hn280_2) (.string t277)).trans hx280_2
        clear hn280_0
        clear hn280_1
        clear hn280_2
        replace p280 := eq_true p280
        replace q280 := eq_true q280
        have hcz29_0 : w24.cell? ⟨gb278, 0, none⟩ = some (.int .i64 0) := (blk_cell BK278.out 0).trans rfl
        have hcz29_1 : w24.cell? ⟨gb278, 1, none⟩ = some (.int .i64 0) := (blk_cell BK278.out 1).trans rfl
        have hcz29_2 : w24.cell? ⟨gb278, 2, none⟩ = some (.string (⟨#[]⟩ : ByteArray)) := (blk_cell BK278.out 2).trans rfl
        have hfz29_0 := blk_frozen BK278.out 0
        have hfz29_1 := blk_frozen BK278.out 1
        have hfz29_2 := blk_frozen BK278.out 2
        go_wp2
        go_meet
        case rel => exact ⟨_, ((rd_T40 t265 t275).f2), H', ⟨by have := HJ6.out; first | omega | exact Nat.le_refl _⟩, ⟨by (with_reducible repeat (first | apply Kd.R_alloc | apply Kd.R_drewN | apply Kd.R_drew)); exact Kd.R_mono (Kd.R_far (p := ⟨gb278, 1, none⟩) (Kd.R_far (p := ⟨gb278, 2, none⟩) (Kd.R_far (p := ⟨gb278, 1, none⟩) (Kd.R_far (p := ⟨gb278, 0, none⟩) (Kd.R_types HO_8.out BK278.out (by decide)) (fun _ hk => hk.2) (.int .i64 ((rd_T40 t265 t275).f1))) (fun _ hk => hk.2) (.int .i64 0)) (fun _ hk => hk.2) (.string t277)) (fun _ hk => hk.2) (.int .i64 ((rd_T40 t265 t275).f2))) (fun _ hk => trivial)⟩, ⟨by (with_reducible repeat (first | apply Kd.R_alloc | apply Kd.R_drewN | apply Kd.R_drew)); exact Kd.R_mono (Kd.R_far (p := ⟨gb278, 1, none⟩) (Kd.R_far (p := ⟨gb278, 2, none⟩) (Kd.R_far (p := ⟨gb278, 1, none⟩) (Kd.R_far (p := ⟨gb278, 0, none⟩) (Kd.R_types HO_11.out BK278.out (by decide)) (fun _ hk => hk.2) (.int .i64 ((rd_T40 t265 t275).f1))) (fun _ hk => hk.2) (.int .i64 0)) (fun _ hk => hk.2) (.string t277)) (fun _ hk => hk.2) (.int .i64 ((rd_T40 t265 t275).f2))) (fun _ hk => trivial)⟩, ⟨by (with_reducible repeat (first | refine blk_drewN ?_ _ | refine blk_drew ?_ | refine blk_alloc ?_ _)); refine blk_put (cs := #[.int .i64 ((rd_T40 t265 t275).f1), .int .i64 0, .string t277]) ?_ 1 _ rfl; (with_reducible repeat (first | refine blk_drewN ?_ _ | refine blk_drew ?_ | refine blk_alloc ?_ _)); refine blk_put (cs := #[.int .i64 ((rd_T40 t265 t275).f1), .int .i64 0, .string (⟨#[]⟩ : ByteArray)]) ?_ 2 _ rfl; (with_reducible repeat (first | refine blk_drewN ?_ _ | refine blk_drew ?_ | refine blk_alloc ?_ _)); refine blk_put (cs := #[.int .i64 ((rd_T40 t265 t275).f1), .int .i64 0, .string (⟨#[]⟩ : ByteArray)]) ?_ 1 _ rfl; (with_reducible repeat (first | refine blk_drewN ?_ _ | refine blk_drew ?_ | refine blk_alloc ?_ _)); refine blk_put (cs := #[.int .i64 0, .int .i64 0, .string (⟨#[]⟩ : ByteArray)]) ?_ 0 _ rfl; (with_reducible repeat (first | refine blk_drewN ?_ _ | refine blk_drew ?_ | refine blk_alloc ?_ _)); exact BK278.out⟩, ⟨by repeat (first | (with_reducible first | exact HB.out | apply below_alloc | apply pw_below_drewN | apply below_drew1 | refine below_set ?_ GE278.out) | exact HB.out)⟩⟩
       ·rw [if_neg c28] at H
        have c28b0 : decide (7 ≤ ((rd_T40 t265 t275).f0)) = false := decide_eq_false c28
        clear c28
        (first | rw [c28b0] | (simp only [i64_w, i32_w]; rw [c28b0]) | skip)
        have H' := Aside0.mk H
        clear H
        go_wp2
        go_meet
        case rel => exact ⟨_, (0), H', ⟨by have := HJ6.out; first | omega | exact Nat.le_refl _⟩, ⟨by (with_reducible repeat (first | apply Kd.R_alloc | apply Kd.R_drewN | apply Kd.R_drew)); exact Kd.R_mono (Kd.R_far (p := ⟨gb278, 2, none⟩) (Kd.R_far (p := ⟨gb278, 1, none⟩) (Kd.R_far (p := ⟨gb278, 0, none⟩) (Kd.R_types HO_8.out BK278.out (by decide)) (fun _ hk => hk.2) (.int .i64 ((rd_T40 t265 t275).f1))) (fun _ hk => hk.2) (.int .i64 0)) (fun _ hk => hk.2) (.string t277)) (fun _ hk => trivial)⟩, ⟨by (with_reducible repeat (first | apply Kd.R_alloc | apply Kd.R_drewN | apply Kd.R_drew)); exact Kd.R_mono (Kd.R_far (p := ⟨gb278, 2, none⟩) (Kd.R_far (p := ⟨gb278, 1, none⟩) (Kd.R_far (p := ⟨gb278, 0, none⟩) (Kd.R_types HO_11.out BK278.out (by decide)) (fun _ hk => hk.2) (.int .i64 ((rd_T40 t265 t275).f1))) (fun _ hk => hk.2) (.int .i64 0)) (fun _ hk => hk.2) (.string t277)) (fun _ hk => trivial)⟩, ⟨by (with_reducible repeat (first | refine blk_drewN ?_ _ | refine blk_drew ?_ | refine blk_alloc ?_ _)); refine blk_put (cs := #[.int .i64 ((rd_T40 t265 t275).f1), .int .i64 0, .string (⟨#[]⟩ : ByteArray)]) ?_ 2 _ rfl; (with_reducible repeat (first | refine blk_drewN ?_ _ | refine blk_drew ?_ | refine blk_alloc ?_ _)); refine blk_put (cs := #[.int .i64 ((rd_T40 t265 t275).f1), .int .i64 0, .string (⟨#[]⟩ : ByteArray)]) ?_ 1 _ rfl; (with_reducible repeat (first | refine blk_drewN ?_ _ | refine blk_drew ?_ | refine blk_alloc ?_ _)); refine blk_put (cs := #[.int .i64 0, .int .i64 0, .string (⟨#[]⟩ : ByteArray)]) ?_ 0 _ rfl; (with_reducible repeat (first | refine blk_drewN ?_ _ | refine blk_drew ?_ | refine blk_alloc ?_ _)); exact BK278.out⟩, ⟨by repeat (first | (with_reducible first | exact HB.out | apply below_alloc | apply pw_below_drewN | apply below_drew1 | refine below_set ?_ GE278.out) | exact HB.out)⟩⟩
      case rest =>
       clear HC20
       try clear c1
       try clear c2
       try clear p2
       try clear q2
       try clear hx2
       try clear c5
       try clear c11
       try clear c11b0
       try clear c11b1
       try clear c12
       try clear c12b0
       try clear c12b1
       try clear c12b2
       try clear c13
       try clear c15
       try clear c17
       try clear c17b0
       try clear c18
       try clear c18b0
       try clear c19
       try clear c20
       try clear p27
       try clear q27
       try clear hx27
       try clear c28
       try clear c28b0
       try clear p28
       try clear q28
       try clear hx28
       try clear hcz29_0
       try clear hcz29_1
       try clear hcz29_2
       try clear hfz29_0
       try clear hfz29_1
       try clear hfz29_2
       try clear hx276_0
       try clear hx276_1
       try clear hx276_2
       try clear hx279_0
       try clear hx279_1
       try clear hx279_2
       try clear hx280_0
       try clear hx280_1
       try clear hx280_2
       try clear p2
       try clear p276
       try clear p279
       try clear p280
       try clear q276
       try clear q279
       try clear q280
       obtain ⟨kq, x279001_19, HA, HJ19, HO_8, HO_11, BK278, HB⟩ := hcut
       cases kq with
       | zero => exact absurd HA.out (by simp [skerrylaw01_LexGaps.j1])
       | succ kj19 =>
        have H := HA.out
        clear HA
        simp only [skerrylaw01_LexGaps.j1] at H
        have HC30 := Aside0.mk H
        clear H
        go_upto_region 10 with (fail)
        go_cut [102] (fun v102 wc => ∃ (kq : Nat) (x102_29 : Bool), v102 = .bool x102_29 ∧ Aside0 (skerrylaw01_LexGaps.j2 kq a0 t264 t270 x102_29 ((rd_T40 t265 t275).f1) x279001_19 t277 = some r) ∧ Aside0 (kq ≤ kj19) ∧ Aside0 (Kd.R k54 54 wc w.heap.size (fun _ => True) v273 t270) ∧ Aside0 (wc.heap[gb278]? = some (.cells #[.int .i64 ((rd_T40 t265 t275).f1), .int .i64 x279001_19, .string t277] 44 (0, 0))) ∧ Aside0 (Below w.heap.size w wc))
        case first =>
         have H := HC30.out
         clear HC30
         by_cases c31 : t275 > 0
         ·rw [if_pos c31] at H
          have c31b0 : decide (0 < t275) = true := decide_eq_true c31
          clear c31
          (first | rw [c31b0] | (simp only [i64_w, i32_w]; rw [c31b0]) | skip)
          obtain ⟨ji32, hji32⟩ : ∃ j_ : Int, (wrap64 (t275 - 1)) = j_ := ⟨_, rfl⟩
          replace H : (if 0 ≤ (ji32) then (if (ji32) < (t265.length : Int) then (if ((rd_T40 t265 (ji32)).f0) = 8 then (if ((rd_T40 t265 (ji32)).f2) > 1 then (if 0 ≤ (wrap64 (((rd_T40 t265 (ji32)).f1) + 1)) then (if (wrap64 (((rd_T40 t265 (ji32)).f1) + 1)) < (a0.size : Int) then (skerrylaw01_LexGaps.j2 kj19 a0 t264 t270 ((bt a0 (wrap64 (((rd_T40 t265 (ji32)).f1) + 1))) == 47) ((rd_T40 t265 t275).f1) x279001_19 t277) else (none)) else (none)) else (skerrylaw01_LexGaps.j2 kj19 a0 t264 t270 false ((rd_T40 t265 t275).f1) x279001_19 t277)) else (skerrylaw01_LexGaps.j2 kj19 a0 t264 t270 false ((rd_T40 t265 t275).f1) x279001_19 t277)) else (none)) else (none)) = some r := by first | (rw [hji32] at H; exact H) | (simp only [hji32] at H ⊢; exact H)
          have hji32w : (IntKind.i64.wrap (t275 - 1)) = ji32 := (i64_w _).trans hji32
          by_cases c33 : 0 ≤ (ji32)
          ·rw [if_pos c33] at H
           have c33b0 : decide (0 ≤ (ji32)) = true := decide_eq_true c33
           clear c33
           by_cases c34 : (ji32) < (t265.length : Int)
           ·rw [if_pos c34] at H
            have c34b0 : decide ((ji32) < (t265.length : Int)) = true := decide_eq_true c34
            clear c34
            by_cases c35 : ((rd_T40 t265 (ji32)).f0) = 8
            ·rw [if_pos c35] at H
             have c35b0 : (((rd_T40 t265 (ji32)).f0) == 8) = true := beq_iff_eq.mpr c35
             have c35b1 : (((rd_T40 t265 (ji32)).f0) != 8) = false := bne_eq_false_iff_eq.mpr c35
             clear c35
             by_cases c36 : ((rd_T40 t265 (ji32)).f2) > 1
             ·rw [if_pos c36] at H
              have c36b0 : decide (1 < ((rd_T40 t265 (ji32)).f2)) = true := decide_eq_true c36
              clear c36
              obtain ⟨ji37, hji37⟩ : ∃ j_ : Int, (wrap64 (((rd_T40 t265 (ji32)).f1) + 1)) = j_ := ⟨_, rfl⟩
              replace H : (if 0 ≤ (ji37) then (if (ji37) < (a0.size : Int) then (skerrylaw01_LexGaps.j2 kj19 a0 t264 t270 ((bt a0 (ji37)) == 47) ((rd_T40 t265 t275).f1) x279001_19 t277) else (none)) else (none)) = some r := by first | (rw [hji37] at H; exact H) | (simp only [hji37] at H ⊢; exact H)
              have hji37w : (IntKind.i64.wrap (((rd_T40 t265 (ji32)).f1) + 1)) = ji37 := (i64_w _).trans hji37
              by_cases c38 : 0 ≤ (ji37)
              ·rw [if_pos c38] at H
               have c38b0 : decide (0 ≤ (ji37)) = true := decide_eq_true c38
               clear c38
               by_cases c39 : (ji37) < (a0.size : Int)
               ·rw [if_pos c39] at H
                have c39b0 : decide ((ji37) < (a0.size : Int)) = true := decide_eq_true c39
                clear c39
                have H' := Aside0.mk H
                clear H
                have p281 : 0 ≤ ((ji32) : Int) := of_decide_eq_true (by first | (with_reducible assumption) | assumption)
                have q281 : (ji32) < (t265.length : Int) := of_decide_eq_true (by first | (with_reducible assumption) | assumption)
                obtain ⟨ad281, e281, hx281_0, hx281_1, hx281_2⟩ := at_T40 (Kd.R_reads' HO_8.out).2.2 (ji32) p281 q281
                obtain rfl : ad276 = ad281 := (by injection e281)
                replace p281 := eq_true p281
                replace q281 := eq_true q281
                have p282 : 0 ≤ ((ji32) : Int) := of_decide_eq_true (by first | (with_reducible assumption) | assumption)
                have q282 : (ji32) < (t265.length : Int) := of_decide_eq_true (by first | (with_reducible assumption) | assumption)
                obtain ⟨ad282, e282, hx282_0, hx282_1, hx282_2⟩ := at_T40 (Kd.R_reads' HO_8.out).2.2 (ji32) p282 q282
                obtain rfl : ad276 = ad282 := (by injection e282)
                replace p282 := eq_true p282
                replace q282 := eq_true q282
                have p283 : 0 ≤ ((ji32) : Int) := of_decide_eq_true (by first | (with_reducible assumption) | assumption)
                have q283 : (ji32) < (t265.length : Int) := of_decide_eq_true (by first | (with_reducible assumption) | assumption)
                obtain ⟨ad283, e283, hx283_0, hx283_1, hx283_2⟩ := at_T40 (Kd.R_reads' HO_8.out).2.2 (ji32) p283 q283
                obtain rfl : ad276 = ad283 := (by injection e283)
                replace p283 := eq_true p283
                replace q283 := eq_true q283
                have p40 : 0 ≤ ((ji37) : Int) := of_decide_eq_true (by first | (with_reducible assumption) | assumption)
                have q40 : (ji37) < (a0.size : Int) := of_decide_eq_true (by first | (with_reducible assumption) | assumption)
                have hx40 := bt_at a0 (ji37)
                replace p40 := eq_true p40
                replace q40 := eq_true q40
                go_wp2
                try subst hji32
                go_meet
                case rel => exact ⟨_, (((bt a0 (ji37)) == 47)), (by first | rfl | (simp; done) | (simp only [← hji37] <;> (first | rfl | simp)) | (simp [*]; done)), H', ⟨by have := HJ6.out; have := HJ19.out; first | omega | exact Nat.le_refl _⟩, ⟨by (with_reducible repeat (first | apply Kd.R_alloc | apply Kd.R_drewN | apply Kd.R_drew)); exact HO_11.out⟩, ⟨by (with_reducible repeat (first | refine blk_drewN ?_ _ | refine blk_drew ?_ | refine blk_alloc ?_ _)); exact BK278.out⟩, ⟨by repeat (first | (with_reducible first | exact HB.out | apply below_alloc | apply pw_below_drewN | apply below_drew1 | refine below_set ?_ GE278.out) | exact HB.out)⟩⟩
               ·rw [if_neg c39] at H
                exact absurd H (by simp)
              ·rw [if_neg c38] at H
               exact absurd H (by simp)
             ·rw [if_neg c36] at H
              have c36b0 : decide (1 < ((rd_T40 t265 (ji32)).f2)) = false := decide_eq_false c36
              clear c36
              have H' := Aside0.mk H
              clear H
              have p281 : 0 ≤ ((ji32) : Int) := of_decide_eq_true (by first | (with_reducible assumption) | assumption)
              have q281 : (ji32) < (t265.length : Int) := of_decide_eq_true (by first | (with_reducible assumption) | assumption)
              obtain ⟨ad281, e281, hx281_0, hx281_1, hx281_2⟩ := at_T40 (Kd.R_reads' HO_8.out).2.2 (ji32) p281 q281
              obtain rfl : ad276 = ad281 := (by injection e281)
              replace p281 := eq_true p281
              replace q281 := eq_true q281
              have p282 : 0 ≤ ((ji32) : Int) := of_decide_eq_true (by first | (with_reducible assumption) | assumption)
              have q282 : (ji32) < (t265.length : Int) := of_decide_eq_true (by first | (with_reducible assumption) | assumption)
              obtain ⟨ad282, e282, hx282_0, hx282_1, hx282_2⟩ := at_T40 (Kd.R_reads' HO_8.out).2.2 (ji32) p282 q282
              obtain rfl : ad276 = ad282 := (by injection e282)
              replace p282 := eq_true p282
              replace q282 := eq_true q282
              go_wp2
              try subst hji37
              try subst hji32
              go_meet
              case rel => exact ⟨_, (false), (by first | rfl | (simp; done) | (simp [*]; done)), H', ⟨by have := HJ6.out; have := HJ19.out; first | omega | exact Nat.le_refl _⟩, ⟨by (with_reducible repeat (first | apply Kd.R_alloc | apply Kd.R_drewN | apply Kd.R_drew)); exact HO_11.out⟩, ⟨by (with_reducible repeat (first | refine blk_drewN ?_ _ | refine blk_drew ?_ | refine blk_alloc ?_ _)); exact BK278.out⟩, ⟨by repeat (first | (with_reducible first | exact HB.out | apply below_alloc | apply pw_below_drewN | apply below_drew1 | refine below_set ?_ GE278.out) | exact HB.out)⟩⟩
            ·rw [if_neg c35] at H
             have c35b0 : (((rd_T40 t265 (ji32)).f0) == 8) = false := beq_eq_false_iff_ne.mpr c35
             have c35b1 : (((rd_T40 t265 (ji32)).f0) != 8) = true := bne_iff_ne.mpr c35
             have H' := Aside0.mk H
             clear H
             have p281 : 0 ≤ ((ji32) : Int) := of_decide_eq_true (by first | (with_reducible assumption) | assumption)
             have q281 : (ji32) < (t265.length : Int) := of_decide_eq_true (by first | (with_reducible assumption) | assumption)
             obtain ⟨ad281, e281, hx281_0, hx281_1, hx281_2⟩ := at_T40 (Kd.R_reads' HO_8.out).2.2 (ji32) p281 q281
             obtain rfl : ad276 = ad281 := (by injection e281)
             replace p281 := eq_true p281
             replace q281 := eq_true q281
             go_wp2
             try subst hji32
             go_meet
             case rel => exact ⟨_, (false), (by first | rfl | (simp; done) | (simp [*]; done)), H', ⟨by have := HJ6.out; have := HJ19.out; first | omega | exact Nat.le_refl _⟩, ⟨by (with_reducible repeat (first | apply Kd.R_alloc | apply Kd.R_drewN | apply Kd.R_drew)); exact HO_11.out⟩, ⟨by (with_reducible repeat (first | refine blk_drewN ?_ _ | refine blk_drew ?_ | refine blk_alloc ?_ _)); exact BK278.out⟩, ⟨by repeat (first | (with_reducible first | exact HB.out | apply below_alloc | apply pw_below_drewN | apply below_drew1 | refine below_set ?_ GE278.out) | exact HB.out)⟩⟩
           ·rw [if_neg c34] at H
            exact absurd H (by simp)
          ·rw [if_neg c33] at H
           exact absurd H (by simp)
         ·rw [if_neg c31] at H
          have c31b0 : decide (0 < t275) = false := decide_eq_false c31
          clear c31
          (first | rw [c31b0] | (simp only [i64_w, i32_w]; rw [c31b0]) | skip)
          have H' := Aside0.mk H
          clear H
          go_wp2
          try subst hji32
          go_meet
          case rel => exact ⟨_, (false), (by first | rfl | (simp; done) | (simp [*]; done)), H', ⟨by have := HJ6.out; have := HJ19.out; first | omega | exact Nat.le_refl _⟩, ⟨by (with_reducible repeat (first | apply Kd.R_alloc | apply Kd.R_drewN | apply Kd.R_drew)); exact HO_11.out⟩, ⟨by (with_reducible repeat (first | refine blk_drewN ?_ _ | refine blk_drew ?_ | refine blk_alloc ?_ _)); exact BK278.out⟩, ⟨by repeat (first | (with_reducible first | exact HB.out | apply below_alloc | apply pw_below_drewN | apply below_drew1 | refine below_set ?_ GE278.out) | exact HB.out)⟩⟩
        case rest =>
         clear HC30
         try clear c1
         try clear c2
         try clear p2
         try clear q2
         try clear hx2
         try clear c3
         try clear p4
         try clear q4
         try clear hx4
         try clear c5
         try clear p6
         try clear c11
         try clear c11b0
         try clear c11b1
         try clear c12
         try clear c12b0
         try clear c12b1
         try clear c12b2
         try clear c13
         try clear c15
         try clear c17
         try clear c17b0
         try clear c18
         try clear c18b0
         try clear c19
         try clear c20
         try clear p27
         try clear q27
         try clear hx27
         try clear c28
         try clear c28b0
         try clear p28
         try clear q28
         try clear hx28
         try clear c31
         try clear c31b0
         try clear c33
         try clear c33b0
         try clear c34
         try clear c34b0
         try clear c35
         try clear c35b0
         try clear c35b1
         try clear c36
         try clear c36b0
         try clear c38
         try clear c38b0
         try clear c39
         try clear c39b0
         try clear p40
         try clear q40
         try clear hx40
         try clear hcz29_0
         try clear hcz29_1
         try clear hcz29_2
         try clear hfz29_0
         try clear hfz29_1
         try clear hfz29_2
         try clear hx276_0
         try clear hx276_1
         try clear hx276_2
         try clear hx279_0
         try clear hx279_1
         try clear hx279_2
         try clear hx280_0
         try clear hx280_1
         try clear hx280_2
         try clear hx281_0
         try clear hx281_1
         try clear hx281_2
         try clear hx282_0
         try clear hx282_1
         try clear hx282_2
         try clear hx283_0
         try clear hx283_1
         try clear hx283_2
         try clear p2
         try clear p27
         try clear p276
         try clear p279
         try clear p28
         try clear p280
         try clear p281
         try clear p282
         try clear p283
         try clear p40
         try clear q2
         try clear q27
         try clear q276
         try clear q279
         try clear q28
         try clear q280
         try clear q281
         try clear q282
         try clear q283
         try clear q40
         obtain ⟨kq, x102_29, rfl, HA, HJ29, HO_11, BK278, HB⟩ := hcut
         cases kq with
         | zero => exact absurd HA.out (by simp [skerrylaw01_LexGaps.j2])
         | succ kj29 =>
          have H := HA.out
          clear HA
          simp only [skerrylaw01_LexGaps.j2] at H
          by_cases c41 : x102_29 = true
          ·subst c41
           have H1 : (some t264) = some r := by rw [if_pos rfl] at H; exact H
           clear H
           have H := H1
           clear H1
           obtain rfl := Option.some.inj H
           go_wp2
           go_ret
           exact ⟨by first | rfl | (simp [errW_none, errW_some] <;> rfl) | (simp [*, errW_none, errW_some] <;> rfl), by repeat (first | (with_reducible first | exact HB.out | apply below_alloc | apply pw_below_drewN | apply below_drew1 | refine below_set ?_ GE278.out) | exact HB.out)⟩
          ·replace c41 := Bool.eq_false_iff.mpr c41
           subst c41
           have H1 : ((lex_Change.f kj29 a0 ((rd_T40 t265 t275).f1) x279001_19 t277).bind fun bt284 => ((lex_Scan.f kj29 bt284.1).bind fun bt286 => (if t264 = true then (if bt284.2 = 0 then (if bt286.2.2 = 0 then ((skerryref01_Same.f kj29 t270 bt286.1).bind fun t291 => (some t291)) else (some false)) else (some false)) else (some false)))) = some r := by rw [if_neg (show ¬ (false = true) by decide)] at H; exact H
           clear H
           have H := H1
           clear H1
           replace H := Option.bind_eq_some_iff.mp H
           obtain ⟨⟨t284, t285⟩, A420, H⟩ := H
           replace H : ((lex_Scan.f kj29 t284).bind fun bt286 => (if t264 = true then (if t285 = 0 then (if bt286.2.2 = 0 then ((skerryref01_Same.f kj29 t270 bt286.1).bind fun t291 => (some t291)) else (some false)) else (some false)) else (some false))) = some r := H
           have A42 := Aside0.mk A420
           clear A420
           replace H := Option.bind_eq_some_iff.mp H
           obtain ⟨⟨t286, t287, t288⟩, A430, H⟩ := H
           replace H : (if t264 = true then (if t285 = 0 then (if t288 = 0 then ((skerryref01_Same.f kj29 t270 t286).bind fun t291 => (some t291)) else (some false)) else (some false)) else (some false)) = some r := H
           have A43 := Aside0.mk A430
           clear A430
           by_cases c44 : t264 = true
           ·subst c44
            have H1 : (if t285 = 0 then (if t288 = 0 then ((skerryref01_Same.f kj29 t270 t286).bind fun t291 => (some t291)) else (some false)) else (some false)) = some r := by rw [if_pos rfl] at H; exact H
            clear H
            have H := H1
            clear H1
            by_cases c45 : t285 = 0
            ·rw [if_pos c45] at H
             have c45b0 : (t285 == 0) = true := beq_iff_eq.mpr c45
             have c45b1 : (t285 != 0) = false := bne_eq_false_iff_eq.mpr c45
             clear c45
             by_cases c46 : t288 = 0
             ·rw [if_pos c46] at H
              have c46b0 : (t288 == 0) = true := beq_iff_eq.mpr c46
              have c46b1 : (t288 != 0) = false := bne_eq_false_iff_eq.mpr c46
              clear c46
              replace H := Option.bind_eq_some_iff.mp H
              obtain ⟨t291, A470, H⟩ := H
              replace H : (some t291) = some r := H
              have A47 := Aside0.mk A470
              clear A470
              obtain rfl := Option.some.inj H
              have hcz48_0 : wc.cell? ⟨gb278, 0, none⟩ = some (.int .i64 ((rd_T40 t265 t275).f1)) := (blk_cell BK278.out 0).trans rfl
              have hcz48_1 : wc.cell? ⟨gb278, 1, none⟩ = some (.int .i64 x279001_19) := (blk_cell BK278.out 1).trans rfl
              have hcz48_2 : wc.cell? ⟨gb278, 2, none⟩ = some (.string t277) := (blk_cell BK278.out 2).trans rfl
              have hfz48_0 := blk_frozen BK278.out 0
              have hfz48_1 := blk_frozen BK278.out 1
              have hfz48_2 := blk_frozen BK278.out 2
              go_wp2_with (first | ((with_reducible refine gate_callee (f := 21) rfl ?_); refine goesL_ (some 107) rfl rfl Tryd.func21 (by kernel_rfl) rfl #[.string a0, .agg #[.int .i64 ((rd_T40 t265 t275).f1), .int .i64 x279001_19, .string t277]] rfl (by (try simp only [List.map_toArray, List.map_cons, List.map_nil]); first | done | rfl | (simp only [List.length_drop, List.length_take]; rfl)) ?_; (with_reducible refine (lex_Change.calls kj29 a0 ((rd_T40 t265 t275).f1) x279001_19 t277 t284 t285 _ A42.out).mono ?_); rintro e w49 ⟨rfl, hb⟩; refine ⟨_, rfl, ?_⟩; have n0_ := Aside0.mk (Kd.R_below (by (with_reducible repeat (first | apply Kd.R_alloc | apply Kd.R_drewN | apply Kd.R_drew)); exact HO_11.out) hb); have n1_ := Aside0.mk (blk_below (g := gb278) (o := .cells #[.int .i64 ((rd_T40 t265 t275).f1), .int .i64 x279001_19, .string t277] 44 (0, 0)) (by (with_reducible repeat (first | refine blk_drewN ?_ _ | refine blk_drew ?_ | refine blk_alloc ?_ _)); exact BK278.out) hb); have n2_ := Aside0.mk (below_step (by repeat (first | (with_reducible first | exact HB.out | apply below_alloc | apply pw_below_drewN | apply below_drew1 | refine below_set ?_ GE278.out) | exact HB.out)) hb); clear HO_11; clear BK278; clear HB; have HO_11 := n0_; have BK278 := n1_; have HB := n2_; clear n0_ n1_ n2_; (try clear hb); (try clear hb2); (try clear hk); (try clear hi)) | ((with_reducible refine gate_callee (f := 15) rfl ?_); refine goesL_ (some 112) rfl rfl Tryd.func15 (by kernel_rfl) rfl #[.string t284] rfl (by (try simp only [List.map_toArray, List.map_cons, List.map_nil]); first | done | rfl | (simp only [List.length_drop, List.length_take]; rfl)) ?_; (with_reducible refine (lex_Scan.calls kj29 t284 t286 t287 t288 _ A43.out (Lx.Env.below HE.out (by repeat (first | (with_reducible first | exact HB.out | apply below_alloc | apply pw_below_drewN | apply below_drew1 | refine below_set ?_ GE278.out) | exact HB.out)))).mono ?_); rintro e w50 ⟨v289, rfl, ho0, hb⟩; refine ⟨_, rfl, ?_⟩; have n0_ := Aside0.mk (Kd.R_elder' (by (with_reducible repeat (first | apply Kd.R_alloc | apply Kd.R_drewN | apply Kd.R_drew)); exact HO_11.out) (Kd.R_base ho0) hb); have n1_ := Aside0.mk (Kd.R_lower (Kd.R_new' ho0 (Kd.R_lt (by (with_reducible repeat (first | apply Kd.R_alloc | apply Kd.R_drewN | apply Kd.R_drew)); exact HO_11.out))) (below_size (by repeat (first | (with_reducible first | exact HB.out | apply below_alloc | apply pw_below_drewN | apply below_drew1 | refine below_set ?_ GE278.out) | exact HB.out)))); have n2_ := Aside0.mk (blk_below (g := gb278) (o := .cells #[.int .i64 ((rd_T40 t265 t275).f1), .int .i64 x279001_19, .string t277] 44 (0, 0)) (by (with_reducible repeat (first | refine blk_drewN ?_ _ | refine blk_drew ?_ | refine blk_alloc ?_ _)); exact BK278.out) hb); have n3_ := Aside0.mk (below_step (by repeat (first | (with_reducible first | exact HB.out | apply below_alloc | apply pw_below_drewN | apply below_drew1 | refine below_set ?_ GE278.out) | exact HB.out)) hb); clear HO_11; clear BK278; clear HB; have HO_11 := n0_; have HO290 := n1_; have BK278 := n2_; have HB := n3_; clear n0_ n1_ n2_ n3_; (try clear hb); (try clear hb2); (try clear hk); (try clear hi); (try clear ho0); obtain ⟨Ao51, co51, eo51⟩ := Kd.R_slice HO_11.out; subst eo51; obtain ⟨Ao52, co52, eo52⟩ := Kd.R_slice HO290.out; subst eo52) | (go_at_call 22; (with_reducible refine (skerryref01_Same.calls kj29 _ _ t270 _ _ t286 t291 _ ?side1 ?side2 ?side3 ?side4 A47.out).mono ?_); (case side1 => repeat (first | exact (Kd.R_reads' HO_11.out).2.2 | (with_reducible refine Kd.C_alloc ?_ _) | (with_reducible refine Kd.C_drewN ?_ _) | (with_reducible refine Kd.C_drew ?_))); (case side2 => exact (Kd.R_reads' HO_11.out).2.1); (case side3 => repeat (first | exact (Kd.R_reads' HO290.out).2.2 | (with_reducible refine Kd.C_alloc ?_ _) | (with_reducible refine Kd.C_drewN ?_ _) | (with_reducible refine Kd.C_drew ?_))); (case side4 => exact (Kd.R_reads' HO290.out).2.1); rintro e w' ⟨rfl, ⟨nd, rfl⟩⟩))
              go_ret
              exact ⟨by first | rfl | (simp [errW_none, errW_some] <;> rfl) | (simp [*, errW_none, errW_some] <;> rfl), by repeat (first | (with_reducible first | exact HB.out | apply below_alloc | apply pw_below_drewN | apply below_drew1 | refine below_set ?_ GE278.out) | exact HB.out)⟩
             ·rw [if_neg c46] at H
              have c46b0 : (t288 == 0) = false := beq_eq_false_iff_ne.mpr c46
              have c46b1 : (t288 != 0) = true := bne_iff_ne.mpr c46
              obtain rfl := Option.some.inj H
              have hcz53_0 : wc.cell? ⟨gb278, 0, none⟩ = some (.int .i64 ((rd_T40 t265 t275).f1)) := (blk_cell BK278.out 0).trans rfl
              have hcz53_1 : wc.cell? ⟨gb278, 1, none⟩ = some (.int .i64 x279001_19) := (blk_cell BK278.out 1).trans rfl
              have hcz53_2 : wc.cell? ⟨gb278, 2, none⟩ = some (.string t277) := (blk_cell BK278.out 2).trans rfl
              have hfz53_0 := blk_frozen BK278.out 0
              have hfz53_1 := blk_frozen BK278.out 1
              have hfz53_2 := blk_frozen BK278.out 2
              go_wp2_with (first | ((with_reducible refine gate_callee (f := 21) rfl ?_); refine goesL_ (some 107) rfl rfl Tryd.func21 (by kernel_rfl) rfl #[.string a0, .agg #[.int .i64 ((rd_T40 t265 t275).f1), .int .i64 x279001_19, .string t277]] rfl (by (try simp only [List.map_toArray, List.map_cons, List.map_nil]); first | done | rfl | (simp only [List.length_drop, List.length_take]; rfl)) ?_; (with_reducible refine (lex_Change.calls kj29 a0 ((rd_T40 t265 t275).f1) x279001_19 t277 t284 t285 _ A42.out).mono ?_); rintro e w54 ⟨rfl, hb⟩; refine ⟨_, rfl, ?_⟩; have n0_ := Aside0.mk (Kd.R_below (by (with_reducible repeat (first | apply Kd.R_alloc | apply Kd.R_drewN | apply Kd.R_drew)); exact HO_11.out) hb); have n1_ := Aside0.mk (blk_below (g := gb278) (o := .cells #[.int .i64 ((rd_T40 t265 t275).f1), .int .i64 x279001_19, .string t277] 44 (0, 0)) (by (with_reducible repeat (first | refine blk_drewN ?_ _ | refine blk_drew ?_ | refine blk_alloc ?_ _)); exact BK278.out) hb); have n2_ := Aside0.mk (below_step (by repeat (first | (with_reducible first | exact HB.out | apply below_alloc | apply pw_below_drewN | apply below_drew1 | refine below_set ?_ GE278.out) | exact HB.out)) hb); clear HO_11; clear BK278; clear HB; have HO_11 := n0_; have BK278 := n1_; have HB := n2_; clear n0_ n1_ n2_; (try clear hb); (try clear hb2); (try clear hk); (try clear hi)) | ((with_reducible refine gate_callee (f := 15) rfl ?_); refine goesL_ (some 112) rfl rfl Tryd.func15 (by kernel_rfl) rfl #[.string t284] rfl (by (try simp only [List.map_toArray, List.map_cons, List.map_nil]); first | done | rfl | (simp only [List.length_drop, List.length_take]; rfl)) ?_; (with_reducible refine (lex_Scan.calls kj29 t284 t286 t287 t288 _ A43.out (Lx.Env.below HE.out (by repeat (first | (with_reducible first | exact HB.out | apply below_alloc | apply pw_below_drewN | apply below_drew1 | refine below_set ?_ GE278.out) | exact HB.out)))).mono ?_); rintro e w55 ⟨v289, rfl, ho0, hb⟩; refine ⟨_, rfl, ?_⟩; have n0_ := Aside0.mk (Kd.R_elder' (by (with_reducible repeat (first | apply Kd.R_alloc | apply Kd.R_drewN | apply Kd.R_drew)); exact HO_11.out) (Kd.R_base ho0) hb); have n1_ := Aside0.mk (Kd.R_lower (Kd.R_new' ho0 (Kd.R_lt (by (with_reducible repeat (first | apply Kd.R_alloc | apply Kd.R_drewN | apply Kd.R_drew)); exact HO_11.out))) (below_size (by repeat (first | (with_reducible first | exact HB.out | apply below_alloc | apply pw_below_drewN | apply below_drew1 | refine below_set ?_ GE278.out) | exact HB.out)))); have n2_ := Aside0.mk (blk_below (g := gb278) (o := .cells #[.int .i64 ((rd_T40 t265 t275).f1), .int .i64 x279001_19, .string t277] 44 (0, 0)) (by (with_reducible repeat (first | refine blk_drewN ?_ _ | refine blk_drew ?_ | refine blk_alloc ?_ _)); exact BK278.out) hb); have n3_ := Aside0.mk (below_step (by repeat (first | (with_reducible first | exact HB.out | apply below_alloc | apply pw_below_drewN | apply below_drew1 | refine below_set ?_ GE278.out) | exact HB.out)) hb); clear HO_11; clear BK278; clear HB; have HO_11 := n0_; have HO290 := n1_; have BK278 := n2_; have HB := n3_; clear n0_ n1_ n2_ n3_; (try clear hb); (try clear hb2); (try clear hk); (try clear hi); (try clear ho0)))
              go_ret
              exact ⟨by first | rfl | (simp [errW_none, errW_some] <;> rfl) | (simp [*, errW_none, errW_some] <;> rfl), by repeat (first | (with_reducible first | exact HB.out | apply below_alloc | apply pw_below_drewN | apply below_drew1 | refine below_set ?_ GE278.out) | exact HB.out)⟩
            ·rw [if_neg c45] at H
             have c45b0 : (t285 == 0) = false := beq_eq_false_iff_ne.mpr c45
             have c45b1 : (t285 != 0) = true := bne_iff_ne.mpr c45
             obtain rfl := Option.some.inj H
             have hcz56_0 : wc.cell? ⟨gb278, 0, none⟩ = some (.int .i64 ((rd_T40 t265 t275).f1)) := (blk_cell BK278.out 0).trans rfl
             have hcz56_1 : wc.cell? ⟨gb278, 1, none⟩ = some (.int .i64 x279001_19) := (blk_cell BK278.out 1).trans rfl
             have hcz56_2 : wc.cell? ⟨gb278, 2, none⟩ = some (.string t277) := (blk_cell BK278.out 2).trans rfl
             have hfz56_0 := blk_frozen BK278.out 0
             have hfz56_1 := blk_frozen BK278.out 1
             have hfz56_2 := blk_frozen BK278.out 2
             go_wp2_with (first | ((with_reducible refine gate_callee (f := 21) rfl ?_); refine goesL_ (some 107) rfl rfl Tryd.func21 (by kernel_rfl) rfl #[.string a0, .agg #[.int .i64 ((rd_T40 t265 t275).f1), .int .i64 x279001_19, .string t277]] rfl (by (try simp only [List.map_toArray, List.map_cons, List.map_nil]); first | done | rfl | (simp only [List.length_drop, List.length_take]; rfl)) ?_; (with_reducible refine (lex_Change.calls kj29 a0 ((rd_T40 t265 t275).f1) x279001_19 t277 t284 t285 _ A42.out).mono ?_); rintro e w57 ⟨rfl, hb⟩; refine ⟨_, rfl, ?_⟩; have n0_ := Aside0.mk (Kd.R_below (by (with_reducible repeat (first | apply Kd.R_alloc | apply Kd.R_drewN | apply Kd.R_drew)); exact HO_11.out) hb); have n1_ := Aside0.mk (blk_below (g := gb278) (o := .cells #[.int .i64 ((rd_T40 t265 t275).f1), .int .i64 x279001_19, .string t277] 44 (0, 0)) (by (with_reducible repeat (first | refine blk_drewN ?_ _ | refine blk_drew ?_ | refine blk_alloc ?_ _)); exact BK278.out) hb); have n2_ := Aside0.mk (below_step (by repeat (first | (with_reducible first | exact HB.out | apply below_alloc | apply pw_below_drewN | apply below_drew1 | refine below_set ?_ GE278.out) | exact HB.out)) hb); clear HO_11; clear BK278; clear HB; have HO_11 := n0_; have BK278 := n1_; have HB := n2_; clear n0_ n1_ n2_; (try clear hb); (try clear hb2); (try clear hk); (try clear hi)) | ((with_reducible refine gate_callee (f := 15) rfl ?_); refine goesL_ (some 112) rfl rfl Tryd.func15 (by kernel_rfl) rfl #[.string t284] rfl (by (try simp only [List.map_toArray, List.map_cons, List.map_nil]); first | done | rfl | (simp only [List.length_drop, List.length_take]; rfl)) ?_; (with_reducible refine (lex_Scan.calls kj29 t284 t286 t287 t288 _ A43.out (Lx.Env.below HE.out (by repeat (first | (with_reducible first | exact HB.out | apply below_alloc | apply pw_below_drewN | apply below_drew1 | refine below_set ?_ GE278.out) | exact HB.out)))).mono ?_); rintro e w58 ⟨v289, rfl, ho0, hb⟩; refine ⟨_, rfl, ?_⟩; have n0_ := Aside0.mk (Kd.R_elder' (by (with_reducible repeat (first | apply Kd.R_alloc | apply Kd.R_drewN | apply Kd.R_drew)); exact HO_11.out) (Kd.R_base ho0) hb); have n1_ := Aside0.mk (Kd.R_lower (Kd.R_new' ho0 (Kd.R_lt (by (with_reducible repeat (first | apply Kd.R_alloc | apply Kd.R_drewN | apply Kd.R_drew)); exact HO_11.out))) (below_size (by repeat (first | (with_reducible first | exact HB.out | apply below_alloc | apply pw_below_drewN | apply below_drew1 | refine below_set ?_ GE278.out) | exact HB.out)))); have n2_ := Aside0.mk (blk_below (g := gb278) (o := .cells #[.int .i64 ((rd_T40 t265 t275).f1), .int .i64 x279001_19, .string t277] 44 (0, 0)) (by (with_reducible repeat (first | refine blk_drewN ?_ _ | refine blk_drew ?_ | refine blk_alloc ?_ _)); exact BK278.out) hb); have n3_ := Aside0.mk (below_step (by repeat (first | (with_reducible first | exact HB.out | apply below_alloc | apply pw_below_drewN | apply below_drew1 | refine below_set ?_ GE278.out) | exact HB.out)) hb); clear HO_11; clear BK278; clear HB; have HO_11 := n0_; have HO290 := n1_; have BK278 := n2_; have HB := n3_; clear n0_ n1_ n2_ n3_; (try clear hb); (try clear hb2); (try clear hk); (try clear hi); (try clear ho0)))
             go_ret
             exact ⟨by first | rfl | (simp [errW_none, errW_some] <;> rfl) | (simp [*, errW_none, errW_some] <;> rfl), by repeat (first | (with_reducible first | exact HB.out | apply below_alloc | apply pw_below_drewN | apply below_drew1 | refine below_set ?_ GE278.out) | exact HB.out)⟩
           ·replace c44 := Bool.eq_false_iff.mpr c44
            subst c44
            have H1 : (some false) = some r := by rw [if_neg (show ¬ (false = true) by decide)] at H; exact H
            clear H
            have H := H1
            clear H1
            obtain rfl := Option.some.inj H
            have hcz59_0 : wc.cell? ⟨gb278, 0, none⟩ = some (.int .i64 ((rd_T40 t265 t275).f1)) := (blk_cell BK278.out 0).trans rfl
            have hcz59_1 : wc.cell? ⟨gb278, 1, none⟩ = some (.int .i64 x279001_19) := (blk_cell BK278.out 1).trans rfl
            have hcz59_2 : wc.cell? ⟨gb278, 2, none⟩ = some (.string t277) := (blk_cell BK278.out 2).trans rfl
            have hfz59_0 := blk_frozen BK278.out 0
            have hfz59_1 := blk_frozen BK278.out 1
            have hfz59_2 := blk_frozen BK278.out 2
            go_wp2_with (first | ((with_reducible refine gate_callee (f := 21) rfl ?_); refine goesL_ (some 107) rfl rfl Tryd.func21 (by kernel_rfl) rfl #[.string a0, .agg #[.int .i64 ((rd_T40 t265 t275).f1), .int .i64 x279001_19, .string t277]] rfl (by (try simp only [List.map_toArray, List.map_cons, List.map_nil]); first | done | rfl | (simp only [List.length_drop, List.length_take]; rfl)) ?_; (with_reducible refine (lex_Change.calls kj29 a0 ((rd_T40 t265 t275).f1) x279001_19 t277 t284 t285 _ A42.out).mono ?_); rintro e w60 ⟨rfl, hb⟩; refine ⟨_, rfl, ?_⟩; have n0_ := Aside0.mk (Kd.R_below (by (with_reducible repeat (first | apply Kd.R_alloc | apply Kd.R_drewN | apply Kd.R_drew)); exact HO_11.out) hb); have n1_ := Aside0.mk (blk_below (g := gb278) (o := .cells #[.int .i64 ((rd_T40 t265 t275).f1), .int .i64 x279001_19, .string t277] 44 (0, 0)) (by (with_reducible repeat (first | refine blk_drewN ?_ _ | refine blk_drew ?_ | refine blk_alloc ?_ _)); exact BK278.out) hb); have n2_ := Aside0.mk (below_step (by repeat (first | (with_reducible first | exact HB.out | apply below_alloc | apply pw_below_drewN | apply below_drew1 | refine below_set ?_ GE278.out) | exact HB.out)) hb); clear HO_11; clear BK278; clear HB; have HO_11 := n0_; have BK278 := n1_; have HB := n2_; clear n0_ n1_ n2_; (try clear hb); (try clear hb2); (try clear hk); (try clear hi)) | ((with_reducible refine gate_callee (f := 15) rfl ?_); refine goesL_ (some 112) rfl rfl Tryd.func15 (by kernel_rfl) rfl #[.string t284] rfl (by (try simp only [List.map_toArray, List.map_cons, List.map_nil]); first | done | rfl | (simp only [List.length_drop, List.length_take]; rfl)) ?_; (with_reducible refine (lex_Scan.calls kj29 t284 t286 t287 t288 _ A43.out (Lx.Env.below HE.out (by repeat (first | (with_reducible first | exact HB.out | apply below_alloc | apply pw_below_drewN | apply below_drew1 | refine below_set ?_ GE278.out) | exact HB.out)))).mono ?_); rintro e w61 ⟨v289, rfl, ho0, hb⟩; refine ⟨_, rfl, ?_⟩; have n0_ := Aside0.mk (Kd.R_elder' (by (with_reducible repeat (first | apply Kd.R_alloc | apply Kd.R_drewN | apply Kd.R_drew)); exact HO_11.out) (Kd.R_base ho0) hb); have n1_ := Aside0.mk (Kd.R_lower (Kd.R_new' ho0 (Kd.R_lt (by (with_reducible repeat (first | apply Kd.R_alloc | apply Kd.R_drewN | apply Kd.R_drew)); exact HO_11.out))) (below_size (by repeat (first | (with_reducible first | exact HB.out | apply below_alloc | apply pw_below_drewN | apply below_drew1 | refine below_set ?_ GE278.out) | exact HB.out)))); have n2_ := Aside0.mk (blk_below (g := gb278) (o := .cells #[.int .i64 ((rd_T40 t265 t275).f1), .int .i64 x279001_19, .string t277] 44 (0, 0)) (by (with_reducible repeat (first | refine blk_drewN ?_ _ | refine blk_drew ?_ | refine blk_alloc ?_ _)); exact BK278.out) hb); have n3_ := Aside0.mk (below_step (by repeat (first | (with_reducible first | exact HB.out | apply below_alloc | apply pw_below_drewN | apply below_drew1 | refine below_set ?_ GE278.out) | exact HB.out)) hb); clear HO_11; clear BK278; clear HB; have HO_11 := n0_; have HO290 := n1_; have BK278 := n2_; have HB := n3_; clear n0_ n1_ n2_ n3_; (try clear hb); (try clear hb2); (try clear hk); (try clear hi); (try clear ho0)))
            go_ret
            exact ⟨by first | rfl | (simp [errW_none, errW_some] <;> rfl) | (simp [*, errW_none, errW_some] <;> rfl), by repeat (first | (with_reducible first | exact HB.out | apply below_alloc | apply pw_below_drewN | apply below_drew1 | refine below_set ?_ GE278.out) | exact HB.out)⟩
     ·rw [if_neg c18] at H
      exact absurd H (by simp)
    ·rw [if_neg c17] at H
     exact absurd H (by simp)

/-- THE ONE PURE STATEMENT of skerrylaw01_LexGaps: yours. -/
def skerrylaw01_LexGaps.Pure : Prop := ∀ (a0 : ByteArray) (a1 : Int) (a2 : ByteArray), a0.size ≤ 140737488351232 → (Lit.int .i64 a1).wf = true → a2.size ≤ 140737488351232 → ∃ k, skerrylaw01_LexGaps.f k a0 a1 a2 = some true
theorem skerrylaw01_LexGaps.walk (P : skerrylaw01_LexGaps.Pure) (a0 : ByteArray) (a1 : Int) (a2 : ByteArray) (w : World) (w0 : a0.size ≤ 140737488351232) (w1 : (Lit.int .i64 a1).wf = true) (w2 : a2.size ≤ 140737488351232) (hE : Lx.Env w) :
  Calls Tryd.prog 5 #[.string a0, .int .i64 a1, .string a2] w fun e w' => e = .returned (.bool true) ∧ Below w.heap.size w w' := by
 obtain ⟨k, h⟩ := P a0 a1 a2 w0 w1 w2
 refine (skerrylaw01_LexGaps.calls k a0 a1 a2 true w h hE).mono ?_
 rintro e w' ⟨rfl, hd⟩
 exact ⟨rfl, hd⟩

end Go.Proofs.YtdaccmjfefknoaaDoor.PLa
