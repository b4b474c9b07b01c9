-- PRINTED by print.py (a twelfth state) out of the translation. Not trusted: Lean checks it.
import Derived.Test.YtdaccmjfefknoaaDoorPLax0
import Derived.Test.YtdaccmjfefknoaaDoorPLax1
import Derived.Test.YtdaccmjfefknoaaDoorPLax3
import Derived.Test.YtdaccmjfefknoaaDoorPLax6
import Derived.Test.YtdaccmjfefknoaaDoorPLax7
namespace Go.Proofs.YtdaccmjfefknoaaDoor.PLa
open Go.RowKit Go.Proofs.YtdaccmjfefknoaaDoorW.PrintWords Go.Proofs.YtdaccmjfefknoaaDoorW.PrintLast Go.Proofs.YtdaccmjfefknoaaDoorW.PrintMore
attribute [local go_sem] max2_int min2_int max_two min_two max_three min_three max_four min_four   -- for this text's walks alone
set_option linter.unusedVariables false
set_option linter.unusedSimpArgs false

attribute [local go_sem high] eqA40
/-! ### skerrylaw01_LexLongest: function 7 -/
mutual
def skerrylaw01_LexLongest.l0 : Nat → ByteArray → Bool → List (S54) → Int → Option (Bool)
 | 0, _, _, _, _ => none
 | k + 1, x0, x3, x4, x7 => if x7 < (x4.length : Int) then (if 0 ≤ x7 then (if (wrap64 (((rd_T54 x4 x7).f3) + (((rd_T54 x4 x7).f2).size : Int))) ≥ (x0.size : Int) then (skerrylaw01_LexLongest.j1 k x0 x3 x4 x7 (wrap64 (((rd_T54 x4 x7).f3) + (((rd_T54 x4 x7).f2).size : Int))) true) else (if 0 ≤ (wrap64 (((rd_T54 x4 x7).f3) + (((rd_T54 x4 x7).f2).size : Int))) then (if (wrap64 (((rd_T54 x4 x7).f3) + (((rd_T54 x4 x7).f2).size : Int))) < (x0.size : Int) then (if (bt x0 (wrap64 (((rd_T54 x4 x7).f3) + (((rd_T54 x4 x7).f2).size : Int)))) = 58 then (skerrylaw01_LexLongest.j1 k x0 x3 x4 x7 (wrap64 (((rd_T54 x4 x7).f3) + (((rd_T54 x4 x7).f2).size : Int))) true) else (skerrylaw01_LexLongest.j1 k x0 x3 x4 x7 (wrap64 (((rd_T54 x4 x7).f3) + (((rd_T54 x4 x7).f2).size : Int))) (((rd_T54 x4 x7).f2).toList == ([45] : List UInt8)))) else (none)) else (none))) else (none)) else (some x3)
def skerrylaw01_LexLongest.j1 : Nat → ByteArray → Bool → List (S54) → Int → Int → Bool → Option (Bool)
 | 0, _, _, _, _, _, _ => none
 | k + 1, x0, x3, x4, x7, x8, x54 => if x54 = true then (skerrylaw01_LexLongest.l0 k x0 x3 x4 (wrap64 (x7 + 1))) else (if 0 ≤ x7 then (if x7 < (x4.length : Int) then (if 0 ≤ ((rd_T54 x4 x7).f3) then (if ((rd_T54 x4 x7).f3) ≤ (wrap64 (x8 + 1)) then (if (wrap64 (x8 + 1)) ≤ (x0.size : Int) then ((lex_Kind.f k (x0.extract (((rd_T54 x4 x7).f3) : Int).toNat ((wrap64 (x8 + 1)) : Int).toNat)).bind fun t209 => (if t209 = 0 then (skerrylaw01_LexLongest.l0 k x0 x3 x4 (wrap64 (x7 + 1))) else (some false))) else (none)) else (none)) else (none)) else (none)) else (none))
end
def skerrylaw01_LexLongest.f (k : Nat) (a0 : ByteArray) : Option (Bool) := (skerrylaw01_sane.f k).bind fun t199 => ((lex_Scan.f k a0).bind fun bt200 => (if bt200.2.2 = 0 then (skerrylaw01_LexLongest.l0 k a0 t199 bt200.1 0) else (some t199)))
theorem skerrylaw01_LexLongest.mono_l : ∀ k, (∀ y0 y1 y2 y3, LeO (skerrylaw01_LexLongest.l0 k y0 y1 y2 y3) (skerrylaw01_LexLongest.l0 (k + 1) y0 y1 y2 y3)) ∧ (∀ y0 y1 y2 y3 y4 y5, LeO (skerrylaw01_LexLongest.j1 k y0 y1 y2 y3 y4 y5) (skerrylaw01_LexLongest.j1 (k + 1) y0 y1 y2 y3 y4 y5))
 | 0 => ⟨fun _ _ _ _ r h => by simp [skerrylaw01_LexLongest.l0] at h, fun _ _ _ _ _ _ r h => by simp [skerrylaw01_LexLongest.j1] at h⟩
 | k + 1 => by
  obtain ⟨ih0, ih1⟩ := skerrylaw01_LexLongest.mono_l k
  refine ⟨?_, ?_⟩
  ·intro y0 y1 y2 y3
   unfold skerrylaw01_LexLongest.l0
   repeat' first
   | (with_reducible exact ih0 _ _ _ _)
   | (with_reducible exact ih1 _ _ _ _ _ _)
   | (with_reducible exact lex_Kind.mono _ _)
   | (with_reducible exact lex_Scan.mono _ _)
   | (with_reducible exact skerrylaw01_sane.mono _)
   | (with_reducible exact LeO.refl _)
   | (with_reducible exact LeO.none _)
   | (with_reducible refine LeO.ite ?_ ?_)
   | (with_reducible refine LeO.bind ?_ (fun _ => ?_))
   | exact ih0 _ _ _ _
   | exact ih1 _ _ _ _ _ _
   | exact lex_Kind.mono _ _
   | exact lex_Scan.mono _ _
   | exact skerrylaw01_sane.mono _
   | exact LeO.none _
   | refine LeO.ite ?_ ?_
   | refine LeO.bind ?_ (fun _ => ?_)
  ·intro y0 y1 y2 y3 y4 y5
   unfold skerrylaw01_LexLongest.j1
   repeat' first
   | (with_reducible exact ih0 _ _ _ _)
   | (with_reducible exact ih1 _ _ _ _ _ _)
   | (with_reducible exact lex_Kind.mono _ _)
   | (with_reducible exact lex_Scan.mono _ _)
   | (with_reducible exact skerrylaw01_sane.mono _)
   | (with_reducible exact LeO.refl _)
   | (with_reducible exact LeO.none _)
   | (with_reducible refine LeO.ite ?_ ?_)
   | (with_reducible refine LeO.bind ?_ (fun _ => ?_))
   | exact ih0 _ _ _ _
   | exact ih1 _ _ _ _ _ _
   | exact lex_Kind.mono _ _
   | exact lex_Scan.mono _ _
   | exact skerrylaw01_sane.mono _
   | exact LeO.none _
   | refine LeO.ite ?_ ?_
   | refine LeO.bind ?_ (fun _ => ?_)
theorem skerrylaw01_LexLongest.mono : ∀ a0 k, LeO (skerrylaw01_LexLongest.f k a0) (skerrylaw01_LexLongest.f (k + 1) a0) := by
 intro a0 k
 obtain ⟨ih0, ih1⟩ := skerrylaw01_LexLongest.mono_l k
 unfold skerrylaw01_LexLongest.f
 repeat' first
   | (with_reducible exact ih0 _ _ _ _)
   | (with_reducible exact ih1 _ _ _ _ _ _)
   | (with_reducible exact lex_Kind.mono _ _)
   | (with_reducible exact lex_Scan.mono _ _)
   | (with_reducible exact skerrylaw01_sane.mono _)
   | (with_reducible exact LeO.refl _)
   | (with_reducible exact LeO.none _)
   | (with_reducible refine LeO.ite ?_ ?_)
   | (with_reducible refine LeO.bind ?_ (fun _ => ?_))
   | exact ih0 _ _ _ _
   | exact ih1 _ _ _ _ _ _
   | exact lex_Kind.mono _ _
   | exact lex_Scan.mono _ _
   | exact skerrylaw01_sane.mono _
   | exact LeO.none _
   | refine LeO.ite ?_ ?_
   | refine LeO.bind ?_ (fun _ => ?_)
set_option maxHeartbeats 8000000 in
set_option maxRecDepth 100000 in
theorem skerrylaw01_LexLongest.calls (k : Nat) (a0 : ByteArray) (r : Bool) (w : World) (h : skerrylaw01_LexLongest.f k a0 = some r) (hE : Lx.Env w) :
  Calls Tryd.prog 7 #[.string a0] w fun e w' => e = .returned (.bool r) ∧ Below w.heap.size w w' := by
 have HE := Lib.hid hE
 clear hE
 have HB := Aside0.mk (Below.refl w.heap.size w)
 have H : ((skerrylaw01_sane.f k).bind fun t199 => ((lex_Scan.f k a0).bind fun bt200 => (if bt200.2.2 = 0 then (skerrylaw01_LexLongest.l0 k a0 t199 bt200.1 0) else (some t199)))) = some r := h
 clear h
 replace H := Option.bind_eq_some_iff.mp H
 obtain ⟨t199, A20, H⟩ := H
 replace H : ((lex_Scan.f k a0).bind fun bt200 => (if bt200.2.2 = 0 then (skerrylaw01_LexLongest.l0 k a0 t199 bt200.1 0) else (some t199))) = some r := H
 have A2 := Aside0.mk A20
 clear A20
 replace H := Option.bind_eq_some_iff.mp H
 obtain ⟨⟨t200, t201, t202⟩, A30, H⟩ := H
 replace H : (if t202 = 0 then (skerrylaw01_LexLongest.l0 k a0 t199 t200 0) else (some t199)) = some r := H
 have A3 := Aside0.mk A30
 clear A30
 by_cases c4 : t202 = 0
 ·rw [if_pos c4] at H
  have c4b0 : (t202 == 0) = true := beq_iff_eq.mpr c4
  have c4b1 : (t202 != 0) = false := bne_eq_false_iff_eq.mpr c4
  clear c4
  have H' := Aside0.mk H
  clear H
  go_enter Tryd.func7, Tryd.ntmps7
  go_wp2_with (first | (go_at_call 12; (with_reducible refine (skerrylaw01_sane.calls k  t199 _ A2.out (Lx.Env.below HE.out (by repeat (first | (with_reducible first | exact HB.out | apply below_alloc | apply pw_below_drewN | apply below_drew1) | exact HB.out)))).mono ?_); rintro e w5 ⟨rfl, hb⟩; have n0_ := Aside0.mk (below_step (by repeat (first | (with_reducible first | exact HB.out | apply below_alloc | apply pw_below_drewN | apply below_drew1) | exact HB.out)) hb); clear HB; have HB := n0_; clear n0_; (try clear hb); (try clear hb2); (try clear hk); (try clear hi)) | (go_at_call 15; (with_reducible refine (lex_Scan.calls k a0 t200 t201 t202 _ A3.out (Lx.Env.below HE.out (by repeat (first | (with_reducible first | exact HB.out | apply below_alloc | apply pw_below_drewN | apply below_drew1) | exact HB.out)))).mono ?_); rintro e w6 ⟨v203, rfl, ho0, hb⟩; have n0_ := Aside0.mk (Kd.R_lower ho0 (below_size (by repeat (first | (with_reducible first | exact HB.out | apply below_alloc | apply pw_below_drewN | apply below_drew1) | exact HB.out)))); have n1_ := Aside0.mk (below_step (by repeat (first | (with_reducible first | exact HB.out | apply below_alloc | apply pw_below_drewN | apply below_drew1) | exact HB.out)) hb); clear HB; have HO204 := n0_; have HB := n1_; clear n0_ n1_; (try clear hb); (try clear hb2); (try clear hk); (try clear hi); (try clear ho0)))
  repeat (go_quiet (first | (go_at_call 12; (with_reducible refine (skerrylaw01_sane.calls k  t199 _ A2.out (Lx.Env.below HE.out (by repeat (first | (with_reducible first | exact HB.out | apply below_alloc | apply pw_below_drewN | apply below_drew1) | exact HB.out)))).mono ?_); rintro e w5 ⟨rfl, hb⟩; have n0_ := Aside0.mk (below_step (by repeat (first | (with_reducible first | exact HB.out | apply below_alloc | apply pw_below_drewN | apply below_drew1) | exact HB.out)) hb); clear HB; have HB := n0_; clear n0_; (try clear hb); (try clear hb2); (try clear hk); (try clear hi)) | (go_at_call 15; (with_reducible refine (lex_Scan.calls k a0 t200 t201 t202 _ A3.out (Lx.Env.below HE.out (by repeat (first | (with_reducible first | exact HB.out | apply below_alloc | apply pw_below_drewN | apply below_drew1) | exact HB.out)))).mono ?_); rintro e w6 ⟨v203, rfl, ho0, hb⟩; have n0_ := Aside0.mk (Kd.R_lower ho0 (below_size (by repeat (first | (with_reducible first | exact HB.out | apply below_alloc | apply pw_below_drewN | apply below_drew1) | exact HB.out)))); have n1_ := Aside0.mk (below_step (by repeat (first | (with_reducible first | exact HB.out | apply below_alloc | apply pw_below_drewN | apply below_drew1) | exact HB.out)) hb); clear HB; have HO204 := n0_; have HB := n1_; clear n0_ n1_; (try clear hb); (try clear hb2); (try clear hk); (try clear hi); (try clear ho0))); try go_wp2_with (first | (go_at_call 12; (with_reducible refine (skerrylaw01_sane.calls k  t199 _ A2.out (Lx.Env.below HE.out (by repeat (first | (with_reducible first | exact HB.out | apply below_alloc | apply pw_below_drewN | apply below_drew1) | exact HB.out)))).mono ?_); rintro e w5 ⟨rfl, hb⟩; have n0_ := Aside0.mk (below_step (by repeat (first | (with_reducible first | exact HB.out | apply below_alloc | apply pw_below_drewN | apply below_drew1) | exact HB.out)) hb); clear HB; have HB := n0_; clear n0_; (try clear hb); (try clear hb2); (try clear hk); (try clear hi)) | (go_at_call 15; (with_reducible refine (lex_Scan.calls k a0 t200 t201 t202 _ A3.out (Lx.Env.below HE.out (by repeat (first | (with_reducible first | exact HB.out | apply below_alloc | apply pw_below_drewN | apply below_drew1) | exact HB.out)))).mono ?_); rintro e w6 ⟨v203, rfl, ho0, hb⟩; have n0_ := Aside0.mk (Kd.R_lower ho0 (below_size (by repeat (first | (with_reducible first | exact HB.out | apply below_alloc | apply pw_below_drewN | apply below_drew1) | exact HB.out)))); have n1_ := Aside0.mk (below_step (by repeat (first | (with_reducible first | exact HB.out | apply below_alloc | apply pw_below_drewN | apply below_drew1) | exact HB.out)) hb); clear HB; have HO204 := n0_; have HB := n1_; clear n0_ n1_; (try clear hb); (try clear hb2); (try clear hk); (try clear hi); (try clear ho0))))
  go_loopg [7] k (fun kq v7 w' => ∃ (x7_1 : Int), v7 = .int .i64 x7_1 ∧ Aside0 (skerrylaw01_LexLongest.l0 kq a0 t199 t200 x7_1 = some r) ∧ Aside0 (kq ≤ k) ∧ Aside0 (Kd.R k54 54 w' w.heap.size (fun _ => True) v203 t200) ∧ Aside0 (Below w.heap.size w w'))
  case atStart => exact ⟨(0), (by first | rfl | (simp; done) | (simp [*]; done)), H', ⟨Nat.le_refl _⟩, ⟨by (with_reducible repeat (first | apply Kd.R_alloc | apply Kd.R_drewN | apply Kd.R_drew)); exact HO204.out⟩, ⟨by repeat (first | (with_reducible first | exact HB.out | apply below_alloc | apply pw_below_drewN | apply below_drew1) | exact HB.out)⟩⟩
  case round =>
   clear H'
   try clear p2
   try clear c4
   try clear c4b0
   try clear c4b1
   obtain ⟨x7_1, rfl, HA, HK1, HO_4, HB⟩ := hrel
   cases gk with
   | zero => exact absurd HA.out (by simp [skerrylaw01_LexLongest.l0])
   | succ k1 =>
    have H := HA.out
    clear HA
    simp only [skerrylaw01_LexLongest.l0] at H
    by_cases c7 : x7_1 < (t200.length : Int)
    ·rw [if_pos c7] at H
     have c7b0 : decide (x7_1 < (t200.length : Int)) = true := decide_eq_true c7
     clear c7
     by_cases c8 : 0 ≤ x7_1
     ·rw [if_pos c8] at H
      have c8b0 : decide (0 ≤ x7_1) = true := decide_eq_true c8
      clear c8
      have HC9 := Aside0.mk H
      clear H
      obtain ⟨Ao10, co10, eo10⟩ := Kd.R_slice HO_4.out
      subst eo10
      have p205 : 0 ≤ (x7_1 : Int) := of_decide_eq_true (by first | (with_reducible assumption) | assumption)
      have q205 : x7_1 < (t200.length : Int) := of_decide_eq_true (by first | (with_reducible assumption) | assumption)
      obtain ⟨ad205, e205, hx205_0, hx205_1, hx205_2, hx205_3, hx205_4⟩ := at_T54 (Kd.R_reads' HO_4.out).2.2 x7_1 p205 q205
      cases e205
      replace p205 := eq_true p205
      replace q205 := eq_true q205
      have p206 : 0 ≤ (x7_1 : Int) := of_decide_eq_true (by first | (with_reducible assumption) | assumption)
      have q206 : x7_1 < (t200.length : Int) := of_decide_eq_true (by first | (with_reducible assumption) | assumption)
      obtain ⟨ad206, e206, hx206_0, hx206_1, hx206_2, hx206_3, hx206_4⟩ := at_T54 (Kd.R_reads' HO_4.out).2.2 x7_1 p206 q206
      obtain rfl : ad205 = ad206 := (by injection e206)
      replace p206 := eq_true p206
      replace q206 := eq_true q206
      go_upto_region 9 with (fail)
      repeat (go_quiet (fail); go_upto_region 9 with (fail))
      go_cut [54] (fun v54 wc => ∃ (kq : Nat) (x54_8 : Bool), v54 = .bool x54_8 ∧ Aside0 (skerrylaw01_LexLongest.j1 kq a0 t199 t200 x7_1 (wrap64 (((rd_T54 t200 x7_1).f3) + (((rd_T54 t200 x7_1).f2).size : Int))) x54_8 = some r) ∧ Aside0 (kq ≤ k1) ∧ Aside0 (Kd.R k54 54 wc w.heap.size (fun _ => True) (.slice (some ad205) t200.length co10) t200) ∧ Aside0 (Below w.heap.size w wc))
      case first =>
       have H := HC9.out
       clear HC9
       by_cases c11 : (wrap64 (((rd_T54 t200 x7_1).f3) + (((rd_T54 t200 x7_1).f2).size : Int))) ≥ (a0.size : Int)
       ·rw [if_pos c11] at H
        have c11b0 : decide ((a0.size : Int) ≤ (wrap64 (((rd_T54 t200 x7_1).f3) + (((rd_T54 t200 x7_1).f2).size : Int)))) = true := decide_eq_true c11
        clear c11
        (first | rw [c11b0] | (simp only [i64_w, i32_w]; rw [c11b0]) | skip)
        have H' := Aside0.mk H
        clear H
        go_wp2
        repeat (go_quiet (fail); try go_wp2)
        go_meet
        case rel => exact ⟨_, (true), (by first | rfl | (simp; done) | (simp [*]; done)), H', ⟨by have := HK1.out; first | omega | exact Nat.le_refl _⟩, ⟨by (with_reducible repeat (first | apply Kd.R_alloc | apply Kd.R_drewN | apply Kd.R_drew)); exact HO_4.out⟩, ⟨by repeat (first | (with_reducible first | exact HB.out | apply below_alloc | apply pw_below_drewN | apply below_drew1) | exact HB.out)⟩⟩
       ·rw [if_neg c11] at H
        have c11b0 : decide ((a0.size : Int) ≤ (wrap64 (((rd_T54 t200 x7_1).f3) + (((rd_T54 t200 x7_1).f2).size : Int)))) = false := decide_eq_false c11
        clear c11
        (first | rw [c11b0] | (simp only [i64_w, i32_w]; rw [c11b0]) | skip)
        obtain ⟨ji12, hji12⟩ : ∃ j_ : Int, (wrap64 (((rd_T54 t200 x7_1).f3) + (((rd_T54 t200 x7_1).f2).size : Int))) = j_ := ⟨_, rfl⟩
        replace H : (if 0 ≤ (ji12) then (if (ji12) < (a0.size : Int) then (if (bt a0 (ji12)) = 58 then (skerrylaw01_LexLongest.j1 k1 a0 t199 t200 x7_1 ji12 true) else (skerrylaw01_LexLongest.j1 k1 a0 t199 t200 x7_1 ji12 (((rd_T54 t200 x7_1).f2).toList == ([45] : List UInt8)))) else (none)) else (none)) = some r := by first | (rw [hji12] at H; exact H) | (simp only [hji12] at H ⊢; exact H)
        (try rw [hji12] at c11b0)
        have hji12w : (IntKind.i64.wrap (((rd_T54 t200 x7_1).f3) + (((rd_T54 t200 x7_1).f2).size : Int))) = ji12 := (i64_w _).trans hji12
        by_cases c13 : 0 ≤ (ji12)
        ·rw [if_pos c13] at H
         have c13b0 : decide (0 ≤ (ji12)) = true := decide_eq_true c13
         clear c13
         by_cases c14 : (ji12) < (a0.size : Int)
         ·rw [if_pos c14] at H
          have c14b0 : decide ((ji12) < (a0.size : Int)) = true := decide_eq_true c14
          clear c14
          by_cases c16 : (bt a0 (ji12)) = 58
          ·rw [if_pos c16] at H
           have c16b0 : ((bt a0 (ji12)) == 58) = true := beq_iff_eq.mpr c16
           have c16b1 : ((bt a0 (ji12)) != 58) = false := bne_eq_false_iff_eq.mpr c16
           clear c16
           have H' := Aside0.mk H
           clear H
           have p15 : 0 ≤ ((ji12) : Int) := of_decide_eq_true (by first | (with_reducible assumption) | assumption)
           have q15 : (ji12) < (a0.size : Int) := of_decide_eq_true (by first | (with_reducible assumption) | assumption)
           have hx15 := bt_at a0 (ji12)
           replace p15 := eq_true p15
           replace q15 := eq_true q15
           go_wp2
           repeat (go_quiet (fail); try go_wp2)
           try subst hji12
           go_meet
           case rel => exact ⟨_, (true), (by first | rfl | (simp; done) | (simp [*]; done)), H', ⟨by have := HK1.out; first | omega | exact Nat.le_refl _⟩, ⟨by (with_reducible repeat (first | apply Kd.R_alloc | apply Kd.R_drewN | apply Kd.R_drew)); exact HO_4.out⟩, ⟨by repeat (first | (with_reducible first | exact HB.out | apply below_alloc | apply pw_below_drewN | apply below_drew1) | exact HB.out)⟩⟩
          ·rw [if_neg c16] at H
           have c16b0 : ((bt a0 (ji12)) == 58) = false := beq_eq_false_iff_ne.mpr c16
           have c16b1 : ((bt a0 (ji12)) != 58) = true := bne_iff_ne.mpr c16
           have H' := Aside0.mk H
           clear H
           have p15 : 0 ≤ ((ji12) : Int) := of_decide_eq_true (by first | (with_reducible assumption) | assumption)
           have q15 : (ji12) < (a0.size : Int) := of_decide_eq_true (by first | (with_reducible assumption) | assumption)
           have hx15 := bt_at a0 (ji12)
           replace p15 := eq_true p15
           replace q15 := eq_true q15
           have p207 : 0 ≤ (x7_1 : Int) := of_decide_eq_true (by first | (with_reducible assumption) | assumption)
           have q207 : x7_1 < (t200.length : Int) := of_decide_eq_true (by first | (with_reducible assumption) | assumption)
           obtain ⟨ad207, e207, hx207_0, hx207_1, hx207_2, hx207_3, hx207_4⟩ := at_T54 (Kd.R_reads' HO_4.out).2.2 x7_1 p207 q207
           obtain rfl : ad205 = ad207 := (by injection e207)
           replace p207 := eq_true p207
           replace q207 := eq_true q207
           go_wp2
           repeat (go_quiet (fail); try go_wp2)
           try subst hji12
           go_meet
           case rel => exact ⟨_, ((((rd_T54 t200 x7_1).f2).toList == ([45] : List UInt8))), (by first | rfl | (simp; done) | (simp [*]; done)), H', ⟨by have := HK1.out; first | omega | exact Nat.le_refl _⟩, ⟨by (with_reducible repeat (first | apply Kd.R_alloc | apply Kd.R_drewN | apply Kd.R_drew)); exact HO_4.out⟩, ⟨by repeat (first | (with_reducible first | exact HB.out | apply below_alloc | apply pw_below_drewN | apply below_drew1) | exact HB.out)⟩⟩
         ·rw [if_neg c14] at H
          exact absurd H (by simp)
        ·rw [if_neg c13] at H
         exact absurd H (by simp)
      case rest =>
       clear HC9
       try clear c1
       try clear p1
       try clear q1
       try clear hx1
       try clear p2
       try clear q2
       try clear hx2
       try clear c4
       try clear c4b0
       try clear c4b1
       try clear p6
       try clear c7
       try clear c7b0
       try clear c8
       try clear c8b0
       try clear c11
       try clear c11b0
       try clear c13
       try clear c13b0
       try clear c14
       try clear c14b0
       try clear p15
       try clear q15
       try clear hx15
       try clear c16
       try clear c16b0
       try clear c16b1
       try clear hx205_0
       try clear hx205_1
       try clear hx205_2
       try clear hx205_3
       try clear hx205_4
       try clear hx206_0
       try clear hx206_1
       try clear hx206_2
       try clear hx206_3
       try clear hx206_4
       try clear hx207_0
       try clear hx207_1
       try clear hx207_2
       try clear hx207_3
       try clear hx207_4
       try clear p15
       try clear p2
       try clear p205
       try clear p206
       try clear p207
       try clear q15
       try clear q205
       try clear q206
       try clear q207
       obtain ⟨kq, x54_8, rfl, HA, HJ8, HO_4, HB⟩ := hcut
       cases kq with
       | zero => exact absurd HA.out (by simp [skerrylaw01_LexLongest.j1])
       | succ kj8 =>
        have H := HA.out
        clear HA
        simp only [skerrylaw01_LexLongest.j1] at H
        by_cases c17 : x54_8 = true
        ·subst c17
         have H1 : (skerrylaw01_LexLongest.l0 kj8 a0 t199 t200 (wrap64 (x7_1 + 1))) = some r := by rw [if_pos rfl] at H; exact H
         clear H
         have H := H1
         clear H1
         have H' := Aside0.mk H
         clear H
         go_wp2
         repeat (go_quiet (fail); try go_wp2)
         go_roundg kj8
         case measure => have := HK1.out; have := HJ8.out; omega
         case rel => exact ⟨(wrap64 (x7_1 + 1)), (by first | rfl | (simp; done) | (simp [*]; done)), H', ⟨by have := HK1.out; have := HJ8.out; omega⟩, ⟨by (with_reducible repeat (first | apply Kd.R_alloc | apply Kd.R_drewN | apply Kd.R_drew)); exact HO_4.out⟩, ⟨by repeat (first | (with_reducible first | exact HB.out | apply below_alloc | apply pw_below_drewN | apply below_drew1) | exact HB.out)⟩⟩
        ·replace c17 := Bool.eq_false_iff.mpr c17
         subst c17
         have H1 : (if 0 ≤ x7_1 then (if x7_1 < (t200.length : Int) then (if 0 ≤ ((rd_T54 t200 x7_1).f3) then (if ((rd_T54 t200 x7_1).f3) ≤ (wrap64 ((wrap64 (((rd_T54 t200 x7_1).f3) + (((rd_T54 t200 x7_1).f2).size : Int))) + 1)) then (if (wrap64 ((wrap64 (((rd_T54 t200 x7_1).f3) + (((rd_T54 t200 x7_1).f2).size : Int))) + 1)) ≤ (a0.size : Int) then ((lex_Kind.f kj8 (a0.extract (((rd_T54 t200 x7_1).f3) : Int).toNat ((wrap64 ((wrap64 (((rd_T54 t200 x7_1).f3) + (((rd_T54 t200 x7_1).f2).size : Int))) + 1)) : Int).toNat)).bind fun t209 => (if t209 = 0 then (skerrylaw01_LexLongest.l0 kj8 a0 t199 t200 (wrap64 (x7_1 + 1))) else (some false))) else (none)) else (none)) else (none)) else (none)) else (none)) = some r := by rw [if_neg (show ¬ (false = true) by decide)] at H; exact H
         clear H
         have H := H1
         clear H1
         by_cases c18 : 0 ≤ x7_1
         ·rw [if_pos c18] at H
          have c18b0 : decide (0 ≤ x7_1) = true := decide_eq_true c18
          clear c18
          by_cases c19 : x7_1 < (t200.length : Int)
          ·rw [if_pos c19] at H
           have c19b0 : decide (x7_1 < (t200.length : Int)) = true := decide_eq_true c19
           clear c19
           by_cases c20 : 0 ≤ ((rd_T54 t200 x7_1).f3)
           ·rw [if_pos c20] at H
            have c20b0 := eq_true c20
            have c20b1 : decide (0 ≤ ((rd_T54 t200 x7_1).f3)) = true := decide_eq_true c20
            clear c20
            by_cases c21 : ((rd_T54 t200 x7_1).f3) ≤ (wrap64 ((wrap64 (((rd_T54 t200 x7_1).f3) + (((rd_T54 t200 x7_1).f2).size : Int))) + 1))
            ·rw [if_pos c21] at H
             have c21b0 := eq_true c21
             have c21b1 : decide (((rd_T54 t200 x7_1).f3) ≤ (wrap64 ((wrap64 (((rd_T54 t200 x7_1).f3) + (((rd_T54 t200 x7_1).f2).size : Int))) + 1))) = true := decide_eq_true c21
             by_cases c22 : (wrap64 ((wrap64 (((rd_T54 t200 x7_1).f3) + (((rd_T54 t200 x7_1).f2).size : Int))) + 1)) ≤ (a0.size : Int)
             ·rw [if_pos c22] at H
              have c22b0 := eq_true c22
              have c22b1 : decide ((wrap64 ((wrap64 (((rd_T54 t200 x7_1).f3) + (((rd_T54 t200 x7_1).f2).size : Int))) + 1)) ≤ (a0.size : Int)) = true := decide_eq_true c22
              replace H := Option.bind_eq_some_iff.mp H
              obtain ⟨t209, A230, H⟩ := H
              replace H : (if t209 = 0 then (skerrylaw01_LexLongest.l0 kj8 a0 t199 t200 (wrap64 (x7_1 + 1))) else (some false)) = some r := H
              have A23 := Aside0.mk A230
              clear A230
              by_cases c24 : t209 = 0
              ·rw [if_pos c24] at H
               have c24b0 : (t209 == 0) = true := beq_iff_eq.mpr c24
               have c24b1 : (t209 != 0) = false := bne_eq_false_iff_eq.mpr c24
               clear c24
               have H' := Aside0.mk H
               clear H
               have p208 : 0 ≤ (x7_1 : Int) := of_decide_eq_true (by first | (with_reducible assumption) | assumption)
               have q208 : x7_1 < (t200.length : Int) := of_decide_eq_true (by first | (with_reducible assumption) | assumption)
               obtain ⟨ad208, e208, hx208_0, hx208_1, hx208_2, hx208_3, hx208_4⟩ := at_T54 (Kd.R_reads' HO_4.out).2.2 x7_1 p208 q208
               obtain rfl : ad205 = ad208 := (by injection e208)
               replace p208 := eq_true p208
               replace q208 := eq_true q208
               go_wp2_with (first | (go_at_call 24; (with_reducible refine (lex_Kind.calls kj8 (a0.extract (((rd_T54 t200 x7_1).f3) : Int).toNat ((wrap64 ((wrap64 (((rd_T54 t200 x7_1).f3) + (((rd_T54 t200 x7_1).f2).size : Int))) + 1)) : Int).toNat) t209 _ A23.out (Lx.Env.below HE.out (by repeat (first | (with_reducible first | exact HB.out | apply below_alloc | apply pw_below_drewN | apply below_drew1) | exact HB.out)))).mono ?_); rintro e w25 ⟨rfl, hb⟩; have n0_ := Aside0.mk (Kd.R_below (by (with_reducible repeat (first | apply Kd.R_alloc | apply Kd.R_drewN | apply Kd.R_drew)); exact HO_4.out) hb); have n1_ := Aside0.mk (below_step (by repeat (first | (with_reducible first | exact HB.out | apply below_alloc | apply pw_below_drewN | apply below_drew1) | exact HB.out)) hb); clear HO_4; clear HB; have HO_4 := n0_; have HB := n1_; clear n0_ n1_; (try clear hb); (try clear hb2); (try clear hk); (try clear hi)))
               repeat (go_quiet (first | (go_at_call 24; (with_reducible refine (lex_Kind.calls kj8 (a0.extract (((rd_T54 t200 x7_1).f3) : Int).toNat ((wrap64 ((wrap64 (((rd_T54 t200 x7_1).f3) + (((rd_T54 t200 x7_1).f2).size : Int))) + 1)) : Int).toNat) t209 _ A23.out (Lx.Env.below HE.out (by repeat (first | (with_reducible first | exact HB.out | apply below_alloc | apply pw_below_drewN | apply below_drew1) | exact HB.out)))).mono ?_); rintro e w25 ⟨rfl, hb⟩; have n0_ := Aside0.mk (Kd.R_below (by (with_reducible repeat (first | apply Kd.R_alloc | apply Kd.R_drewN | apply Kd.R_drew)); exact HO_4.out) hb); have n1_ := Aside0.mk (below_step (by repeat (first | (with_reducible first | exact HB.out | apply below_alloc | apply pw_below_drewN | apply below_drew1) | exact HB.out)) hb); clear HO_4; clear HB; have HO_4 := n0_; have HB := n1_; clear n0_ n1_; (try clear hb); (try clear hb2); (try clear hk); (try clear hi))); try go_wp2_with (first | (go_at_call 24; (with_reducible refine (lex_Kind.calls kj8 (a0.extract (((rd_T54 t200 x7_1).f3) : Int).toNat ((wrap64 ((wrap64 (((rd_T54 t200 x7_1).f3) + (((rd_T54 t200 x7_1).f2).size : Int))) + 1)) : Int).toNat) t209 _ A23.out (Lx.Env.below HE.out (by repeat (first | (with_reducible first | exact HB.out | apply below_alloc | apply pw_below_drewN | apply below_drew1) | exact HB.out)))).mono ?_); rintro e w25 ⟨rfl, hb⟩; have n0_ := Aside0.mk (Kd.R_below (by (with_reducible repeat (first | apply Kd.R_alloc | apply Kd.R_drewN | apply Kd.R_drew)); exact HO_4.out) hb); have n1_ := Aside0.mk (below_step (by repeat (first | (with_reducible first | exact HB.out | apply below_alloc | apply pw_below_drewN | apply below_drew1) | exact HB.out)) hb); clear HO_4; clear HB; have HO_4 := n0_; have HB := n1_; clear n0_ n1_; (try clear hb); (try clear hb2); (try clear hk); (try clear hi))))
               go_roundg kj8
               case measure => have := HK1.out; have := HJ8.out; omega
               case rel => exact ⟨(wrap64 (x7_1 + 1)), (by first | rfl | (simp; done) | (simp [*]; done)), H', ⟨by have := HK1.out; have := HJ8.out; omega⟩, ⟨by (with_reducible repeat (first | apply Kd.R_alloc | apply Kd.R_drewN | apply Kd.R_drew)); exact HO_4.out⟩, ⟨by repeat (first | (with_reducible first | exact HB.out | apply below_alloc | apply pw_below_drewN | apply below_drew1) | exact HB.out)⟩⟩
              ·rw [if_neg c24] at H
               have c24b0 : (t209 == 0) = false := beq_eq_false_iff_ne.mpr c24
               have c24b1 : (t209 != 0) = true := bne_iff_ne.mpr c24
               obtain rfl := Option.some.inj H
               have p208 : 0 ≤ (x7_1 : Int) := of_decide_eq_true (by first | (with_reducible assumption) | assumption)
               have q208 : x7_1 < (t200.length : Int) := of_decide_eq_true (by first | (with_reducible assumption) | assumption)
               obtain ⟨ad208, e208, hx208_0, hx208_1, hx208_2, hx208_3, hx208_4⟩ := at_T54 (Kd.R_reads' HO_4.out).2.2 x7_1 p208 q208
               obtain rfl : ad205 = ad208 := (by injection e208)
               replace p208 := eq_true p208
               replace q208 := eq_true q208
               go_wp2_with (first | (go_at_call 24; (with_reducible refine (lex_Kind.calls kj8 (a0.extract (((rd_T54 t200 x7_1).f3) : Int).toNat ((wrap64 ((wrap64 (((rd_T54 t200 x7_1).f3) + (((rd_T54 t200 x7_1).f2).size : Int))) + 1)) : Int).toNat) t209 _ A23.out (Lx.Env.below HE.out (by repeat (first | (with_reducible first | exact HB.out | apply below_alloc | apply pw_below_drewN | apply below_drew1) | exact HB.out)))).mono ?_); rintro e w26 ⟨rfl, hb⟩; have n0_ := Aside0.mk (Kd.R_below (by (with_reducible repeat (first | apply Kd.R_alloc | apply Kd.R_drewN | apply Kd.R_drew)); exact HO_4.out) hb); have n1_ := Aside0.mk (below_step (by repeat (first | (with_reducible first | exact HB.out | apply below_alloc | apply pw_below_drewN | apply below_drew1) | exact HB.out)) hb); clear HO_4; clear HB; have HO_4 := n0_; have HB := n1_; clear n0_ n1_; (try clear hb); (try clear hb2); (try clear hk); (try clear hi)))
               repeat (go_quiet (first | (go_at_call 24; (with_reducible refine (lex_Kind.calls kj8 (a0.extract (((rd_T54 t200 x7_1).f3) : Int).toNat ((wrap64 ((wrap64 (((rd_T54 t200 x7_1).f3) + (((rd_T54 t200 x7_1).f2).size : Int))) + 1)) : Int).toNat) t209 _ A23.out (Lx.Env.below HE.out (by repeat (first | (with_reducible first | exact HB.out | apply below_alloc | apply pw_below_drewN | apply below_drew1) | exact HB.out)))).mono ?_); rintro e w26 ⟨rfl, hb⟩; have n0_ := Aside0.mk (Kd.R_below (by (with_reducible repeat (first | apply Kd.R_alloc | apply Kd.R_drewN | apply Kd.R_drew)); exact HO_4.out) hb); have n1_ := Aside0.mk (below_step (by repeat (first | (with_reducible first | exact HB.out | apply below_alloc | apply pw_below_drewN | apply below_drew1) | exact HB.out)) hb); clear HO_4; clear HB; have HO_4 := n0_; have HB := n1_; clear n0_ n1_; (try clear hb); (try clear hb2); (try clear hk); (try clear hi))); try go_wp2_with (first | (go_at_call 24; (with_reducible refine (lex_Kind.calls kj8 (a0.extract (((rd_T54 t200 x7_1).f3) : Int).toNat ((wrap64 ((wrap64 (((rd_T54 t200 x7_1).f3) + (((rd_T54 t200 x7_1).f2).size : Int))) + 1)) : Int).toNat) t209 _ A23.out (Lx.Env.below HE.out (by repeat (first | (with_reducible first | exact HB.out | apply below_alloc | apply pw_below_drewN | apply below_drew1) | exact HB.out)))).mono ?_); rintro e w26 ⟨rfl, hb⟩; have n0_ := Aside0.mk (Kd.R_below (by (with_reducible repeat (first | apply Kd.R_alloc | apply Kd.R_drewN | apply Kd.R_drew)); exact HO_4.out) hb); have n1_ := Aside0.mk (below_step (by repeat (first | (with_reducible first | exact HB.out | apply below_alloc | apply pw_below_drewN | apply below_drew1) | exact HB.out)) hb); clear HO_4; clear HB; have HO_4 := n0_; have HB := n1_; clear n0_ n1_; (try clear hb); (try clear hb2); (try clear hk); (try clear hi))))
               go_ret
               exact ⟨by first | rfl | (simp [errW_none, errW_some] <;> rfl) | (simp [*, errW_none, errW_some] <;> rfl), by repeat (first | (with_reducible first | exact HB.out | apply below_alloc | apply pw_below_drewN | apply below_drew1) | exact HB.out)⟩
             ·rw [if_neg c22] at H
              exact absurd H (by simp)
            ·rw [if_neg c21] at H
             exact absurd H (by simp)
           ·rw [if_neg c20] at H
            exact absurd H (by simp)
          ·rw [if_neg c19] at H
           exact absurd H (by simp)
         ·rw [if_neg c18] at H
          exact absurd H (by simp)
     ·rw [if_neg c8] at H
      exact absurd H (by simp)
    ·rw [if_neg c7] at H
     have c7b0 : decide (x7_1 < (t200.length : Int)) = false := decide_eq_false c7
     clear c7
     obtain rfl := Option.some.inj H
     obtain ⟨Ao27, co27, eo27⟩ := Kd.R_slice HO_4.out
     subst eo27
     go_wp2
     repeat (go_quiet (fail); try go_wp2)
     go_ret
     exact ⟨by first | rfl | (simp [errW_none, errW_some] <;> rfl) | (simp [*, errW_none, errW_some] <;> rfl), by repeat (first | (with_reducible first | exact HB.out | apply below_alloc | apply pw_below_drewN | apply below_drew1) | exact HB.out)⟩
 ·rw [if_neg c4] at H
  have c4b0 : (t202 == 0) = false := beq_eq_false_iff_ne.mpr c4
  have c4b1 : (t202 != 0) = true := bne_iff_ne.mpr c4
  obtain rfl := Option.some.inj H
  go_enter Tryd.func7, Tryd.ntmps7
  go_wp2_with (first | (go_at_call 12; (with_reducible refine (skerrylaw01_sane.calls k  t199 _ A2.out (Lx.Env.below HE.out (by repeat (first | (with_reducible first | exact HB.out | apply below_alloc | apply pw_below_drewN | apply below_drew1) | exact HB.out)))).mono ?_); rintro e w28 ⟨rfl, hb⟩; have n0_ := Aside0.mk (below_step (by repeat (first | (with_reducible first | exact HB.out | apply below_alloc | apply pw_below_drewN | apply below_drew1) | exact HB.out)) hb); clear HB; have HB := n0_; clear n0_; (try clear hb); (try clear hb2); (try clear hk); (try clear hi)) | (go_at_call 15; (with_reducible refine (lex_Scan.calls k a0 t200 t201 t202 _ A3.out (Lx.Env.below HE.out (by repeat (first | (with_reducible first | exact HB.out | apply below_alloc | apply pw_below_drewN | apply below_drew1) | exact HB.out)))).mono ?_); rintro e w29 ⟨v203, rfl, ho0, hb⟩; have n0_ := Aside0.mk (Kd.R_lower ho0 (below_size (by repeat (first | (with_reducible first | exact HB.out | apply below_alloc | apply pw_below_drewN | apply below_drew1) | exact HB.out)))); have n1_ := Aside0.mk (below_step (by repeat (first | (with_reducible first | exact HB.out | apply below_alloc | apply pw_below_drewN | apply below_drew1) | exact HB.out)) hb); clear HB; have HO204 := n0_; have HB := n1_; clear n0_ n1_; (try clear hb); (try clear hb2); (try clear hk); (try clear hi); (try clear ho0)))
  repeat (go_quiet (first | (go_at_call 12; (with_reducible refine (skerrylaw01_sane.calls k  t199 _ A2.out (Lx.Env.below HE.out (by repeat (first | (with_reducible first | exact HB.out | apply below_alloc | apply pw_below_drewN | apply below_drew1) | exact HB.out)))).mono ?_); rintro e w28 ⟨rfl, hb⟩; have n0_ := Aside0.mk (below_step (by repeat (first | (with_reducible first | exact HB.out | apply below_alloc | apply pw_below_drewN | apply below_drew1) | exact HB.out)) hb); clear HB; have HB := n0_; clear n0_; (try clear hb); (try clear hb2); (try clear hk); (try clear hi)) | (go_at_call 15; (with_reducible refine (lex_Scan.calls k a0 t200 t201 t202 _ A3.out (Lx.Env.below HE.out (by repeat (first | (with_reducible first | exact HB.out | apply below_alloc | apply pw_below_drewN | apply below_drew1) | exact HB.out)))).mono ?_); rintro e w29 ⟨v203, rfl, ho0, hb⟩; have n0_ := Aside0.mk (Kd.R_lower ho0 (below_size (by repeat (first | (with_reducible first | exact HB.out | apply below_alloc | apply pw_below_drewN | apply below_drew1) | exact HB.out)))); have n1_ := Aside0.mk (below_step (by repeat (first | (with_reducible first | exact HB.out | apply below_alloc | apply pw_below_drewN | apply below_drew1) | exact HB.out)) hb); clear HB; have HO204 := n0_; have HB := n1_; clear n0_ n1_; (try clear hb); (try clear hb2); (try clear hk); (try clear hi); (try clear ho0))); try go_wp2_with (first | (go_at_call 12; (with_reducible refine (skerrylaw01_sane.calls k  t199 _ A2.out (Lx.Env.below HE.out (by repeat (first | (with_reducible first | exact HB.out | apply below_alloc | apply pw_below_drewN | apply below_drew1) | exact HB.out)))).mono ?_); rintro e w28 ⟨rfl, hb⟩; have n0_ := Aside0.mk (below_step (by repeat (first | (with_reducible first | exact HB.out | apply below_alloc | apply pw_below_drewN | apply below_drew1) | exact HB.out)) hb); clear HB; have HB := n0_; clear n0_; (try clear hb); (try clear hb2); (try clear hk); (try clear hi)) | (go_at_call 15; (with_reducible refine (lex_Scan.calls k a0 t200 t201 t202 _ A3.out (Lx.Env.below HE.out (by repeat (first | (with_reducible first | exact HB.out | apply below_alloc | apply pw_below_drewN | apply below_drew1) | exact HB.out)))).mono ?_); rintro e w29 ⟨v203, rfl, ho0, hb⟩; have n0_ := Aside0.mk (Kd.R_lower ho0 (below_size (by repeat (first | (with_reducible first | exact HB.out | apply below_alloc | apply pw_below_drewN | apply below_drew1) | exact HB.out)))); have n1_ := Aside0.mk (below_step (by repeat (first | (with_reducible first | exact HB.out | apply below_alloc | apply pw_below_drewN | apply below_drew1) | exact HB.out)) hb); clear HB; have HO204 := n0_; have HB := n1_; clear n0_ n1_; (try clear hb); (try clear hb2); (try clear hk); (try clear hi); (try clear ho0))))
  go_ret
  exact ⟨by first | rfl | (simp [errW_none, errW_some] <;> rfl) | (simp [*, errW_none, errW_some] <;> rfl), by repeat (first | (with_reducible first | exact HB.out | apply below_alloc | apply pw_below_drewN | apply below_drew1) | exact HB.out)⟩

/-- THE ONE PURE STATEMENT of skerrylaw01_LexLongest: yours. -/
def skerrylaw01_LexLongest.Pure : Prop := ∀ (a0 : ByteArray), a0.size ≤ 140737488351232 → ∃ k, skerrylaw01_LexLongest.f k a0 = some true
theorem skerrylaw01_LexLongest.walk (P : skerrylaw01_LexLongest.Pure) (a0 : ByteArray) (w : World) (w0 : a0.size ≤ 140737488351232) (hE : Lx.Env w) :
  Calls Tryd.prog 7 #[.string a0] w fun e w' => e = .returned (.bool true) ∧ Below w.heap.size w w' := by
 obtain ⟨k, h⟩ := P a0 w0
 refine (skerrylaw01_LexLongest.calls k a0 true w h hE).mono ?_
 rintro e w' ⟨rfl, hd⟩
 exact ⟨rfl, hd⟩

/-! ### skerryref01_SamePieces: function 17 -/
def skerryref01_SamePieces.l0 : Nat → List (S40) → List (S40) → Int → Option (Bool)
 | 0, _, _, _ => none
 | k + 1, x0, x1, x5 => if x5 < (x0.length : Int) then (if 0 ≤ x5 then (if x5 < (x1.length : Int) then (if (!(((rd_T40 x0 x5).f0) == ((rd_T40 x1 x5).f0)) || (!(((rd_T40 x0 x5).f1) == ((rd_T40 x1 x5).f1)) || (!(((rd_T40 x0 x5).f2) == ((rd_T40 x1 x5).f2))))) = true then (some false) else (skerryref01_SamePieces.l0 k x0 x1 (wrap64 (x5 + 1)))) else (none)) else (none)) else (some true)
def skerryref01_SamePieces.f (k : Nat) (l0 : List (S40)) (l1 : List (S40)) : Option (Bool) := if (l0.length : Int) = (l1.length : Int) then (skerryref01_SamePieces.l0 k l0 l1 0) else (some false)
theorem skerryref01_SamePieces.mono_l : ∀ k, (∀ y0 y1 y2, LeO (skerryref01_SamePieces.l0 k y0 y1 y2) (skerryref01_SamePieces.l0 (k + 1) y0 y1 y2))
 | 0 => fun _ _ _ r h => by simp [skerryref01_SamePieces.l0] at h
 | k + 1 => by
  have ih0 := skerryref01_SamePieces.mono_l k
  ·intro y0 y1 y2
   unfold skerryref01_SamePieces.l0
   repeat' first
   | (with_reducible exact ih0 _ _ _)
   | (with_reducible exact LeO.refl _)
   | (with_reducible exact LeO.none _)
   | (with_reducible refine LeO.ite ?_ ?_)
   | (with_reducible refine LeO.bind ?_ (fun _ => ?_))
   | exact ih0 _ _ _
   | exact LeO.none _
   | refine LeO.ite ?_ ?_
   | refine LeO.bind ?_ (fun _ => ?_)
theorem skerryref01_SamePieces.mono : ∀ a0 a1 k, LeO (skerryref01_SamePieces.f k a0 a1) (skerryref01_SamePieces.f (k + 1) a0 a1) := by
 intro a0 a1 k
 have ih0 := skerryref01_SamePieces.mono_l k
 unfold skerryref01_SamePieces.f
 repeat' first
   | (with_reducible exact ih0 _ _ _)
   | (with_reducible exact LeO.refl _)
   | (with_reducible exact LeO.none _)
   | (with_reducible refine LeO.ite ?_ ?_)
   | (with_reducible refine LeO.bind ?_ (fun _ => ?_))
   | exact ih0 _ _ _
   | exact LeO.none _
   | refine LeO.ite ?_ ?_
   | refine LeO.bind ?_ (fun _ => ?_)
set_option maxHeartbeats 8000000 in
set_option maxRecDepth 100000 in
theorem skerryref01_SamePieces.calls (k : Nat) (A0 : Option Addr) (c0 : Nat) (l0 : List (S40)) (A1 : Option Addr) (c1 : Nat) (l1 : List (S40)) (r : Bool) (w : World) (hr0 : Kd.C k40 w A0 l0.length l0) (hc0 : l0.length ≤ c0) (hr1 : Kd.C k40 w A1 l1.length l1) (hc1 : l1.length ≤ c1) (h : skerryref01_SamePieces.f k l0 l1 = some r) :
  Calls Tryd.prog 17 #[.slice A0 l0.length c0, .slice A1 l1.length c1] w fun e w' => e = .returned (.bool r) ∧ Drawn0 w w' := by
 have hu40 := Tryd.underlying40
 have HR0 := Aside0.mk hr0
 have HC0 := Aside0.mk hc0
 clear hr0 hc0
 have HR1 := Aside0.mk hr1
 have HC1 := Aside0.mk hc1
 clear hr1 hc1
 have H : (if (l0.length : Int) = (l1.length : Int) then (skerryref01_SamePieces.l0 k l0 l1 0) else (some false)) = some r := h
 clear h
 by_cases c3 : (l0.length : Int) = (l1.length : Int)
 ·rw [if_pos c3] at H
  have c3b0 : ((l0.length : Int) == (l1.length : Int)) = true := beq_iff_eq.mpr c3
  have c3b1 : ((l0.length : Int) != (l1.length : Int)) = false := bne_eq_false_iff_eq.mpr c3
  have c3b2 : (l0.length == l1.length) = true := by first | simpa using c3 | (simp at c3 ⊢; omega)
  clear c3
  have H' := Aside0.mk H
  clear H
  go_enter Tryd.func17, Tryd.ntmps17
  go_wp2
  repeat (go_quiet (fail); try go_wp2)
  go_loopg [5] k (fun kq v5 w' => ∃ (x5_1 : Int), v5 = .int .i64 x5_1 ∧ Aside0 (skerryref01_SamePieces.l0 kq l0 l1 x5_1 = some r) ∧ Aside0 (kq ≤ k) ∧ Drawn0 w w')
  case atStart => exact ⟨(0), (by first | rfl | (simp; done) | (simp [*]; done)), H', ⟨Nat.le_refl _⟩, by repeat (first | exact Drawn0.refl _ | apply Drawn0.step)⟩
  case round =>
   clear H'
   try clear c1
   try clear p2
   try clear c3
   try clear c3b0
   try clear c3b1
   try clear c3b2
   obtain ⟨x5_1, rfl, HA, HK1, ⟨m1, rfl⟩⟩ := hrel
   cases gk with
   | zero => exact absurd HA.out (by simp [skerryref01_SamePieces.l0])
   | succ k1 =>
    have H := HA.out
    clear HA
    simp only [skerryref01_SamePieces.l0] at H
    by_cases c4 : x5_1 < (l0.length : Int)
    ·rw [if_pos c4] at H
     have c4b0 : decide (x5_1 < (l0.length : Int)) = true := decide_eq_true c4
     clear c4
     by_cases c5 : 0 ≤ x5_1
     ·rw [if_pos c5] at H
      have c5b0 : decide (0 ≤ x5_1) = true := decide_eq_true c5
      clear c5
      by_cases c6 : x5_1 < (l1.length : Int)
      ·rw [if_pos c6] at H
       have c6b0 : decide (x5_1 < (l1.length : Int)) = true := decide_eq_true c6
       clear c6
       by_cases c7 : (!(((rd_T40 l0 x5_1).f0) == ((rd_T40 l1 x5_1).f0)) || (!(((rd_T40 l0 x5_1).f1) == ((rd_T40 l1 x5_1).f1)) || (!(((rd_T40 l0 x5_1).f2) == ((rd_T40 l1 x5_1).f2))))) = true
       ·rw [if_pos c7] at H
        have c7b0 : (!(((rd_T40 l0 x5_1).f0) == ((rd_T40 l1 x5_1).f0)) || (!(((rd_T40 l0 x5_1).f1) == ((rd_T40 l1 x5_1).f1)) || (!(((rd_T40 l0 x5_1).f2) == ((rd_T40 l1 x5_1).f2))))) = true := c7
        clear c7
        obtain rfl := Option.some.inj H
        have p210 : 0 ≤ (x5_1 : Int) := of_decide_eq_true (by first | (with_reducible assumption) | assumption)
        have q210 : x5_1 < (l0.length : Int) := of_decide_eq_true (by first | (with_reducible assumption) | assumption)
        obtain ⟨ad210, e210, hx210_0, hx210_1, hx210_2⟩ := at_T40 HR0.out x5_1 p210 q210
        cases e210
        replace p210 := eq_true p210
        replace q210 := eq_true q210
        have p211 : 0 ≤ (x5_1 : Int) := of_decide_eq_true (by first | (with_reducible assumption) | assumption)
        have q211 : x5_1 < (l1.length : Int) := of_decide_eq_true (by first | (with_reducible assumption) | assumption)
        obtain ⟨ad211, e211, hx211_0, hx211_1, hx211_2⟩ := at_T40 HR1.out x5_1 p211 q211
        cases e211
        replace p211 := eq_true p211
        replace q211 := eq_true q211
        go_wp2
        repeat (go_quiet (fail); try go_wp2)
        go_ret
        exact ⟨by first | rfl | (simp; done) | (simp [*]; done), by repeat (first | exact Drawn0.refl _ | apply Drawn0.step)⟩
       ·rw [if_neg c7] at H
        have c7b0 : (!(((rd_T40 l0 x5_1).f0) == ((rd_T40 l1 x5_1).f0)) || (!(((rd_T40 l0 x5_1).f1) == ((rd_T40 l1 x5_1).f1)) || (!(((rd_T40 l0 x5_1).f2) == ((rd_T40 l1 x5_1).f2))))) = false := by simpa using c7
        clear c7
        have H' := Aside0.mk H
        clear H
        have p210 : 0 ≤ (x5_1 : Int) := of_decide_eq_true (by first | (with_reducible assumption) | assumption)
        have q210 : x5_1 < (l0.length : Int) := of_decide_eq_true (by first | (with_reducible assumption) | assumption)
        obtain ⟨ad210, e210, hx210_0, hx210_1, hx210_2⟩ := at_T40 HR0.out x5_1 p210 q210
        cases e210
        replace p210 := eq_true p210
        replace q210 := eq_true q210
        have p211 : 0 ≤ (x5_1 : Int) := of_decide_eq_true (by first | (with_reducible assumption) | assumption)
        have q211 : x5_1 < (l1.length : Int) := of_decide_eq_true (by first | (with_reducible assumption) | assumption)
        obtain ⟨ad211, e211, hx211_0, hx211_1, hx211_2⟩ := at_T40 HR1.out x5_1 p211 q211
        cases e211
        replace p211 := eq_true p211
        replace q211 := eq_true q211
        go_wp2
        repeat (go_quiet (fail); try go_wp2)
        go_roundg k1
        case measure => have := HK1.out; omega
        case rel => exact ⟨(wrap64 (x5_1 + 1)), (by first | rfl | (simp; done) | (simp [*]; done)), H', ⟨by have := HK1.out; omega⟩, by repeat (first | exact Drawn0.refl _ | apply Drawn0.step)⟩
      ·rw [if_neg c6] at H
       exact absurd H (by simp)
     ·rw [if_neg c5] at H
      exact absurd H (by simp)
    ·rw [if_neg c4] at H
     have c4b0 : decide (x5_1 < (l0.length : Int)) = false := decide_eq_false c4
     clear c4
     obtain rfl := Option.some.inj H
     go_wp2
     repeat (go_quiet (fail); try go_wp2)
     go_ret
     exact ⟨by first | rfl | (simp; done) | (simp [*]; done), by repeat (first | exact Drawn0.refl _ | apply Drawn0.step)⟩
 ·rw [if_neg c3] at H
  have c3b0 : ((l0.length : Int) == (l1.length : Int)) = false := beq_eq_false_iff_ne.mpr c3
  have c3b1 : ((l0.length : Int) != (l1.length : Int)) = true := bne_iff_ne.mpr c3
  have c3b2 : (l0.length == l1.length) = false := by first | simpa using c3 | (simp at c3 ⊢; omega)
  obtain rfl := Option.some.inj H
  go_enter Tryd.func17, Tryd.ntmps17
  go_wp2
  repeat (go_quiet (fail); try go_wp2)
  go_ret
  exact ⟨by first | rfl | (simp; done) | (simp [*]; done), by repeat (first | exact Drawn0.refl _ | apply Drawn0.step)⟩

end Go.Proofs.YtdaccmjfefknoaaDoor.PLa
