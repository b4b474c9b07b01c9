-- PRINTED by print.py (a twelfth state) out of the translation. Not trusted: Lean checks it.
import Derived.Test.YtipnlgmeonepfaaGreatDoorPFax0
import Derived.Test.YtipnlgmeonepfaaGreatDoorPFax11
import Derived.Test.YtipnlgmeonepfaaGreatDoorFrD
namespace Go.Proofs.YtipnlgmeonepfaaGreatDoor.PFa
open Go.RowKit Go.Proofs.YtipnlgmeonepfaaGreatDoorW.PrintWords Go.Proofs.YtipnlgmeonepfaaGreatDoorW.PrintLast Go.Proofs.YtipnlgmeonepfaaGreatDoorW.PrintMore
attribute [local go_sem] max2_int min2_int max_two min_two max_three min_three max_four min_four   -- for this text's walks alone
set_option linter.unusedVariables false
set_option linter.unusedSimpArgs false

/-! ### skerrylaw02_FragPrefix: function 4 -/
def skerrylaw02_FragPrefix.j0 : Nat → List (S39) → List ByteArray → List (S39) → Bool → Int → Int → Bool → Option (Bool)
 | 0, _, _, _, _, _, _, _ => none
 | k + 1, x0, x1, x2, x7, x9, x10, x46 => if x46 = true then (some x7) else ((some (([] : List (S39)) : List (S39))).bind fun y258 => (if 0 ≤ (wrap64 (x9 + 3)) then (if (wrap64 (x9 + 3)) ≤ (x0.length : Int) then ((some (x0.take ((wrap64 (x9 + 3)) : Int).toNat : List (S39))).bind fun y261 => (if y258.length + y261.length < 2932031007402 then ((some (y258 ++ y261 : List (S39))).bind fun y265 => (if y265.length + x2.length < 2932031007402 then ((fragment_Read.f (y265 ++ x2) x1).bind fun bt271 => (if x7 = true then (if bt271.2.2 = x10 then (some (bt271.2.1 == x9)) else (some false)) else (some false))) else (none))) else (none))) else (none)) else (none)))
def skerrylaw02_FragPrefix.f (k : Nat) (l0 : List (S39)) (l1 : List ByteArray) (l2 : List (S39)) : Option (Bool) := (skerrylaw02_sane.f).bind fun t252 => ((fragment_Read.f l0 l1).bind fun bt253 => (if bt253.2.2 = 14 then (if (wrap64 (bt253.2.1 + 2)) ≥ (l0.length : Int) then (skerrylaw02_FragPrefix.j0 k l0 l1 l2 t252 bt253.2.1 bt253.2.2 true) else (skerrylaw02_FragPrefix.j0 k l0 l1 l2 t252 bt253.2.1 bt253.2.2 (decide ((wrap64 ((wrap64 (bt253.2.1 + 3)) + (l2.length : Int))) > 6000)))) else (if bt253.2.2 = 6 then (if (wrap64 (bt253.2.1 + 2)) ≥ (l0.length : Int) then (skerrylaw02_FragPrefix.j0 k l0 l1 l2 t252 bt253.2.1 bt253.2.2 true) else (skerrylaw02_FragPrefix.j0 k l0 l1 l2 t252 bt253.2.1 bt253.2.2 (decide ((wrap64 ((wrap64 (bt253.2.1 + 3)) + (l2.length : Int))) > 6000)))) else (if bt253.2.2 = 20 then (if (wrap64 (bt253.2.1 + 2)) ≥ (l0.length : Int) then (skerrylaw02_FragPrefix.j0 k l0 l1 l2 t252 bt253.2.1 bt253.2.2 true) else (skerrylaw02_FragPrefix.j0 k l0 l1 l2 t252 bt253.2.1 bt253.2.2 (decide ((wrap64 ((wrap64 (bt253.2.1 + 3)) + (l2.length : Int))) > 6000)))) else (skerrylaw02_FragPrefix.j0 k l0 l1 l2 t252 bt253.2.1 bt253.2.2 true)))))
set_option maxHeartbeats 8000000 in
set_option maxRecDepth 100000 in
theorem skerrylaw02_FragPrefix.calls (k : Nat) (A0 : Option Addr) (c0 : Nat) (l0 : List (S39)) (A1 : Option Addr) (c1 : Nat) (l1 : List ByteArray) (A2 : Option Addr) (c2 : Nat) (l2 : List (S39)) (r : Bool) (w : World) (hr0 : Kd.C k39 w A0 l0.length l0) (hc0 : l0.length ≤ c0) (hr1 : Kd.C Kd.string w A1 l1.length l1) (hc1 : l1.length ≤ c1) (hr2 : Kd.C k39 w A2 l2.length l2) (hc2 : l2.length ≤ c2) (h : skerrylaw02_FragPrefix.f k l0 l1 l2 = some r) (hE : Lx.Env w) :
  Calls Tryz.prog 4 #[.slice A0 l0.length c0, .slice A1 l1.length c1, .slice A2 l2.length c2] w fun e w' => e = .returned (.bool r) ∧ Below w.heap.size w w' := by
 have HE := Lib.hid hE
 clear hE
 have HR0 := Aside0.mk hr0
 have HC0 := Aside0.mk hc0
 clear hr0 hc0
 have HR1 := Aside0.mk hr1
 have HC1 := Aside0.mk hc1
 clear hr1 hc1
 have HR2 := Aside0.mk hr2
 have HC2 := Aside0.mk hc2
 clear hr2 hc2
 have HB := Aside0.mk (Below.refl w.heap.size w)
 have H : ((skerrylaw02_sane.f).bind fun t252 => ((fragment_Read.f l0 l1).bind fun bt253 => (if bt253.2.2 = 14 then (if (wrap64 (bt253.2.1 + 2)) ≥ (l0.length : Int) then (skerrylaw02_FragPrefix.j0 k l0 l1 l2 t252 bt253.2.1 bt253.2.2 true) else (skerrylaw02_FragPrefix.j0 k l0 l1 l2 t252 bt253.2.1 bt253.2.2 (decide ((wrap64 ((wrap64 (bt253.2.1 + 3)) + (l2.length : Int))) > 6000)))) else (if bt253.2.2 = 6 then (if (wrap64 (bt253.2.1 + 2)) ≥ (l0.length : Int) then (skerrylaw02_FragPrefix.j0 k l0 l1 l2 t252 bt253.2.1 bt253.2.2 true) else (skerrylaw02_FragPrefix.j0 k l0 l1 l2 t252 bt253.2.1 bt253.2.2 (decide ((wrap64 ((wrap64 (bt253.2.1 + 3)) + (l2.length : Int))) > 6000)))) else (if bt253.2.2 = 20 then (if (wrap64 (bt253.2.1 + 2)) ≥ (l0.length : Int) then (skerrylaw02_FragPrefix.j0 k l0 l1 l2 t252 bt253.2.1 bt253.2.2 true) else (skerrylaw02_FragPrefix.j0 k l0 l1 l2 t252 bt253.2.1 bt253.2.2 (decide ((wrap64 ((wrap64 (bt253.2.1 + 3)) + (l2.length : Int))) > 6000)))) else (skerrylaw02_FragPrefix.j0 k l0 l1 l2 t252 bt253.2.1 bt253.2.2 true)))))) = some r := h
 clear h
 replace H := Option.bind_eq_some_iff.mp H
 obtain ⟨t252, A40, H⟩ := H
 replace H : ((fragment_Read.f l0 l1).bind fun bt253 => (if bt253.2.2 = 14 then (if (wrap64 (bt253.2.1 + 2)) ≥ (l0.length : Int) then (skerrylaw02_FragPrefix.j0 k l0 l1 l2 t252 bt253.2.1 bt253.2.2 true) else (skerrylaw02_FragPrefix.j0 k l0 l1 l2 t252 bt253.2.1 bt253.2.2 (decide ((wrap64 ((wrap64 (bt253.2.1 + 3)) + (l2.length : Int))) > 6000)))) else (if bt253.2.2 = 6 then (if (wrap64 (bt253.2.1 + 2)) ≥ (l0.length : Int) then (skerrylaw02_FragPrefix.j0 k l0 l1 l2 t252 bt253.2.1 bt253.2.2 true) else (skerrylaw02_FragPrefix.j0 k l0 l1 l2 t252 bt253.2.1 bt253.2.2 (decide ((wrap64 ((wrap64 (bt253.2.1 + 3)) + (l2.length : Int))) > 6000)))) else (if bt253.2.2 = 20 then (if (wrap64 (bt253.2.1 + 2)) ≥ (l0.length : Int) then (skerrylaw02_FragPrefix.j0 k l0 l1 l2 t252 bt253.2.1 bt253.2.2 true) else (skerrylaw02_FragPrefix.j0 k l0 l1 l2 t252 bt253.2.1 bt253.2.2 (decide ((wrap64 ((wrap64 (bt253.2.1 + 3)) + (l2.length : Int))) > 6000)))) else (skerrylaw02_FragPrefix.j0 k l0 l1 l2 t252 bt253.2.1 bt253.2.2 true))))) = some r := H
 have A4 := Aside0.mk A40
 clear A40
 replace H := Option.bind_eq_some_iff.mp H
 obtain ⟨⟨t253, t254, t255⟩, A50, H⟩ := H
 replace H : (if t255 = 14 then (if (wrap64 (t254 + 2)) ≥ (l0.length : Int) then (skerrylaw02_FragPrefix.j0 k l0 l1 l2 t252 t254 t255 true) else (skerrylaw02_FragPrefix.j0 k l0 l1 l2 t252 t254 t255 (decide ((wrap64 ((wrap64 (t254 + 3)) + (l2.length : Int))) > 6000)))) else (if t255 = 6 then (if (wrap64 (t254 + 2)) ≥ (l0.length : Int) then (skerrylaw02_FragPrefix.j0 k l0 l1 l2 t252 t254 t255 true) else (skerrylaw02_FragPrefix.j0 k l0 l1 l2 t252 t254 t255 (decide ((wrap64 ((wrap64 (t254 + 3)) + (l2.length : Int))) > 6000)))) else (if t255 = 20 then (if (wrap64 (t254 + 2)) ≥ (l0.length : Int) then (skerrylaw02_FragPrefix.j0 k l0 l1 l2 t252 t254 t255 true) else (skerrylaw02_FragPrefix.j0 k l0 l1 l2 t252 t254 t255 (decide ((wrap64 ((wrap64 (t254 + 3)) + (l2.length : Int))) > 6000)))) else (skerrylaw02_FragPrefix.j0 k l0 l1 l2 t252 t254 t255 true)))) = some r := H
 have A5 := Aside0.mk A50
 clear A50
 have HC6 := Aside0.mk H
 clear H
 go_enter Tryz.func4, Tryz.ntmps4
 go_upto_region 3 with (first | ((with_reducible refine gate_callee (f := 14) rfl ?_); refine goesL_ (some 14) rfl rfl Tryz.func14 (by kernel_rfl) rfl #[] rfl (by (try simp only [List.map_toArray, List.map_cons, List.map_nil]); first | done | rfl | (simp only [List.length_drop, List.length_take]; rfl)) ?_; (with_reducible refine (skerrylaw02_sane.calls  t252 _ A4.out (Lx.Env.below HE.out (by repeat (first | (with_reducible first | exact HB.out | apply below_alloc | apply pw_below_drewN | apply below_drew1) | exact HB.out)))).mono ?_); rintro e w7 ⟨rfl, hb⟩; refine ⟨_, rfl, ?_⟩; have n0_ := Aside0.mk (below_step (by repeat (first | (with_reducible first | exact HB.out | apply below_alloc | apply pw_below_drewN | apply below_drew1) | exact HB.out)) hb); clear HB; have HB := n0_; clear n0_; (try clear hb); (try clear hb2); (try clear hk); (try clear hi)) | ((with_reducible refine gate_callee (f := 15) rfl ?_); refine goesL_ (some 18) rfl rfl Tryz.func15 (by kernel_rfl) rfl #[.slice A0 l0.length c0, .slice A1 l1.length c1] rfl (by (try simp only [List.map_toArray, List.map_cons, List.map_nil]); first | done | rfl | (simp only [List.length_drop, List.length_take]; rfl)) ?_; (with_reducible refine (fragment_Read.calls _ _ l0 _ _ l1 t253 t254 t255 _ ?side1 ?side2 ?side3 ?side4 A5.out (Lx.Env.below HE.out (by repeat (first | (with_reducible first | exact HB.out | apply below_alloc | apply pw_below_drewN | apply below_drew1) | exact HB.out)))).mono ?_); (case side1 => repeat (first | exact (Kd.C_below HR0.out HB.out) | (with_reducible refine Kd.C_alloc ?_ _) | (with_reducible refine Kd.C_drewN ?_ _) | (with_reducible refine Kd.C_drew ?_))); (case side2 => exact HC0.out); (case side3 => repeat (first | exact (Kd.C_below HR1.out HB.out) | (with_reducible refine Kd.C_alloc ?_ _) | (with_reducible refine Kd.C_drewN ?_ _) | (with_reducible refine Kd.C_drew ?_))); (case side4 => exact HC1.out); rintro e w8 ⟨v256, rfl, ho0, hb⟩; refine ⟨_, rfl, ?_⟩; have n0_ := Aside0.mk (Kd.R_lower ho0 (below_size (by repeat (first | (with_reducible first | exact HB.out | apply below_alloc | apply pw_below_drewN | apply below_drew1) | exact HB.out)))); have n1_ := Aside0.mk (below_step (by repeat (first | (with_reducible first | exact HB.out | apply below_alloc | apply pw_below_drewN | apply below_drew1) | exact HB.out)) hb); clear HB; have HO257 := n0_; have HB := n1_; clear n0_ n1_; (try clear hb); (try clear hb2); (try clear hk); (try clear hi); (try clear ho0)))
 (try simp only [Act.put, List.setIfInBounds_toArray, List.set_cons_zero, List.set_cons_succ])
 go_cut [46] (fun v46 wc => ∃ (kq : Nat) (x46_5 : Bool), v46 = .bool x46_5 ∧ Aside0 (skerrylaw02_FragPrefix.j0 kq l0 l1 l2 t252 t254 t255 x46_5 = some r) ∧ Aside0 (kq ≤ k) ∧ Aside0 (Below w.heap.size w wc))
 case first =>
  have H := HC6.out
  clear HC6
  by_cases c9 : t255 = 14
  ·rw [if_pos c9] at H
   have c9b0 : (t255 == 14) = true := beq_iff_eq.mpr c9
   have c9b1 : (t255 != 14) = false := bne_eq_false_iff_eq.mpr c9
   clear c9
   (first | rw [c9b0] | (simp only [i64_w, i32_w]; rw [c9b0]) | skip)
   by_cases c10 : (wrap64 (t254 + 2)) ≥ (l0.length : Int)
   ·rw [if_pos c10] at H
    have c10b0 : decide ((l0.length : Int) ≤ (wrap64 (t254 + 2))) = true := decide_eq_true c10
    clear c10
    have H' := Aside0.mk H
    clear H
    go_wp2
    go_meet
    case rel => exact ⟨_, (true), (by first | rfl | (simp; done) | (simp [*]; done)), H', ⟨by first | omega | exact Nat.le_refl _⟩, ⟨by repeat (first | (with_reducible first | exact HB.out | apply below_alloc | apply pw_below_drewN | apply below_drew1) | exact HB.out)⟩⟩
   ·rw [if_neg c10] at H
    have c10b0 : decide ((l0.length : Int) ≤ (wrap64 (t254 + 2))) = false := decide_eq_false c10
    clear c10
    have H' := Aside0.mk H
    clear H
    go_wp2
    go_meet
    case rel => exact ⟨_, (decide ((wrap64 ((wrap64 (t254 + 3)) + (l2.length : Int))) > 6000)), (by first | rfl | (simp; done) | (simp [*]; done)), H', ⟨by first | omega | exact Nat.le_refl _⟩, ⟨by repeat (first | (with_reducible first | exact HB.out | apply below_alloc | apply pw_below_drewN | apply below_drew1) | exact HB.out)⟩⟩
  ·rw [if_neg c9] at H
   have c9b0 : (t255 == 14) = false := beq_eq_false_iff_ne.mpr c9
   have c9b1 : (t255 != 14) = true := bne_iff_ne.mpr c9
   (first | rw [c9b0] | (simp only [i64_w, i32_w]; rw [c9b0]) | skip)
   by_cases c11 : t255 = 6
   ·rw [if_pos c11] at H
    have c11b0 : (t255 == 6) = true := beq_iff_eq.mpr c11
    have c11b1 : (t255 != 6) = false := bne_eq_false_iff_eq.mpr c11
    clear c11
    by_cases c12 : (wrap64 (t254 + 2)) ≥ (l0.length : Int)
    ·rw [if_pos c12] at H
     have c12b0 : decide ((l0.length : Int) ≤ (wrap64 (t254 + 2))) = true := decide_eq_true c12
     clear c12
     have H' := Aside0.mk H
     clear H
     go_wp2
     go_meet
     case rel => exact ⟨_, (true), (by first | rfl | (simp; done) | (simp [*]; done)), H', ⟨by first | omega | exact Nat.le_refl _⟩, ⟨by repeat (first | (with_reducible first | exact HB.out | apply below_alloc | apply pw_below_drewN | apply below_drew1) | exact HB.out)⟩⟩
    ·rw [if_neg c12] at H
     have c12b0 : decide ((l0.length : Int) ≤ (wrap64 (t254 + 2))) = false := decide_eq_false c12
     clear c12
     have H' := Aside0.mk H
     clear H
     go_wp2
     go_meet
     case rel => exact ⟨_, (decide ((wrap64 ((wrap64 (t254 + 3)) + (l2.length : Int))) > 6000)), (by first | rfl | (simp; done) | (simp [*]; done)), H', ⟨by first | omega | exact Nat.le_refl _⟩, ⟨by repeat (first | (with_reducible first | exact HB.out | apply below_alloc | apply pw_below_drewN | apply below_drew1) | exact HB.out)⟩⟩
   ·rw [if_neg c11] at H
    have c11b0 : (t255 == 6) = false := beq_eq_false_iff_ne.mpr c11
    have c11b1 : (t255 != 6) = true := bne_iff_ne.mpr c11
    by_cases c13 : t255 = 20
    ·rw [if_pos c13] at H
     have c13b0 : (t255 == 20) = true := beq_iff_eq.mpr c13
     have c13b1 : (t255 != 20) = false := bne_eq_false_iff_eq.mpr c13
     clear c13
     by_cases c14 : (wrap64 (t254 + 2)) ≥ (l0.length : Int)
     ·rw [if_pos c14] at H
      have c14b0 : decide ((l0.length : Int) ≤ (wrap64 (t254 + 2))) = true := decide_eq_true c14
      clear c14
      have H' := Aside0.mk H
      clear H
      go_wp2
      go_meet
      case rel => exact ⟨_, (true), (by first | rfl | (simp; done) | (simp [*]; done)), H', ⟨by first | omega | exact Nat.le_refl _⟩, ⟨by repeat (first | (with_reducible first | exact HB.out | apply below_alloc | apply pw_below_drewN | apply below_drew1) | exact HB.out)⟩⟩
     ·rw [if_neg c14] at H
      have c14b0 : decide ((l0.length : Int) ≤ (wrap64 (t254 + 2))) = false := decide_eq_false c14
      clear c14
      have H' := Aside0.mk H
      clear H
      go_wp2
      go_meet
      case rel => exact ⟨_, (decide ((wrap64 ((wrap64 (t254 + 3)) + (l2.length : Int))) > 6000)), (by first | rfl | (simp; done) | (simp [*]; done)), H', ⟨by first | omega | exact Nat.le_refl _⟩, ⟨by repeat (first | (with_reducible first | exact HB.out | apply below_alloc | apply pw_below_drewN | apply below_drew1) | exact HB.out)⟩⟩
    ·rw [if_neg c13] at H
     have c13b0 : (t255 == 20) = false := beq_eq_false_iff_ne.mpr c13
     have c13b1 : (t255 != 20) = true := bne_iff_ne.mpr c13
     have H' := Aside0.mk H
     clear H
     go_wp2
     go_meet
     case rel => exact ⟨_, (true), (by first | rfl | (simp; done) | (simp [*]; done)), H', ⟨by first | omega | exact Nat.le_refl _⟩, ⟨by repeat (first | (with_reducible first | exact HB.out | apply below_alloc | apply pw_below_drewN | apply below_drew1) | exact HB.out)⟩⟩
 case rest =>
  clear HC6
  try clear c1
  try clear c2
  try clear p2
  try clear c4
  try clear p6
  try clear c9
  try clear c9b0
  try clear c9b1
  try clear c10
  try clear c10b0
  try clear c11
  try clear c11b0
  try clear c11b1
  try clear c12
  try clear c12b0
  try clear c13
  try clear c13b0
  try clear c13b1
  try clear c14
  try clear c14b0
  obtain ⟨kq, x46_5, rfl, HA, HJ5, HB⟩ := hcut
  cases kq with
  | zero => exact absurd HA.out (by simp [skerrylaw02_FragPrefix.j0])
  | succ kj5 =>
   have H := HA.out
   clear HA
   simp only [skerrylaw02_FragPrefix.j0] at H
   by_cases c15 : x46_5 = true
   ·subst c15
    have H1 : (some t252) = some r := by rw [if_pos rfl] at H; exact H
    clear H
    have H := H1
    clear H1
    obtain rfl := Option.some.inj H
    go_wp2
    go_ret
    exact ⟨by first | rfl | (simp [errW_none, errW_some] <;> rfl) | (simp [*, errW_none, errW_some] <;> rfl), by repeat (first | (with_reducible first | exact HB.out | apply below_alloc | apply pw_below_drewN | apply below_drew1) | exact HB.out)⟩
   ·replace c15 := Bool.eq_false_iff.mpr c15
    subst c15
    have H1 : ((some (([] : List (S39)) : List (S39))).bind fun y258 => (if 0 ≤ (wrap64 (t254 + 3)) then (if (wrap64 (t254 + 3)) ≤ (l0.length : Int) then ((some (l0.take ((wrap64 (t254 + 3)) : Int).toNat : List (S39))).bind fun y261 => (if y258.length + y261.length < 2932031007402 then ((some (y258 ++ y261 : List (S39))).bind fun y265 => (if y265.length + l2.length < 2932031007402 then ((fragment_Read.f (y265 ++ l2) l1).bind fun bt271 => (if t252 = true then (if bt271.2.2 = t255 then (some (bt271.2.1 == t254)) else (some false)) else (some false))) else (none))) else (none))) else (none)) else (none))) = some r := by rw [if_neg (show ¬ (false = true) by decide)] at H; exact H
    clear H
    have H := H1
    clear H1
    obtain ⟨y258, hy258⟩ : ∃ y_ : List (S39), y_ = (([] : List (S39))) := ⟨_, rfl⟩
    replace H : (if 0 ≤ (wrap64 (t254 + 3)) then (if (wrap64 (t254 + 3)) ≤ (l0.length : Int) then ((some (l0.take ((wrap64 (t254 + 3)) : Int).toNat : List (S39))).bind fun y261 => (if y258.length + y261.length < 2932031007402 then ((some (y258 ++ y261 : List (S39))).bind fun y265 => (if y265.length + l2.length < 2932031007402 then ((fragment_Read.f (y265 ++ l2) l1).bind fun bt271 => (if t252 = true then (if bt271.2.2 = t255 then (some (bt271.2.1 == t254)) else (some false)) else (some false))) else (none))) else (none))) else (none)) else (none)) = some r := by first | (rw [hy258]; with_reducible exact H) | (have H2_ := (Option.bind_some _ _).symm.trans H; rw [hy258]; with_reducible exact H2_) | (have H2_ := (Option.bind_some _ _).symm.trans H; with_reducible exact H2_) | with_reducible exact H | (rw [hy258]; exact H) | exact H
    have Ny258 := Aside0.mk hy258
    clear hy258
    obtain ⟨ji16, hji16⟩ : ∃ j_ : Int, (wrap64 (t254 + 3)) = j_ := ⟨_, rfl⟩
    replace H : (if 0 ≤ (ji16) then (if (ji16) ≤ (l0.length : Int) then ((some (l0.take ((ji16) : Int).toNat : List (S39))).bind fun y261 => (if y258.length + y261.length < 2932031007402 then ((some (y258 ++ y261 : List (S39))).bind fun y265 => (if y265.length + l2.length < 2932031007402 then ((fragment_Read.f (y265 ++ l2) l1).bind fun bt271 => (if t252 = true then (if bt271.2.2 = t255 then (some (bt271.2.1 == t254)) else (some false)) else (some false))) else (none))) else (none))) else (none)) else (none)) = some r := by first | (rw [hji16] at H; exact H) | (simp only [hji16] at H ⊢; exact H)
    have hji16w : (IntKind.i64.wrap (t254 + 3)) = ji16 := (i64_w _).trans hji16
    by_cases c17 : 0 ≤ (ji16)
    ·rw [if_pos c17] at H
     have c17b0 := eq_true c17
     have c17b1 : decide (0 ≤ (ji16)) = true := decide_eq_true c17
     clear c17
     by_cases c18 : (ji16) ≤ (l0.length : Int)
     ·rw [if_pos c18] at H
      have c18b0 := eq_true c18
      have c18b1 : decide ((ji16) ≤ (l0.length : Int)) = true := decide_eq_true c18
      clear c18
      obtain ⟨y261, hy261⟩ : ∃ y_ : List (S39), y_ = (l0.take ((ji16) : Int).toNat) := ⟨_, rfl⟩
      replace H : (if y258.length + y261.length < 2932031007402 then ((some (y258 ++ y261 : List (S39))).bind fun y265 => (if y265.length + l2.length < 2932031007402 then ((fragment_Read.f (y265 ++ l2) l1).bind fun bt271 => (if t252 = true then (if bt271.2.2 = t255 then (some (bt271.2.1 == t254)) else (some false)) else (some false))) else (none))) else (none)) = some r := by first | (rw [hy261]; with_reducible exact H) | (have H2_ := (Option.bind_some _ _).symm.trans H; rw [hy261]; with_reducible exact H2_) | (have H2_ := (Option.bind_some _ _).symm.trans H; with_reducible exact H2_) | with_reducible exact H | (rw [hy261]; exact H) | exact H
      have Ny261 := Aside0.mk hy261
      clear hy261
      by_cases c19 : y258.length + y261.length < 2932031007402
      ·rw [if_pos c19] at H
       have LMc19 := Aside0.mk c19
       clear c19
       obtain ⟨y265, hy265⟩ : ∃ y_ : List (S39), y_ = (y258 ++ y261) := ⟨_, rfl⟩
       replace H : (if y265.length + l2.length < 2932031007402 then ((fragment_Read.f (y265 ++ l2) l1).bind fun bt271 => (if t252 = true then (if bt271.2.2 = t255 then (some (bt271.2.1 == t254)) else (some false)) else (some false))) else (none)) = some r := by first | (rw [hy265]; with_reducible exact H) | (have H2_ := (Option.bind_some _ _).symm.trans H; rw [hy265]; with_reducible exact H2_) | (have H2_ := (Option.bind_some _ _).symm.trans H; with_reducible exact H2_) | with_reducible exact H | (rw [hy265]; exact H) | exact H
       have Ny265 := Aside0.mk hy265
       clear hy265
       by_cases c20 : y265.length + l2.length < 2932031007402
       ·rw [if_pos c20] at H
        have LMc20 := Aside0.mk c20
        clear c20
        obtain ⟨y268, hy268⟩ : ∃ y_ : List (S39), y_ = (y265 ++ l2) := ⟨_, rfl⟩
        replace H : ((fragment_Read.f y268 l1).bind fun bt271 => (if t252 = true then (if bt271.2.2 = t255 then (some (bt271.2.1 == t254)) else (some false)) else (some false))) = some r := by first | (rw [hy268]; with_reducible exact H) | (have H2_ := (Option.bind_some _ _).symm.trans H; rw [hy268]; with_reducible exact H2_) | (have H2_ := (Option.bind_some _ _).symm.trans H; with_reducible exact H2_) | with_reducible exact H | (rw [hy268]; exact H) | exact H
        have Ny268 := Aside0.mk hy268
        clear hy268
        replace H := Option.bind_eq_some_iff.mp H
        obtain ⟨⟨t271, t272, t273⟩, A210, H⟩ := H
        replace H : (if t252 = true then (if t273 = t255 then (some (t272 == t254)) else (some false)) else (some false)) = some r := H
        have A21 := Aside0.mk A210
        clear A210
        by_cases c22 : t252 = true
        ·subst c22
         have H1 : (if t273 = t255 then (some (t272 == t254)) else (some false)) = some r := by rw [if_pos rfl] at H; exact H
         clear H
         have H := H1
         clear H1
         by_cases c23 : t273 = t255
         ·rw [if_pos c23] at H
          have c23b0 : (t273 == t255) = true := beq_iff_eq.mpr c23
          have c23b1 : (t273 != t255) = false := bne_eq_false_iff_eq.mpr c23
          clear c23
          obtain rfl := Option.some.inj H
          go_wp2_with (first | ((with_reducible refine gate_dst (N := 49) rfl ?_); refine Kd.R_lit k39 _ 39 ?hg (N := 49) ?hd (xs := ([] : List (S39))) (inner := []) (ok := fun _ => True) (okp := fun _ => True) ?hr ?hp (fun _ hk => hk) trivial (Below.refl _ _) (Nat.le_refl _) (by simp) ?_; (case hd => rfl); (case hg => rfl); (case hr => first | (go_simp; done) | (go_simp; rfl)); (case hp => exact (Reps.none _ _)); intro v259 w24 ho25 hb hg_ hnew_; clear hg_ hnew_; (first | rw [← Ny258.out] at ho25 | (simp only [Int.reduceToNat] at ho25; rw [← Ny258.out] at ho25)); have n0_ := Aside0.mk (Kd.R_lower ho25 (below_size (by repeat (first | (with_reducible first | exact HB.out | apply below_alloc | apply pw_below_drewN | apply below_drew1) | exact HB.out)))); have n1_ := Aside0.mk (below_step (by repeat (first | (with_reducible first | exact HB.out | apply below_alloc | apply pw_below_drewN | apply below_drew1) | exact HB.out)) hb); clear HB; have HO260 := n0_; have HB := n1_; clear n0_ n1_; clear hb ho25; have q26 : ((ji16) : Int) ≤ ((l0.length : Int) : Int) := of_decide_eq_true (by first | (with_reducible assumption) | assumption); obtain ⟨i026, hi026, _, hsz26, _⟩ := info_parts info39; have hroom26 : l0.length ≤ c0 := HC0.out; have hC26 : Kd.C k39 _ A0 l0.length l0 := HR0.out; have hcut26 := cut_to (P := Tryz.prog) 22 39 .i64 Tryz.underlying22 hi026 A0 l0.length c0 (ji16) (of_decide_eq_true (by first | (with_reducible assumption) | assumption)) q26 hroom26; have hr26 := Kd.C_take (m := ((ji16) : Int).toNat) hC26 (by omega); have hy26 : y261.length = ((ji16) : Int).toNat := (by rw [Ny261.out, List.length_take]; omega); rw [← Ny261.out] at hr26; rw [← hy26] at hcut26; have HR264 := Aside0.mk hr26; have HC264 := Aside0.mk (show y261.length ≤ c0 from by omega); clear hr26 hC26 hroom26 hi026 hsz26; have KY26 := Aside0.mk hy26; clear hy26; replace q26 := eq_true q26) | ((with_reducible refine gate_builtin (b := .append) (xs := #[.tmp 49, .tmp 53]) rfl ?_); at_builtin; refine Kd.R_append_rows k39 (w0 := w) w.heap.size rfl (.tmp 49) (.tmp 53) 22 39 (.agg #[(.int .i64 0), (.int .i64 0), (.string ⟨#[]⟩), (.int .i64 0), (.int .i64 0)]) 48 rfl Tryz.underlying22 info39 rfl (by decide) (by omega) v259 y258 y261 _ _ _ (fun _ => True) (fun _ => False) rfl rfl ?aO ?aR (fun _ _ h => h) (fun _ h => h.elim) ?aF ?aB ?aS ?aL ?_; (case aR => repeat (first | exact (Kd.C_below HR264.out HB.out) | (with_reducible refine Kd.C_alloc ?_ _) | (with_reducible refine Kd.C_drewN ?_ _) | (with_reducible refine Kd.C_drew ?_))); (case aB => exact (by repeat (first | (with_reducible first | exact HB.out | apply below_alloc | apply pw_below_drewN | apply below_drew1) | exact HB.out))); (case aF => exact (fun _ _ => trivial)); (case aO => exact (by (with_reducible repeat (first | apply Kd.R_alloc | apply Kd.R_drewN | apply Kd.R_drew)); exact HO260.out)); (case aS => exact (below_size (by repeat (first | (with_reducible first | exact HB.out | apply below_alloc | apply pw_below_drewN | apply below_drew1) | exact HB.out)))); (case aL => have := LMc19.out; omega); intro v266 w27 ho hb hg hat; rw [← Ny265.out] at ho; have n0_ := Aside0.mk (hb); have n1_ := Aside0.mk (ho); clear HB; clear HO260; have HB := n0_; have HO267 := n1_; clear n0_ n1_; clear ho hb hg hat) | ((with_reducible refine gate_builtin (b := .append) (xs := #[.tmp 54, .tmp 55]) rfl ?_); at_builtin; refine Kd.R_append_rows k39 (w0 := w) w.heap.size rfl (.tmp 54) (.tmp 55) 22 39 (.agg #[(.int .i64 0), (.int .i64 0), (.string ⟨#[]⟩), (.int .i64 0), (.int .i64 0)]) 48 rfl Tryz.underlying22 info39 rfl (by decide) (by omega) v266 y265 l2 _ _ _ (fun _ => True) (fun _ => False) rfl rfl ?aO ?aR (fun _ _ h => h) (fun _ h => h.elim) ?aF ?aB ?aS ?aL ?_; (case aR => repeat (first | exact (Kd.C_below HR2.out HB.out) | (with_reducible refine Kd.C_alloc ?_ _) | (with_reducible refine Kd.C_drewN ?_ _) | (with_reducible refine Kd.C_drew ?_))); (case aB => exact (by repeat (first | (with_reducible first | exact HB.out | apply below_alloc | apply pw_below_drewN | apply below_drew1) | exact HB.out))); (case aF => exact (fun _ _ => trivial)); (case aO => exact (by (with_reducible repeat (first | apply Kd.R_alloc | apply Kd.R_drewN | apply Kd.R_drew)); exact HO267.out)); (case aS => exact (below_size (by repeat (first | (with_reducible first | exact HB.out | apply below_alloc | apply pw_below_drewN | apply below_drew1) | exact HB.out)))); (case aL => have := LMc20.out; omega); intro v269 w28 ho hb hg hat; rw [← Ny268.out] at ho; have n0_ := Aside0.mk (hb); have n1_ := Aside0.mk (ho); clear HB; clear HO267; have HB := n0_; have HO270 := n1_; clear n0_ n1_; clear ho hb hg hat; obtain ⟨Ao29, co29, eo29⟩ := Kd.R_slice HO270.out; subst eo29) | ((with_reducible refine gate_callee (f := 15) rfl ?_); refine goesL_ (some 58) rfl rfl Tryz.func15 (by kernel_rfl) rfl #[.slice Ao29 y268.length co29, .slice A1 l1.length c1] rfl (by (try simp only [List.map_toArray, List.map_cons, List.map_nil]); first | done | rfl | (simp only [List.length_drop, List.length_take]; rfl)) ?_; (with_reducible refine (fragment_Read.calls _ _ y268 _ _ l1 t271 t272 t273 _ ?side1 ?side2 ?side3 ?side4 A21.out (Lx.Env.below HE.out (by repeat (first | (with_reducible first | exact HB.out | apply below_alloc | apply pw_below_drewN | apply below_drew1) | exact HB.out)))).mono ?_); (case side1 => repeat (first | exact (Kd.R_reads' HO270.out).2.2 | (with_reducible refine Kd.C_alloc ?_ _) | (with_reducible refine Kd.C_drewN ?_ _) | (with_reducible refine Kd.C_drew ?_))); (case side2 => exact (Kd.R_reads' HO270.out).2.1); (case side3 => repeat (first | exact (Kd.C_below HR1.out HB.out) | (with_reducible refine Kd.C_alloc ?_ _) | (with_reducible refine Kd.C_drewN ?_ _) | (with_reducible refine Kd.C_drew ?_))); (case side4 => exact HC1.out); rintro e w30 ⟨v274, rfl, ho0, hb⟩; refine ⟨_, rfl, ?_⟩; have n0_ := Aside0.mk (Kd.R_below (by (with_reducible repeat (first | apply Kd.R_alloc | apply Kd.R_drewN | apply Kd.R_drew)); exact HO270.out) hb); have n1_ := Aside0.mk (Kd.R_lower ho0 (below_size (by repeat (first | (with_reducible first | exact HB.out | apply below_alloc | apply pw_below_drewN | apply below_drew1) | exact HB.out)))); have n2_ := Aside0.mk (below_step (by repeat (first | (with_reducible first | exact HB.out | apply below_alloc | apply pw_below_drewN | apply below_drew1) | exact HB.out)) hb); clear HO270; clear HB; have HO270 := n0_; have HO275 := n1_; have HB := n2_; clear n0_ n1_ n2_; (try clear hb); (try clear hb2); (try clear hk); (try clear hi); (try clear ho0)))
          go_ret
          exact ⟨by first | rfl | (simp [errW_none, errW_some] <;> rfl) | (simp only [← hji16]; first | rfl | (simp [errW_none, errW_some] <;> rfl)) | (simp [*, errW_none, errW_some] <;> rfl), by repeat (first | (with_reducible first | exact HB.out | apply below_alloc | apply pw_below_drewN | apply below_drew1) | exact HB.out)⟩
         ·rw [if_neg c23] at H
          have c23b0 : (t273 == t255) = false := beq_eq_false_iff_ne.mpr c23
          have c23b1 : (t273 != t255) = true := bne_iff_ne.mpr c23
          obtain rfl := Option.some.inj H
          go_wp2_with (first | ((with_reducible refine gate_dst (N := 49) rfl ?_); refine Kd.R_lit k39 _ 39 ?hg (N := 49) ?hd (xs := ([] : List (S39))) (inner := []) (ok := fun _ => True) (okp := fun _ => True) ?hr ?hp (fun _ hk => hk) trivial (Below.refl _ _) (Nat.le_refl _) (by simp) ?_; (case hd => rfl); (case hg => rfl); (case hr => first | (go_simp; done) | (go_simp; rfl)); (case hp => exact (Reps.none _ _)); intro v259 w31 ho32 hb hg_ hnew_; clear hg_ hnew_; (first | rw [← Ny258.out] at ho32 | (simp only [Int.reduceToNat] at ho32; rw [← Ny258.out] at ho32)); have n0_ := Aside0.mk (Kd.R_lower ho32 (below_size (by repeat (first | (with_reducible first | exact HB.out | apply below_alloc | apply pw_below_drewN | apply below_drew1) | exact HB.out)))); have n1_ := Aside0.mk (below_step (by repeat (first | (with_reducible first | exact HB.out | apply below_alloc | apply pw_below_drewN | apply below_drew1) | exact HB.out)) hb); clear HB; have HO260 := n0_; have HB := n1_; clear n0_ n1_; clear hb ho32; have q33 : ((ji16) : Int) ≤ ((l0.length : Int) : Int) := of_decide_eq_true (by first | (with_reducible assumption) | assumption); obtain ⟨i033, hi033, _, hsz33, _⟩ := info_parts info39; have hroom33 : l0.length ≤ c0 := HC0.out; have hC33 : Kd.C k39 _ A0 l0.length l0 := HR0.out; have hcut33 := cut_to (P := Tryz.prog) 22 39 .i64 Tryz.underlying22 hi033 A0 l0.length c0 (ji16) (of_decide_eq_true (by first | (with_reducible assumption) | assumption)) q33 hroom33; have hr33 := Kd.C_take (m := ((ji16) : Int).toNat) hC33 (by omega); have hy33 : y261.length = ((ji16) : Int).toNat := (by rw [Ny261.out, List.length_take]; omega); rw [← Ny261.out] at hr33; rw [← hy33] at hcut33; have HR264 := Aside0.mk hr33; have HC264 := Aside0.mk (show y261.length ≤ c0 from by omega); clear hr33 hC33 hroom33 hi033 hsz33; have KY33 := Aside0.mk hy33; clear hy33; replace q33 := eq_true q33) | ((with_reducible refine gate_builtin (b := .append) (xs := #[.tmp 49, .tmp 53]) rfl ?_); at_builtin; refine Kd.R_append_rows k39 (w0 := w) w.heap.size rfl (.tmp 49) (.tmp 53) 22 39 (.agg #[(.int .i64 0), (.int .i64 0), (.string ⟨#[]⟩), (.int .i64 0), (.int .i64 0)]) 48 rfl Tryz.underlying22 info39 rfl (by decide) (by omega) v259 y258 y261 _ _ _ (fun _ => True) (fun _ => False) rfl rfl ?aO ?aR (fun _ _ h => h) (fun _ h => h.elim) ?aF ?aB ?aS ?aL ?_; (case aR => repeat (first | exact (Kd.C_below HR264.out HB.out) | (with_reducible refine Kd.C_alloc ?_ _) | (with_reducible refine Kd.C_drewN ?_ _) | (with_reducible refine Kd.C_drew ?_))); (case aB => exact (by repeat (first | (with_reducible first | exact HB.out | apply below_alloc | apply pw_below_drewN | apply below_drew1) | exact HB.out))); (case aF => exact (fun _ _ => trivial)); (case aO => exact (by (with_reducible repeat (first | apply Kd.R_alloc | apply Kd.R_drewN | apply Kd.R_drew)); exact HO260.out)); (case aS => exact (below_size (by repeat (first | (with_reducible first | exact HB.out | apply below_alloc | apply pw_below_drewN | apply below_drew1) | exact HB.out)))); (case aL => have := LMc19.out; omega); intro v266 w34 ho hb hg hat; rw [← Ny265.out] at ho; have n0_ := Aside0.mk (hb); have n1_ := Aside0.mk (ho); clear HB; clear HO260; have HB := n0_; have HO267 := n1_; clear n0_ n1_; clear ho hb hg hat) | ((with_reducible refine gate_builtin (b := .append) (xs := #[.tmp 54, .tmp 55]) rfl ?_); at_builtin; refine Kd.R_append_rows k39 (w0 := w) w.heap.size rfl (.tmp 54) (.tmp 55) 22 39 (.agg #[(.int .i64 0), (.int .i64 0), (.string ⟨#[]⟩), (.int .i64 0), (.int .i64 0)]) 48 rfl Tryz.underlying22 info39 rfl (by decide) (by omega) v266 y265 l2 _ _ _ (fun _ => True) (fun _ => False) rfl rfl ?aO ?aR (fun _ _ h => h) (fun _ h => h.elim) ?aF ?aB ?aS ?aL ?_; (case aR => repeat (first | exact (Kd.C_below HR2.out HB.out) | (with_reducible refine Kd.C_alloc ?_ _) | (with_reducible refine Kd.C_drewN ?_ _) | (with_reducible refine Kd.C_drew ?_))); (case aB => exact (by repeat (first | (with_reducible first | exact HB.out | apply below_alloc | apply pw_below_drewN | apply below_drew1) | exact HB.out))); (case aF => exact (fun _ _ => trivial)); (case aO => exact (by (with_reducible repeat (first | apply Kd.R_alloc | apply Kd.R_drewN | apply Kd.R_drew)); exact HO267.out)); (case aS => exact (below_size (by repeat (first | (with_reducible first | exact HB.out | apply below_alloc | apply pw_below_drewN | apply below_drew1) | exact HB.out)))); (case aL => have := LMc20.out; omega); intro v269 w35 ho hb hg hat; rw [← Ny268.out] at ho; have n0_ := Aside0.mk (hb); have n1_ := Aside0.mk (ho); clear HB; clear HO267; have HB := n0_; have HO270 := n1_; clear n0_ n1_; clear ho hb hg hat; obtain ⟨Ao36, co36, eo36⟩ := Kd.R_slice HO270.out; subst eo36) | ((with_reducible refine gate_callee (f := 15) rfl ?_); refine goesL_ (some 58) rfl rfl Tryz.func15 (by kernel_rfl) rfl #[.slice Ao36 y268.length co36, .slice A1 l1.length c1] rfl (by (try simp only [List.map_toArray, List.map_cons, List.map_nil]); first | done | rfl | (simp only [List.length_drop, List.length_take]; rfl)) ?_; (with_reducible refine (fragment_Read.calls _ _ y268 _ _ l1 t271 t272 t273 _ ?side1 ?side2 ?side3 ?side4 A21.out (Lx.Env.below HE.out (by repeat (first | (with_reducible first | exact HB.out | apply below_alloc | apply pw_below_drewN | apply below_drew1) | exact HB.out)))).mono ?_); (case side1 => repeat (first | exact (Kd.R_reads' HO270.out).2.2 | (with_reducible refine Kd.C_alloc ?_ _) | (with_reducible refine Kd.C_drewN ?_ _) | (with_reducible refine Kd.C_drew ?_))); (case side2 => exact (Kd.R_reads' HO270.out).2.1); (case side3 => repeat (first | exact (Kd.C_below HR1.out HB.out) | (with_reducible refine Kd.C_alloc ?_ _) | (with_reducible refine Kd.C_drewN ?_ _) | (with_reducible refine Kd.C_drew ?_))); (case side4 => exact HC1.out); rintro e w37 ⟨v274, rfl, ho0, hb⟩; refine ⟨_, rfl, ?_⟩; have n0_ := Aside0.mk (Kd.R_below (by (with_reducible repeat (first | apply Kd.R_alloc | apply Kd.R_drewN | apply Kd.R_drew)); exact HO270.out) hb); have n1_ := Aside0.mk (Kd.R_lower ho0 (below_size (by repeat (first | (with_reducible first | exact HB.out | apply below_alloc | apply pw_below_drewN | apply below_drew1) | exact HB.out)))); have n2_ := Aside0.mk (below_step (by repeat (first | (with_reducible first | exact HB.out | apply below_alloc | apply pw_below_drewN | apply below_drew1) | exact HB.out)) hb); clear HO270; clear HB; have HO270 := n0_; have HO275 := n1_; have HB := n2_; clear n0_ n1_ n2_; (try clear hb); (try clear hb2); (try clear hk); (try clear hi); (try clear ho0)))
          go_ret
          exact ⟨by first | rfl | (simp [errW_none, errW_some] <;> rfl) | (simp only [← hji16]; first | rfl | (simp [errW_none, errW_some] <;> rfl)) | (simp [*, errW_none, errW_some] <;> rfl), by repeat (first | (with_reducible first | exact HB.out | apply below_alloc | apply pw_below_drewN | apply below_drew1) | exact HB.out)⟩
        ·replace c22 := Bool.eq_false_iff.mpr c22
         subst c22
         have H1 : (some false) = some r := by rw [if_neg (show ¬ (false = true) by decide)] at H; exact H
         clear H
         have H := H1
         clear H1
         obtain rfl := Option.some.inj H
         go_wp2_with (first | ((with_reducible refine gate_dst (N := 49) rfl ?_); refine Kd.R_lit k39 _ 39 ?hg (N := 49) ?hd (xs := ([] : List (S39))) (inner := []) (ok := fun _ => True) (okp := fun _ => True) ?hr ?hp (fun _ hk => hk) trivial (Below.refl _ _) (Nat.le_refl _) (by simp) ?_; (case hd => rfl); (case hg => rfl); (case hr => first | (go_simp; done) | (go_simp; rfl)); (case hp => exact (Reps.none _ _)); intro v259 w38 ho39 hb hg_ hnew_; clear hg_ hnew_; (first | rw [← Ny258.out] at ho39 | (simp only [Int.reduceToNat] at ho39; rw [← Ny258.out] at ho39)); have n0_ := Aside0.mk (Kd.R_lower ho39 (below_size (by repeat (first | (with_reducible first | exact HB.out | apply below_alloc | apply pw_below_drewN | apply below_drew1) | exact HB.out)))); have n1_ := Aside0.mk (below_step (by repeat (first | (with_reducible first | exact HB.out | apply below_alloc | apply pw_below_drewN | apply below_drew1) | exact HB.out)) hb); clear HB; have HO260 := n0_; have HB := n1_; clear n0_ n1_; clear hb ho39; have q40 : ((ji16) : Int) ≤ ((l0.length : Int) : Int) := of_decide_eq_true (by first | (with_reducible assumption) | assumption); obtain ⟨i040, hi040, _, hsz40, _⟩ := info_parts info39; have hroom40 : l0.length ≤ c0 := HC0.out; have hC40 : Kd.C k39 _ A0 l0.length l0 := HR0.out; have hcut40 := cut_to (P := Tryz.prog) 22 39 .i64 Tryz.underlying22 hi040 A0 l0.length c0 (ji16) (of_decide_eq_true (by first | (with_reducible assumption) | assumption)) q40 hroom40; have hr40 := Kd.C_take (m := ((ji16) : Int).toNat) hC40 (by omega); have hy40 : y261.length = ((ji16) : Int).toNat := (by rw [Ny261.out, List.length_take]; omega); rw [← Ny261.out] at hr40; rw [← hy40] at hcut40; have HR264 := Aside0.mk hr40; have HC264 := Aside0.mk (show y261.length ≤ c0 from by omega); clear hr40 hC40 hroom40 hi040 hsz40; have KY40 := Aside0.mk hy40; clear hy40; replace q40 := eq_true q40) | ((with_reducible refine gate_builtin (b := .append) (xs := #[.tmp 49, .tmp 53]) rfl ?_); at_builtin; refine Kd.R_append_rows k39 (w0 := w) w.heap.size rfl (.tmp 49) (.tmp 53) 22 39 (.agg #[(.int .i64 0), (.int .i64 0), (.string ⟨#[]⟩), (.int .i64 0), (.int .i64 0)]) 48 rfl Tryz.underlying22 info39 rfl (by decide) (by omega) v259 y258 y261 _ _ _ (fun _ => True) (fun _ => False) rfl rfl ?aO ?aR (fun _ _ h => h) (fun _ h => h.elim) ?aF ?aB ?aS ?aL ?_; (case aR => repeat (first | exact (Kd.C_below HR264.out HB.out) | (with_reducible refine Kd.C_alloc ?_ _) | (with_reducible refine Kd.C_drewN ?_ _) | (with_reducible refine Kd.C_drew ?_))); (case aB => exact (by repeat (first | (with_reducible first | exact HB.out | apply below_alloc | apply pw_below_drewN | apply below_drew1) | exact HB.out))); (case aF => exact (fun _ _ => trivial)); (case aO => exact (by (with_reducible repeat (first | apply Kd.R_alloc | apply Kd.R_drewN | apply Kd.R_drew)); exact HO260.out)); (case aS => exact (below_size (by repeat (first | (with_reducible first | exact HB.out | apply below_alloc | apply pw_below_drewN | apply below_drew1) | exact HB.out)))); (case aL => have := LMc19.out; omega); intro v266 w41 ho hb hg hat; rw [← Ny265.out] at ho; have n0_ := Aside0.mk (hb); have n1_ := Aside0.mk (ho); clear HB; clear HO260; have HB := n0_; have HO267 := n1_; clear n0_ n1_; clear ho hb hg hat) | ((with_reducible refine gate_builtin (b := .append) (xs := #[.tmp 54, .tmp 55]) rfl ?_); at_builtin; refine Kd.R_append_rows k39 (w0 := w) w.heap.size rfl (.tmp 54) (.tmp 55) 22 39 (.agg #[(.int .i64 0), (.int .i64 0), (.string ⟨#[]⟩), (.int .i64 0), (.int .i64 0)]) 48 rfl Tryz.underlying22 info39 rfl (by decide) (by omega) v266 y265 l2 _ _ _ (fun _ => True) (fun _ => False) rfl rfl ?aO ?aR (fun _ _ h => h) (fun _ h => h.elim) ?aF ?aB ?aS ?aL ?_; (case aR => repeat (first | exact (Kd.C_below HR2.out HB.out) | (with_reducible refine Kd.C_alloc ?_ _) | (with_reducible refine Kd.C_drewN ?_ _) | (with_reducible refine Kd.C_drew ?_))); (case aB => exact (by repeat (first | (with_reducible first | exact HB.out | apply below_alloc | apply pw_below_drewN | apply below_drew1) | exact HB.out))); (case aF => exact (fun _ _ => trivial)); (case aO => exact (by (with_reducible repeat (first | apply Kd.R_alloc | apply Kd.R_drewN | apply Kd.R_drew)); exact HO267.out)); (case aS => exact (below_size (by repeat (first | (with_reducible first | exact HB.out | apply below_alloc | apply pw_below_drewN | apply below_drew1) | exact HB.out)))); (case aL => have := LMc20.out; omega); intro v269 w42 ho hb hg hat; rw [← Ny268.out] at ho; have n0_ := Aside0.mk (hb); have n1_ := Aside0.mk (ho); clear HB; clear HO267; have HB := n0_; have HO270 := n1_; clear n0_ n1_; clear ho hb hg hat; obtain ⟨Ao43, co43, eo43⟩ := Kd.R_slice HO270.out; subst eo43) | ((with_reducible refine gate_callee (f := 15) rfl ?_); refine goesL_ (some 58) rfl rfl Tryz.func15 (by kernel_rfl) rfl #[.slice Ao43 y268.length co43, .slice A1 l1.length c1] rfl (by (try simp only [List.map_toArray, List.map_cons, List.map_nil]); first | done | rfl | (simp only [List.length_drop, List.length_take]; rfl)) ?_; (with_reducible refine (fragment_Read.calls _ _ y268 _ _ l1 t271 t272 t273 _ ?side1 ?side2 ?side3 ?side4 A21.out (Lx.Env.below HE.out (by repeat (first | (with_reducible first | exact HB.out | apply below_alloc | apply pw_below_drewN | apply below_drew1) | exact HB.out)))).mono ?_); (case side1 => repeat (first | exact (Kd.R_reads' HO270.out).2.2 | (with_reducible refine Kd.C_alloc ?_ _) | (with_reducible refine Kd.C_drewN ?_ _) | (with_reducible refine Kd.C_drew ?_))); (case side2 => exact (Kd.R_reads' HO270.out).2.1); (case side3 => repeat (first | exact (Kd.C_below HR1.out HB.out) | (with_reducible refine Kd.C_alloc ?_ _) | (with_reducible refine Kd.C_drewN ?_ _) | (with_reducible refine Kd.C_drew ?_))); (case side4 => exact HC1.out); rintro e w44 ⟨v274, rfl, ho0, hb⟩; refine ⟨_, rfl, ?_⟩; have n0_ := Aside0.mk (Kd.R_below (by (with_reducible repeat (first | apply Kd.R_alloc | apply Kd.R_drewN | apply Kd.R_drew)); exact HO270.out) hb); have n1_ := Aside0.mk (Kd.R_lower ho0 (below_size (by repeat (first | (with_reducible first | exact HB.out | apply below_alloc | apply pw_below_drewN | apply below_drew1) | exact HB.out)))); have n2_ := Aside0.mk (below_step (by repeat (first | (with_reducible first | exact HB.out | apply below_alloc | apply pw_below_drewN | apply below_drew1) | exact HB.out)) hb); clear HO270; clear HB; have HO270 := n0_; have HO275 := n1_; have HB := n2_; clear n0_ n1_ n2_; (try clear hb); (try clear hb2); (try clear hk); (try clear hi); (try clear ho0)))
         go_ret
         exact ⟨by first | rfl | (simp [errW_none, errW_some] <;> rfl) | (simp only [← hji16]; first | rfl | (simp [errW_none, errW_some] <;> rfl)) | (simp [*, errW_none, errW_some] <;> rfl), by repeat (first | (with_reducible first | exact HB.out | apply below_alloc | apply pw_below_drewN | apply below_drew1) | exact HB.out)⟩
       ·rw [if_neg c20] at H
        exact absurd H (by simp)
      ·rw [if_neg c19] at H
       exact absurd H (by simp)
     ·rw [if_neg c18] at H
      exact absurd H (by simp)
    ·rw [if_neg c17] at H
     exact absurd H (by simp)

end Go.Proofs.YtipnlgmeonepfaaGreatDoor.PFa
