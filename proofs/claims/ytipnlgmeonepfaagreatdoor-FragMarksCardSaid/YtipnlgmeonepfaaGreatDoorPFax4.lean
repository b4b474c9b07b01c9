-- PRINTED by print.py (a twelfth state) out of the translation. Not trusted: Lean checks it.
import Derived.Test.YtipnlgmeonepfaaGreatDoorPFax0
namespace Go.Proofs.YtipnlgmeonepfaaGreatDoor.PFa
open Go.RowKit Go.Proofs.YtipnlgmeonepfaaGreatDoorW.PrintWords Go.Proofs.YtipnlgmeonepfaaGreatDoorW.PrintLast Go.Proofs.YtipnlgmeonepfaaGreatDoorW.PrintMore
attribute [local go_sem] max2_int min2_int max_two min_two max_three min_three max_four min_four   -- for this text's walks alone
set_option linter.unusedVariables false
set_option linter.unusedSimpArgs false

/-! ### fragment_depth: function 57 -/
mutual
def fragment_depth.l0 : Nat → Int → Int → List (S49) → Int → Int → Option (Int)
 | 0, _, _, _, _, _ => none
 | k + 1, x1, x5, x8, x9, x10 => if x10 < x9 then (if 0 ≤ x10 then (if x10 < (x8.length : Int) then (if ((rd_T49 x8 x10).f1).toList = ([] : List UInt8) then (fragment_depth.j1 k x1 x5 x8 x9 x10 false ((rd_T49 x8 x10).f0.f0) ((rd_T49 x8 x10).f0.f1) ((rd_T49 x8 x10).f0.f2) ((rd_T49 x8 x10).f0.f3) ((rd_T49 x8 x10).f0.f4) ((rd_T49 x8 x10).f1) ((rd_T49 x8 x10).f2)) else (if x1 > 0 then (fragment_depth.j1 k x1 x5 x8 x9 x10 (decide (x5 < x1)) ((rd_T49 x8 x10).f0.f0) ((rd_T49 x8 x10).f0.f1) ((rd_T49 x8 x10).f0.f2) ((rd_T49 x8 x10).f0.f3) ((rd_T49 x8 x10).f0.f4) ((rd_T49 x8 x10).f1) ((rd_T49 x8 x10).f2)) else (fragment_depth.j1 k x1 x5 x8 x9 x10 false ((rd_T49 x8 x10).f0.f0) ((rd_T49 x8 x10).f0.f1) ((rd_T49 x8 x10).f0.f2) ((rd_T49 x8 x10).f0.f3) ((rd_T49 x8 x10).f0.f4) ((rd_T49 x8 x10).f1) ((rd_T49 x8 x10).f2)))) else (none)) else (none)) else (some x5)
def fragment_depth.j1 : Nat → Int → Int → List (S49) → Int → Int → Bool → Int → Int → ByteArray → Int → Int → ByteArray → List (S49) → Option (Int)
 | 0, _, _, _, _, _, _, _, _, _, _, _, _, _ => none
 | k + 1, x1, x5, x8, x9, x10, x25, x150000, x150001, x150002, x150003, x150004, x150005, x150006 => if x25 = true then ((fragment_depth.f k x150006 (wrap64 (x1 - 1))).bind fun t150 => (fragment_depth.l0 k x1 (mx x5 (wrap64 (1 + t150))) x8 x9 (wrap64 (x10 + 1)))) else (fragment_depth.l0 k x1 x5 x8 x9 (wrap64 (x10 + 1)))
def fragment_depth.f : Nat → List (S49) → Int → Option (Int)
 | 0, _, _ => none
 | k + 1, l0, a1 => fragment_depth.l0 k a1 0 l0 (l0.length : Int) 0
end
set_option maxHeartbeats 8000000 in
set_option maxRecDepth 100000 in
theorem fragment_depth.calls (k : Nat) : ∀ (A0 : Option Addr) (c0 : Nat) (l0 : List (S49)) (a1 : Int) (r : Int) (w : World) (hr0 : Kd.C k49 w A0 l0.length l0) (hc0 : l0.length ≤ c0) (h : fragment_depth.f k l0 a1 = some r),
  Calls Tryz.prog 57 #[.slice A0 l0.length c0, .int .i64 a1] w fun e w' => e = .returned (.int .i64 r) ∧ Below w.heap.size w w' := by
 induction k using Nat.strongRecOn with
 | _ k ih =>
 intro A0 c0 l0 a1 r w hr0 hc0 h
 cases k with
 | zero => exact absurd h (by simp [fragment_depth.f])
 | succ k =>
 simp only [fragment_depth.f] at h
 have hu49 := Tryz.underlying49
 have HR0 := Aside0.mk hr0
 have HC0 := Aside0.mk hc0
 clear hr0 hc0
 have HB := Aside0.mk (Below.refl w.heap.size w)
 have H : (fragment_depth.l0 k a1 0 l0 (l0.length : Int) 0) = some r := h
 clear h
 have H' := Aside0.mk H
 clear H
 go_enter Tryz.func57, Tryz.ntmps57
 go_wp2
 go_loopg [5, 10] k (fun kq v5 v10 w' => ∃ (x5_1 : Int) (x10_1 : Int), v5 = .int .i64 x5_1 ∧ v10 = .int .i64 x10_1 ∧ Aside0 (fragment_depth.l0 kq a1 x5_1 l0 (l0.length : Int) x10_1 = some r) ∧ Aside0 (kq ≤ k) ∧ Aside0 (Below w.heap.size w w'))
 case atStart => exact ⟨(0), (0), (by first | rfl | (simp; done) | (simp [*]; done)), (by first | rfl | (simp; done) | (simp [*]; done)), H', ⟨Nat.le_refl _⟩, ⟨by repeat (first | (with_reducible first | exact HB.out | apply below_alloc | apply pw_below_drewN | apply below_drew1) | exact HB.out)⟩⟩
 case round =>
  clear H'
  try clear p2
  obtain ⟨x5_1, x10_1, rfl, rfl, HA, HK1, HB⟩ := hrel
  cases gk with
  | zero => exact absurd HA.out (by simp [fragment_depth.l0])
  | succ k1 =>
   have H := HA.out
   clear HA
   simp only [fragment_depth.l0] at H
   by_cases c3 : x10_1 < (l0.length : Int)
   ·rw [if_pos c3] at H
    have c3b0 : decide (x10_1 < (l0.length : Int)) = true := decide_eq_true c3
    clear c3
    by_cases c4 : 0 ≤ x10_1
    ·rw [if_pos c4] at H
     have c4b0 : decide (0 ≤ x10_1) = true := decide_eq_true c4
     clear c4
     by_cases c5 : x10_1 < (l0.length : Int)
     ·rw [if_pos c5] at H
      have c5b0 : decide (x10_1 < (l0.length : Int)) = true := decide_eq_true c5
      clear c5
      have HC6 := Aside0.mk H
      clear H
      have p148 : 0 ≤ (x10_1 : Int) := of_decide_eq_true (by first | (with_reducible assumption) | assumption)
      have q148 : x10_1 < (l0.length : Int) := of_decide_eq_true (by first | (with_reducible assumption) | assumption)
      obtain ⟨ad148, A148_6, c148_6, e148, hx148_0, hx148_1, hx148_2, hx148_3, hx148_4, hx148_5, hx148_6, hl148_6, hi148_6⟩ := at_T49 HR0.out x10_1 p148 q148
      cases e148
      replace hx148_0 := (HB.out.cell (World.block_lt_of_cell? w _ hx148_0)).trans hx148_0
      replace hx148_1 := (HB.out.cell (World.block_lt_of_cell? w _ hx148_1)).trans hx148_1
      replace hx148_2 := (HB.out.cell (World.block_lt_of_cell? w _ hx148_2)).trans hx148_2
      replace hx148_3 := (HB.out.cell (World.block_lt_of_cell? w _ hx148_3)).trans hx148_3
      replace hx148_4 := (HB.out.cell (World.block_lt_of_cell? w _ hx148_4)).trans hx148_4
      replace hx148_5 := (HB.out.cell (World.block_lt_of_cell? w _ hx148_5)).trans hx148_5
      replace hx148_6 := (HB.out.cell (World.block_lt_of_cell? w _ hx148_6)).trans hx148_6
      have HR148_6 := Aside0.mk hi148_6
      have HC148_6 := Aside0.mk hl148_6
      clear hi148_6 hl148_6
      replace p148 := eq_true p148
      replace q148 := eq_true q148
      go_upto_region 5 with (first | ((with_reducible refine gate_dst (N := 7) rfl ?_); refine box_event ?hg (N := 7) ?hd (cs := #[.int .i64 0, .int .i64 0, .string (⟨#[]⟩ : ByteArray), .int .i64 0, .int .i64 0, .string (⟨#[]⟩ : ByteArray), .slice none 0 0]) (t := 49) ?hr ?_; (case hd => rfl); (case hg => rfl); (case hr => first | (go_simp; done) | (go_simp; rfl)); intro gb149 hg w7 hbox hb; have n0_ := Aside0.mk (below_step (by repeat (first | (with_reducible first | exact HB.out | apply below_alloc | apply pw_below_drewN | apply below_drew1) | exact HB.out)) hb); have n1_ := Aside0.mk (hbox); have n2_ := Aside0.mk ((by rw [hg]; exact (below_size (by repeat (first | (with_reducible first | exact HB.out | apply below_alloc | apply pw_below_drewN | apply below_drew1) | exact HB.out))) : w.heap.size ≤ gb149)); have n3_ := Aside0.mk ((by rw [hg]; exact (below_size (by repeat (first | (with_reducible first | exact HB.out | apply below_alloc | apply pw_below_drewN | apply below_drew1) | exact HB.out))) : w.heap.size ≤ gb149)); clear HB; have HB := n0_; have BK149 := n1_; have GW149 := n2_; have GE149 := n3_; clear n0_ n1_ n2_ n3_; clear hb hbox hg; have hcz8_0 : w7.cell? ⟨gb149, 0, none⟩ = some (.int .i64 0) := (blk_cell BK149.out 0).trans rfl; have hcz8_1 : w7.cell? ⟨gb149, 1, none⟩ = some (.int .i64 0) := (blk_cell BK149.out 1).trans rfl; have hcz8_2 : w7.cell? ⟨gb149, 2, none⟩ = some (.string (⟨#[]⟩ : ByteArray)) := (blk_cell BK149.out 2).trans rfl; have hcz8_3 : w7.cell? ⟨gb149, 3, none⟩ = some (.int .i64 0) := (blk_cell BK149.out 3).trans rfl; have hcz8_4 : w7.cell? ⟨gb149, 4, none⟩ = some (.int .i64 0) := (blk_cell BK149.out 4).trans rfl; have hcz8_5 : w7.cell? ⟨gb149, 5, none⟩ = some (.string (⟨#[]⟩ : ByteArray)) := (blk_cell BK149.out 5).trans rfl; have hcz8_6 : w7.cell? ⟨gb149, 6, none⟩ = some (.slice none 0 0) := (blk_cell BK149.out 6).trans rfl; have hfz8_0 := blk_frozen BK149.out 0; have hfz8_1 := blk_frozen BK149.out 1; have hfz8_2 := blk_frozen BK149.out 2; have hfz8_3 := blk_frozen BK149.out 3; have hfz8_4 := blk_frozen BK149.out 4; have hfz8_5 := blk_frozen BK149.out 5; have hfz8_6 := blk_frozen BK149.out 6))
      (try simp only [Act.put, List.setIfInBounds_toArray, List.set_cons_zero, List.set_cons_succ])
      go_cut [25] (fun v25 wc => ∃ (kq : Nat) (x25_5 : Bool), v25 = .bool x25_5 ∧ Aside0 (fragment_depth.j1 kq a1 x5_1 l0 (l0.length : Int) x10_1 x25_5 ((rd_T49 l0 x10_1).f0.f0) ((rd_T49 l0 x10_1).f0.f1) ((rd_T49 l0 x10_1).f0.f2) ((rd_T49 l0 x10_1).f0.f3) ((rd_T49 l0 x10_1).f0.f4) ((rd_T49 l0 x10_1).f1) ((rd_T49 l0 x10_1).f2) = some r) ∧ Aside0 (kq ≤ k1) ∧ Aside0 (wc.heap[gb149]? = some (.cells #[.int .i64 ((rd_T49 l0 x10_1).f0.f0), .int .i64 ((rd_T49 l0 x10_1).f0.f1), .string ((rd_T49 l0 x10_1).f0.f2), .int .i64 ((rd_T49 l0 x10_1).f0.f3), .int .i64 ((rd_T49 l0 x10_1).f0.f4), .string ((rd_T49 l0 x10_1).f1), (.slice A148_6 ((rd_T49 l0 x10_1).f2).length c148_6)] 49 (0, 0))) ∧ Aside0 (Below w.heap.size w wc))
      case first =>
       have H := HC6.out
       clear HC6
       by_cases c9 : ((rd_T49 l0 x10_1).f1).toList = ([] : List UInt8)
       ·rw [if_pos c9] at H
        have c9b0 : (((rd_T49 l0 x10_1).f1).toList == ([] : List UInt8)) = true := beq_iff_eq.mpr c9
        have c9b1 : (((rd_T49 l0 x10_1).f1).toList != ([] : List UInt8)) = false := bne_eq_false_iff_eq.mpr c9
        clear c9
        (first | rw [c9b0] | (simp only [i64_w, i32_w]; rw [c9b0]) | skip)
        have H' := Aside0.mk H
        clear H
        have hcz10_0 : w7.cell? ⟨gb149, 0, none⟩ = some (.int .i64 0) := (blk_cell BK149.out 0).trans rfl
        have hcz10_1 : w7.cell? ⟨gb149, 1, none⟩ = some (.int .i64 0) := (blk_cell BK149.out 1).trans rfl
        have hcz10_2 : w7.cell? ⟨gb149, 2, none⟩ = some (.string (⟨#[]⟩ : ByteArray)) := (blk_cell BK149.out 2).trans rfl
        have hcz10_3 : w7.cell? ⟨gb149, 3, none⟩ = some (.int .i64 0) := (blk_cell BK149.out 3).trans rfl
        have hcz10_4 : w7.cell? ⟨gb149, 4, none⟩ = some (.int .i64 0) := (blk_cell BK149.out 4).trans rfl
        have hcz10_5 : w7.cell? ⟨gb149, 5, none⟩ = some (.string (⟨#[]⟩ : ByteArray)) := (blk_cell BK149.out 5).trans rfl
        have hcz10_6 : w7.cell? ⟨gb149, 6, none⟩ = some (.slice none 0 0) := (blk_cell BK149.out 6).trans rfl
        have hfz10_0 := blk_frozen BK149.out 0
        have hfz10_1 := blk_frozen BK149.out 1
        have hfz10_2 := blk_frozen BK149.out 2
        have hfz10_3 := blk_frozen BK149.out 3
        have hfz10_4 := blk_frozen BK149.out 4
        have hfz10_5 := blk_frozen BK149.out 5
        have hfz10_6 := blk_frozen BK149.out 6
        go_wp2
        go_meet
        case rel => exact ⟨_, (false), (by first | rfl | (simp; done) | (simp [*]; done)), H', ⟨by have := HK1.out; first | omega | exact Nat.le_refl _⟩, ⟨by (with_reducible repeat (first | refine blk_drewN ?_ _ | refine blk_drew ?_ | refine blk_alloc ?_ _)); refine blk_put (cs := #[.int .i64 ((rd_T49 l0 x10_1).f0.f0), .int .i64 ((rd_T49 l0 x10_1).f0.f1), .string ((rd_T49 l0 x10_1).f0.f2), .int .i64 ((rd_T49 l0 x10_1).f0.f3), .int .i64 ((rd_T49 l0 x10_1).f0.f4), .string ((rd_T49 l0 x10_1).f1), .slice none 0 0]) ?_ 6 _ rfl; (with_reducible repeat (first | refine blk_drewN ?_ _ | refine blk_drew ?_ | refine blk_alloc ?_ _)); refine blk_put (cs := #[.int .i64 ((rd_T49 l0 x10_1).f0.f0), .int .i64 ((rd_T49 l0 x10_1).f0.f1), .string ((rd_T49 l0 x10_1).f0.f2), .int .i64 ((rd_T49 l0 x10_1).f0.f3), .int .i64 ((rd_T49 l0 x10_1).f0.f4), .string (⟨#[]⟩ : ByteArray), .slice none 0 0]) ?_ 5 _ rfl; (with_reducible repeat (first | refine blk_drewN ?_ _ | refine blk_drew ?_ | refine blk_alloc ?_ _)); refine blk_put (cs := #[.int .i64 ((rd_T49 l0 x10_1).f0.f0), .int .i64 ((rd_T49 l0 x10_1).f0.f1), .string ((rd_T49 l0 x10_1).f0.f2), .int .i64 ((rd_T49 l0 x10_1).f0.f3), .int .i64 0, .string (⟨#[]⟩ : ByteArray), .slice none 0 0]) ?_ 4 _ rfl; (with_reducible repeat (first | refine blk_drewN ?_ _ | refine blk_drew ?_ | refine blk_alloc ?_ _)); refine blk_put (cs := #[.int .i64 ((rd_T49 l0 x10_1).f0.f0), .int .i64 ((rd_T49 l0 x10_1).f0.f1), .string ((rd_T49 l0 x10_1).f0.f2), .int .i64 0, .int .i64 0, .string (⟨#[]⟩ : ByteArray), .slice none 0 0]) ?_ 3 _ rfl; (with_reducible repeat (first | refine blk_drewN ?_ _ | refine blk_drew ?_ | refine blk_alloc ?_ _)); refine blk_put (cs := #[.int .i64 ((rd_T49 l0 x10_1).f0.f0), .int .i64 ((rd_T49 l0 x10_1).f0.f1), .string (⟨#[]⟩ : ByteArray), .int .i64 0, .int .i64 0, .string (⟨#[]⟩ : ByteArray), .slice none 0 0]) ?_ 2 _ rfl; (with_reducible repeat (first | refine blk_drewN ?_ _ | refine blk_drew ?_ | refine blk_alloc ?_ _)); refine blk_put (cs := #[.int .i64 ((rd_T49 l0 x10_1).f0.f0), .int .i64 0, .string (⟨#[]⟩ : ByteArray), .int .i64 0, .int .i64 0, .string (⟨#[]⟩ : ByteArray), .slice none 0 0]) ?_ 1 _ rfl; (with_reducible repeat (first | refine blk_drewN ?_ _ | refine blk_drew ?_ | refine blk_alloc ?_ _)); refine blk_put (cs := #[.int .i64 0, .int .i64 0, .string (⟨#[]⟩ : ByteArray), .int .i64 0, .int .i64 0, .string (⟨#[]⟩ : ByteArray), .slice none 0 0]) ?_ 0 _ rfl; (with_reducible repeat (first | refine blk_drewN ?_ _ | refine blk_drew ?_ | refine blk_alloc ?_ _)); exact BK149.out⟩, ⟨by repeat (first | (with_reducible first | exact HB.out | apply below_alloc | apply pw_below_drewN | apply below_drew1 | refine below_set ?_ GE149.out) | exact HB.out)⟩⟩
       ·rw [if_neg c9] at H
        have c9b0 : (((rd_T49 l0 x10_1).f1).toList == ([] : List UInt8)) = false := beq_eq_false_iff_ne.mpr c9
        have c9b1 : (((rd_T49 l0 x10_1).f1).toList != ([] : List UInt8)) = true := bne_iff_ne.mpr c9
        (first | rw [c9b0] | (simp only [i64_w, i32_w]; rw [c9b0]) | skip)
        by_cases c11 : a1 > 0
        ·rw [if_pos c11] at H
         have c11b0 : decide (0 < a1) = true := decide_eq_true c11
         clear c11
         have H' := Aside0.mk H
         clear H
         have hcz12_0 : w7.cell? ⟨gb149, 0, none⟩ = some (.int .i64 0) := (blk_cell BK149.out 0).trans rfl
         have hcz12_1 : w7.cell? ⟨gb149, 1, none⟩ = some (.int .i64 0) := (blk_cell BK149.out 1).trans rfl
         have hcz12_2 : w7.cell? ⟨gb149, 2, none⟩ = some (.string (⟨#[]⟩ : ByteArray)) := (blk_cell BK149.out 2).trans rfl
         have hcz12_3 : w7.cell? ⟨gb149, 3, none⟩ = some (.int .i64 0) := (blk_cell BK149.out 3).trans rfl
         have hcz12_4 : w7.cell? ⟨gb149, 4, none⟩ = some (.int .i64 0) := (blk_cell BK149.out 4).trans rfl
         have hcz12_5 : w7.cell? ⟨gb149, 5, none⟩ = some (.string (⟨#[]⟩ : ByteArray)) := (blk_cell BK149.out 5).trans rfl
         have hcz12_6 : w7.cell? ⟨gb149, 6, none⟩ = some (.slice none 0 0) := (blk_cell BK149.out 6).trans rfl
         have hfz12_0 := blk_frozen BK149.out 0
         have hfz12_1 := blk_frozen BK149.out 1
         have hfz12_2 := blk_frozen BK149.out 2
         have hfz12_3 := blk_frozen BK149.out 3
         have hfz12_4 := blk_frozen BK149.out 4
         have hfz12_5 := blk_frozen BK149.out 5
         have hfz12_6 := blk_frozen BK149.out 6
         go_wp2
         go_meet
         case rel => exact ⟨_, (decide (x5_1 < a1)), (by first | rfl | (simp; done) | (simp [*]; done)), H', ⟨by have := HK1.out; first | omega | exact Nat.le_refl _⟩, ⟨by (with_reducible repeat (first | refine blk_drewN ?_ _ | refine blk_drew ?_ | refine blk_alloc ?_ _)); refine blk_put (cs := #[.int .i64 ((rd_T49 l0 x10_1).f0.f0), .int .i64 ((rd_T49 l0 x10_1).f0.f1), .string ((rd_T49 l0 x10_1).f0.f2), .int .i64 ((rd_T49 l0 x10_1).f0.f3), .int .i64 ((rd_T49 l0 x10_1).f0.f4), .string ((rd_T49 l0 x10_1).f1), .slice none 0 0]) ?_ 6 _ rfl; (with_reducible repeat (first | refine blk_drewN ?_ _ | refine blk_drew ?_ | refine blk_alloc ?_ _)); refine blk_put (cs := #[.int .i64 ((rd_T49 l0 x10_1).f0.f0), .int .i64 ((rd_T49 l0 x10_1).f0.f1), .string ((rd_T49 l0 x10_1).f0.f2), .int .i64 ((rd_T49 l0 x10_1).f0.f3), .int .i64 ((rd_T49 l0 x10_1).f0.f4), .string (⟨#[]⟩ : ByteArray), .slice none 0 0]) ?_ 5 _ rfl; (with_reducible repeat (first | refine blk_drewN ?_ _ | refine blk_drew ?_ | refine blk_alloc ?_ _)); refine blk_put (cs := #[.int .i64 ((rd_T49 l0 x10_1).f0.f0), .int .i64 ((rd_T49 l0 x10_1).f0.f1), .string ((rd_T49 l0 x10_1).f0.f2), .int .i64 ((rd_T49 l0 x10_1).f0.f3), .int .i64 0, .string (⟨#[]⟩ : ByteArray), .slice none 0 0]) ?_ 4 _ rfl; (with_reducible repeat (first | refine blk_drewN ?_ _ | refine blk_drew ?_ | refine blk_alloc ?_ _)); refine blk_put (cs := #[.int .i64 ((rd_T49 l0 x10_1).f0.f0), .int .i64 ((rd_T49 l0 x10_1).f0.f1), .string ((rd_T49 l0 x10_1).f0.f2), .int .i64 0, .int .i64 0, .string (⟨#[]⟩ : ByteArray), .slice none 0 0]) ?_ 3 _ rfl; (with_reducible repeat (first | refine blk_drewN ?_ _ | refine blk_drew ?_ | refine blk_alloc ?_ _)); refine blk_put (cs := #[.int .i64 ((rd_T49 l0 x10_1).f0.f0), .int .i64 ((rd_T49 l0 x10_1).f0.f1), .string (⟨#[]⟩ : ByteArray), .int .i64 0, .int .i64 0, .string (⟨#[]⟩ : ByteArray), .slice none 0 0]) ?_ 2 _ rfl; (with_reducible repeat (first | refine blk_drewN ?_ _ | refine blk_drew ?_ | refine blk_alloc ?_ _)); refine blk_put (cs := #[.int .i64 ((rd_T49 l0 x10_1).f0.f0), .int .i64 0, .string (⟨#[]⟩ : ByteArray), .int .i64 0, .int .i64 0, .string (⟨#[]⟩ : ByteArray), .slice none 0 0]) ?_ 1 _ rfl; (with_reducible repeat (first | refine blk_drewN ?_ _ | refine blk_drew ?_ | refine blk_alloc ?_ _)); refine blk_put (cs := #[.int .i64 0, .int .i64 0, .string (⟨#[]⟩ : ByteArray), .int .i64 0, .int .i64 0, .string (⟨#[]⟩ : ByteArray), .slice none 0 0]) ?_ 0 _ rfl; (with_reducible repeat (first | refine blk_drewN ?_ _ | refine blk_drew ?_ | refine blk_alloc ?_ _)); exact BK149.out⟩, ⟨by repeat (first | (with_reducible first | exact HB.out | apply below_alloc | apply pw_below_drewN | apply below_drew1 | refine below_set ?_ GE149.out) | exact HB.out)⟩⟩
        ·rw [if_neg c11] at H
         have c11b0 : decide (0 < a1) = false := decide_eq_false c11
         clear c11
         have H' := Aside0.mk H
         clear H
         have hcz13_0 : w7.cell? ⟨gb149, 0, none⟩ = some (.int .i64 0) := (blk_cell BK149.out 0).trans rfl
         have hcz13_1 : w7.cell? ⟨gb149, 1, none⟩ = some (.int .i64 0) := (blk_cell BK149.out 1).trans rfl
         have hcz13_2 : w7.cell? ⟨gb149, 2, none⟩ = some (.string (⟨#[]⟩ : ByteArray)) := (blk_cell BK149.out 2).trans rfl
         have hcz13_3 : w7.cell? ⟨gb149, 3, none⟩ = some (.int .i64 0) := (blk_cell BK149.out 3).trans rfl
         have hcz13_4 : w7.cell? ⟨gb149, 4, none⟩ = some (.int .i64 0) := (blk_cell BK149.out 4).trans rfl
         have hcz13_5 : w7.cell? ⟨gb149, 5, none⟩ = some (.string (⟨#[]⟩ : ByteArray)) := (blk_cell BK149.out 5).trans rfl
         have hcz13_6 : w7.cell? ⟨gb149, 6, none⟩ = some (.slice none 0 0) := (blk_cell BK149.out 6).trans rfl
         have hfz13_0 := blk_frozen BK149.out 0
         have hfz13_1 := blk_frozen BK149.out 1
         have hfz13_2 := blk_frozen BK149.out 2
         have hfz13_3 := blk_frozen BK149.out 3
         have hfz13_4 := blk_frozen BK149.out 4
         have hfz13_5 := blk_frozen BK149.out 5
         have hfz13_6 := blk_frozen BK149.out 6
         go_wp2
         go_meet
         case rel => exact ⟨_, (false), (by first | rfl | (simp; done) | (simp [*]; done)), H', ⟨by have := HK1.out; first | omega | exact Nat.le_refl _⟩, ⟨by (with_reducible repeat (first | refine blk_drewN ?_ _ | refine blk_drew ?_ | refine blk_alloc ?_ _)); refine blk_put (cs := #[.int .i64 ((rd_T49 l0 x10_1).f0.f0), .int .i64 ((rd_T49 l0 x10_1).f0.f1), .string ((rd_T49 l0 x10_1).f0.f2), .int .i64 ((rd_T49 l0 x10_1).f0.f3), .int .i64 ((rd_T49 l0 x10_1).f0.f4), .string ((rd_T49 l0 x10_1).f1), .slice none 0 0]) ?_ 6 _ rfl; (with_reducible repeat (first | refine blk_drewN ?_ _ | refine blk_drew ?_ | refine blk_alloc ?_ _)); refine blk_put (cs := #[.int .i64 ((rd_T49 l0 x10_1).f0.f0), .int .i64 ((rd_T49 l0 x10_1).f0.f1), .string ((rd_T49 l0 x10_1).f0.f2), .int .i64 ((rd_T49 l0 x10_1).f0.f3), .int .i64 ((rd_T49 l0 x10_1).f0.f4), .string (⟨#[]⟩ : ByteArray), .slice none 0 0]) ?_ 5 _ rfl; (with_reducible repeat (first | refine blk_drewN ?_ _ | refine blk_drew ?_ | refine blk_alloc ?_ _)); refine blk_put (cs := #[.int .i64 ((rd_T49 l0 x10_1).f0.f0), .int .i64 ((rd_T49 l0 x10_1).f0.f1), .string ((rd_T49 l0 x10_1).f0.f2), .int .i64 ((rd_T49 l0 x10_1).f0.f3), .int .i64 0, .string (⟨#[]⟩ : ByteArray), .slice none 0 0]) ?_ 4 _ rfl; (with_reducible repeat (first | refine blk_drewN ?_ _ | refine blk_drew ?_ | refine blk_alloc ?_ _)); refine blk_put (cs := #[.int .i64 ((rd_T49 l0 x10_1).f0.f0), .int .i64 ((rd_T49 l0 x10_1).f0.f1), .string ((rd_T49 l0 x10_1).f0.f2), .int .i64 0, .int .i64 0, .string (⟨#[]⟩ : ByteArray), .slice none 0 0]) ?_ 3 _ rfl; (with_reducible repeat (first | refine blk_drewN ?_ _ | refine blk_drew ?_ | refine blk_alloc ?_ _)); refine blk_put (cs := #[.int .i64 ((rd_T49 l0 x10_1).f0.f0), .int .i64 ((rd_T49 l0 x10_1).f0.f1), .string (⟨#[]⟩ : ByteArray), .int .i64 0, .int .i64 0, .string (⟨#[]⟩ : ByteArray), .slice none 0 0]) ?_ 2 _ rfl; (with_reducible repeat (first | refine blk_drewN ?_ _ | refine blk_drew ?_ | refine blk_alloc ?_ _)); refine blk_put (cs := #[.int .i64 ((rd_T49 l0 x10_1).f0.f0), .int .i64 0, .string (⟨#[]⟩ : ByteArray), .int .i64 0, .int .i64 0, .string (⟨#[]⟩ : ByteArray), .slice none 0 0]) ?_ 1 _ rfl; (with_reducible repeat (first | refine blk_drewN ?_ _ | refine blk_drew ?_ | refine blk_alloc ?_ _)); refine blk_put (cs := #[.int .i64 0, .int .i64 0, .string (⟨#[]⟩ : ByteArray), .int .i64 0, .int .i64 0, .string (⟨#[]⟩ : ByteArray), .slice none 0 0]) ?_ 0 _ rfl; (with_reducible repeat (first | refine blk_drewN ?_ _ | refine blk_drew ?_ | refine blk_alloc ?_ _)); exact BK149.out⟩, ⟨by repeat (first | (with_reducible first | exact HB.out | apply below_alloc | apply pw_below_drewN | apply below_drew1 | refine below_set ?_ GE149.out) | exact HB.out)⟩⟩
      case rest =>
       clear HC6
       try clear c1
       try clear p1
       try clear q1
       try clear hx1
       try clear p2
       try clear c3
       try clear c3b0
       try clear c4
       try clear c4b0
       try clear c5
       try clear c5b0
       try clear c9
       try clear c9b0
       try clear c9b1
       try clear c11
       try clear c11b0
       try clear hcz10_0
       try clear hcz10_1
       try clear hcz10_2
       try clear hcz10_3
       try clear hcz10_4
       try clear hcz10_5
       try clear hcz10_6
       try clear hcz12_0
       try clear hcz12_1
       try clear hcz12_2
       try clear hcz12_3
       try clear hcz12_4
       try clear hcz12_5
       try clear hcz12_6
       try clear hcz13_0
       try clear hcz13_1
       try clear hcz13_2
       try clear hcz13_3
       try clear hcz13_4
       try clear hcz13_5
       try clear hcz13_6
       try clear hcz8_0
       try clear hcz8_1
       try clear hcz8_2
       try clear hcz8_3
       try clear hcz8_4
       try clear hcz8_5
       try clear hcz8_6
       try clear hfz10_0
       try clear hfz10_1
       try clear hfz10_2
       try clear hfz10_3
       try clear hfz10_4
       try clear hfz10_5
       try clear hfz10_6
       try clear hfz12_0
       try clear hfz12_1
       try clear hfz12_2
       try clear hfz12_3
       try clear hfz12_4
       try clear hfz12_5
       try clear hfz12_6
       try clear hfz13_0
       try clear hfz13_1
       try clear hfz13_2
       try clear hfz13_3
       try clear hfz13_4
       try clear hfz13_5
       try clear hfz13_6
       try clear hfz8_0
       try clear hfz8_1
       try clear hfz8_2
       try clear hfz8_3
       try clear hfz8_4
       try clear hfz8_5
       try clear hfz8_6
       try clear hx148_0
       try clear hx148_1
       try clear hx148_2
       try clear hx148_3
       try clear hx148_4
       try clear hx148_5
       try clear hx148_6
       try clear p148
       try clear p2
       try clear q148
       obtain ⟨kq, x25_5, rfl, HA, HJ5, BK149, HB⟩ := hcut
       cases kq with
       | zero => exact absurd HA.out (by simp [fragment_depth.j1])
       | succ kj5 =>
        have H := HA.out
        clear HA
        simp only [fragment_depth.j1] at H
        by_cases c14 : x25_5 = true
        ·subst c14
         have H1 : ((fragment_depth.f kj5 ((rd_T49 l0 x10_1).f2) (wrap64 (a1 - 1))).bind fun t150 => (fragment_depth.l0 kj5 a1 (mx x5_1 (wrap64 (1 + t150))) l0 (l0.length : Int) (wrap64 (x10_1 + 1)))) = some r := by rw [if_pos rfl] at H; exact H
         clear H
         have H := H1
         clear H1
         replace H := Option.bind_eq_some_iff.mp H
         obtain ⟨t150, A150, H⟩ := H
         replace H : (fragment_depth.l0 kj5 a1 (mx x5_1 (wrap64 (1 + t150))) l0 (l0.length : Int) (wrap64 (x10_1 + 1))) = some r := H
         have A15 := Aside0.mk A150
         clear A150
         obtain ⟨ji16, hji16⟩ : ∃ j_ : Int, (mx x5_1 (wrap64 (1 + t150))) = j_ := ⟨_, rfl⟩
         replace H : (fragment_depth.l0 kj5 a1 ji16 l0 (l0.length : Int) (wrap64 (x10_1 + 1))) = some r := by first | (rw [hji16] at H; exact H) | (simp only [hji16] at H ⊢; exact H)
         (try rw [hji16] at A15)
         have hji16_ : (if x5_1 < (wrap64 (1 + t150)) then (wrap64 (1 + t150)) else x5_1) = ji16 := hji16
         have H' := Aside0.mk H
         clear H
         have hcz17_0 : wc.cell? ⟨gb149, 0, none⟩ = some (.int .i64 ((rd_T49 l0 x10_1).f0.f0)) := (blk_cell BK149.out 0).trans rfl
         have hcz17_1 : wc.cell? ⟨gb149, 1, none⟩ = some (.int .i64 ((rd_T49 l0 x10_1).f0.f1)) := (blk_cell BK149.out 1).trans rfl
         have hcz17_2 : wc.cell? ⟨gb149, 2, none⟩ = some (.string ((rd_T49 l0 x10_1).f0.f2)) := (blk_cell BK149.out 2).trans rfl
         have hcz17_3 : wc.cell? ⟨gb149, 3, none⟩ = some (.int .i64 ((rd_T49 l0 x10_1).f0.f3)) := (blk_cell BK149.out 3).trans rfl
         have hcz17_4 : wc.cell? ⟨gb149, 4, none⟩ = some (.int .i64 ((rd_T49 l0 x10_1).f0.f4)) := (blk_cell BK149.out 4).trans rfl
         have hcz17_5 : wc.cell? ⟨gb149, 5, none⟩ = some (.string ((rd_T49 l0 x10_1).f1)) := (blk_cell BK149.out 5).trans rfl
         have hcz17_6 : wc.cell? ⟨gb149, 6, none⟩ = some (.slice A148_6 ((rd_T49 l0 x10_1).f2).length c148_6) := (blk_cell BK149.out 6).trans rfl
         have hfz17_0 := blk_frozen BK149.out 0
         have hfz17_1 := blk_frozen BK149.out 1
         have hfz17_2 := blk_frozen BK149.out 2
         have hfz17_3 := blk_frozen BK149.out 3
         have hfz17_4 := blk_frozen BK149.out 4
         have hfz17_5 := blk_frozen BK149.out 5
         have hfz17_6 := blk_frozen BK149.out 6
         go_wp2_with (first | ((with_reducible refine gate_callee (f := 57) rfl ?_); refine goesL_ (some 31) rfl rfl Tryz.func57 (by kernel_rfl) rfl #[.slice A148_6 ((rd_T49 l0 x10_1).f2).length c148_6, .int .i64 (wrap64 (a1 - 1))] rfl (by (try simp only [List.map_toArray, List.map_cons, List.map_nil]); first | done | rfl | (simp only [List.length_drop, List.length_take]; rfl)) ?_; (with_reducible refine (ih kj5 (by have := HK1.out; have := HJ5.out; omega) _ _ ((rd_T49 l0 x10_1).f2) (wrap64 (a1 - 1)) t150 _ ?side1 ?side2 A15.out).mono ?_); (case side1 => repeat (first | exact (Kd.C_below HR148_6.out HB.out) | (with_reducible refine Kd.C_alloc ?_ _) | (with_reducible refine Kd.C_drewN ?_ _) | (with_reducible refine Kd.C_drew ?_))); (case side2 => exact HC148_6.out); rintro e w18 ⟨rfl, hb⟩; refine ⟨_, rfl, ?_⟩; have n0_ := Aside0.mk (blk_below (g := gb149) (o := .cells #[.int .i64 ((rd_T49 l0 x10_1).f0.f0), .int .i64 ((rd_T49 l0 x10_1).f0.f1), .string ((rd_T49 l0 x10_1).f0.f2), .int .i64 ((rd_T49 l0 x10_1).f0.f3), .int .i64 ((rd_T49 l0 x10_1).f0.f4), .string ((rd_T49 l0 x10_1).f1), .slice A148_6 ((rd_T49 l0 x10_1).f2).length c148_6] 49 (0, 0)) (by (with_reducible repeat (first | refine blk_drewN ?_ _ | refine blk_drew ?_ | refine blk_alloc ?_ _)); exact BK149.out) hb); have n1_ := Aside0.mk (below_step (by repeat (first | (with_reducible first | exact HB.out | apply below_alloc | apply pw_below_drewN | apply below_drew1 | refine below_set ?_ GE149.out) | exact HB.out)) hb); clear BK149; clear HB; have BK149 := n0_; have HB := n1_; clear n0_ n1_; (try clear hb); (try clear hb2); (try clear hk); (try clear hi)))
         go_roundg kj5
         case measure => have := HK1.out; have := HJ5.out; omega
         case rel => exact ⟨(ji16), (wrap64 (x10_1 + 1)), (by first | rfl | (simp; done) | (simp only [← hji16] <;> (first | rfl | simp)) | (simp [*]; done)), (by first | rfl | (simp; done) | (simp [*]; done)), H', ⟨by have := HK1.out; have := HJ5.out; omega⟩, ⟨by repeat (first | (with_reducible first | exact HB.out | apply below_alloc | apply pw_below_drewN | apply below_drew1 | refine below_set ?_ GE149.out) | exact HB.out)⟩⟩
        ·replace c14 := Bool.eq_false_iff.mpr c14
         subst c14
         have H1 : (fragment_depth.l0 kj5 a1 x5_1 l0 (l0.length : Int) (wrap64 (x10_1 + 1))) = some r := by rw [if_neg (show ¬ (false = true) by decide)] at H; exact H
         clear H
         have H := H1
         clear H1
         have H' := Aside0.mk H
         clear H
         go_wp2
         go_roundg kj5
         case measure => have := HK1.out; have := HJ5.out; omega
         case rel => exact ⟨(x5_1), (wrap64 (x10_1 + 1)), (by first | rfl | (simp; done) | (simp [*]; done)), (by first | rfl | (simp; done) | (simp [*]; done)), H', ⟨by have := HK1.out; have := HJ5.out; omega⟩, ⟨by repeat (first | (with_reducible first | exact HB.out | apply below_alloc | apply pw_below_drewN | apply below_drew1 | refine below_set ?_ GE149.out) | exact HB.out)⟩⟩
     ·rw [if_neg c5] at H
      exact absurd H (by simp)
    ·rw [if_neg c4] at H
     exact absurd H (by simp)
   ·rw [if_neg c3] at H
    have c3b0 : decide (x10_1 < (l0.length : Int)) = false := decide_eq_false c3
    clear c3
    obtain rfl := Option.some.inj H
    go_wp2
    go_ret
    exact ⟨by first | rfl | (simp [errW_none, errW_some] <;> rfl) | (simp [*, errW_none, errW_some] <;> rfl), by repeat (first | (with_reducible first | exact HB.out | apply below_alloc | apply pw_below_drewN | apply below_drew1) | exact HB.out)⟩

/-! ### fragment_Depth: function 25 -/
def fragment_Depth.f (k : Nat) (l0 : List (S49)) : Option (Int) := (fragment_depth.f k l0 101).bind fun t151 => (some t151)
set_option maxHeartbeats 8000000 in
set_option maxRecDepth 100000 in
theorem fragment_Depth.calls (k : Nat) (A0 : Option Addr) (c0 : Nat) (l0 : List (S49)) (r : Int) (w : World) (hr0 : Kd.C k49 w A0 l0.length l0) (hc0 : l0.length ≤ c0) (h : fragment_Depth.f k l0 = some r) :
  Calls Tryz.prog 25 #[.slice A0 l0.length c0] w fun e w' => e = .returned (.int .i64 r) ∧ Below w.heap.size w w' := by
 have HR0 := Aside0.mk hr0
 have HC0 := Aside0.mk hc0
 clear hr0 hc0
 have HB := Aside0.mk (Below.refl w.heap.size w)
 have H : ((fragment_depth.f k l0 101).bind fun t151 => (some t151)) = some r := h
 clear h
 replace H := Option.bind_eq_some_iff.mp H
 obtain ⟨t151, A20, H⟩ := H
 replace H : (some t151) = some r := H
 have A2 := Aside0.mk A20
 clear A20
 obtain rfl := Option.some.inj H
 go_enter Tryz.func25, Tryz.ntmps25
 go_wp2_with (first | ((with_reducible refine gate_callee (f := 57) rfl ?_); refine goesL_ (some 4) rfl rfl Tryz.func57 (by kernel_rfl) rfl #[.slice A0 l0.length c0, .int .i64 101] rfl (by (try simp only [List.map_toArray, List.map_cons, List.map_nil]); first | done | rfl | (simp only [List.length_drop, List.length_take]; rfl)) ?_; (with_reducible refine (fragment_depth.calls k _ _ l0 101 t151 _ ?side1 ?side2 A2.out).mono ?_); (case side1 => repeat (first | exact HR0.out | (with_reducible refine Kd.C_alloc ?_ _) | (with_reducible refine Kd.C_drewN ?_ _) | (with_reducible refine Kd.C_drew ?_))); (case side2 => exact HC0.out); rintro e w3 ⟨rfl, hb⟩; refine ⟨_, rfl, ?_⟩; have n0_ := Aside0.mk (below_step (by repeat (first | (with_reducible first | exact HB.out | apply below_alloc | apply pw_below_drewN | apply below_drew1) | exact HB.out)) hb); clear HB; have HB := n0_; clear n0_; (try clear hb); (try clear hb2); (try clear hk); (try clear hi)))
 go_ret
 exact ⟨by first | rfl | (simp [errW_none, errW_some] <;> rfl) | (simp [*, errW_none, errW_some] <;> rfl), by repeat (first | (with_reducible first | exact HB.out | apply below_alloc | apply pw_below_drewN | apply below_drew1) | exact HB.out)⟩

/-! ### skerryref01_Scan: function 71 -/

def rtok (a0 : ByteArray) (p : Lx.Piece) : S39 := ⟨(p.kind : Int), Ref.numOf a0 p, Ref.txtOf a0 p, (p.at_ : Int), 0⟩
theorem rtok_len (a0 : ByteArray) : ∀ l : List Lx.Piece, (l.flatMap (Ref.tokOf a0)).length = l.length * 5
 | [] => rfl
 | p :: l => by
  have h := rtok_len a0 l
  simp only [List.flatMap_cons, List.length_append, List.length_cons, h, Ref.tokOf, List.length_nil]
  omega
theorem rtok_at (a0 : ByteArray) : ∀ (l : List Lx.Piece) (j : Nat) (p : Lx.Piece), l[j]? = some p → ((l.flatMap (Ref.tokOf a0)).drop (j * 5)).take 5 = [.int .i64 p.kind, .int .i64 (Ref.numOf a0 p), .string (Ref.txtOf a0 p), .int .i64 p.at_, .int .i64 0]
 | [], j, p, h => by simp at h
 | q :: l, 0, p, h => by
  simp at h
  subst h
  rfl
 | q :: l, j + 1, p, h => by
  have h' : l[j]? = some p := by simpa using h
  have e := rtok_at a0 l j p h'
  have e2 : ((q :: l).flatMap (Ref.tokOf a0)).drop ((j + 1) * 5) = (l.flatMap (Ref.tokOf a0)).drop (j * 5) := by
   rw [show (j + 1) * 5 = 5 + j * 5 from by omega, ← List.drop_drop]
   rfl
  rw [e2]
  exact e
def skerryref01_Scan.f (a0 : ByteArray) : Option (List S39 × Int × Int) := if a0.size ≤ 9223372036854775807 then some (((Lx.outL a0).filter Ref.isTk).map (rtok a0), Lx.outAt a0, Lx.outE a0) else none
theorem skerryref01_Scan.calls (a0 : ByteArray) (r1 : List S39) (r2 r3 : Int) (w : World) (h : skerryref01_Scan.f a0 = some (r1, r2, r3)) :
  Calls Tryz.prog 71 #[.string a0] w fun e w' => ∃ v0_ : Value, e = .returned (.agg #[v0_, .int .i64 r2, .int .i64 r3]) ∧ Kd.R k39 39 w' w.heap.size (fun _ => True) v0_ r1 ∧ Below w.heap.size w w' := by
 unfold skerryref01_Scan.f at h
 split at h
 ·rename_i hs
  simp only [Option.some.injEq, Prod.mk.injEq] at h
  obtain ⟨rfl, rfl, rfl⟩ := h
  refine (Ref.rscan_walk a0 hs w).mono ?_
  rintro e w' ⟨v, rfl, ho, hb⟩
  refine ⟨v, rfl, ⟨fun _ _ => trivial, Ref.tokCells a0 (Lx.outL a0), by rw [List.length_map]; exact ho, ?_⟩, hb⟩
  refine ⟨by rw [List.length_map]; exact rtok_len a0 _, fun j p hp => ?_⟩
  rw [List.getElem?_map] at hp
  obtain ⟨q, hq, rfl⟩ := Option.map_eq_some_iff.1 hp
  have e := rtok_at a0 _ _ _ hq
  exact e ▸ k39_mkM _ _ _ _
 ·cases h


/-! ### skerrylaw02_scan: function 46 -/

def skerrylaw02_scan.f (a0 : ByteArray) : Option (List S39) := (skerryref01_Scan.f a0).bind fun r => some r.1
set_option maxHeartbeats 1600000 in
theorem skerrylaw02_scan.calls (a0 : ByteArray) (r : List S39) (w : World) (h : skerrylaw02_scan.f a0 = some r) :
  Calls Tryz.prog 46 #[.string a0] w fun e w' => ∃ v0_ : Value, e = .returned (v0_) ∧ Kd.R k39 39 w' w.heap.size (fun _ => True) v0_ r ∧ Below w.heap.size w w' := by
 unfold skerrylaw02_scan.f at h
 obtain ⟨⟨r1, r2, r3⟩, h1, h2⟩ := Option.bind_eq_some_iff.1 h
 obtain rfl := Option.some.inj h2
 have HC := Lib.hid (skerryref01_Scan.calls a0 r1 r2 r3 w h1)
 clear h h1 h2
 have hfd : ∀ (w : World) (A : Option Addr) (n c : Nat) (x y : Int), (Instr.field 97 (.agg #[.slice A n c, .int .i64 x, .int .i64 y]) 0).run Tryz.prog w = .ok (.slice A n c) w := fun _ _ _ _ _ _ => by kernel_rfl
 go_enter Tryz.func46, Tryz.ntmps46
 go_wp2_with fail
 refine HC.out.mono ?_
 rintro e w2 ⟨v, rfl, hR, hB⟩
 obtain ⟨A, c, rfl⟩ := Kd.R_slice hR
 have HR := Lib.hid hR
 have HB := Lib.hid hB
 clear hR hB
 go_wp2
 go_ret
 exact ⟨_, rfl, HR.out, HB.out⟩


end Go.Proofs.YtipnlgmeonepfaaGreatDoor.PFa
