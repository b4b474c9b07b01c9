-- PRINTED by print.py (a twelfth state) out of the translation. Not trusted: Lean checks it.
import Derived.Test.YtdaccmjfefknoaaGreatDoorPZbx0
import Derived.Test.YtdaccmjfefknoaaGreatDoorPZbx2
namespace Go.Proofs.YtdaccmjfefknoaaGreatDoor.PZb
open Go.RowKit Go.Proofs.YtdaccmjfefknoaaGreatDoorW.PrintWords Go.Proofs.YtdaccmjfefknoaaGreatDoorW.PrintLast Go.Proofs.YtdaccmjfefknoaaGreatDoorW.PrintMore
attribute [local go_sem] max2_int min2_int max_two min_two max_three min_three max_four min_four   -- for this text's walks alone
set_option linter.unusedVariables false
set_option linter.unusedSimpArgs false

attribute [local go_sem high] eqA50
/-! ### lex_Change: function 6 -/
def lex_Change.j0 : Nat → ByteArray → Bool → Int → Int → ByteArray → Option (ByteArray × Int)
 | 0, _, _, _, _, _ => none
 | k + 1, x0, x30, x118000, x118001, x118002 => if x30 = true then (some ((⟨#[]⟩ : ByteArray), 1)) else (if 0 ≤ x118000 then (if x118000 ≤ (x0.size : Int) then (if (x0.extract 0 (x118000 : Int).toNat).size + x118002.size ≤ 9223372036854775807 then (if 0 ≤ (wrap64 (x118000 + x118001)) then (if (wrap64 (x118000 + x118001)) ≤ (x0.size : Int) then (if ((x0.extract 0 (x118000 : Int).toNat) ++ x118002).size + (x0.extract ((wrap64 (x118000 + x118001)) : Int).toNat x0.size).size ≤ 9223372036854775807 then (some (((x0.extract 0 (x118000 : Int).toNat) ++ x118002) ++ (x0.extract ((wrap64 (x118000 + x118001)) : Int).toNat x0.size), 0)) else (none)) else (none)) else (none)) else (none)) else (none)) else (none))
def lex_Change.f (k : Nat) (a0 : ByteArray) (a1_0 : Int) (a1_1 : Int) (a1_2 : ByteArray) : Option (ByteArray × Int) := if a1_0 < 0 then (lex_Change.j0 k a0 true a1_0 a1_1 a1_2) else (if a1_1 < 0 then (lex_Change.j0 k a0 true a1_0 a1_1 a1_2) else (if a1_0 > (a0.size : Int) then (lex_Change.j0 k a0 true a1_0 a1_1 a1_2) else (lex_Change.j0 k a0 (decide (a1_1 > (wrap64 ((a0.size : Int) - a1_0)))) a1_0 a1_1 a1_2)))
theorem lex_Change.mono_l : ∀ k, (∀ y0 y1 y2 y3 y4, LeO (lex_Change.j0 k y0 y1 y2 y3 y4) (lex_Change.j0 (k + 1) y0 y1 y2 y3 y4))
 | 0 => fun _ _ _ _ _ r h => by simp [lex_Change.j0] at h
 | k + 1 => by
  have ih0 := lex_Change.mono_l k
  ·intro y0 y1 y2 y3 y4
   unfold lex_Change.j0
   repeat' first
   | (with_reducible exact ih0 _ _ _ _ _)
   | (with_reducible exact LeO.refl _)
   | (with_reducible exact LeO.none _)
   | (with_reducible refine LeO.ite ?_ ?_)
   | (with_reducible refine LeO.bind ?_ (fun _ => ?_))
   | exact ih0 _ _ _ _ _
   | exact LeO.none _
   | refine LeO.ite ?_ ?_
   | refine LeO.bind ?_ (fun _ => ?_)
theorem lex_Change.mono : ∀ a0 a1 a2 a3 k, LeO (lex_Change.f k a0 a1 a2 a3) (lex_Change.f (k + 1) a0 a1 a2 a3) := by
 intro a0 a1 a2 a3 k
 have ih0 := lex_Change.mono_l k
 unfold lex_Change.f
 repeat' first
   | (with_reducible exact ih0 _ _ _ _ _)
   | (with_reducible exact LeO.refl _)
   | (with_reducible exact LeO.none _)
   | (with_reducible refine LeO.ite ?_ ?_)
   | (with_reducible refine LeO.bind ?_ (fun _ => ?_))
   | exact ih0 _ _ _ _ _
   | exact LeO.none _
   | refine LeO.ite ?_ ?_
   | refine LeO.bind ?_ (fun _ => ?_)
set_option maxHeartbeats 8000000 in
set_option maxRecDepth 100000 in
theorem lex_Change.calls (k : Nat) (a0 : ByteArray) (a1_0 : Int) (a1_1 : Int) (a1_2 : ByteArray) (r1 : ByteArray) (r2 : Int) (w : World) (h : lex_Change.f k a0 a1_0 a1_1 a1_2 = some (r1, r2)) :
  Calls Tryz.prog 6 #[.string a0, .agg #[.int .i64 a1_0, .int .i64 a1_1, .string a1_2]] w fun e w' => e = .returned (.tuple #[.string r1, .int .i64 r2]) ∧ Below w.heap.size w w' := by
 have hu24 := Tryz.underlying24
 have HB := Aside0.mk (Below.refl w.heap.size w)
 have H : (if a1_0 < 0 then (lex_Change.j0 k a0 true a1_0 a1_1 a1_2) else (if a1_1 < 0 then (lex_Change.j0 k a0 true a1_0 a1_1 a1_2) else (if a1_0 > (a0.size : Int) then (lex_Change.j0 k a0 true a1_0 a1_1 a1_2) else (lex_Change.j0 k a0 (decide (a1_1 > (wrap64 ((a0.size : Int) - a1_0)))) a1_0 a1_1 a1_2)))) = some (r1, r2) := h
 clear h
 have HC3 := Aside0.mk H
 clear H
 go_enter Tryz.func6, Tryz.ntmps6
 go_upto_region 1 with (first | ((with_reducible refine gate_dst (N := 3) rfl ?_); refine box_event ?hg (N := 3) ?hd (cs := #[.int .i64 a1_0, .int .i64 a1_1, .string a1_2]) (t := 24) ?hr ?_; (case hd => rfl); (case hg => rfl); (case hr => first | (go_simp; done) | (go_simp; rfl)); intro gb117 hg w4 hbox hb; have n0_ := Aside0.mk (below_step (by repeat (first | (with_reducible first | exact HB.out | apply below_alloc | apply pw_below_drewN | apply below_drew1) | exact HB.out)) hb); have n1_ := Aside0.mk (hbox); have n2_ := Aside0.mk ((by rw [hg]; exact (below_size (by repeat (first | (with_reducible first | exact HB.out | apply below_alloc | apply pw_below_drewN | apply below_drew1) | exact HB.out))) : w.heap.size ≤ gb117)); have n3_ := Aside0.mk ((by rw [hg]; exact (below_size (by repeat (first | (with_reducible first | exact HB.out | apply below_alloc | apply pw_below_drewN | apply below_drew1) | exact HB.out))) : w.heap.size ≤ gb117)); clear HB; have HB := n0_; have BK117 := n1_; have GW117 := n2_; have GE117 := n3_; clear n0_ n1_ n2_ n3_; clear hb hbox hg))
 repeat (go_quiet (first | ((with_reducible refine gate_dst (N := 3) rfl ?_); refine box_event ?hg (N := 3) ?hd (cs := #[.int .i64 a1_0, .int .i64 a1_1, .string a1_2]) (t := 24) ?hr ?_; (case hd => rfl); (case hg => rfl); (case hr => first | (go_simp; done) | (go_simp; rfl)); intro gb117 hg w4 hbox hb; have n0_ := Aside0.mk (below_step (by repeat (first | (with_reducible first | exact HB.out | apply below_alloc | apply pw_below_drewN | apply below_drew1) | exact HB.out)) hb); have n1_ := Aside0.mk (hbox); have n2_ := Aside0.mk ((by rw [hg]; exact (below_size (by repeat (first | (with_reducible first | exact HB.out | apply below_alloc | apply pw_below_drewN | apply below_drew1) | exact HB.out))) : w.heap.size ≤ gb117)); have n3_ := Aside0.mk ((by rw [hg]; exact (below_size (by repeat (first | (with_reducible first | exact HB.out | apply below_alloc | apply pw_below_drewN | apply below_drew1) | exact HB.out))) : w.heap.size ≤ gb117)); clear HB; have HB := n0_; have BK117 := n1_; have GW117 := n2_; have GE117 := n3_; clear n0_ n1_ n2_ n3_; clear hb hbox hg)); go_upto_region 1 with (first | ((with_reducible refine gate_dst (N := 3) rfl ?_); refine box_event ?hg (N := 3) ?hd (cs := #[.int .i64 a1_0, .int .i64 a1_1, .string a1_2]) (t := 24) ?hr ?_; (case hd => rfl); (case hg => rfl); (case hr => first | (go_simp; done) | (go_simp; rfl)); intro gb117 hg w4 hbox hb; have n0_ := Aside0.mk (below_step (by repeat (first | (with_reducible first | exact HB.out | apply below_alloc | apply pw_below_drewN | apply below_drew1) | exact HB.out)) hb); have n1_ := Aside0.mk (hbox); have n2_ := Aside0.mk ((by rw [hg]; exact (below_size (by repeat (first | (with_reducible first | exact HB.out | apply below_alloc | apply pw_below_drewN | apply below_drew1) | exact HB.out))) : w.heap.size ≤ gb117)); have n3_ := Aside0.mk ((by rw [hg]; exact (below_size (by repeat (first | (with_reducible first | exact HB.out | apply below_alloc | apply pw_below_drewN | apply below_drew1) | exact HB.out))) : w.heap.size ≤ gb117)); clear HB; have HB := n0_; have BK117 := n1_; have GW117 := n2_; have GE117 := n3_; clear n0_ n1_ n2_ n3_; clear hb hbox hg)))
 (try simp only [Act.put, List.setIfInBounds_toArray, List.set_cons_zero, List.set_cons_succ])
 go_cut [30] (fun v30 wc => ∃ (kq : Nat) (x30_2 : Bool), v30 = .bool x30_2 ∧ Aside0 (lex_Change.j0 kq a0 x30_2 a1_0 a1_1 a1_2 = some (r1, r2)) ∧ Aside0 (kq ≤ k) ∧ Aside0 (wc.heap[gb117]? = some (.cells #[.int .i64 a1_0, .int .i64 a1_1, .string a1_2] 24 (0, 0))) ∧ Aside0 (Below w.heap.size w wc))
 case first =>
  have H := HC3.out
  clear HC3
  by_cases c5 : a1_0 < 0
  ·rw [if_pos c5] at H
   have c5b0 : decide (a1_0 < 0) = true := decide_eq_true c5
   clear c5
   (first | rw [c5b0] | (simp only [i64_w, i32_w]; rw [c5b0]) | skip)
   have H' := Aside0.mk H
   clear H
   have hcz6_0 : w4.cell? ⟨gb117, 0, none⟩ = some (.int .i64 a1_0) := (blk_cell BK117.out 0).trans rfl
   have hcz6_1 : w4.cell? ⟨gb117, 1, none⟩ = some (.int .i64 a1_1) := (blk_cell BK117.out 1).trans rfl
   have hcz6_2 : w4.cell? ⟨gb117, 2, none⟩ = some (.string a1_2) := (blk_cell BK117.out 2).trans rfl
   have hfz6_0 := blk_frozen BK117.out 0
   have hfz6_1 := blk_frozen BK117.out 1
   have hfz6_2 := blk_frozen BK117.out 2
   go_wp2
   repeat (go_quiet (fail); try go_wp2)
   go_meet
   case rel => exact ⟨_, (true), (by first | rfl | (simp; done) | (simp [*]; done)), H', ⟨by first | omega | exact Nat.le_refl _⟩, ⟨by (with_reducible repeat (first | refine blk_drewN ?_ _ | refine blk_drew ?_ | refine blk_alloc ?_ _)); exact BK117.out⟩, ⟨by repeat (first | (with_reducible first | exact HB.out | apply below_alloc | apply pw_below_drewN | apply below_drew1 | refine below_set ?_ GE117.out) | exact HB.out)⟩⟩
  ·rw [if_neg c5] at H
   have c5b0 : decide (a1_0 < 0) = false := decide_eq_false c5
   clear c5
   (first | rw [c5b0] | (simp only [i64_w, i32_w]; rw [c5b0]) | skip)
   by_cases c7 : a1_1 < 0
   ·rw [if_pos c7] at H
    have c7b0 : decide (a1_1 < 0) = true := decide_eq_true c7
    clear c7
    have H' := Aside0.mk H
    clear H
    have hcz8_0 : w4.cell? ⟨gb117, 0, none⟩ = some (.int .i64 a1_0) := (blk_cell BK117.out 0).trans rfl
    have hcz8_1 : w4.cell? ⟨gb117, 1, none⟩ = some (.int .i64 a1_1) := (blk_cell BK117.out 1).trans rfl
    have hcz8_2 : w4.cell? ⟨gb117, 2, none⟩ = some (.string a1_2) := (blk_cell BK117.out 2).trans rfl
    have hfz8_0 := blk_frozen BK117.out 0
    have hfz8_1 := blk_frozen BK117.out 1
    have hfz8_2 := blk_frozen BK117.out 2
    go_wp2
    repeat (go_quiet (fail); try go_wp2)
    go_meet
    case rel => exact ⟨_, (true), (by first | rfl | (simp; done) | (simp [*]; done)), H', ⟨by first | omega | exact Nat.le_refl _⟩, ⟨by (with_reducible repeat (first | refine blk_drewN ?_ _ | refine blk_drew ?_ | refine blk_alloc ?_ _)); exact BK117.out⟩, ⟨by repeat (first | (with_reducible first | exact HB.out | apply below_alloc | apply pw_below_drewN | apply below_drew1 | refine below_set ?_ GE117.out) | exact HB.out)⟩⟩
   ·rw [if_neg c7] at H
    have c7b0 : decide (a1_1 < 0) = false := decide_eq_false c7
    clear c7
    by_cases c9 : a1_0 > (a0.size : Int)
    ·rw [if_pos c9] at H
     have c9b0 : decide ((a0.size : Int) < a1_0) = true := decide_eq_true c9
     clear c9
     have H' := Aside0.mk H
     clear H
     have hcz10_0 : w4.cell? ⟨gb117, 0, none⟩ = some (.int .i64 a1_0) := (blk_cell BK117.out 0).trans rfl
     have hcz10_1 : w4.cell? ⟨gb117, 1, none⟩ = some (.int .i64 a1_1) := (blk_cell BK117.out 1).trans rfl
     have hcz10_2 : w4.cell? ⟨gb117, 2, none⟩ = some (.string a1_2) := (blk_cell BK117.out 2).trans rfl
     have hfz10_0 := blk_frozen BK117.out 0
     have hfz10_1 := blk_frozen BK117.out 1
     have hfz10_2 := blk_frozen BK117.out 2
     go_wp2
     repeat (go_quiet (fail); try go_wp2)
     go_meet
     case rel => exact ⟨_, (true), (by first | rfl | (simp; done) | (simp [*]; done)), H', ⟨by first | omega | exact Nat.le_refl _⟩, ⟨by (with_reducible repeat (first | refine blk_drewN ?_ _ | refine blk_drew ?_ | refine blk_alloc ?_ _)); exact BK117.out⟩, ⟨by repeat (first | (with_reducible first | exact HB.out | apply below_alloc | apply pw_below_drewN | apply below_drew1 | refine below_set ?_ GE117.out) | exact HB.out)⟩⟩
    ·rw [if_neg c9] at H
     have c9b0 : decide ((a0.size : Int) < a1_0) = false := decide_eq_false c9
     clear c9
     have H' := Aside0.mk H
     clear H
     have hcz11_0 : w4.cell? ⟨gb117, 0, none⟩ = some (.int .i64 a1_0) := (blk_cell BK117.out 0).trans rfl
     have hcz11_1 : w4.cell? ⟨gb117, 1, none⟩ = some (.int .i64 a1_1) := (blk_cell BK117.out 1).trans rfl
     have hcz11_2 : w4.cell? ⟨gb117, 2, none⟩ = some (.string a1_2) := (blk_cell BK117.out 2).trans rfl
     have hfz11_0 := blk_frozen BK117.out 0
     have hfz11_1 := blk_frozen BK117.out 1
     have hfz11_2 := blk_frozen BK117.out 2
     go_wp2
     repeat (go_quiet (fail); try go_wp2)
     go_meet
     case rel => exact ⟨_, (decide (a1_1 > (wrap64 ((a0.size : Int) - a1_0)))), (by first | rfl | (simp; done) | (simp [*]; done)), H', ⟨by first | omega | exact Nat.le_refl _⟩, ⟨by (with_reducible repeat (first | refine blk_drewN ?_ _ | refine blk_drew ?_ | refine blk_alloc ?_ _)); exact BK117.out⟩, ⟨by repeat (first | (with_reducible first | exact HB.out | apply below_alloc | apply pw_below_drewN | apply below_drew1 | refine below_set ?_ GE117.out) | exact HB.out)⟩⟩
 case rest =>
  clear HC3
  try clear p2
  try clear c5
  try clear c5b0
  try clear c6
  try clear p6
  try clear c7
  try clear c7b0
  try clear c9
  try clear c9b0
  try clear hcz10_0
  try clear hcz10_1
  try clear hcz10_2
  try clear hcz11_0
  try clear hcz11_1
  try clear hcz11_2
  try clear hcz6_0
  try clear hcz6_1
  try clear hcz6_2
  try clear hcz8_0
  try clear hcz8_1
  try clear hcz8_2
  try clear hfz10_0
  try clear hfz10_1
  try clear hfz10_2
  try clear hfz11_0
  try clear hfz11_1
  try clear hfz11_2
  try clear hfz6_0
  try clear hfz6_1
  try clear hfz6_2
  try clear hfz8_0
  try clear hfz8_1
  try clear hfz8_2
  obtain ⟨kq, x30_2, rfl, HA, HJ2, BK117, HB⟩ := hcut
  cases kq with
  | zero => exact absurd HA.out (by simp [lex_Change.j0])
  | succ kj2 =>
   have H := HA.out
   clear HA
   simp only [lex_Change.j0] at H
   by_cases c12 : x30_2 = true
   ·subst c12
    have H1 : (some ((⟨#[]⟩ : ByteArray), 1)) = some (r1, r2) := by rw [if_pos rfl] at H; exact H
    clear H
    have H := H1
    clear H1
    simp only [Option.some.injEq, Prod.mk.injEq] at H
    obtain ⟨rfl, rfl⟩ := H
    go_wp2
    repeat (go_quiet (fail); try go_wp2)
    go_ret2
    exact ⟨by first | rfl | (simp [errW_none, errW_some] <;> rfl) | (simp [*, errW_none, errW_some] <;> rfl), by repeat (first | (with_reducible first | exact HB.out | apply below_alloc | apply pw_below_drewN | apply below_drew1 | refine below_set ?_ GE117.out) | exact HB.out)⟩
   ·replace c12 := Bool.eq_false_iff.mpr c12
    subst c12
    have H1 : (if 0 ≤ a1_0 then (if a1_0 ≤ (a0.size : Int) then (if (a0.extract 0 (a1_0 : Int).toNat).size + a1_2.size ≤ 9223372036854775807 then (if 0 ≤ (wrap64 (a1_0 + a1_1)) then (if (wrap64 (a1_0 + a1_1)) ≤ (a0.size : Int) then (if ((a0.extract 0 (a1_0 : Int).toNat) ++ a1_2).size + (a0.extract ((wrap64 (a1_0 + a1_1)) : Int).toNat a0.size).size ≤ 9223372036854775807 then (some (((a0.extract 0 (a1_0 : Int).toNat) ++ a1_2) ++ (a0.extract ((wrap64 (a1_0 + a1_1)) : Int).toNat a0.size), 0)) else (none)) else (none)) else (none)) else (none)) else (none)) else (none)) = some (r1, r2) := by rw [if_neg (show ¬ (false = true) by decide)] at H; exact H
    clear H
    have H := H1
    clear H1
    by_cases c13 : 0 ≤ a1_0
    ·rw [if_pos c13] at H
     have c13b0 := eq_true c13
     have c13b1 : decide (0 ≤ a1_0) = true := decide_eq_true c13
     clear c13
     by_cases c14 : a1_0 ≤ (a0.size : Int)
     ·rw [if_pos c14] at H
      have c14b0 := eq_true c14
      have c14b1 : decide (a1_0 ≤ (a0.size : Int)) = true := decide_eq_true c14
      clear c14
      by_cases c15 : (a0.extract 0 (a1_0 : Int).toNat).size + a1_2.size ≤ 9223372036854775807
      ·rw [if_pos c15] at H
       have c15b0 := eq_true c15
       have c15b1 : decide ((a0.extract 0 (a1_0 : Int).toNat).size + a1_2.size ≤ 9223372036854775807) = true := decide_eq_true c15
       try have c15b2 : (9223372036854775807 < (a0.extract 0 (a1_0 : Int).toNat).size + a1_2.size) = False := eq_false (Nat.not_lt.2 c15)
       obtain ⟨ji16, hji16⟩ : ∃ j_ : Int, (wrap64 (a1_0 + a1_1)) = j_ := ⟨_, rfl⟩
       replace H : (if 0 ≤ (ji16) then (if (ji16) ≤ (a0.size : Int) then (if ((a0.extract 0 (a1_0 : Int).toNat) ++ a1_2).size + (a0.extract ((ji16) : Int).toNat a0.size).size ≤ 9223372036854775807 then (some (((a0.extract 0 (a1_0 : Int).toNat) ++ a1_2) ++ (a0.extract ((ji16) : Int).toNat a0.size), 0)) else (none)) else (none)) else (none)) = some (r1, r2) := by first | (rw [hji16] at H; exact H) | (simp only [hji16] at H ⊢; exact H)
       have hji16w : (IntKind.i64.wrap (a1_0 + a1_1)) = ji16 := (i64_w _).trans hji16
       by_cases c17 : 0 ≤ (ji16)
       ·rw [if_pos c17] at H
        have c17b0 := eq_true c17
        have c17b1 : decide (0 ≤ (ji16)) = true := decide_eq_true c17
        clear c17
        by_cases c18 : (ji16) ≤ (a0.size : Int)
        ·rw [if_pos c18] at H
         have c18b0 := eq_true c18
         have c18b1 : decide ((ji16) ≤ (a0.size : Int)) = true := decide_eq_true c18
         clear c18
         by_cases c19 : ((a0.extract 0 (a1_0 : Int).toNat) ++ a1_2).size + (a0.extract ((ji16) : Int).toNat a0.size).size ≤ 9223372036854775807
         ·rw [if_pos c19] at H
          have c19b0 := eq_true c19
          have c19b1 : decide (((a0.extract 0 (a1_0 : Int).toNat) ++ a1_2).size + (a0.extract ((ji16) : Int).toNat a0.size).size ≤ 9223372036854775807) = true := decide_eq_true c19
          try have c19b2 : (9223372036854775807 < ((a0.extract 0 (a1_0 : Int).toNat) ++ a1_2).size + (a0.extract ((ji16) : Int).toNat a0.size).size) = False := eq_false (Nat.not_lt.2 c19)
          simp only [Option.some.injEq, Prod.mk.injEq] at H
          obtain ⟨rfl, rfl⟩ := H
          have hcz20_0 : wc.cell? ⟨gb117, 0, none⟩ = some (.int .i64 a1_0) := (blk_cell BK117.out 0).trans rfl
          have hcz20_1 : wc.cell? ⟨gb117, 1, none⟩ = some (.int .i64 a1_1) := (blk_cell BK117.out 1).trans rfl
          have hcz20_2 : wc.cell? ⟨gb117, 2, none⟩ = some (.string a1_2) := (blk_cell BK117.out 2).trans rfl
          have hfz20_0 := blk_frozen BK117.out 0
          have hfz20_1 := blk_frozen BK117.out 1
          have hfz20_2 := blk_frozen BK117.out 2
          go_wp2
          repeat (go_quiet (fail); try go_wp2)
          go_ret2
          exact ⟨by first | rfl | (simp [errW_none, errW_some] <;> rfl) | (simp only [← hji16]; first | rfl | (simp [errW_none, errW_some] <;> rfl)) | (simp [*, errW_none, errW_some] <;> rfl), by repeat (first | (with_reducible first | exact HB.out | apply below_alloc | apply pw_below_drewN | apply below_drew1 | refine below_set ?_ GE117.out) | exact HB.out)⟩
         ·rw [if_neg c19] at H
          exact absurd H (by simp)
        ·rw [if_neg c18] at H
         exact absurd H (by simp)
       ·rw [if_neg c17] at H
        exact absurd H (by simp)
      ·rw [if_neg c15] at H
       exact absurd H (by simp)
     ·rw [if_neg c14] at H
      exact absurd H (by simp)
    ·rw [if_neg c13] at H
     exact absurd H (by simp)

/-! ### api_Piece: function 40 -/
def api_Piece.l0 : Nat → List (S50) → List (S50) → Int → Int → Option (Bool)
 | 0, _, _, _, _ => none
 | k + 1, x0, x1, x12, x13 => if x13 < x12 then (if 0 ≤ x13 then (if x13 < (x0.length : Int) then (if x13 < (x1.length : Int) then (if (!(((rd_T50 x0 x13).f0) == ((rd_T50 x1 x13).f0)) || (!(((rd_T50 x0 x13).f1) == ((rd_T50 x1 x13).f1)) || (!(((rd_T50 x0 x13).f2) == ((rd_T50 x1 x13).f2))))) = true then (some false) else (api_Piece.l0 k x0 x1 x12 (wrap64 (x13 + 1)))) else (none)) else (none)) else (none)) else (some true)
def api_Piece.f (k : Nat) (l0 : List (S50)) (l1 : List (S50)) : Option (Bool) := if (l0.length : Int) = (l1.length : Int) then (api_Piece.l0 k l0 l1 (l0.length : Int) 0) else (some false)
theorem api_Piece.mono_l : ∀ k, (∀ y0 y1 y2 y3, LeO (api_Piece.l0 k y0 y1 y2 y3) (api_Piece.l0 (k + 1) y0 y1 y2 y3))
 | 0 => fun _ _ _ _ r h => by simp [api_Piece.l0] at h
 | k + 1 => by
  have ih0 := api_Piece.mono_l k
  ·intro y0 y1 y2 y3
   unfold api_Piece.l0
   repeat' first
   | (with_reducible exact ih0 _ _ _ _)
   | (with_reducible exact LeO.refl _)
   | (with_reducible exact LeO.none _)
   | (with_reducible refine LeO.ite ?_ ?_)
   | (with_reducible refine LeO.bind ?_ (fun _ => ?_))
   | exact ih0 _ _ _ _
   | exact LeO.none _
   | refine LeO.ite ?_ ?_
   | refine LeO.bind ?_ (fun _ => ?_)
theorem api_Piece.mono : ∀ a0 a1 k, LeO (api_Piece.f k a0 a1) (api_Piece.f (k + 1) a0 a1) := by
 intro a0 a1 k
 have ih0 := api_Piece.mono_l k
 unfold api_Piece.f
 repeat' first
   | (with_reducible exact ih0 _ _ _ _)
   | (with_reducible exact LeO.refl _)
   | (with_reducible exact LeO.none _)
   | (with_reducible refine LeO.ite ?_ ?_)
   | (with_reducible refine LeO.bind ?_ (fun _ => ?_))
   | exact ih0 _ _ _ _
   | exact LeO.none _
   | refine LeO.ite ?_ ?_
   | refine LeO.bind ?_ (fun _ => ?_)
set_option maxHeartbeats 8000000 in
set_option maxRecDepth 100000 in
theorem api_Piece.calls (k : Nat) (A0 : Option Addr) (c0 : Nat) (l0 : List (S50)) (A1 : Option Addr) (c1 : Nat) (l1 : List (S50)) (r : Bool) (w : World) (hr0 : Kd.C k50 w A0 l0.length l0) (hc0 : l0.length ≤ c0) (hr1 : Kd.C k50 w A1 l1.length l1) (hc1 : l1.length ≤ c1) (h : api_Piece.f k l0 l1 = some r) :
  Calls Tryz.prog 40 #[.slice A0 l0.length c0, .slice A1 l1.length c1] w fun e w' => e = .returned (.bool r) ∧ Drawn0 w w' := by
 have hu50 := Tryz.underlying50
 have HR0 := Aside0.mk hr0
 have HC0 := Aside0.mk hc0
 clear hr0 hc0
 have HR1 := Aside0.mk hr1
 have HC1 := Aside0.mk hc1
 clear hr1 hc1
 have H : (if (l0.length : Int) = (l1.length : Int) then (api_Piece.l0 k l0 l1 (l0.length : Int) 0) else (some false)) = some r := h
 clear h
 by_cases c3 : (l0.length : Int) = (l1.length : Int)
 ·rw [if_pos c3] at H
  have c3b0 : ((l0.length : Int) == (l1.length : Int)) = true := beq_iff_eq.mpr c3
  have c3b1 : ((l0.length : Int) != (l1.length : Int)) = false := bne_eq_false_iff_eq.mpr c3
  have c3b2 : (l0.length == l1.length) = true := by first | simpa using c3 | (simp at c3 ⊢; omega)
  clear c3
  have H' := Aside0.mk H
  clear H
  go_enter Tryz.func40, Tryz.ntmps40
  go_wp2
  repeat (go_quiet (fail); try go_wp2)
  go_loopg [13] k (fun kq v13 w' => ∃ (x13_1 : Int), v13 = .int .i64 x13_1 ∧ Aside0 (api_Piece.l0 kq l0 l1 (l0.length : Int) x13_1 = some r) ∧ Aside0 (kq ≤ k) ∧ Drawn0 w w')
  case atStart => exact ⟨(0), (by first | rfl | (simp; done) | (simp [*]; done)), H', ⟨Nat.le_refl _⟩, by repeat (first | exact Drawn0.refl _ | apply Drawn0.step)⟩
  case round =>
   clear H'
   try clear c1
   try clear p2
   try clear c3
   try clear c3b0
   try clear c3b1
   try clear c3b2
   obtain ⟨x13_1, rfl, HA, HK1, ⟨m1, rfl⟩⟩ := hrel
   cases gk with
   | zero => exact absurd HA.out (by simp [api_Piece.l0])
   | succ k1 =>
    have H := HA.out
    clear HA
    simp only [api_Piece.l0] at H
    by_cases c4 : x13_1 < (l0.length : Int)
    ·rw [if_pos c4] at H
     have c4b0 : decide (x13_1 < (l0.length : Int)) = true := decide_eq_true c4
     clear c4
     by_cases c5 : 0 ≤ x13_1
     ·rw [if_pos c5] at H
      have c5b0 : decide (0 ≤ x13_1) = true := decide_eq_true c5
      clear c5
      by_cases c6 : x13_1 < (l0.length : Int)
      ·rw [if_pos c6] at H
       have c6b0 : decide (x13_1 < (l0.length : Int)) = true := decide_eq_true c6
       clear c6
       by_cases c7 : x13_1 < (l1.length : Int)
       ·rw [if_pos c7] at H
        have c7b0 : decide (x13_1 < (l1.length : Int)) = true := decide_eq_true c7
        clear c7
        by_cases c8 : (!(((rd_T50 l0 x13_1).f0) == ((rd_T50 l1 x13_1).f0)) || (!(((rd_T50 l0 x13_1).f1) == ((rd_T50 l1 x13_1).f1)) || (!(((rd_T50 l0 x13_1).f2) == ((rd_T50 l1 x13_1).f2))))) = true
        ·rw [if_pos c8] at H
         have c8b0 : (!(((rd_T50 l0 x13_1).f0) == ((rd_T50 l1 x13_1).f0)) || (!(((rd_T50 l0 x13_1).f1) == ((rd_T50 l1 x13_1).f1)) || (!(((rd_T50 l0 x13_1).f2) == ((rd_T50 l1 x13_1).f2))))) = true := c8
         clear c8
         obtain rfl := Option.some.inj H
         have p118 : 0 ≤ (x13_1 : Int) := of_decide_eq_true (by first | (with_reducible assumption) | assumption)
         have q118 : x13_1 < (l0.length : Int) := of_decide_eq_true (by first | (with_reducible assumption) | assumption)
         obtain ⟨ad118, e118, hx118_0, hx118_1, hx118_2⟩ := at_T50 HR0.out x13_1 p118 q118
         cases e118
         replace p118 := eq_true p118
         replace q118 := eq_true q118
         have p119 : 0 ≤ (x13_1 : Int) := of_decide_eq_true (by first | (with_reducible assumption) | assumption)
         have q119 : x13_1 < (l1.length : Int) := of_decide_eq_true (by first | (with_reducible assumption) | assumption)
         obtain ⟨ad119, e119, hx119_0, hx119_1, hx119_2⟩ := at_T50 HR1.out x13_1 p119 q119
         cases e119
         replace p119 := eq_true p119
         replace q119 := eq_true q119
         go_wp2
         repeat (go_quiet (fail); try go_wp2)
         go_ret
         exact ⟨by first | rfl | (simp; done) | (simp [*]; done), by repeat (first | exact Drawn0.refl _ | apply Drawn0.step)⟩
        ·rw [if_neg c8] at H
         have c8b0 : (!(((rd_T50 l0 x13_1).f0) == ((rd_T50 l1 x13_1).f0)) || (!(((rd_T50 l0 x13_1).f1) == ((rd_T50 l1 x13_1).f1)) || (!(((rd_T50 l0 x13_1).f2) == ((rd_T50 l1 x13_1).f2))))) = false := by simpa using c8
         clear c8
         have H' := Aside0.mk H
         clear H
         have p118 : 0 ≤ (x13_1 : Int) := of_decide_eq_true (by first | (with_reducible assumption) | assumption)
         have q118 : x13_1 < (l0.length : Int) := of_decide_eq_true (by first | (with_reducible assumption) | assumption)
         obtain ⟨ad118, e118, hx118_0, hx118_1, hx118_2⟩ := at_T50 HR0.out x13_1 p118 q118
         cases e118
         replace p118 := eq_true p118
         replace q118 := eq_true q118
         have p119 : 0 ≤ (x13_1 : Int) := of_decide_eq_true (by first | (with_reducible assumption) | assumption)
         have q119 : x13_1 < (l1.length : Int) := of_decide_eq_true (by first | (with_reducible assumption) | assumption)
         obtain ⟨ad119, e119, hx119_0, hx119_1, hx119_2⟩ := at_T50 HR1.out x13_1 p119 q119
         cases e119
         replace p119 := eq_true p119
         replace q119 := eq_true q119
         go_wp2
         repeat (go_quiet (fail); try go_wp2)
         go_roundg k1
         case measure => have := HK1.out; omega
         case rel => exact ⟨(wrap64 (x13_1 + 1)), (by first | rfl | (simp; done) | (simp [*]; done)), H', ⟨by have := HK1.out; omega⟩, by repeat (first | exact Drawn0.refl _ | apply Drawn0.step)⟩
       ·rw [if_neg c7] at H
        exact absurd H (by simp)
      ·rw [if_neg c6] at H
       exact absurd H (by simp)
     ·rw [if_neg c5] at H
      exact absurd H (by simp)
    ·rw [if_neg c4] at H
     have c4b0 : decide (x13_1 < (l0.length : Int)) = false := decide_eq_false c4
     clear c4
     obtain rfl := Option.some.inj H
     go_wp2
     repeat (go_quiet (fail); try go_wp2)
     go_ret
     exact ⟨by first | rfl | (simp; done) | (simp [*]; done), by repeat (first | exact Drawn0.refl _ | apply Drawn0.step)⟩
 ·rw [if_neg c3] at H
  have c3b0 : ((l0.length : Int) == (l1.length : Int)) = false := beq_eq_false_iff_ne.mpr c3
  have c3b1 : ((l0.length : Int) != (l1.length : Int)) = true := bne_iff_ne.mpr c3
  have c3b2 : (l0.length == l1.length) = false := by first | simpa using c3 | (simp at c3 ⊢; omega)
  obtain rfl := Option.some.inj H
  go_enter Tryz.func40, Tryz.ntmps40
  go_wp2
  repeat (go_quiet (fail); try go_wp2)
  go_ret
  exact ⟨by first | rfl | (simp; done) | (simp [*]; done), by repeat (first | exact Drawn0.refl _ | apply Drawn0.step)⟩

end Go.Proofs.YtdaccmjfefknoaaGreatDoor.PZb
