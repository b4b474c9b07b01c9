-- PRINTED by print.py (a twelfth state) out of the translation. Not trusted: Lean checks it.
import Derived.Test.YtdaccmjfefknoaaGreatDoorPZax0
import Derived.Test.YtdaccmjfefknoaaGreatDoorPZax4
import Derived.Test.YtdaccmjfefknoaaGreatDoorPZax7
import Derived.Test.YtdaccmjfefknoaaGreatDoorPZax8
import Derived.Test.YtdaccmjfefknoaaGreatDoorPZax9
namespace Go.Proofs.YtdaccmjfefknoaaGreatDoor.PZa
open Go.RowKit Go.Proofs.YtdaccmjfefknoaaGreatDoorW.PrintWords Go.Proofs.YtdaccmjfefknoaaGreatDoorW.PrintLast Go.Proofs.YtdaccmjfefknoaaGreatDoorW.PrintMore
attribute [local go_sem] max2_int min2_int max_two min_two max_three min_three max_four min_four   -- for this text's walks alone
set_option linter.unusedVariables false
set_option linter.unusedSimpArgs false

/-! ### skerrylaw01_LexUpdates: function 3 -/
def skerrylaw01_LexUpdates.j0 : Nat → ByteArray → Bool → Int → Int → ByteArray → Option (Bool)
 | 0, _, _, _, _, _ => none
 | k + 1, x0, x44, x209000, x209001, x209002 => if x44 = true then (some false) else ((skerryref01_Pieces.f x0).bind fun bt215 => (if bt215.2.2 = 0 then ((skerrylaw01_updates.f k x0 bt215.1 x209000 x209001 x209002).bind fun t221 => (some t221)) else (some true)))
def skerrylaw01_LexUpdates.f (k : Nat) (a0 : ByteArray) (l1 : List (S50)) (a2_0 : Int) (a2_1 : Int) (a2_2 : ByteArray) : Option (Bool) := (skerrylaw01_sane.f k).bind fun t209 => ((lex_Change.f k a0 a2_0 a2_1 a2_2).bind fun bt210 => ((skerryref01_Change.f k a0 a2_0 a2_1 a2_2).bind fun bt212 => (if t209 = true then (if bt210.1.toList = bt212.1.toList then (if bt210.2 = bt212.2 then ((skerrylaw01_updates.f k a0 l1 a2_0 a2_1 a2_2).bind fun t214 => (skerrylaw01_LexUpdates.j0 k a0 (!t214) a2_0 a2_1 a2_2)) else (skerrylaw01_LexUpdates.j0 k a0 true a2_0 a2_1 a2_2)) else (skerrylaw01_LexUpdates.j0 k a0 true a2_0 a2_1 a2_2)) else (skerrylaw01_LexUpdates.j0 k a0 true a2_0 a2_1 a2_2))))
theorem skerrylaw01_LexUpdates.mono_l : ∀ k, (∀ y0 y1 y2 y3 y4, LeO (skerrylaw01_LexUpdates.j0 k y0 y1 y2 y3 y4) (skerrylaw01_LexUpdates.j0 (k + 1) y0 y1 y2 y3 y4))
 | 0 => fun _ _ _ _ _ r h => by simp [skerrylaw01_LexUpdates.j0] at h
 | k + 1 => by
  have ih0 := skerrylaw01_LexUpdates.mono_l k
  ·intro y0 y1 y2 y3 y4
   unfold skerrylaw01_LexUpdates.j0
   repeat' first
   | (with_reducible exact ih0 _ _ _ _ _)
   | (with_reducible exact lex_Change.mono _ _ _ _ _)
   | (with_reducible exact skerrylaw01_sane.mono _)
   | (with_reducible exact skerrylaw01_updates.mono _ _ _ _ _ _)
   | (with_reducible exact skerryref01_Change.mono _ _ _ _ _)
   | (with_reducible exact LeO.refl _)
   | (with_reducible exact LeO.none _)
   | (with_reducible refine LeO.ite ?_ ?_)
   | (with_reducible refine LeO.bind ?_ (fun _ => ?_))
   | exact ih0 _ _ _ _ _
   | exact lex_Change.mono _ _ _ _ _
   | exact skerrylaw01_sane.mono _
   | exact skerrylaw01_updates.mono _ _ _ _ _ _
   | exact skerryref01_Change.mono _ _ _ _ _
   | exact LeO.none _
   | refine LeO.ite ?_ ?_
   | refine LeO.bind ?_ (fun _ => ?_)
theorem skerrylaw01_LexUpdates.mono : ∀ a0 a1 a2 a3 a4 k, LeO (skerrylaw01_LexUpdates.f k a0 a1 a2 a3 a4) (skerrylaw01_LexUpdates.f (k + 1) a0 a1 a2 a3 a4) := by
 intro a0 a1 a2 a3 a4 k
 have ih0 := skerrylaw01_LexUpdates.mono_l k
 unfold skerrylaw01_LexUpdates.f
 repeat' first
   | (with_reducible exact ih0 _ _ _ _ _)
   | (with_reducible exact lex_Change.mono _ _ _ _ _)
   | (with_reducible exact skerrylaw01_sane.mono _)
   | (with_reducible exact skerrylaw01_updates.mono _ _ _ _ _ _)
   | (with_reducible exact skerryref01_Change.mono _ _ _ _ _)
   | (with_reducible exact LeO.refl _)
   | (with_reducible exact LeO.none _)
   | (with_reducible refine LeO.ite ?_ ?_)
   | (with_reducible refine LeO.bind ?_ (fun _ => ?_))
   | exact ih0 _ _ _ _ _
   | exact lex_Change.mono _ _ _ _ _
   | exact skerrylaw01_sane.mono _
   | exact skerrylaw01_updates.mono _ _ _ _ _ _
   | exact skerryref01_Change.mono _ _ _ _ _
   | exact LeO.none _
   | refine LeO.ite ?_ ?_
   | refine LeO.bind ?_ (fun _ => ?_)
set_option maxHeartbeats 8000000 in
set_option maxRecDepth 100000 in
theorem skerrylaw01_LexUpdates.calls (k : Nat) (a0 : ByteArray) (A1 : Option Addr) (c1 : Nat) (l1 : List (S50)) (a2_0 : Int) (a2_1 : Int) (a2_2 : ByteArray) (r : Bool) (w : World) (hr1 : Kd.C k50 w A1 l1.length l1) (hc1 : l1.length ≤ c1) (h : skerrylaw01_LexUpdates.f k a0 l1 a2_0 a2_1 a2_2 = some r) (hE : Lx.Env w) :
  Calls Tryz.prog 3 #[.string a0, .slice A1 l1.length c1, .agg #[.int .i64 a2_0, .int .i64 a2_1, .string a2_2]] w fun e w' => e = .returned (.bool r) ∧ Below w.heap.size w w' := by
 have HE := Lib.hid hE
 clear hE
 have hu24 := Tryz.underlying24
 have hu31 := Tryz.underlying31
 have HR1 := Aside0.mk hr1
 have HC1 := Aside0.mk hc1
 clear hr1 hc1
 have HB := Aside0.mk (Below.refl w.heap.size w)
 have H : ((skerrylaw01_sane.f k).bind fun t209 => ((lex_Change.f k a0 a2_0 a2_1 a2_2).bind fun bt210 => ((skerryref01_Change.f k a0 a2_0 a2_1 a2_2).bind fun bt212 => (if t209 = true then (if bt210.1.toList = bt212.1.toList then (if bt210.2 = bt212.2 then ((skerrylaw01_updates.f k a0 l1 a2_0 a2_1 a2_2).bind fun t214 => (skerrylaw01_LexUpdates.j0 k a0 (!t214) a2_0 a2_1 a2_2)) else (skerrylaw01_LexUpdates.j0 k a0 true a2_0 a2_1 a2_2)) else (skerrylaw01_LexUpdates.j0 k a0 true a2_0 a2_1 a2_2)) else (skerrylaw01_LexUpdates.j0 k a0 true a2_0 a2_1 a2_2))))) = some r := h
 clear h
 replace H := Option.bind_eq_some_iff.mp H
 obtain ⟨t209, A40, H⟩ := H
 replace H : ((lex_Change.f k a0 a2_0 a2_1 a2_2).bind fun bt210 => ((skerryref01_Change.f k a0 a2_0 a2_1 a2_2).bind fun bt212 => (if t209 = true then (if bt210.1.toList = bt212.1.toList then (if bt210.2 = bt212.2 then ((skerrylaw01_updates.f k a0 l1 a2_0 a2_1 a2_2).bind fun t214 => (skerrylaw01_LexUpdates.j0 k a0 (!t214) a2_0 a2_1 a2_2)) else (skerrylaw01_LexUpdates.j0 k a0 true a2_0 a2_1 a2_2)) else (skerrylaw01_LexUpdates.j0 k a0 true a2_0 a2_1 a2_2)) else (skerrylaw01_LexUpdates.j0 k a0 true a2_0 a2_1 a2_2)))) = some r := H
 have A4 := Aside0.mk A40
 clear A40
 replace H := Option.bind_eq_some_iff.mp H
 obtain ⟨⟨t210, t211⟩, A50, H⟩ := H
 replace H : ((skerryref01_Change.f k a0 a2_0 a2_1 a2_2).bind fun bt212 => (if t209 = true then (if t210.toList = bt212.1.toList then (if t211 = bt212.2 then ((skerrylaw01_updates.f k a0 l1 a2_0 a2_1 a2_2).bind fun t214 => (skerrylaw01_LexUpdates.j0 k a0 (!t214) a2_0 a2_1 a2_2)) else (skerrylaw01_LexUpdates.j0 k a0 true a2_0 a2_1 a2_2)) else (skerrylaw01_LexUpdates.j0 k a0 true a2_0 a2_1 a2_2)) else (skerrylaw01_LexUpdates.j0 k a0 true a2_0 a2_1 a2_2))) = some r := H
 have A5 := Aside0.mk A50
 clear A50
 replace H := Option.bind_eq_some_iff.mp H
 obtain ⟨⟨t212, t213⟩, A60, H⟩ := H
 replace H : (if t209 = true then (if t210.toList = t212.toList then (if t211 = t213 then ((skerrylaw01_updates.f k a0 l1 a2_0 a2_1 a2_2).bind fun t214 => (skerrylaw01_LexUpdates.j0 k a0 (!t214) a2_0 a2_1 a2_2)) else (skerrylaw01_LexUpdates.j0 k a0 true a2_0 a2_1 a2_2)) else (skerrylaw01_LexUpdates.j0 k a0 true a2_0 a2_1 a2_2)) else (skerrylaw01_LexUpdates.j0 k a0 true a2_0 a2_1 a2_2)) = some r := H
 have A6 := Aside0.mk A60
 clear A60
 have HC7 := Aside0.mk H
 clear H
 go_enter Tryz.func3, Tryz.ntmps3
 go_upto_region 4 with (first | ((with_reducible refine gate_dst (N := 5) rfl ?_); refine box_event ?hg (N := 5) ?hd (cs := #[.int .i64 a2_0, .int .i64 a2_1, .string a2_2]) (t := 24) ?hr ?_; (case hd => rfl); (case hg => rfl); (case hr => first | (go_simp; done) | (go_simp; rfl)); intro gb208 hg w8 hbox hb; have n0_ := Aside0.mk (below_step (by repeat (first | (with_reducible first | exact HB.out | apply below_alloc | apply pw_below_drewN | apply below_drew1) | exact HB.out)) hb); have n1_ := Aside0.mk (hbox); have n2_ := Aside0.mk ((by rw [hg]; exact (below_size (by repeat (first | (with_reducible first | exact HB.out | apply below_alloc | apply pw_below_drewN | apply below_drew1) | exact HB.out))) : w.heap.size ≤ gb208)); have n3_ := Aside0.mk ((by rw [hg]; exact (below_size (by repeat (first | (with_reducible first | exact HB.out | apply below_alloc | apply pw_below_drewN | apply below_drew1) | exact HB.out))) : w.heap.size ≤ gb208)); clear HB; have HB := n0_; have BK208 := n1_; have GW208 := n2_; have GE208 := n3_; clear n0_ n1_ n2_ n3_; clear hb hbox hg) | ((with_reducible refine gate_callee (f := 5) rfl ?_); refine goesL_ (some 13) rfl rfl Tryz.func5 (by kernel_rfl) rfl #[] rfl (by (try simp only [List.map_toArray, List.map_cons, List.map_nil]); first | done | rfl | (simp only [List.length_drop, List.length_take]; rfl)) ?_; (with_reducible refine (skerrylaw01_sane.calls k  t209 _ A4.out (Lx.Env.below HE.out (by repeat (first | (with_reducible first | exact HB.out | apply below_alloc | apply pw_below_drewN | apply below_drew1 | refine below_set ?_ GE208.out | refine below_set ?_ GE220.out) | exact HB.out)))).mono ?_); rintro e w9 ⟨rfl, hb⟩; refine ⟨_, rfl, ?_⟩; have n0_ := Aside0.mk (blk_below (g := gb208) (o := .cells #[.int .i64 a2_0, .int .i64 a2_1, .string a2_2] 24 (0, 0)) (by (with_reducible repeat (first | refine blk_drewN ?_ _ | refine blk_drew ?_ | refine blk_alloc ?_ _)); exact BK208.out) hb); have n1_ := Aside0.mk (below_step (by repeat (first | (with_reducible first | exact HB.out | apply below_alloc | apply pw_below_drewN | apply below_drew1 | refine below_set ?_ GE208.out) | exact HB.out)) hb); clear BK208; clear HB; have BK208 := n0_; have HB := n1_; clear n0_ n1_; (try clear hb); (try clear hb2); (try clear hk); (try clear hi); have hcz10_0 : w9.cell? ⟨gb208, 0, none⟩ = some (.int .i64 a2_0) := (blk_cell BK208.out 0).trans rfl; have hcz10_1 : w9.cell? ⟨gb208, 1, none⟩ = some (.int .i64 a2_1) := (blk_cell BK208.out 1).trans rfl; have hcz10_2 : w9.cell? ⟨gb208, 2, none⟩ = some (.string a2_2) := (blk_cell BK208.out 2).trans rfl; have hfz10_0 := blk_frozen BK208.out 0; have hfz10_1 := blk_frozen BK208.out 1; have hfz10_2 := blk_frozen BK208.out 2) | ((with_reducible refine gate_callee (f := 6) rfl ?_); refine goesL_ (some 17) rfl rfl Tryz.func6 (by kernel_rfl) rfl #[.string a0, .agg #[.int .i64 a2_0, .int .i64 a2_1, .string a2_2]] rfl (by (try simp only [List.map_toArray, List.map_cons, List.map_nil]); first | done | rfl | (simp only [List.length_drop, List.length_take]; rfl)) ?_; (with_reducible refine (lex_Change.calls k a0 a2_0 a2_1 a2_2 t210 t211 _ A5.out).mono ?_); rintro e w11 ⟨rfl, hb⟩; refine ⟨_, rfl, ?_⟩; have n0_ := Aside0.mk (blk_below (g := gb208) (o := .cells #[.int .i64 a2_0, .int .i64 a2_1, .string a2_2] 24 (0, 0)) (by (with_reducible repeat (first | refine blk_drewN ?_ _ | refine blk_drew ?_ | refine blk_alloc ?_ _)); exact BK208.out) hb); have n1_ := Aside0.mk (below_step (by repeat (first | (with_reducible first | exact HB.out | apply below_alloc | apply pw_below_drewN | apply below_drew1 | refine below_set ?_ GE208.out) | exact HB.out)) hb); clear BK208; clear HB; have BK208 := n0_; have HB := n1_; clear n0_ n1_; (try clear hb); (try clear hb2); (try clear hk); (try clear hi); have hcz12_0 : w11.cell? ⟨gb208, 0, none⟩ = some (.int .i64 a2_0) := (blk_cell BK208.out 0).trans rfl; have hcz12_1 : w11.cell? ⟨gb208, 1, none⟩ = some (.int .i64 a2_1) := (blk_cell BK208.out 1).trans rfl; have hcz12_2 : w11.cell? ⟨gb208, 2, none⟩ = some (.string a2_2) := (blk_cell BK208.out 2).trans rfl; have hfz12_0 := blk_frozen BK208.out 0; have hfz12_1 := blk_frozen BK208.out 1; have hfz12_2 := blk_frozen BK208.out 2) | ((with_reducible refine gate_callee (f := 7) rfl ?_); refine goesL_ (some 23) rfl rfl Tryz.func7 (by kernel_rfl) rfl #[.string a0, .agg #[.int .i64 a2_0, .int .i64 a2_1, .string a2_2]] rfl (by (try simp only [List.map_toArray, List.map_cons, List.map_nil]); first | done | rfl | (simp only [List.length_drop, List.length_take]; rfl)) ?_; (with_reducible refine (skerryref01_Change.calls k a0 a2_0 a2_1 a2_2 t212 t213 _ A6.out).mono ?_); rintro e w13 ⟨rfl, hb⟩; refine ⟨_, rfl, ?_⟩; have n0_ := Aside0.mk (blk_below (g := gb208) (o := .cells #[.int .i64 a2_0, .int .i64 a2_1, .string a2_2] 24 (0, 0)) (by (with_reducible repeat (first | refine blk_drewN ?_ _ | refine blk_drew ?_ | refine blk_alloc ?_ _)); exact BK208.out) hb); have n1_ := Aside0.mk (below_step (by repeat (first | (with_reducible first | exact HB.out | apply below_alloc | apply pw_below_drewN | apply below_drew1 | refine below_set ?_ GE208.out) | exact HB.out)) hb); clear BK208; clear HB; have BK208 := n0_; have HB := n1_; clear n0_ n1_; (try clear hb); (try clear hb2); (try clear hk); (try clear hi)))
 (try simp only [Act.put, List.setIfInBounds_toArray, List.set_cons_zero, List.set_cons_succ])
 go_cut [44] (fun v44 wc => ∃ (kq : Nat) (x44_6 : Bool), v44 = .bool x44_6 ∧ Aside0 (skerrylaw01_LexUpdates.j0 kq a0 x44_6 a2_0 a2_1 a2_2 = some r) ∧ Aside0 (kq ≤ k) ∧ Aside0 (wc.heap[gb208]? = some (.cells #[.int .i64 a2_0, .int .i64 a2_1, .string a2_2] 24 (0, 0))) ∧ Aside0 (Below w.heap.size w wc))
 case first =>
  have H := HC7.out
  clear HC7
  by_cases c14 : t209 = true
  ·subst c14
   have H1 : (if t210.toList = t212.toList then (if t211 = t213 then ((skerrylaw01_updates.f k a0 l1 a2_0 a2_1 a2_2).bind fun t214 => (skerrylaw01_LexUpdates.j0 k a0 (!t214) a2_0 a2_1 a2_2)) else (skerrylaw01_LexUpdates.j0 k a0 true a2_0 a2_1 a2_2)) else (skerrylaw01_LexUpdates.j0 k a0 true a2_0 a2_1 a2_2)) = some r := by rw [if_pos rfl] at H; exact H
   clear H
   have H := H1
   clear H1
   by_cases c15 : t210.toList = t212.toList
   ·rw [if_pos c15] at H
    have c15b0 : (t210.toList == t212.toList) = true := beq_iff_eq.mpr c15
    have c15b1 : (t210.toList != t212.toList) = false := bne_eq_false_iff_eq.mpr c15
    clear c15
    (first | rw [c15b0] | (simp only [i64_w, i32_w]; rw [c15b0]) | skip)
    by_cases c16 : t211 = t213
    ·rw [if_pos c16] at H
     have c16b0 : (t211 == t213) = true := beq_iff_eq.mpr c16
     have c16b1 : (t211 != t213) = false := bne_eq_false_iff_eq.mpr c16
     clear c16
     replace H := Option.bind_eq_some_iff.mp H
     obtain ⟨t214, A170, H⟩ := H
     replace H : (skerrylaw01_LexUpdates.j0 k a0 (!t214) a2_0 a2_1 a2_2) = some r := H
     have A17 := Aside0.mk A170
     clear A170
     have H' := Aside0.mk H
     clear H
     have hcz18_0 : w13.cell? ⟨gb208, 0, none⟩ = some (.int .i64 a2_0) := (blk_cell BK208.out 0).trans rfl
     have hcz18_1 : w13.cell? ⟨gb208, 1, none⟩ = some (.int .i64 a2_1) := (blk_cell BK208.out 1).trans rfl
     have hcz18_2 : w13.cell? ⟨gb208, 2, none⟩ = some (.string a2_2) := (blk_cell BK208.out 2).trans rfl
     have hfz18_0 := blk_frozen BK208.out 0
     have hfz18_1 := blk_frozen BK208.out 1
     have hfz18_2 := blk_frozen BK208.out 2
     go_wp2_with (first | (go_at_call 8; (with_reducible refine (skerrylaw01_updates.calls k a0 _ _ l1 a2_0 a2_1 a2_2 t214 _ ?side1 ?side2 A17.out (Lx.Env.below HE.out (by repeat (first | (with_reducible first | exact HB.out | apply below_alloc | apply pw_below_drewN | apply below_drew1 | refine below_set ?_ GE208.out | refine below_set ?_ GE220.out) | exact HB.out)))).mono ?_); (case side1 => repeat (first | exact (Kd.C_below HR1.out HB.out) | (with_reducible refine Kd.C_alloc ?_ _) | (with_reducible refine Kd.C_drewN ?_ _) | (with_reducible refine Kd.C_drew ?_))); (case side2 => exact HC1.out); rintro e w19 ⟨rfl, hb⟩; have n0_ := Aside0.mk (blk_below (g := gb208) (o := .cells #[.int .i64 a2_0, .int .i64 a2_1, .string a2_2] 24 (0, 0)) (by (with_reducible repeat (first | refine blk_drewN ?_ _ | refine blk_drew ?_ | refine blk_alloc ?_ _)); exact BK208.out) hb); have n1_ := Aside0.mk (below_step (by repeat (first | (with_reducible first | exact HB.out | apply below_alloc | apply pw_below_drewN | apply below_drew1 | refine below_set ?_ GE208.out) | exact HB.out)) hb); clear BK208; clear HB; have BK208 := n0_; have HB := n1_; clear n0_ n1_; (try clear hb); (try clear hb2); (try clear hk); (try clear hi)))
     go_meet
     case rel => exact ⟨_, (!t214), (by first | rfl | (simp; done) | (simp [*]; done)), H', ⟨by first | omega | exact Nat.le_refl _⟩, ⟨by (with_reducible repeat (first | refine blk_drewN ?_ _ | refine blk_drew ?_ | refine blk_alloc ?_ _)); exact BK208.out⟩, ⟨by repeat (first | (with_reducible first | exact HB.out | apply below_alloc | apply pw_below_drewN | apply below_drew1 | refine below_set ?_ GE208.out) | exact HB.out)⟩⟩
    ·rw [if_neg c16] at H
     have c16b0 : (t211 == t213) = false := beq_eq_false_iff_ne.mpr c16
     have c16b1 : (t211 != t213) = true := bne_iff_ne.mpr c16
     have H' := Aside0.mk H
     clear H
     go_wp2
     go_meet
     case rel => exact ⟨_, (true), (by first | rfl | (simp; done) | (simp [*]; done)), H', ⟨by first | omega | exact Nat.le_refl _⟩, ⟨by (with_reducible repeat (first | refine blk_drewN ?_ _ | refine blk_drew ?_ | refine blk_alloc ?_ _)); exact BK208.out⟩, ⟨by repeat (first | (with_reducible first | exact HB.out | apply below_alloc | apply pw_below_drewN | apply below_drew1 | refine below_set ?_ GE208.out) | exact HB.out)⟩⟩
   ·rw [if_neg c15] at H
    have c15b0 : (t210.toList == t212.toList) = false := beq_eq_false_iff_ne.mpr c15
    have c15b1 : (t210.toList != t212.toList) = true := bne_iff_ne.mpr c15
    (first | rw [c15b0] | (simp only [i64_w, i32_w]; rw [c15b0]) | skip)
    have H' := Aside0.mk H
    clear H
    go_wp2
    go_meet
    case rel => exact ⟨_, (true), (by first | rfl | (simp; done) | (simp [*]; done)), H', ⟨by first | omega | exact Nat.le_refl _⟩, ⟨by (with_reducible repeat (first | refine blk_drewN ?_ _ | refine blk_drew ?_ | refine blk_alloc ?_ _)); exact BK208.out⟩, ⟨by repeat (first | (with_reducible first | exact HB.out | apply below_alloc | apply pw_below_drewN | apply below_drew1 | refine below_set ?_ GE208.out) | exact HB.out)⟩⟩
  ·replace c14 := Bool.eq_false_iff.mpr c14
   subst c14
   have H1 : (skerrylaw01_LexUpdates.j0 k a0 true a2_0 a2_1 a2_2) = some r := by rw [if_neg (show ¬ (false = true) by decide)] at H; exact H
   clear H
   have H := H1
   clear H1
   have H' := Aside0.mk H
   clear H
   go_wp2
   go_meet
   case rel => exact ⟨_, (true), (by first | rfl | (simp; done) | (simp [*]; done)), H', ⟨by first | omega | exact Nat.le_refl _⟩, ⟨by (with_reducible repeat (first | refine blk_drewN ?_ _ | refine blk_drew ?_ | refine blk_alloc ?_ _)); exact BK208.out⟩, ⟨by repeat (first | (with_reducible first | exact HB.out | apply below_alloc | apply pw_below_drewN | apply below_drew1 | refine below_set ?_ GE208.out) | exact HB.out)⟩⟩
 case rest =>
  clear HC7
  try clear c1
  try clear p2
  try clear c3
  try clear c5
  try clear c6
  try clear c7
  try clear c14
  try clear c15
  try clear c15b0
  try clear c15b1
  try clear c16
  try clear c16b0
  try clear c16b1
  try clear hcz10_0
  try clear hcz10_1
  try clear hcz10_2
  try clear hcz12_0
  try clear hcz12_1
  try clear hcz12_2
  try clear hcz18_0
  try clear hcz18_1
  try clear hcz18_2
  try clear hfz10_0
  try clear hfz10_1
  try clear hfz10_2
  try clear hfz12_0
  try clear hfz12_1
  try clear hfz12_2
  try clear hfz18_0
  try clear hfz18_1
  try clear hfz18_2
  obtain ⟨kq, x44_6, rfl, HA, HJ6, BK208, HB⟩ := hcut
  cases kq with
  | zero => exact absurd HA.out (by simp [skerrylaw01_LexUpdates.j0])
  | succ kj6 =>
   have H := HA.out
   clear HA
   simp only [skerrylaw01_LexUpdates.j0] at H
   by_cases c20 : x44_6 = true
   ·subst c20
    have H1 : (some false) = some r := by rw [if_pos rfl] at H; exact H
    clear H
    have H := H1
    clear H1
    obtain rfl := Option.some.inj H
    go_wp2
    go_ret
    exact ⟨by first | rfl | (simp [errW_none, errW_some] <;> rfl) | (simp [*, errW_none, errW_some] <;> rfl), by repeat (first | (with_reducible first | exact HB.out | apply below_alloc | apply pw_below_drewN | apply below_drew1 | refine below_set ?_ GE208.out) | exact HB.out)⟩
   ·replace c20 := Bool.eq_false_iff.mpr c20
    subst c20
    have H1 : ((skerryref01_Pieces.f a0).bind fun bt215 => (if bt215.2.2 = 0 then ((skerrylaw01_updates.f kj6 a0 bt215.1 a2_0 a2_1 a2_2).bind fun t221 => (some t221)) else (some true))) = some r := by rw [if_neg (show ¬ (false = true) by decide)] at H; exact H
    clear H
    have H := H1
    clear H1
    replace H := Option.bind_eq_some_iff.mp H
    obtain ⟨⟨t215, t218, t219⟩, A210, H⟩ := H
    replace H : (if t219 = 0 then ((skerrylaw01_updates.f kj6 a0 t215 a2_0 a2_1 a2_2).bind fun t221 => (some t221)) else (some true)) = some r := H
    have A21 := Aside0.mk A210
    clear A210
    by_cases c22 : t219 = 0
    ·rw [if_pos c22] at H
     have c22b0 : (t219 == 0) = true := beq_iff_eq.mpr c22
     have c22b1 : (t219 != 0) = false := bne_eq_false_iff_eq.mpr c22
     clear c22
     replace H := Option.bind_eq_some_iff.mp H
     obtain ⟨t221, A230, H⟩ := H
     replace H : (some t221) = some r := H
     have A23 := Aside0.mk A230
     clear A230
     obtain rfl := Option.some.inj H
     go_wp2_with (first | ((with_reducible refine gate_callee (f := 9) rfl ?_); refine goesL_ (some 46) rfl rfl Tryz.func9 (by kernel_rfl) rfl #[.string a0] rfl (by (try simp only [List.map_toArray, List.map_cons, List.map_nil]); first | done | rfl | (simp only [List.length_drop, List.length_take]; rfl)) ?_; (with_reducible refine (skerryref01_Pieces.calls a0 t215 t218 t219 _ A21.out).mono ?_); rintro e w24 ⟨v216, rfl, ho0, hb⟩; refine ⟨_, rfl, ?_⟩; have n0_ := Aside0.mk (Kd.R_lower ho0 (below_size (by repeat (first | (with_reducible first | exact HB.out | apply below_alloc | apply pw_below_drewN | apply below_drew1 | refine below_set ?_ GE208.out) | exact HB.out)))); have n1_ := Aside0.mk (blk_below (g := gb208) (o := .cells #[.int .i64 a2_0, .int .i64 a2_1, .string a2_2] 24 (0, 0)) (by (with_reducible repeat (first | refine blk_drewN ?_ _ | refine blk_drew ?_ | refine blk_alloc ?_ _)); exact BK208.out) hb); have n2_ := Aside0.mk (below_step (by repeat (first | (with_reducible first | exact HB.out | apply below_alloc | apply pw_below_drewN | apply below_drew1 | refine below_set ?_ GE208.out) | exact HB.out)) hb); clear BK208; clear HB; have HO217 := n0_; have BK208 := n1_; have HB := n2_; clear n0_ n1_ n2_; (try clear hb); (try clear hb2); (try clear hk); (try clear hi); (try clear ho0)) | ((with_reducible refine gate_dst (N := 12) rfl ?_); refine box_event ?hg (N := 12) ?hd (cs := #[.slice none 0 0, .int .i64 0, .int .i64 0]) (t := 31) ?hr ?_; (case hd => rfl); (case hg => rfl); (case hr => first | (go_simp; done) | (go_simp; rfl)); intro gb220 hg w25 hbox hb; have n0_ := Aside0.mk (Kd.R_below (by (with_reducible repeat (first | apply Kd.R_alloc | apply Kd.R_drewN | apply Kd.R_drew)); exact HO217.out) hb); have n1_ := Aside0.mk (blk_below (g := gb208) (o := .cells #[.int .i64 a2_0, .int .i64 a2_1, .string a2_2] 24 (0, 0)) (by (with_reducible repeat (first | refine blk_drewN ?_ _ | refine blk_drew ?_ | refine blk_alloc ?_ _)); exact BK208.out) hb); have n2_ := Aside0.mk (below_step (by repeat (first | (with_reducible first | exact HB.out | apply below_alloc | apply pw_below_drewN | apply below_drew1 | refine below_set ?_ GE208.out) | exact HB.out)) hb); have n3_ := Aside0.mk (hbox); have n4_ := Aside0.mk ((by rw [hg]; exact (below_size (by repeat (first | (with_reducible first | exact HB.out | apply below_alloc | apply pw_below_drewN | apply below_drew1 | refine below_set ?_ GE208.out) | exact HB.out))) : w.heap.size ≤ gb220)); have n5_ := Aside0.mk ((by rw [hg]; exact (below_size (by repeat (first | (with_reducible first | exact HB.out | apply below_alloc | apply pw_below_drewN | apply below_drew1 | refine below_set ?_ GE208.out) | exact HB.out))) : w.heap.size ≤ gb220)); have n6_ := Aside0.mk ((by rw [hg]; exact Nat.ne_of_lt (blk_lt (g := gb208) (o := .cells #[.int .i64 a2_0, .int .i64 a2_1, .string a2_2] 24 (0, 0)) (by (with_reducible repeat (first | refine blk_drewN ?_ _ | refine blk_drew ?_ | refine blk_alloc ?_ _)); exact BK208.out)) : gb208 ≠ gb220)); have n7_ := Aside0.mk ((by rw [hg]; exact Nat.ne_of_gt (blk_lt (g := gb208) (o := .cells #[.int .i64 a2_0, .int .i64 a2_1, .string a2_2] 24 (0, 0)) (by (with_reducible repeat (first | refine blk_drewN ?_ _ | refine blk_drew ?_ | refine blk_alloc ?_ _)); exact BK208.out)) : gb220 ≠ gb208)); clear HO217; clear BK208; clear HB; have HO217 := n0_; have BK208 := n1_; have HB := n2_; have BK220 := n3_; have GW220 := n4_; have GE220 := n5_; have NB208_220 := n6_; have NB220_208 := n7_; clear n0_ n1_ n2_ n3_ n4_ n5_ n6_ n7_; clear hb hbox hg; obtain ⟨Ao26, co26, eo26⟩ := Kd.R_slice HO217.out; subst eo26; have hnb27 := NB220_208.out; have hnc27 := NB208_220.out; have hcz28_0 : w25.cell? ⟨gb220, 0, none⟩ = some (.slice none 0 0) := (blk_cell BK220.out 0).trans rfl; have hcz28_1 : w25.cell? ⟨gb220, 1, none⟩ = some (.int .i64 0) := (blk_cell BK220.out 1).trans rfl; have hcz28_2 : w25.cell? ⟨gb220, 2, none⟩ = some (.int .i64 0) := (blk_cell BK220.out 2).trans rfl; have hfz28_0 := blk_frozen BK220.out 0; have hfz28_1 := blk_frozen BK220.out 1; have hfz28_2 := blk_frozen BK220.out 2; have hcz29_0 : w25.cell? ⟨gb208, 0, none⟩ = some (.int .i64 a2_0) := (blk_cell BK208.out 0).trans rfl; have hcz29_1 : w25.cell? ⟨gb208, 1, none⟩ = some (.int .i64 a2_1) := (blk_cell BK208.out 1).trans rfl; have hcz29_2 : w25.cell? ⟨gb208, 2, none⟩ = some (.string a2_2) := (blk_cell BK208.out 2).trans rfl; have hfz29_0 := blk_frozen BK208.out 0; have hfz29_1 := blk_frozen BK208.out 1; have hfz29_2 := blk_frozen BK208.out 2) | (go_at_call 8; (with_reducible refine (skerrylaw01_updates.calls kj6 a0 _ _ t215 a2_0 a2_1 a2_2 t221 _ ?side1 ?side2 A23.out (Lx.Env.below HE.out (by repeat (first | (with_reducible first | exact HB.out | apply below_alloc | apply pw_below_drewN | apply below_drew1 | refine below_set ?_ GE208.out | refine below_set ?_ GE220.out) | exact HB.out)))).mono ?_); (case side1 => refine (Kd.R_reads' (e := 50) (base := w.heap.size) (ok := fun k_ => True) (n := t215.length) (c := co26) ?_).2.2; exact (by (with_reducible repeat (first | apply Kd.R_alloc | apply Kd.R_drewN | apply Kd.R_drew)); exact (Kd.R_mono (Kd.R_far (p := ⟨gb220, 2, none⟩) (Kd.R_far (p := ⟨gb220, 1, none⟩) (Kd.R_far (p := ⟨gb220, 0, none⟩) (Kd.R_types HO217.out BK220.out (by decide)) (fun _ hk => hk.2) (.slice Ao26 t215.length co26)) (fun _ hk => hk.2) (.int .i64 t218)) (fun _ hk => hk.2) (.int .i64 t219)) (fun _ h_ => h_.1)))); (case side2 => exact (Kd.R_reads' HO217.out).2.1); rintro e w30 ⟨rfl, hb⟩; have n0_ := Aside0.mk (Kd.R_below (by (with_reducible repeat (first | apply Kd.R_alloc | apply Kd.R_drewN | apply Kd.R_drew)); exact (Kd.R_mono (Kd.R_far (p := ⟨gb220, 2, none⟩) (Kd.R_far (p := ⟨gb220, 1, none⟩) (Kd.R_far (p := ⟨gb220, 0, none⟩) (Kd.R_types HO217.out BK220.out (by decide)) (fun _ hk => hk.2) (.slice Ao26 t215.length co26)) (fun _ hk => hk.2) (.int .i64 t218)) (fun _ hk => hk.2) (.int .i64 t219)) (fun _ h_ => h_.1))) hb); have n1_ := Aside0.mk (blk_below (g := gb208) (o := .cells #[.int .i64 a2_0, .int .i64 a2_1, .string a2_2] 24 (0, 0)) (by (with_reducible repeat (first | refine blk_drewN ?_ _ | refine blk_drew ?_ | refine blk_alloc ?_ _)); refine blk_far ?_ NB208_220.out _; (with_reducible repeat (first | refine blk_drewN ?_ _ | refine blk_drew ?_ | refine blk_alloc ?_ _)); refine blk_far ?_ NB208_220.out _; (with_reducible repeat (first | refine blk_drewN ?_ _ | refine blk_drew ?_ | refine blk_alloc ?_ _)); refine blk_far ?_ NB208_220.out _; (with_reducible repeat (first | refine blk_drewN ?_ _ | refine blk_drew ?_ | refine blk_alloc ?_ _)); exact BK208.out) hb); have n2_ := Aside0.mk (blk_below (g := gb220) (o := .cells #[.slice Ao26 t215.length co26, .int .i64 t218, .int .i64 t219] 31 (0, 0)) (by (with_reducible repeat (first | refine blk_drewN ?_ _ | refine blk_drew ?_ | refine blk_alloc ?_ _)); refine blk_put (cs := #[.slice Ao26 t215.length co26, .int .i64 t218, .int .i64 0]) ?_ 2 _ rfl; (with_reducible repeat (first | refine blk_drewN ?_ _ | refine blk_drew ?_ | refine blk_alloc ?_ _)); refine blk_put (cs := #[.slice Ao26 t215.length co26, .int .i64 0, .int .i64 0]) ?_ 1 _ rfl; (with_reducible repeat (first | refine blk_drewN ?_ _ | refine blk_drew ?_ | refine blk_alloc ?_ _)); refine blk_put (cs := #[.slice none 0 0, .int .i64 0, .int .i64 0]) ?_ 0 _ rfl; (with_reducible repeat (first | refine blk_drewN ?_ _ | refine blk_drew ?_ | refine blk_alloc ?_ _)); exact BK220.out) hb); have n3_ := Aside0.mk (below_step (by repeat (first | (with_reducible first | exact HB.out | apply below_alloc | apply pw_below_drewN | apply below_drew1 | refine below_set ?_ GE208.out | refine below_set ?_ GE220.out) | exact HB.out)) hb); clear HO217; clear BK208; clear BK220; clear HB; have HO217 := n0_; have BK208 := n1_; have BK220 := n2_; have HB := n3_; clear n0_ n1_ n2_ n3_; (try clear hb); (try clear hb2); (try clear hk); (try clear hi)))
     go_ret
     exact ⟨by first | rfl | (simp [errW_none, errW_some] <;> rfl) | (simp [*, errW_none, errW_some] <;> rfl), by repeat (first | (with_reducible first | exact HB.out | apply below_alloc | apply pw_below_drewN | apply below_drew1 | refine below_set ?_ GE208.out | refine below_set ?_ GE220.out) | exact HB.out)⟩
    ·rw [if_neg c22] at H
     have c22b0 : (t219 == 0) = false := beq_eq_false_iff_ne.mpr c22
     have c22b1 : (t219 != 0) = true := bne_iff_ne.mpr c22
     obtain rfl := Option.some.inj H
     go_wp2_with (first | ((with_reducible refine gate_callee (f := 9) rfl ?_); refine goesL_ (some 46) rfl rfl Tryz.func9 (by kernel_rfl) rfl #[.string a0] rfl (by (try simp only [List.map_toArray, List.map_cons, List.map_nil]); first | done | rfl | (simp only [List.length_drop, List.length_take]; rfl)) ?_; (with_reducible refine (skerryref01_Pieces.calls a0 t215 t218 t219 _ A21.out).mono ?_); rintro e w31 ⟨v216, rfl, ho0, hb⟩; refine ⟨_, rfl, ?_⟩; have n0_ := Aside0.mk (Kd.R_lower ho0 (below_size (by repeat (first | (with_reducible first | exact HB.out | apply below_alloc | apply pw_below_drewN | apply below_drew1 | refine below_set ?_ GE208.out) | exact HB.out)))); have n1_ := Aside0.mk (blk_below (g := gb208) (o := .cells #[.int .i64 a2_0, .int .i64 a2_1, .string a2_2] 24 (0, 0)) (by (with_reducible repeat (first | refine blk_drewN ?_ _ | refine blk_drew ?_ | refine blk_alloc ?_ _)); exact BK208.out) hb); have n2_ := Aside0.mk (below_step (by repeat (first | (with_reducible first | exact HB.out | apply below_alloc | apply pw_below_drewN | apply below_drew1 | refine below_set ?_ GE208.out) | exact HB.out)) hb); clear BK208; clear HB; have HO217 := n0_; have BK208 := n1_; have HB := n2_; clear n0_ n1_ n2_; (try clear hb); (try clear hb2); (try clear hk); (try clear hi); (try clear ho0)) | ((with_reducible refine gate_dst (N := 12) rfl ?_); refine box_event ?hg (N := 12) ?hd (cs := #[.slice none 0 0, .int .i64 0, .int .i64 0]) (t := 31) ?hr ?_; (case hd => rfl); (case hg => rfl); (case hr => first | (go_simp; done) | (go_simp; rfl)); intro gb220 hg w32 hbox hb; have n0_ := Aside0.mk (Kd.R_below (by (with_reducible repeat (first | apply Kd.R_alloc | apply Kd.R_drewN | apply Kd.R_drew)); exact HO217.out) hb); have n1_ := Aside0.mk (blk_below (g := gb208) (o := .cells #[.int .i64 a2_0, .int .i64 a2_1, .string a2_2] 24 (0, 0)) (by (with_reducible repeat (first | refine blk_drewN ?_ _ | refine blk_drew ?_ | refine blk_alloc ?_ _)); exact BK208.out) hb); have n2_ := Aside0.mk (below_step (by repeat (first | (with_reducible first | exact HB.out | apply below_alloc | apply pw_below_drewN | apply below_drew1 | refine below_set ?_ GE208.out) | exact HB.out)) hb); have n3_ := Aside0.mk (hbox); have n4_ := Aside0.mk ((by rw [hg]; exact (below_size (by repeat (first | (with_reducible first | exact HB.out | apply below_alloc | apply pw_below_drewN | apply below_drew1 | refine below_set ?_ GE208.out) | exact HB.out))) : w.heap.size ≤ gb220)); have n5_ := Aside0.mk ((by rw [hg]; exact (below_size (by repeat (first | (with_reducible first | exact HB.out | apply below_alloc | apply pw_below_drewN | apply below_drew1 | refine below_set ?_ GE208.out) | exact HB.out))) : w.heap.size ≤ gb220)); have n6_ := Aside0.mk ((by rw [hg]; exact Nat.ne_of_lt (blk_lt (g := gb208) (o := .cells #[.int .i64 a2_0, .int .i64 a2_1, .string a2_2] 24 (0, 0)) (by (with_reducible repeat (first | refine blk_drewN ?_ _ | refine blk_drew ?_ | refine blk_alloc ?_ _)); exact BK208.out)) : gb208 ≠ gb220)); have n7_ := Aside0.mk ((by rw [hg]; exact Nat.ne_of_gt (blk_lt (g := gb208) (o := .cells #[.int .i64 a2_0, .int .i64 a2_1, .string a2_2] 24 (0, 0)) (by (with_reducible repeat (first | refine blk_drewN ?_ _ | refine blk_drew ?_ | refine blk_alloc ?_ _)); exact BK208.out)) : gb220 ≠ gb208)); clear HO217; clear BK208; clear HB; have HO217 := n0_; have BK208 := n1_; have HB := n2_; have BK220 := n3_; have GW220 := n4_; have GE220 := n5_; have NB208_220 := n6_; have NB220_208 := n7_; clear n0_ n1_ n2_ n3_ n4_ n5_ n6_ n7_; clear hb hbox hg; obtain ⟨Ao33, co33, eo33⟩ := Kd.R_slice HO217.out; subst eo33; have hnb34 := NB220_208.out; have hnc34 := NB208_220.out; have hcz35_0 : w32.cell? ⟨gb220, 0, none⟩ = some (.slice none 0 0) := (blk_cell BK220.out 0).trans rfl; have hcz35_1 : w32.cell? ⟨gb220, 1, none⟩ = some (.int .i64 0) := (blk_cell BK220.out 1).trans rfl; have hcz35_2 : w32.cell? ⟨gb220, 2, none⟩ = some (.int .i64 0) := (blk_cell BK220.out 2).trans rfl; have hfz35_0 := blk_frozen BK220.out 0; have hfz35_1 := blk_frozen BK220.out 1; have hfz35_2 := blk_frozen BK220.out 2))
     go_ret
     exact ⟨by first | rfl | (simp [errW_none, errW_some] <;> rfl) | (simp [*, errW_none, errW_some] <;> rfl), by repeat (first | (with_reducible first | exact HB.out | apply below_alloc | apply pw_below_drewN | apply below_drew1 | refine below_set ?_ GE208.out | refine below_set ?_ GE220.out) | exact HB.out)⟩

end Go.Proofs.YtdaccmjfefknoaaGreatDoor.PZa
