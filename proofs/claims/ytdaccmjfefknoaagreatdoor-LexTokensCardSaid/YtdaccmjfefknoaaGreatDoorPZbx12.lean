-- PRINTED by print.py (a twelfth state) out of the translation. Not trusted: Lean checks it.
import Derived.Test.YtdaccmjfefknoaaGreatDoorPZbx0
namespace Go.Proofs.YtdaccmjfefknoaaGreatDoor.PZb
open Go.RowKit Go.Proofs.YtdaccmjfefknoaaGreatDoorW.PrintWords Go.Proofs.YtdaccmjfefknoaaGreatDoorW.PrintLast Go.Proofs.YtdaccmjfefknoaaGreatDoorW.PrintMore
attribute [local go_sem] max2_int min2_int max_two min_two max_three min_three max_four min_four   -- for this text's walks alone
set_option linter.unusedVariables false
set_option linter.unusedSimpArgs false

/-! ### lex_Same: function 16 -/

def tokSame (a b : S37) : Bool := a.f0 == b.f0 && (a.f1 == b.f1 && a.f2.toList == b.f2.toList)
def toksSame : List S37 → List S37 → Bool
 | [], [] => true
 | x :: xs, y :: ys => tokSame x y && toksSame xs ys
 | _, _ => false
def lex_Same.f (l0 l1 : List S37) : Option Bool := some (toksSame l0 l1)
theorem toks_len : ∀ a b : List S37, toksSame a b = true → a.length = b.length
 | [], [], _ => rfl
 | [], _ :: _, h => by cases h
 | _ :: _, [], h => by cases h
 | x :: xs, y :: ys, h => by
  unfold toksSame at h
  rw [Bool.and_eq_true] at h
  simp [toks_len xs ys h.2]
theorem toks_step (a b : List S37) (i : Nat) (h0 : i < a.length) (h1 : i < b.length) : toksSame (a.drop i) (b.drop i) = (tokSame (rd_T37 a (i : Int)) (rd_T37 b (i : Int)) && toksSame (a.drop (i + 1)) (b.drop (i + 1))) := by
 rw [List.drop_eq_getElem_cons h0, List.drop_eq_getElem_cons h1]
 simp [toksSame, rd_T37, h0, h1]
theorem token_cells {w : World} {g : Nat} {a b c d e : Value} {t : TypeId} (h : w.heap[g]? = some (.cells #[a, b, c, d, e] t (0, 0))) : w.cell? ⟨g, 0, none⟩ = some a ∧ w.cell? ⟨g, 1, none⟩ = some b ∧ w.cell? ⟨g, 2, none⟩ = some c ∧ w.cell? ⟨g, 3, none⟩ = some d ∧ w.cell? ⟨g, 4, none⟩ = some e :=
 ⟨blk_cell h 0, blk_cell h 1, blk_cell h 2, blk_cell h 3, blk_cell h 4⟩
set_option maxHeartbeats 1600000 in
set_option maxRecDepth 100000 in
theorem same_one (a b : S37) (w : World) :
  Calls Tryz.prog 35 #[.agg #[.int .i64 a.f0, .int .i64 a.f1, .string a.f2, .int .i64 a.f3, .int .i64 a.f4], .agg #[.int .i64 b.f0, .int .i64 b.f1, .string b.f2, .int .i64 b.f3, .int .i64 b.f4]] w fun e w' => e = .returned (.bool (tokSame a b)) ∧ Hid (Below w.heap.size w w') := by
 obtain ⟨v0, h0⟩ : ∃ v, (a.f0 == b.f0) = v := ⟨_, rfl⟩
 obtain ⟨v1, h1⟩ : ∃ v, (a.f1 == b.f1) = v := ⟨_, rfl⟩
 obtain ⟨v2, h2⟩ : ∃ v, (a.f2.toList == b.f2.toList) = v := ⟨_, rfl⟩
 have HT : Hid (tokSame a b = (v0 && (v1 && v2))) := Lib.hid (by unfold tokSame; rw [h0, h1, h2])
 cases v0 <;> cases v1 <;> cases v2
 all_goals
  go_enter Tryz.func35, Tryz.ntmps35
  go_wp2_with fail
  first
   | exact bodyPost_ret (v := .bool true) (by simp [results, Tryz.results35, go_sem]) rfl ⟨by rw [HT.out]; rfl, Lib.hid (by repeat (first | (with_reducible exact Below.refl _ _) | (with_reducible apply below_alloc)))⟩
   | exact bodyPost_ret (v := .bool false) (by simp [results, Tryz.results35, go_sem]) rfl ⟨by rw [HT.out]; rfl, Lib.hid (by repeat (first | (with_reducible exact Below.refl _ _) | (with_reducible apply below_alloc)))⟩
set_option maxHeartbeats 3200000 in
set_option maxRecDepth 100000 in
theorem same_func (A0 : Option Addr) (c0 : Nat) (l0 : List S37) (A1 : Option Addr) (c1 : Nat) (l1 : List S37) (w : World) (hr0 : Kd.C k37 w A0 l0.length l0) (hc0 : l0.length ≤ c0) (hr1 : Kd.C k37 w A1 l1.length l1) (hc1 : l1.length ≤ c1) :
  Calls Tryz.prog 34 #[.slice A0 l0.length c0, .slice A1 l1.length c1, .func (.func 35) #[] #[]] w fun e w' => e = .returned (.bool (toksSame l0 l1)) ∧ Hid (Below w.heap.size w w') := by
 have HR0 := Lib.hid hr0
 have HR1 := Lib.hid hr1
 have hm0 : l0.length ≤ 9223372036854775807 := hr0.2.1
 clear hr0 hr1
 by_cases hl : l0.length = l1.length
 ·have hd : ((l0.length : Int) != (l1.length : Int)) = false := by simp [hl]
  have hd' : decide (l0.length = l1.length) = true := by simp [hl]
  obtain ⟨r, hr⟩ : ∃ r, toksSame l0 l1 = r := ⟨_, rfl⟩
  have HR := Lib.hid hr
  have HLL := Lib.hid hl
  rw [hr]
  have HS := Lib.hid (fun (a b : S37) (w : World) => same_one a b w)
  clear hr hl hd'
  go_enter Tryz.func34, Tryz.ntmps34
  go_wp2_with fail
  go_loopg [17] l0.length (fun kq v17 wr => ∃ i : Nat, v17 = .int .i64 i ∧ kq + i = l0.length ∧ Hid (Below w.heap.size w wr) ∧ Hid (r = toksSame (l0.drop i) (l1.drop i)))
  case atStart => exact ⟨0, rfl, by omega, Lib.hid (Below.refl _ _), Lib.hid (by rw [← HR.out]; simp)⟩
  case round =>
   obtain ⟨i, rfl, hk, HB, HT⟩ := hrel
   have HK := Lib.hid hk
   clear hk
   by_cases hlt : i < l0.length
   ·have hlt1 : i < l1.length := by have := HLL.out; omega
    have hd5 : decide (i < l0.length) = true := decide_eq_true hlt
    obtain ⟨p, hp⟩ : ∃ p, rd_T37 l0 (i : Int) = p := ⟨_, rfl⟩
    obtain ⟨q, hq⟩ : ∃ p, rd_T37 l1 (i : Int) = p := ⟨_, rfl⟩
    obtain ⟨v, hv⟩ : ∃ v, tokSame p q = v := ⟨_, rfl⟩
    have HT2 : Hid (r = (v && toksSame (l0.drop (i + 1)) (l1.drop (i + 1)))) := Lib.hid (by rw [HT.out, toks_step l0 l1 i hlt (by omega), hp, hq, hv])
    have HC := Lib.hid (fun w => same_one p q w)
    rw [hv] at HC
    obtain ⟨ad, had, o0, o1, o2, o3, o4⟩ := at_T37 (Kd.C_below HR0.out HB.out) (i : Int) (by omega) (by omega)
    subst had
    rw [Int.toNat_natCast, hp] at o0 o1 o2 o3 o4
    have HP := Lib.hid hp
    have HQ := Lib.hid hq
    clear hp hq hv HT
    have hi0 : (0 : Int) ≤ i := by omega
    have hi1 : (i : Int) < l0.length := by omega
    have hi2 : (i : Int) < l1.length := by omega
    go_upto_region 5 with (fail)
    go_cut [7, 8] (fun v7 v8 wc => ∃ g, v7 = .int .i64 i ∧ v8 = .pointer (some ⟨g, 0, none⟩) ∧ w.heap.size ≤ g ∧ Hid (Below w.heap.size w wc) ∧ Hid (wc.heap[g]? = some (.cells #[.int .i64 p.f0, .int .i64 p.f1, .string p.f2, .int .i64 p.f3, .int .i64 p.f4] 37 (0, 0))))
    case first =>
     go_wp2_with fail
     go_meet
     case rel => exact ⟨_, rfl, rfl, HB.out.size, Lib.hid (below_alloc HB.out _), Lib.hid (blk_new _ _)⟩
    case rest =>
     obtain ⟨g, rfl, rfl, hg, HB1, HG1⟩ := hcut
     clear o0 o1 o2 o3 o4 HB
     rename World => W1
     obtain ⟨an, han, n0, n1, n2, n3, n4⟩ := at_T37 (Kd.C_below HR1.out HB1.out) (i : Int) (by omega) (by omega)
     subst han
     rw [Int.toNat_natCast, HQ.out] at n0 n1 n2 n3 n4
     go_upto_region 6 with (fail)
     go_cut [9] (fun v9 wc => ∃ h, v9 = .pointer (some ⟨h, 0, none⟩) ∧ Hid (Below w.heap.size w wc) ∧ Hid (wc.heap[g]? = some (.cells #[.int .i64 p.f0, .int .i64 p.f1, .string p.f2, .int .i64 p.f3, .int .i64 p.f4] 37 (0, 0))) ∧ Hid (wc.heap[h]? = some (.cells #[.int .i64 q.f0, .int .i64 q.f1, .string q.f2, .int .i64 q.f3, .int .i64 q.f4] 37 (0, 0))))
     case first =>
      go_wp2_with fail
      go_meet
      case rel => exact ⟨_, rfl, Lib.hid (below_alloc HB1.out _), Lib.hid (blk_alloc HG1.out _), Lib.hid (blk_new _ _)⟩
     case rest =>
      obtain ⟨h, rfl, HB2, HG2, HH2⟩ := hcut
      clear n0 n1 n2 n3 n4 HB1 HG1
      obtain ⟨o0, o1, o2, o3, o4⟩ := token_cells HG2.out
      obtain ⟨n0, n1, n2, n3, n4⟩ := token_cells HH2.out
      cases v with
      | true =>
       go_wp2_with fail
       refine (HC.out _).mono ?_
       rintro e w3 ⟨rfl, HB3⟩
       have hw : IntKind.i64.wrap ((i : Int) + 1) = (i : Int) + 1 := IntWalk.i64_in _ (by omega)
       go_wp2_with fail
       go_roundg (gk - 1)
       case measure => have := HK.out; omega
       case rel => exact ⟨i + 1, by simp, by have := HK.out; omega, Lib.hid (HB2.out.trans (HB3.out.mono HB2.out.size)), Lib.hid (by rw [HT2.out, Bool.true_and])⟩
      | false =>
       go_wp2_with fail
       refine (HC.out _).mono ?_
       rintro e w3 ⟨rfl, HB3⟩
       go_wp2_with fail
       exact bodyPost_ret (v := .bool false) (by simp [results, Tryz.results34, go_sem]) rfl ⟨by rw [HT2.out, Bool.false_and], Lib.hid (HB2.out.trans (HB3.out.mono HB2.out.size))⟩
   ·have hd5 : decide (i < l0.length) = false := decide_eq_false hlt
    have hrt : r = true := by
     rw [HT.out, List.drop_of_length_le (by omega), List.drop_of_length_le (by have := HLL.out; omega)]
     rfl
    go_wp2_with fail
    exact bodyPost_ret (v := .bool true) (by simp [results, Tryz.results34, go_sem]) rfl ⟨by rw [hrt], Lib.hid HB.out⟩
 ·have hd : ((l0.length : Int) != (l1.length : Int)) = true := by simp; omega
  have hr : toksSame l0 l1 = false := by
   cases h : toksSame l0 l1 with
   | false => rfl
   | true => exact absurd (toks_len _ _ h) hl
  rw [hr]
  go_enter Tryz.func34, Tryz.ntmps34
  go_wp2_with fail
  exact bodyPost_ret (v := .bool false) (by simp [results, Tryz.results34, go_sem]) rfl ⟨rfl, Lib.hid (Below.refl _ _)⟩
set_option maxRecDepth 100000 in
theorem lex_Same.calls (A0 : Option Addr) (c0 : Nat) (l0 : List S37) (A1 : Option Addr) (c1 : Nat) (l1 : List S37) (r : Bool) (w : World) (hr0 : Kd.C k37 w A0 l0.length l0) (hc0 : l0.length ≤ c0) (hr1 : Kd.C k37 w A1 l1.length l1) (hc1 : l1.length ≤ c1) (h : lex_Same.f l0 l1 = some r) :
  Calls Tryz.prog 16 #[.slice A0 l0.length c0, .slice A1 l1.length c1] w fun e w' => e = .returned (.bool r) ∧ Below w.heap.size w w' := by
 obtain rfl : toksSame l0 l1 = r := Option.some.inj h
 have HC := Lib.hid (same_func A0 c0 l0 A1 c1 l1 w hr0 hc0 hr1 hc1)
 clear h hr0 hr1
 go_enter Tryz.func16, Tryz.ntmps16
 go_wp2_with fail
 refine HC.out.mono ?_
 rintro e w3 ⟨rfl, HB3⟩
 go_wp2_with fail
 exact bodyPost_ret (v := .bool (toksSame l0 l1)) (by simp [results, Tryz.results16, go_sem]) rfl ⟨rfl, HB3.out⟩


/-! ### skerryref01_Same: function 17 -/
mutual
def skerryref01_Same.l0 : Nat → List (S37) → List (S37) → Bool → Int → Option (Bool)
 | 0, _, _, _, _ => none
 | k + 1, x0, x1, x5, x6 => if x5 = true then (skerryref01_Same.j1 k x0 x1 x5 x6 (decide (x6 < (x0.length : Int)))) else (skerryref01_Same.j1 k x0 x1 x5 x6 false)
def skerryref01_Same.j1 : Nat → List (S37) → List (S37) → Bool → Int → Bool → Option (Bool)
 | 0, _, _, _, _, _ => none
 | k + 1, x0, x1, x5, x6, x18 => if x18 = true then (if 0 ≤ x6 then (if x6 < (x0.length : Int) then (if x6 < (x1.length : Int) then (if ((rd_T37 x0 x6).f0) = ((rd_T37 x1 x6).f0) then (if ((rd_T37 x0 x6).f1) = ((rd_T37 x1 x6).f1) then (skerryref01_Same.l0 k x0 x1 (((rd_T37 x0 x6).f2).toList == ((rd_T37 x1 x6).f2).toList) (wrap64 (x6 + 1))) else (skerryref01_Same.l0 k x0 x1 false (wrap64 (x6 + 1)))) else (skerryref01_Same.l0 k x0 x1 false (wrap64 (x6 + 1)))) else (none)) else (none)) else (none)) else (some x5)
end
def skerryref01_Same.f (k : Nat) (l0 : List (S37)) (l1 : List (S37)) : Option (Bool) := skerryref01_Same.l0 k l0 l1 ((l0.length : Int) == (l1.length : Int)) 0
theorem skerryref01_Same.mono_l : ∀ k, (∀ y0 y1 y2 y3, LeO (skerryref01_Same.l0 k y0 y1 y2 y3) (skerryref01_Same.l0 (k + 1) y0 y1 y2 y3)) ∧ (∀ y0 y1 y2 y3 y4, LeO (skerryref01_Same.j1 k y0 y1 y2 y3 y4) (skerryref01_Same.j1 (k + 1) y0 y1 y2 y3 y4))
 | 0 => ⟨fun _ _ _ _ r h => by simp [skerryref01_Same.l0] at h, fun _ _ _ _ _ r h => by simp [skerryref01_Same.j1] at h⟩
 | k + 1 => by
  obtain ⟨ih0, ih1⟩ := skerryref01_Same.mono_l k
  refine ⟨?_, ?_⟩
  ·intro y0 y1 y2 y3
   unfold skerryref01_Same.l0
   repeat' first
   | (with_reducible exact ih0 _ _ _ _)
   | (with_reducible exact ih1 _ _ _ _ _)
   | (with_reducible exact LeO.refl _)
   | (with_reducible exact LeO.none _)
   | (with_reducible refine LeO.ite ?_ ?_)
   | (with_reducible refine LeO.bind ?_ (fun _ => ?_))
   | exact ih0 _ _ _ _
   | exact ih1 _ _ _ _ _
   | exact LeO.none _
   | refine LeO.ite ?_ ?_
   | refine LeO.bind ?_ (fun _ => ?_)
  ·intro y0 y1 y2 y3 y4
   unfold skerryref01_Same.j1
   repeat' first
   | (with_reducible exact ih0 _ _ _ _)
   | (with_reducible exact ih1 _ _ _ _ _)
   | (with_reducible exact LeO.refl _)
   | (with_reducible exact LeO.none _)
   | (with_reducible refine LeO.ite ?_ ?_)
   | (with_reducible refine LeO.bind ?_ (fun _ => ?_))
   | exact ih0 _ _ _ _
   | exact ih1 _ _ _ _ _
   | exact LeO.none _
   | refine LeO.ite ?_ ?_
   | refine LeO.bind ?_ (fun _ => ?_)
theorem skerryref01_Same.mono : ∀ a0 a1 k, LeO (skerryref01_Same.f k a0 a1) (skerryref01_Same.f (k + 1) a0 a1) := by
 intro a0 a1 k
 obtain ⟨ih0, ih1⟩ := skerryref01_Same.mono_l k
 unfold skerryref01_Same.f
 repeat' first
   | (with_reducible exact ih0 _ _ _ _)
   | (with_reducible exact ih1 _ _ _ _ _)
   | (with_reducible exact LeO.refl _)
   | (with_reducible exact LeO.none _)
   | (with_reducible refine LeO.ite ?_ ?_)
   | (with_reducible refine LeO.bind ?_ (fun _ => ?_))
   | exact ih0 _ _ _ _
   | exact ih1 _ _ _ _ _
   | exact LeO.none _
   | refine LeO.ite ?_ ?_
   | refine LeO.bind ?_ (fun _ => ?_)
set_option maxHeartbeats 8000000 in
set_option maxRecDepth 100000 in
theorem skerryref01_Same.calls (k : Nat) (A0 : Option Addr) (c0 : Nat) (l0 : List (S37)) (A1 : Option Addr) (c1 : Nat) (l1 : List (S37)) (r : Bool) (w : World) (hr0 : Kd.C k37 w A0 l0.length l0) (hc0 : l0.length ≤ c0) (hr1 : Kd.C k37 w A1 l1.length l1) (hc1 : l1.length ≤ c1) (h : skerryref01_Same.f k l0 l1 = some r) :
  Calls Tryz.prog 17 #[.slice A0 l0.length c0, .slice A1 l1.length c1] w fun e w' => e = .returned (.bool r) ∧ Drawn0 w w' := by
 have HR0 := Aside0.mk hr0
 have HC0 := Aside0.mk hc0
 clear hr0 hc0
 have HR1 := Aside0.mk hr1
 have HC1 := Aside0.mk hc1
 clear hr1 hc1
 have H : (skerryref01_Same.l0 k l0 l1 ((l0.length : Int) == (l1.length : Int)) 0) = some r := h
 clear h
 have H' := Aside0.mk H
 clear H
 go_enter Tryz.func17, Tryz.ntmps17
 go_wp2
 repeat (go_quiet (fail); try go_wp2)
 go_loopg [5, 6] k (fun kq v5 v6 w' => ∃ (x5_1 : Bool) (x6_1 : Int), v5 = .bool x5_1 ∧ v6 = .int .i64 x6_1 ∧ Aside0 (skerryref01_Same.l0 kq l0 l1 x5_1 x6_1 = some r) ∧ Aside0 (kq ≤ k) ∧ Drawn0 w w')
 case atStart => exact ⟨(((l0.length : Int) == (l1.length : Int))), (0), (by first | rfl | (simp; done) | (simp [*]; done)), (by first | rfl | (simp; done) | (simp [*]; done)), H', ⟨Nat.le_refl _⟩, by repeat (first | exact Drawn0.refl _ | apply Drawn0.step)⟩
 case round =>
  clear H'
  try clear c1
  try clear p2
  obtain ⟨x5_1, x6_1, rfl, rfl, HA, HK1, ⟨m1, rfl⟩⟩ := hrel
  cases gk with
  | zero => exact absurd HA.out (by simp [skerryref01_Same.l0])
  | succ k1 =>
   have H := HA.out
   clear HA
   simp only [skerryref01_Same.l0] at H
   have HC3 := Aside0.mk H
   clear H
   go_upto_region 3 with (fail)
   repeat (go_quiet (fail); go_upto_region 3 with (fail))
   go_cut [18] (fun v18 wc => ∃ (kq : Nat) (x18_2 : Bool), v18 = .bool x18_2 ∧ Aside0 (skerryref01_Same.j1 kq l0 l1 x5_1 x6_1 x18_2 = some r) ∧ Aside0 (kq ≤ k1) ∧ Drawn0 w wc)
   case first =>
    have H := HC3.out
    clear HC3
    by_cases c4 : x5_1 = true
    ·subst c4
     have H1 : (skerryref01_Same.j1 k1 l0 l1 true x6_1 (decide (x6_1 < (l0.length : Int)))) = some r := by rw [if_pos rfl] at H; exact H
     clear H
     have H := H1
     clear H1
     have H' := Aside0.mk H
     clear H
     go_wp2
     repeat (go_quiet (fail); try go_wp2)
     go_meet
     case rel => exact ⟨_, (decide (x6_1 < (l0.length : Int))), (by first | rfl | (simp; done) | (simp [*]; done)), H', ⟨by have := HK1.out; first | omega | exact Nat.le_refl _⟩, by repeat (first | exact Drawn0.refl _ | apply Drawn0.step)⟩
    ·replace c4 := Bool.eq_false_iff.mpr c4
     subst c4
     have H1 : (skerryref01_Same.j1 k1 l0 l1 false x6_1 false) = some r := by rw [if_neg (show ¬ (false = true) by decide)] at H; exact H
     clear H
     have H := H1
     clear H1
     have H' := Aside0.mk H
     clear H
     go_wp2
     repeat (go_quiet (fail); try go_wp2)
     go_meet
     case rel => exact ⟨_, (false), (by first | rfl | (simp; done) | (simp [*]; done)), H', ⟨by have := HK1.out; first | omega | exact Nat.le_refl _⟩, by repeat (first | exact Drawn0.refl _ | apply Drawn0.step)⟩
   case rest =>
    clear HC3
    try clear c1
    try clear p2
    try clear c4
    try clear p2
    obtain ⟨kq, x18_2, rfl, HA, HJ2, ⟨mc2, rfl⟩⟩ := hcut
    cases kq with
    | zero => exact absurd HA.out (by simp [skerryref01_Same.j1])
    | succ kj2 =>
     have H := HA.out
     clear HA
     simp only [skerryref01_Same.j1] at H
     by_cases c5 : x18_2 = true
     ·subst c5
      have H1 : (if 0 ≤ x6_1 then (if x6_1 < (l0.length : Int) then (if x6_1 < (l1.length : Int) then (if ((rd_T37 l0 x6_1).f0) = ((rd_T37 l1 x6_1).f0) then (if ((rd_T37 l0 x6_1).f1) = ((rd_T37 l1 x6_1).f1) then (skerryref01_Same.l0 kj2 l0 l1 (((rd_T37 l0 x6_1).f2).toList == ((rd_T37 l1 x6_1).f2).toList) (wrap64 (x6_1 + 1))) else (skerryref01_Same.l0 kj2 l0 l1 false (wrap64 (x6_1 + 1)))) else (skerryref01_Same.l0 kj2 l0 l1 false (wrap64 (x6_1 + 1)))) else (none)) else (none)) else (none)) = some r := by rw [if_pos rfl] at H; exact H
      clear H
      have H := H1
      clear H1
      by_cases c6 : 0 ≤ x6_1
      ·rw [if_pos c6] at H
       have c6b0 : decide (0 ≤ x6_1) = true := decide_eq_true c6
       clear c6
       by_cases c7 : x6_1 < (l0.length : Int)
       ·rw [if_pos c7] at H
        have c7b0 : decide (x6_1 < (l0.length : Int)) = true := decide_eq_true c7
        clear c7
        by_cases c8 : x6_1 < (l1.length : Int)
        ·rw [if_pos c8] at H
         have c8b0 : decide (x6_1 < (l1.length : Int)) = true := decide_eq_true c8
         clear c8
         by_cases c9 : ((rd_T37 l0 x6_1).f0) = ((rd_T37 l1 x6_1).f0)
         ·rw [if_pos c9] at H
          have c9b0 : (((rd_T37 l0 x6_1).f0) == ((rd_T37 l1 x6_1).f0)) = true := beq_iff_eq.mpr c9
          have c9b1 : (((rd_T37 l0 x6_1).f0) != ((rd_T37 l1 x6_1).f0)) = false := bne_eq_false_iff_eq.mpr c9
          clear c9
          by_cases c10 : ((rd_T37 l0 x6_1).f1) = ((rd_T37 l1 x6_1).f1)
          ·rw [if_pos c10] at H
           have c10b0 : (((rd_T37 l0 x6_1).f1) == ((rd_T37 l1 x6_1).f1)) = true := beq_iff_eq.mpr c10
           have c10b1 : (((rd_T37 l0 x6_1).f1) != ((rd_T37 l1 x6_1).f1)) = false := bne_eq_false_iff_eq.mpr c10
           clear c10
           have H' := Aside0.mk H
           clear H
           have p232 : 0 ≤ (x6_1 : Int) := of_decide_eq_true (by first | (with_reducible assumption) | assumption)
           have q232 : x6_1 < (l0.length : Int) := of_decide_eq_true (by first | (with_reducible assumption) | assumption)
           obtain ⟨ad232, e232, hx232_0, hx232_1, hx232_2, hx232_3, hx232_4⟩ := at_T37 HR0.out x6_1 p232 q232
           cases e232
           replace p232 := eq_true p232
           replace q232 := eq_true q232
           have p233 : 0 ≤ (x6_1 : Int) := of_decide_eq_true (by first | (with_reducible assumption) | assumption)
           have q233 : x6_1 < (l1.length : Int) := of_decide_eq_true (by first | (with_reducible assumption) | assumption)
           obtain ⟨ad233, e233, hx233_0, hx233_1, hx233_2, hx233_3, hx233_4⟩ := at_T37 HR1.out x6_1 p233 q233
           cases e233
           replace p233 := eq_true p233
           replace q233 := eq_true q233
           have p234 : 0 ≤ (x6_1 : Int) := of_decide_eq_true (by first | (with_reducible assumption) | assumption)
           have q234 : x6_1 < (l0.length : Int) := of_decide_eq_true (by first | (with_reducible assumption) | assumption)
           obtain ⟨ad234, e234, hx234_0, hx234_1, hx234_2, hx234_3, hx234_4⟩ := at_T37 HR0.out x6_1 p234 q234
           obtain rfl : ad232 = ad234 := (by injection e234)
           replace p234 := eq_true p234
           replace q234 := eq_true q234
           have p235 : 0 ≤ (x6_1 : Int) := of_decide_eq_true (by first | (with_reducible assumption) | assumption)
           have q235 : x6_1 < (l1.length : Int) := of_decide_eq_true (by first | (with_reducible assumption) | assumption)
           obtain ⟨ad235, e235, hx235_0, hx235_1, hx235_2, hx235_3, hx235_4⟩ := at_T37 HR1.out x6_1 p235 q235
           obtain rfl : ad233 = ad235 := (by injection e235)
           replace p235 := eq_true p235
           replace q235 := eq_true q235
           have p236 : 0 ≤ (x6_1 : Int) := of_decide_eq_true (by first | (with_reducible assumption) | assumption)
           have q236 : x6_1 < (l0.length : Int) := of_decide_eq_true (by first | (with_reducible assumption) | assumption)
           obtain ⟨ad236, e236, hx236_0, hx236_1, hx236_2, hx236_3, hx236_4⟩ := at_T37 HR0.out x6_1 p236 q236
           obtain rfl : ad232 = ad236 := (by injection e236)
           replace p236 := eq_true p236
           replace q236 := eq_true q236
           have p237 : 0 ≤ (x6_1 : Int) := of_decide_eq_true (by first | (with_reducible assumption) | assumption)
           have q237 : x6_1 < (l1.length : Int) := of_decide_eq_true (by first | (with_reducible assumption) | assumption)
           obtain ⟨ad237, e237, hx237_0, hx237_1, hx237_2, hx237_3, hx237_4⟩ := at_T37 HR1.out x6_1 p237 q237
           obtain rfl : ad233 = ad237 := (by injection e237)
           replace p237 := eq_true p237
           replace q237 := eq_true q237
           go_wp2
           repeat (go_quiet (fail); try go_wp2)
           go_roundg kj2
           case measure => have := HK1.out; have := HJ2.out; omega
           case rel => exact ⟨((((rd_T37 l0 x6_1).f2).toList == ((rd_T37 l1 x6_1).f2).toList)), (wrap64 (x6_1 + 1)), (by first | rfl | (simp; done) | (simp [*]; done)), (by first | rfl | (simp; done) | (simp [*]; done)), H', ⟨by have := HK1.out; have := HJ2.out; omega⟩, by repeat (first | exact Drawn0.refl _ | apply Drawn0.step)⟩
          ·rw [if_neg c10] at H
           have c10b0 : (((rd_T37 l0 x6_1).f1) == ((rd_T37 l1 x6_1).f1)) = false := beq_eq_false_iff_ne.mpr c10
           have c10b1 : (((rd_T37 l0 x6_1).f1) != ((rd_T37 l1 x6_1).f1)) = true := bne_iff_ne.mpr c10
           have H' := Aside0.mk H
           clear H
           have p232 : 0 ≤ (x6_1 : Int) := of_decide_eq_true (by first | (with_reducible assumption) | assumption)
           have q232 : x6_1 < (l0.length : Int) := of_decide_eq_true (by first | (with_reducible assumption) | assumption)
           obtain ⟨ad232, e232, hx232_0, hx232_1, hx232_2, hx232_3, hx232_4⟩ := at_T37 HR0.out x6_1 p232 q232
           cases e232
           replace p232 := eq_true p232
           replace q232 := eq_true q232
           have p233 : 0 ≤ (x6_1 : Int) := of_decide_eq_true (by first | (with_reducible assumption) | assumption)
           have q233 : x6_1 < (l1.length : Int) := of_decide_eq_true (by first | (with_reducible assumption) | assumption)
           obtain ⟨ad233, e233, hx233_0, hx233_1, hx233_2, hx233_3, hx233_4⟩ := at_T37 HR1.out x6_1 p233 q233
           cases e233
           replace p233 := eq_true p233
           replace q233 := eq_true q233
           have p234 : 0 ≤ (x6_1 : Int) := of_decide_eq_true (by first | (with_reducible assumption) | assumption)
           have q234 : x6_1 < (l0.length : Int) := of_decide_eq_true (by first | (with_reducible assumption) | assumption)
           obtain ⟨ad234, e234, hx234_0, hx234_1, hx234_2, hx234_3, hx234_4⟩ := at_T37 HR0.out x6_1 p234 q234
           obtain rfl : ad232 = ad234 := (by injection e234)
           replace p234 := eq_true p234
           replace q234 := eq_true q234
           have p235 : 0 ≤ (x6_1 : Int) := of_decide_eq_true (by first | (with_reducible assumption) | assumption)
           have q235 : x6_1 < (l1.length : Int) := of_decide_eq_true (by first | (with_reducible assumption) | assumption)
           obtain ⟨ad235, e235, hx235_0, hx235_1, hx235_2, hx235_3, hx235_4⟩ := at_T37 HR1.out x6_1 p235 q235
           obtain rfl : ad233 = ad235 := (by injection e235)
           replace p235 := eq_true p235
           replace q235 := eq_true q235
           go_wp2
           repeat (go_quiet (fail); try go_wp2)
           go_roundg kj2
           case measure => have := HK1.out; have := HJ2.out; omega
           case rel => exact ⟨(false), (wrap64 (x6_1 + 1)), (by first | rfl | (simp; done) | (simp [*]; done)), (by first | rfl | (simp; done) | (simp [*]; done)), H', ⟨by have := HK1.out; have := HJ2.out; omega⟩, by repeat (first | exact Drawn0.refl _ | apply Drawn0.step)⟩
         ·rw [if_neg c9] at H
          have c9b0 : (((rd_T37 l0 x6_1).f0) == ((rd_T37 l1 x6_1).f0)) = false := beq_eq_false_iff_ne.mpr c9
          have c9b1 : (((rd_T37 l0 x6_1).f0) != ((rd_T37 l1 x6_1).f0)) = true := bne_iff_ne.mpr c9
          have H' := Aside0.mk H
          clear H
          have p232 : 0 ≤ (x6_1 : Int) := of_decide_eq_true (by first | (with_reducible assumption) | assumption)
          have q232 : x6_1 < (l0.length : Int) := of_decide_eq_true (by first | (with_reducible assumption) | assumption)
          obtain ⟨ad232, e232, hx232_0, hx232_1, hx232_2, hx232_3, hx232_4⟩ := at_T37 HR0.out x6_1 p232 q232
          cases e232
          replace p232 := eq_true p232
          replace q232 := eq_true q232
          have p233 : 0 ≤ (x6_1 : Int) := of_decide_eq_true (by first | (with_reducible assumption) | assumption)
          have q233 : x6_1 < (l1.length : Int) := of_decide_eq_true (by first | (with_reducible assumption) | assumption)
          obtain ⟨ad233, e233, hx233_0, hx233_1, hx233_2, hx233_3, hx233_4⟩ := at_T37 HR1.out x6_1 p233 q233
          cases e233
          replace p233 := eq_true p233
          replace q233 := eq_true q233
          go_wp2
          repeat (go_quiet (fail); try go_wp2)
          go_roundg kj2
          case measure => have := HK1.out; have := HJ2.out; omega
          case rel => exact ⟨(false), (wrap64 (x6_1 + 1)), (by first | rfl | (simp; done) | (simp [*]; done)), (by first | rfl | (simp; done) | (simp [*]; done)), H', ⟨by have := HK1.out; have := HJ2.out; omega⟩, by repeat (first | exact Drawn0.refl _ | apply Drawn0.step)⟩
        ·rw [if_neg c8] at H
         exact absurd H (by simp)
       ·rw [if_neg c7] at H
        exact absurd H (by simp)
      ·rw [if_neg c6] at H
       exact absurd H (by simp)
     ·replace c5 := Bool.eq_false_iff.mpr c5
      subst c5
      have H1 : (some x5_1) = some r := by rw [if_neg (show ¬ (false = true) by decide)] at H; exact H
      clear H
      have H := H1
      clear H1
      obtain rfl := Option.some.inj H
      go_wp2
      repeat (go_quiet (fail); try go_wp2)
      go_ret
      exact ⟨by first | rfl | (simp; done) | (simp [*]; done), by repeat (first | exact Drawn0.refl _ | apply Drawn0.step)⟩

end Go.Proofs.YtdaccmjfefknoaaGreatDoor.PZb
