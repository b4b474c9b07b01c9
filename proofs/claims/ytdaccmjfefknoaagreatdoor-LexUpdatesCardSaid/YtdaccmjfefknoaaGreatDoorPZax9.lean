-- PRINTED by print.py (a twelfth state) out of the translation. Not trusted: Lean checks it.
import Derived.Test.YtdaccmjfefknoaaGreatDoorPZax0
import Derived.Test.YtdaccmjfefknoaaGreatDoorPZax1
import Derived.Test.YtdaccmjfefknoaaGreatDoorPZax2
import Derived.Test.YtdaccmjfefknoaaGreatDoorPZax5
import Derived.Test.YtdaccmjfefknoaaGreatDoorPZax8
namespace Go.Proofs.YtdaccmjfefknoaaGreatDoor.PZa
open Go.RowKit Go.Proofs.YtdaccmjfefknoaaGreatDoorW.PrintWords Go.Proofs.YtdaccmjfefknoaaGreatDoorW.PrintLast Go.Proofs.YtdaccmjfefknoaaGreatDoorW.PrintMore
attribute [local go_sem] max2_int min2_int max_two min_two max_three min_three max_four min_four   -- for this text's walks alone
set_option linter.unusedVariables false
set_option linter.unusedSimpArgs false

attribute [local go_sem high] eqA46 eqA50
/-! ### skerryref01_Update: function 24 -/

def skerryref01_Update.f (a0 : ByteArray) (l1 : List S50) (x y : Int) (z : ByteArray) : Option (List S50 × Int × Int × Int × Int) := if a0.size ≤ 9223372036854775807 then lex_Update.f a0 l1 x y z else none
theorem rup_pieces (a : ByteArray) (h : a.size ≤ 9223372036854775807) (w : World) : Calls Tryz.prog 9 #[.string a] w fun e w' => ∃ A c, e = .returned (.agg #[.slice A (cells50 a).length c, .int .i64 (Lx.outAt a), .int .i64 (Lx.outE a)]) ∧ Hid (Kd.R k50 50 w' w.heap.size (fun _ => True) (.slice A (cells50 a).length c) (cells50 a)) ∧ Hid (Below w.heap.size w w') :=
 (skerryref01_Pieces.calls a (cells50 a) (Lx.outAt a) (Lx.outE a) w (by unfold skerryref01_Pieces.f; rw [if_pos h]; rfl)).mono fun e w' ⟨v, he, hr, hb⟩ => by
  obtain ⟨A, c, rfl⟩ := Kd.R_slice hr
  exact ⟨A, c, he, Lib.hid hr, Lib.hid hb⟩
theorem rsame_loop (x0 x1 : List S50) (hl : x0.length = x1.length) (hb : x0.length ≤ 100000) : ∀ (m j k : Nat), x0.length - j ≤ m → j ≤ x0.length → m < k → (∀ i, i < j → x0[i]? = x1[i]?) →
  ∃ r, skerryref01_SamePieces.l0 k x0 x1 (j : Int) = some r ∧ (r = true ↔ x0 = x1)
 | m, j, 0, _, _, h, _ => by omega
 | m, j, k + 1, hm, hj, hk, he => by
  unfold skerryref01_SamePieces.l0
  by_cases hlt : j < x0.length
  ·have h1 : j < x1.length := by omega
   rw [if_pos (by omega), if_pos (by omega), if_pos (by omega), updRd _ _ hlt, updRd _ _ h1]
   by_cases hd : x0[j] = x1[j]
   ·rw [if_neg (by rw [updNeq]; exact fun h => h hd)]
    rw [updSmall _ (by omega) (by omega), show (j : Int) + 1 = ((j + 1 : Nat) : Int) from by omega]
    refine rsame_loop x0 x1 hl hb (m - 1) (j + 1) k (by omega) (by omega) (by omega) (fun i hi => ?_)
    by_cases hij : i = j
    ·subst hij
     rw [List.getElem?_eq_getElem hlt, List.getElem?_eq_getElem h1, hd]
    ·exact he i (by omega)
   ·rw [if_pos (by rw [updNeq]; exact hd)]
    refine ⟨false, rfl, by simp, fun h => absurd ?_ hd⟩
    subst h
    rfl
  ·rw [if_neg (by omega)]
   refine ⟨true, rfl, fun _ => ?_, fun _ => rfl⟩
   exact List.ext_getElem? fun i => by
    by_cases hi : i < j
    ·exact he i hi
    ·rw [List.getElem?_eq_none (by omega), List.getElem?_eq_none (by omega)]
theorem rsame_all (x0 x1 : List S50) (hb : x0.length ≤ 100000) (k : Nat) (hk : x0.length < k) : ∃ r, skerryref01_SamePieces.f k x0 x1 = some r ∧ (r = true ↔ x0 = x1) := by
 unfold skerryref01_SamePieces.f
 by_cases hl : x0.length = x1.length
 ·rw [if_pos (by omega)]
  exact rsame_loop x0 x1 hl hb x0.length 0 k (by omega) (by omega) hk (fun i hi => by omega)
 ·rw [if_neg (by omega)]
  exact ⟨false, rfl, by simp, fun h => absurd (by rw [h]) hl⟩
theorem rup_same {A0 A1 : Option Addr} {c0 c1 : Nat} {l0 l1 : List S50} {w : World} (hb : l0.length ≤ 20000) (h0 : Kd.C k50 w A0 l0.length l0) (g0 : l0.length ≤ c0) (h1 : Kd.C k50 w A1 l1.length l1) (g1 : l1.length ≤ c1) (r : Bool) (hr : r = true ↔ l0 = l1) :
  Calls Tryz.prog 25 #[.slice A0 l0.length c0, .slice A1 l1.length c1] w fun e w' => e = .returned (.bool r) ∧ Drawn0 w w' := by
 obtain ⟨b, hf, hb'⟩ := rsame_all l0 l1 (by omega) (l0.length + 1) (by omega)
 have e : b = r := by rw [Bool.eq_iff_iff, hb', hr]
 subst e
 exact skerryref01_SamePieces.calls (l0.length + 1) A0 c0 l0 A1 c1 l1 b w h0 g0 h1 g1 hf
theorem rchange_ok (k : Nat) (a0 : ByteArray) (x y : Int) (z : ByteArray) (h0 : a0.size ≤ 20000) (hz : z.size ≤ 140737488351232) (h : updSplices a0.size x y = true) : skerryref01_Change.f (k + 1) a0 x y z = some (updChanged a0 x y z, 0) := by
 obtain ⟨h1, h2, h3, h4⟩ := of_decide_eq_true h
 have hs : ∀ a b, (a0.extract a b).size ≤ 20000 := fun a b => by rw [ByteArray.size_extract]; omega
 unfold skerryref01_Change.f
 rw [if_neg (by omega), if_neg (by omega), if_neg (by omega), updSmall _ (by omega) (by omega), decide_eq_false (by omega)]
 rw [skerryref01_Change.j0]
 rw [if_neg (by simp), if_pos h1, if_pos h3, updSmall _ (by omega) (by omega)]
 rw [if_pos (by have := hs 0 x.toNat; omega), if_pos (by omega), if_pos (by omega), if_pos (by rw [ByteArray.size_append]; have := hs 0 x.toNat; have := hs (x + y).toNat a0.size; omega)]
 rfl
theorem rchange_bad (k : Nat) (a0 : ByteArray) (x y : Int) (z : ByteArray) (h0 : a0.size ≤ 20000) (h : updSplices a0.size x y = false) : skerryref01_Change.f (k + 1) a0 x y z = some (⟨#[]⟩, 1) := by
 have h' := of_decide_eq_false h
 unfold skerryref01_Change.f
 by_cases h1 : x < 0
 ·rw [if_pos h1]; rw [skerryref01_Change.j0, if_pos rfl]
 ·rw [if_neg h1]
  by_cases h3 : x > (a0.size : Int)
  ·rw [if_pos h3]; rw [skerryref01_Change.j0, if_pos rfl]
  ·rw [if_neg h3]
   by_cases h2 : y < 0
   ·rw [if_pos h2]; rw [skerryref01_Change.j0, if_pos rfl]
   ·rw [if_neg h2, updSmall _ (by omega) (by omega), decide_eq_true (by omega)]
    rw [skerryref01_Change.j0, if_pos rfl]
theorem rup_change (a0 : ByteArray) (x y : Int) (z : ByteArray) (h0 : a0.size ≤ 20000) (hz : z.size ≤ 140737488351232) (h : updSplices a0.size x y = true) (w : World) : Calls Tryz.prog 7 #[.string a0, .agg #[.int .i64 x, .int .i64 y, .string z]] w fun e w' => e = .returned (.tuple #[.string (updChanged a0 x y z), .int .i64 0]) ∧ Hid (Below w.heap.size w w') :=
 (skerryref01_Change.calls 1 a0 x y z _ _ w (rchange_ok 0 a0 x y z h0 hz h)).mono fun _ _ h => ⟨h.1, Lib.hid h.2⟩
theorem rup_no (a0 : ByteArray) (x y : Int) (z : ByteArray) (h0 : a0.size ≤ 20000) (h : updSplices a0.size x y = false) (w : World) : Calls Tryz.prog 7 #[.string a0, .agg #[.int .i64 x, .int .i64 y, .string z]] w fun e w' => e = .returned (.tuple #[.string ⟨#[]⟩, .int .i64 1]) ∧ Hid (Below w.heap.size w w') :=
 (skerryref01_Change.calls 1 a0 x y z _ _ w (rchange_bad 0 a0 x y z h0 h)).mono fun _ _ h => ⟨h.1, Lib.hid h.2⟩

/-- A result's block, written whole. -/
theorem rup_put {W : World} {g : Nat} {t : TypeId} {a b c d e a' b' c' d' e' : Value} (h : W.heap[g]? = some (.cells #[a, b, c, d, e] t (0, 0))) : (((((W.setCell ⟨g, 0, none⟩ a').setCell ⟨g, 1, none⟩ b').setCell ⟨g, 2, none⟩ c').setCell ⟨g, 3, none⟩ d').setCell ⟨g, 4, none⟩ e').heap[g]? = some (.cells #[a', b', c', d', e'] t (0, 0)) :=
 blk_put (blk_put (blk_put (blk_put (blk_put h 0 _ rfl) 1 _ rfl) 2 _ rfl) 3 _ rfl) 4 _ rfl
theorem rup_cells {w : World} {g : Nat} {a b c d e : Value} {t : TypeId} (h : w.heap[g]? = some (.cells #[a, b, c, d, e] t (0, 0))) : w.cell? ⟨g, 0, none⟩ = some a ∧ w.cell? ⟨g, 1, none⟩ = some b ∧ w.cell? ⟨g, 2, none⟩ = some c ∧ w.cell? ⟨g, 3, none⟩ = some d ∧ w.cell? ⟨g, 4, none⟩ = some e ∧ w.frozen? ⟨g, 0, none⟩ = false ∧ w.frozen? ⟨g, 1, none⟩ = false ∧ w.frozen? ⟨g, 2, none⟩ = false ∧ w.frozen? ⟨g, 3, none⟩ = false ∧ w.frozen? ⟨g, 4, none⟩ = false :=
 ⟨blk_cell h 0, blk_cell h 1, blk_cell h 2, blk_cell h 3, blk_cell h 4, blk_frozen h 0, blk_frozen h 1, blk_frozen h 2, blk_frozen h 3, blk_frozen h 4⟩
theorem rup_far {W : World} {g k : Nat} {a b c d e : Value} (h : k ≠ g) : (((((W.setCell ⟨g, 0, none⟩ a).setCell ⟨g, 1, none⟩ b).setCell ⟨g, 2, none⟩ c).setCell ⟨g, 3, none⟩ d).setCell ⟨g, 4, none⟩ e).heap[k]? = W.heap[k]? :=
 (Below.heap_setCell _ _ _ k h).trans ((Below.heap_setCell _ _ _ k h).trans ((Below.heap_setCell _ _ _ k h).trans ((Below.heap_setCell _ _ _ k h).trans (Below.heap_setCell _ _ _ k h))))
theorem rup_below {w W : World} {g : Nat} {a b c d e : Value} (h : Below w.heap.size w W) (hg : w.heap.size ≤ g) : Below w.heap.size w (((((W.setCell ⟨g, 0, none⟩ a).setCell ⟨g, 1, none⟩ b).setCell ⟨g, 2, none⟩ c).setCell ⟨g, 3, none⟩ d).setCell ⟨g, 4, none⟩ e) :=
 ((((h.setCell hg _).setCell hg _).setCell hg _).setCell hg _).setCell hg _
theorem rup_R {w W5 X : World} {s4 : Nat} {At : Option Addr} {n ct : Nat} {now : List S50} {a b c d e : Value} (HRt : Kd.R k50 50 W5 s4 (fun _ => True) (.slice At n ct) now) (hs4 : w.heap.size + 1 < s4) (HBX : Below W5.heap.size W5 X) :
  Kd.R k50 50 (((((X.setCell ⟨w.heap.size + 1, 0, none⟩ a).setCell ⟨w.heap.size + 1, 1, none⟩ b).setCell ⟨w.heap.size + 1, 2, none⟩ c).setCell ⟨w.heap.size + 1, 3, none⟩ d).setCell ⟨w.heap.size + 1, 4, none⟩ e) w.heap.size (fun _ => True) (.slice At n ct) now := by
 refine Kd.R_mono (Kd.R_lower (Kd.R_move (Kd.R_bound (Kd.R_below HRt HBX)) (fun k hk => ?_)) (by omega)) (fun _ _ => trivial)
 exact rup_far (by have := hk.2.1; omega)
set_option maxHeartbeats 6400000 in
set_option maxRecDepth 100000 in
theorem rup_walk (a0 : ByteArray) (hbig : a0.size ≤ 9223372036854775807) (A1 : Option Addr) (c1 : Nat) (l1 : List S50) (x y : Int) (z : ByteArray) (r1 : List S50) (r2 r3 r4 r5 : Int) (hf : lex_Update.f a0 l1 x y z = some (r1, r2, r3, r4, r5)) (w : World) (h1 : Kd.C k50 w A1 l1.length l1) (g1 : l1.length ≤ c1) :
  Calls Tryz.prog 24 #[.string a0, .slice A1 l1.length c1, .agg #[.int .i64 x, .int .i64 y, .string z]] w fun e w' => ∃ v0_ : Value, e = .returned (.agg #[v0_, .int .i64 r2, .int .i64 r3, .int .i64 r4, .int .i64 r5]) ∧ Kd.R k50 50 w' w.heap.size (fun _ => True) v0_ r1 ∧ Below w.heap.size w w' := by
 have H1 := Lib.hid h1
 have HFF := Lib.hid hf
 have hlen := cells_len a0
 have PC := Lib.hid (rup_pieces a0 hbig)
 obtain ⟨old, hold⟩ : ∃ l, cells50 a0 = l := ⟨_, rfl⟩
 obtain ⟨oa, hoa⟩ : ∃ l, Lx.outAt a0 = l := ⟨_, rfl⟩
 obtain ⟨oe, hoe⟩ : ∃ l, Lx.outE a0 = l := ⟨_, rfl⟩
 have HOLD := Lib.hid hold
 have HOE := Lib.hid hoe
 rw [hold] at hlen
 rw [hold, hoa, hoe] at PC
 clear hf h1 hold hoa hoe
 go_enter Tryz.func24, Tryz.ntmps24
 go_upto_region 1 with (fail)
 go_cut [7] (fun v7 wc => ∃ g7 A c, v7 = .pointer (some ⟨g7, 0, none⟩) ∧ w.heap.size + 1 < g7 ∧ old.length ≤ c ∧ Hid (wc.heap[g7]? = some (.cells #[.slice A old.length c, .int .i64 oa, .int .i64 oe] 31 (0, 0))) ∧ Hid (Kd.C k50 wc A old.length old) ∧ Hid (wc.heap[w.heap.size]? = some (.cells #[.int .i64 x, .int .i64 y, .string z] 24 (0, 0))) ∧ Hid (wc.heap[w.heap.size + 1]? = some (.cells #[.slice none 0 0, .int .i64 0, .int .i64 0, .int .i64 0, .int .i64 0] 55 (0, 0))) ∧ Hid (Below w.heap.size w wc))
 case first =>
  go_wp2_with (go_at_call 9; refine (PC.out _).mono ?_; rintro e w2 ⟨A, c, rfl, HR, HB⟩; obtain ⟨hb5, hb7, hb0⟩ := start_blk HB.out; have B0 := Lib.hid hb0; have K5 := Lib.hid hb5; have K7 := Lib.hid hb7; clear hb5 hb7 hb0)
  go_meet
  case rel =>
   have hsz := HB.out.size
   refine ⟨_, A, c, rfl, ?_, (Kd.R_reads' HR.out).2.1, Lib.hid (blk_new _ _), Lib.hid (Kd.C_below (Kd.R_reads' HR.out).2.2 (below_alloc (Below.refl _ _) _)), Lib.hid (blk_alloc K5.out _), Lib.hid (blk_alloc K7.out _), Lib.hid (below_alloc B0.out _)⟩
   simp at hsz
   omega
 case rest =>
  obtain ⟨g7, A, c, rfl, hg7, hgc, HG7, HRA, K5, K6, HB⟩ := hcut
  clear PC
  obtain ⟨o0, o1, o2, o3, o4, o5⟩ := three_cells HG7.out
  obtain ⟨p0, p1, p2, p3, p4, q0, q1, q2, q3, q4⟩ := rup_cells K6.out
  by_cases he : oe = 0
  ·have x1 : (oe != 0) = false := by simpa using he
   have hsz := size_le (HOE.out.trans he)
   obtain ⟨s, hs⟩ : ∃ s : Bool, updSame old l1 = s := ⟨_, rfl⟩
   have hsr : s = true ↔ old = l1 := by rw [← hs]; exact updSame_iff old l1
   have HS := Lib.hid hs
   have HE := Lib.hid he
   have HC1 := Lib.hid (rup_same hlen HRA.out hgc (Kd.C_below H1.out HB.out) g1 s hsr)
   have HSR := Lib.hid hsr
   clear hs hsr he
   go_wp2_with fail
   refine HC1.out.mono ?_
   rintro e w3 ⟨rfl, ⟨nd, rfl⟩⟩
   have K5 := Lib.hid (blk_drewN K5.out nd)
   have K6 := Lib.hid (blk_drewN K6.out nd)
   have HB := Lib.hid (pw_below_drewN HB.out nd)
   clear o0 o1 o2 o3 o4 o5 p0 p1 p2 p3 p4 q0 q1 q2 q3 q4 HG7 HC1 HRA
   cases s with
   | false =>
    have hff := HFF.out
    unfold lex_Update.f at hff
    rw [HOLD.out, HS.out, if_neg (fun h => Bool.false_ne_true h.2)] at hff
    obtain ⟨rfl, rfl, rfl, rfl, rfl⟩ : [] = r1 ∧ 0 = r2 ∧ 0 = r3 ∧ 0 = r4 ∧ 15 = r5 := by simpa using hff
    clear hff HFF
    obtain ⟨p0, p1, p2, p3, p4, q0, q1, q2, q3, q4⟩ := rup_cells K6.out
    go_wp2
    obtain ⟨WF, hWF⟩ : ∃ WF, (((((wc.drewN nd).setCell ⟨w.heap.size + 1, 0, none⟩ (.slice none 0 0)).setCell ⟨w.heap.size + 1, 1, none⟩ (.int .i64 0)).setCell ⟨w.heap.size + 1, 2, none⟩ (.int .i64 0)).setCell ⟨w.heap.size + 1, 3, none⟩ (.int .i64 0)).setCell ⟨w.heap.size + 1, 4, none⟩ (.int .i64 15) = WF := ⟨_, rfl⟩
    rw [hWF]
    have hb6 := hWF ▸ rup_put (a' := .slice none 0 0) (b' := .int .i64 0) (c' := .int .i64 0) (d' := .int .i64 0) (e' := .int .i64 15) K6.out
    have hbw : Below w.heap.size w WF := hWF ▸ rup_below HB.out (by omega)
    obtain ⟨z0, z1, z2, z3, z4, _⟩ := rup_cells hb6
    refine bodyPost_ret (v := .agg #[.slice none 0 0, .int .i64 0, .int .i64 0, .int .i64 0, .int .i64 15]) (by simp [results, Tryz.results24, go_sem, z0, z1, z2, z3, z4]) rfl ⟨_, rfl, ?_, hbw⟩
    exact Kd.R_nil _ _ _ _ _
   | true =>
    obtain rfl := HSR.out.1 rfl
    have hff := HFF.out
    unfold lex_Update.f at hff
    rw [HOLD.out, if_pos ⟨HOE.out.trans HE.out, HS.out⟩] at hff
    clear HSR HS HOLD HOE HE HFF
    obtain ⟨s0, s1, s2, s3, s4, s5⟩ := three_cells K5.out
    by_cases hsp : updSplices a0.size x y = true
    ·rw [if_pos hsp] at hff
     by_cases hz : z.size ≤ 140737488351232
     ·rw [if_pos hz] at hff
      have HC := Lib.hid (rup_change a0 x y z hsz hz hsp)
      have HFF := Lib.hid hff
      clear hff hsp
      have htb : (updChanged a0 x y z).size ≤ 9223372036854775807 := by
       unfold updChanged
       rw [ByteArray.size_append, ByteArray.size_append, ByteArray.size_extract, ByteArray.size_extract]
       omega
      obtain ⟨t, hT⟩ : ∃ t, updChanged a0 x y z = t := ⟨_, rfl⟩
      rw [hT] at HC HFF htb
      clear hT
      have PC := Lib.hid (rup_pieces t htb)
      have hlent := cells_len t
      obtain ⟨now, hnow⟩ : ∃ l, cells50 t = l := ⟨_, rfl⟩
      obtain ⟨ta, hta⟩ : ∃ l, Lx.outAt t = l := ⟨_, rfl⟩
      obtain ⟨te, hte⟩ : ∃ l, Lx.outE t = l := ⟨_, rfl⟩
      have hts : te = 0 → t.size ≤ 20000 := fun h => size_le (hte.trans h)
      have HTS := Lib.hid hts
      rw [hnow] at hlent
      rw [hnow, hta, hte] at PC HFF
      clear hnow hta hte hts
      go_wp2_with fail
      refine (HC.out _).mono ?_
      rintro e w4 ⟨rfl, HB4⟩
      have K6 := Lib.hid (blk_below K6.out HB4.out)
      have H1 := Lib.hid (Kd.C_below (Kd.C_below H1.out HB.out) HB4.out)
      have HB := Lib.hid (HB.out.trans (HB4.out.mono HB.out.size))
      have hs4 := blk_lt K6.out
      clear s0 s1 s2 s3 s4 s5 K5 HC HB4
      go_upto_region 7 with (fail)
      go_cut [10] (fun v10 wc => ∃ g10 At ct, v10 = .pointer (some ⟨g10, 0, none⟩) ∧ w.heap.size + 1 < g10 ∧ now.length ≤ ct ∧ Hid (wc.heap[g10]? = some (.cells #[.slice At now.length ct, .int .i64 ta, .int .i64 te] 31 (0, 0))) ∧ Hid (Kd.R k50 50 wc w4.heap.size (fun _ => True) (.slice At now.length ct) now) ∧ Hid (wc.heap[w.heap.size + 1]? = some (.cells #[.slice none 0 0, .int .i64 0, .int .i64 0, .int .i64 0, .int .i64 0] 55 (0, 0))) ∧ Hid (Below w.heap.size w wc) ∧ Hid (Kd.C k50 wc A1 old.length old))
      case first =>
       go_wp2_with (go_at_call 9; refine (PC.out _).mono ?_; rintro e w5 ⟨At, ct, rfl, HR5, HB5⟩)
       go_meet
       case rel =>
        have h45 := HB5.out.size
        exact ⟨_, At, ct, rfl, by omega, (Kd.R_reads' HR5.out).2.1, Lib.hid (blk_new _ _), Lib.hid (Kd.R_below HR5.out (below_alloc (Below.refl _ _) _)), Lib.hid (blk_alloc (blk_below K6.out HB5.out) _), Lib.hid (below_alloc (HB.out.trans (HB5.out.mono HB.out.size)) _), Lib.hid (Kd.C_below (Kd.C_below H1.out HB5.out) (below_alloc (Below.refl _ _) _))⟩
      case rest =>
       obtain ⟨g10, At, ct, rfl, hg10, hgt, HG10, HRt, K6c, HBc, H1c⟩ := hcut
       clear PC K6 HB H1
       rename World => W2
       obtain ⟨o0, o1, o2, o3, o4, o5⟩ := three_cells HG10.out
       have RDo := H1c
       have RDn := Lib.hid ((Kd.R_reads' HRt.out).2.2)
       have hs6 := blk_lt K6c.out
       by_cases he : te = 0
       ·have x1 : (te != 0) = false := by simpa using he
        have hszt := HTS.out he
        have hff := HFF.out
        rw [if_pos he] at hff
        simp only [Option.some.injEq, Prod.mk.injEq] at hff
        obtain ⟨rfl, e2, e3, e4, e5⟩ := hff
        have E2 := Lib.hid e2
        have E3 := Lib.hid e3
        subst e4 e5
        clear he HFF HTS e2 e3
        obtain ⟨M, hM⟩ : ∃ M, updMost old now = M := ⟨_, rfl⟩
        have HM := Lib.hid hM
        have hMo : M ≤ old.length := by rw [← hM]; unfold updMost; split <;> omega
        have hMn : M ≤ now.length := by rw [← hM]; unfold updMost; split <;> omega
        clear hM
        go_upto_region 10 with (fail)
        go_cut [11] (fun v11 wc => v11 = .int .i64 (M : Nat) ∧ W2 = wc)
        case first =>
         go_wp2_with fail
         all_goals
          go_meet
          case rel =>
           refine ⟨?_, rfl⟩
           rw [← HM.out]
           unfold updMost
           first | rw [if_pos (by omega)] | rw [if_neg (by omega)]
        case rest =>
         obtain ⟨rfl, rfl⟩ := hcut
         go_wp2_with fail
         clear o0 o1 o2 o3 o4 o5
         go_loopg [] M (fun kq wr => ∃ f : Nat, kq + f = M ∧ Hid (Below W2.heap.size W2 wr) ∧ Hid (wr.heap[W2.heap.size]? = some (.cells #[.int .i64 f, .int .i64 0] 46 (0, 0))) ∧ Hid (updCommon old now = f + updCommon (old.drop f) (now.drop f)))
         case atStart => exact ⟨0, by omega, Lib.hid (below_alloc (Below.refl _ _) _), Lib.hid (blk_new _ _), Lib.hid (by simp)⟩
         case round =>
          obtain ⟨f, hkf, HBr, HKr, HCr⟩ := hrel
          have hfM : f ≤ M := by omega
          have HKF := Lib.hid hkf
          clear hkf
          obtain ⟨v, hv⟩ : ∃ v : Bool, (decide (f < M) && updEq (rd_T50 old (f : Int)) (rd_T50 now (f : Int))) = v := ⟨_, rfl⟩
          have HV := Lib.hid hv
          clear hv
          go_upto_region 12 with (fail)
          go_cut [70] (fun v70 wc => v70 = .bool v ∧ Hid (Below W2.heap.size W2 wc) ∧ Hid (wc.heap[W2.heap.size]? = some (.cells #[.int .i64 f, .int .i64 0] 46 (0, 0))))
          case first =>
           obtain ⟨x0, x1', y0, y1⟩ := two_cells HKr.out
           obtain ⟨o7, o8, o9, _⟩ := three_cells (blk_below HG10.out HBr.out)
           by_cases hlt : f < M
           ·have hd5 : decide ((f : Int) < M) = true := decide_eq_true (by omega)
            obtain ⟨ad, had, o0, o1, o2⟩ := at_T50 (Kd.C_below RDo.out HBr.out) (f : Int) (by omega) (by omega)
            obtain ⟨an, han, n0, n1, n2⟩ := at_T50 (Kd.C_below RDn.out HBr.out) (f : Int) (by omega) (by omega)
            subst had
            subst han
            rw [Int.toNat_natCast] at o0 o1 o2 n0 n1 n2
            have hi0 : (0 : Int) ≤ f := by omega
            have hi1 : (f : Int) < old.length := by omega
            have hi2 : (f : Int) < now.length := by omega
            go_quiet (fail)
            go_wp2
            go_meet
            case rel =>
             refine ⟨?_, Lib.hid (pw_below_drewN HBr.out _), Lib.hid (blk_drewN HKr.out _)⟩
             rw [← HV.out, decide_eq_true hlt, Bool.true_and]
             rfl
           ·have hd5 : decide ((f : Int) < M) = false := decide_eq_false (by omega)
            go_quiet (fail)
            go_wp2
            go_meet
            case rel =>
             refine ⟨?_, Lib.hid (pw_below_drewN HBr.out _), Lib.hid (blk_drewN HKr.out _)⟩
             rw [← HV.out, decide_eq_false hlt, Bool.false_and]
          case rest =>
           obtain ⟨rfl, HBc2, HKc⟩ := hcut
           clear HBr HKr
           obtain ⟨x0, x1', y0, y1⟩ := two_cells HKc.out
           cases v with
           | true =>
            have hb := HV.out
            rw [Bool.and_eq_true] at hb
            have hlt := of_decide_eq_true hb.1
            have HS := Lib.hid (updCommon_step old now f (by omega) (by omega))
            have HQ := Lib.hid hb.2
            have hw : IntKind.i64.wrap ((f : Int) + 1) = (f : Int) + 1 := IntWalk.i64_in _ (by omega)
            clear hb
            go_wp2_with fail
            go_roundg (gk - 1)
            case measure => have := HKF.out; omega
            case rel =>
             refine ⟨f + 1, by have := HKF.out; omega, Lib.hid ?_, Lib.hid ?_, Lib.hid ?_⟩
             ·exact HBc2.out.setCell (by simp) _
             ·exact blk_put HKc.out 0 _ (by simp)
             ·have h1 := HCr.out
              rw [HS.out, if_pos HQ.out] at h1
              omega
           | false =>
            have HF : Hid (updFront old now = f) := Lib.hid (by
             unfold updFront
             rw [HCr.out]
             by_cases hlt : f < M
             ·have hb := HV.out
              rw [decide_eq_true hlt, Bool.true_and] at hb
              rw [updCommon_step old now f (by omega) (by omega), if_neg (by rw [hb]; simp), Nat.add_zero]
             ·rw [updCommon_end old now f (by have := HM.out; unfold updMost at this; split at this <;> omega), Nat.add_zero])
            clear HCr HV HKF x0 x1' y0 y1
            go_wp2_with fail
            obtain ⟨by_, hby⟩ : ∃ by_ : Int, (t.size : Int) - a0.size = by_ := ⟨_, rfl⟩
            have hby0 : -20000 ≤ by_ := by omega
            have hby1 : by_ ≤ 20000 := by omega
            have HBY := Lib.hid hby
            clear hby
            obtain ⟨ro, hro⟩ : ∃ r, (old.map (updShift by_)).reverse = r := ⟨_, rfl⟩
            obtain ⟨rn, hrn⟩ : ∃ r, now.reverse = r := ⟨_, rfl⟩
            have hlo : ro.length = old.length := by rw [← hro]; simp
            have hln : rn.length = now.length := by rw [← hrn]; simp
            have HRO := Lib.hid hro
            have HRN := Lib.hid hrn
            have HLO := Lib.hid hlo
            have HLN := Lib.hid hln
            clear hro hrn hlo hln
            go_loopg [] (M - f) (fun kq wr => ∃ b : Nat, kq + b = M - f ∧ Hid (Below W2.heap.size W2 wr) ∧ Hid (wr.heap[W2.heap.size]? = some (.cells #[.int .i64 f, .int .i64 b] 46 (0, 0))) ∧ Hid (updCommon ro rn = b + updCommon (ro.drop b) (rn.drop b)))
            case atStart => exact ⟨0, by omega, HBc2, HKc, Lib.hid (by simp)⟩
            case round =>
             clear HBc2 HKc
             obtain ⟨b, hkb, HBr, HKr, HCb⟩ := hrel
             have hbM : f + b ≤ M := by omega
             have HKB := Lib.hid hkb
             clear hkb
             obtain ⟨x0, x1', y0, y1⟩ := two_cells HKr.out
             have hw1 : IntKind.i64.wrap ((f : Int) + b) = (f : Int) + b := IntWalk.i64_in _ (by omega)
             by_cases hlt : f + b < M
             ·have hd5 : decide ((f : Int) + b < M) = true := decide_eq_true (by omega)
              obtain ⟨ad, had, o0, o1, o2⟩ := at_T50 (Kd.C_below RDo.out HBr.out) ((old.length : Int) - 1 - b) (by omega) (by omega)
              subst had
              have hi1 : (0 : Int) ≤ (old.length : Int) - 1 - b := by omega
              have hi2 : (old.length : Int) - 1 - b < old.length := by omega
              obtain ⟨p, hp⟩ : ∃ p, rd_T50 old ((old.length : Int) - 1 - b) = p := ⟨_, rfl⟩
              rw [hp, show ((old.length : Int) - 1 - b).toNat = old.length - 1 - b from by omega] at o0 o1 o2
              have HP := Lib.hid hp
              clear hp
              have hl5 : W2.heap.size < wr.heap.size := blk_lt HKr.out
              have hl6 : W2.heap.size ≤ wr.heap.size := Nat.le_of_lt hl5
              go_upto_region 15 with (fail)
              go_cut [13] (fun v13 wc => ∃ g : Nat, v13 = .pointer (some ⟨g, 0, none⟩) ∧ W2.heap.size < g ∧ Hid (Below W2.heap.size W2 wc) ∧ Hid (wc.heap[W2.heap.size]? = some (.cells #[.int .i64 f, .int .i64 b] 46 (0, 0))) ∧ Hid (wc.heap[g]? = some (.cells #[.int .i64 p.f0, .int .i64 p.f1, .int .i64 p.f2] 50 (0, 0))))
              case first =>
               go_wp2_with fail
               go_meet
               case rel => exact ⟨_, rfl, hl5, Lib.hid (Below.alloc HBr.out hl6 _), Lib.hid (blk_alloc HKr.out _), Lib.hid (blk_new _ _)⟩
              case rest =>
               obtain ⟨g, rfl, hg5, HBe, HKc, HGc⟩ := hcut
               clear x0 x1' y0 y1 o0 o1 o2 HBr HKr
               obtain ⟨o0, o1, o2, o3, o4, o5⟩ := three_cells HGc.out
               have hne1 : W2.heap.size ≠ g := by omega
               have hne2 : g ≠ W2.heap.size := by omega
               have hwz : wrap64 (wrap64 (p.f1 + t.size) - a0.size) = wrap64 (p.f1 + by_) := by
                rw [← HBY.out]
                unfold wrap64
                omega
               have HWZ := Lib.hid hwz
               clear hwz
               go_upto_region 17 with (fail)
               go_name_world X hX
               have HBX : Hid (Below W2.heap.size W2 X) := Lib.hid (hX ▸ HBe.out.setCell (by simp; omega) _)
               have HKX : Hid (X.heap[W2.heap.size]? = some (.cells #[.int .i64 f, .int .i64 b] 46 (0, 0))) := Lib.hid (hX ▸ blk_far HKc.out (by simp; omega) _)
               have HGX : Hid (X.heap[g]? = some (.cells #[.int .i64 p.f0, .int .i64 (wrap64 (p.f1 + by_)), .int .i64 p.f2] 50 (0, 0))) := Lib.hid (by rw [← HWZ.out]; exact hX ▸ blk_put HGc.out 1 _ rfl)
               clear hX o0 o1 o2 o3 o4 o5
               obtain ⟨an, han, n0, n1, n2⟩ := at_T50 (Kd.C_below RDn.out HBX.out) ((now.length : Int) - 1 - b) (by omega) (by omega)
               subst han
               have hi3 : (0 : Int) ≤ (now.length : Int) - 1 - b := by omega
               have hi4 : (now.length : Int) - 1 - b < now.length := by omega
               obtain ⟨q, hq⟩ : ∃ q, rd_T50 now ((now.length : Int) - 1 - b) = q := ⟨_, rfl⟩
               rw [hq, show ((now.length : Int) - 1 - b).toNat = now.length - 1 - b from by omega] at n0 n1 n2
               have HQ := Lib.hid hq
               clear hq
               obtain ⟨v, hv⟩ : ∃ v : Bool, updEq (updShift by_ p) q = v := ⟨_, rfl⟩
               have HV := Lib.hid hv
               clear hv
               go_cut [112] (fun v112 wc => v112 = .bool (!v) ∧ Hid (Below W2.heap.size W2 wc) ∧ Hid (wc.heap[W2.heap.size]? = some (.cells #[.int .i64 f, .int .i64 b] 46 (0, 0))))
               case first =>
                obtain ⟨x0, x1', y0, y1⟩ := two_cells HKX.out
                obtain ⟨o0, o1, o2, o3, o4, o5⟩ := three_cells HGX.out
                obtain ⟨o7, o8, o9, _⟩ := three_cells (blk_below HG10.out HBX.out)
                go_quiet (fail)
                go_wp2
                go_meet
                case rel =>
                 refine ⟨?_, Lib.hid (pw_below_drewN HBX.out _), Lib.hid (blk_drewN HKX.out _)⟩
                 rw [← HV.out]
                 simp only [updEq, updShift, Bool.not_and]
               case rest =>
                obtain ⟨rfl, HBd, HKd⟩ := hcut
                clear HBX HKX HGX n0 n1 n2
                obtain ⟨x0, x1', y0, y1⟩ := two_cells HKd.out
                have hw2 : IntKind.i64.wrap ((b : Int) + 1) = (b : Int) + 1 := IntWalk.i64_in _ (by omega)
                have HS := Lib.hid (updCommon_step ro rn b (by have := HLO.out; omega) (by have := HLN.out; omega))
                cases v with
                | true =>
                 go_wp2_with fail
                 go_roundg (gk - 1)
                 case measure => have := HKB.out; omega
                 case rel =>
                  refine ⟨b + 1, by have := HKB.out; omega, Lib.hid ?_, Lib.hid ?_, Lib.hid ?_⟩
                  ·exact HBd.out.setCell (by simp) _
                  ·exact blk_put HKd.out 1 _ (by simp)
                  ·have h1 := HCb.out
                   have hrv : updEq (rd_T50 ro (b : Int)) (rd_T50 rn (b : Int)) = true := by
                    rw [rev_at HRO.out (by omega), rev_now HRN.out (by omega), HP.out, HQ.out]
                    exact HV.out
                   rw [HS.out, if_pos hrv] at h1
                   omega
                | false =>
                 have K6X := Lib.hid (blk_below K6c.out HBd.out)
                 obtain ⟨p0, p1, p2, p3, p4, q0, q1, q2, q3, q4⟩ := rup_cells K6X.out
                 obtain ⟨o7, o8, o9, _⟩ := three_cells (blk_below HG10.out HBd.out)
                 have HBK : Hid (updBack old now by_ = b) := Lib.hid (by
                  have h1 := HCb.out
                  have hrv : ¬ updEq (rd_T50 ro (b : Int)) (rd_T50 rn (b : Int)) = true := by
                   rw [rev_at HRO.out (by omega), rev_now HRN.out (by omega), HP.out, HQ.out]
                   have := HV.out
                   rw [this]
                   simp
                  rw [HS.out, if_neg hrv] at h1
                  unfold updBack
                  rw [HM.out, HF.out, HRO.out, HRN.out, h1]
                  omega)
                 go_wp2_with fail
                 obtain ⟨WF, hWF⟩ : ∃ WF, ((((wc.setCell ⟨w.heap.size + 1, 0, none⟩ (.slice (some an) now.length ct)).setCell ⟨w.heap.size + 1, 1, none⟩ (.int .i64 f)).setCell ⟨w.heap.size + 1, 2, none⟩ (.int .i64 b)).setCell ⟨w.heap.size + 1, 3, none⟩ (.int .i64 0)).setCell ⟨w.heap.size + 1, 4, none⟩ (.int .i64 0) = WF := ⟨_, rfl⟩
                 rw [hWF]
                 have hb6 := hWF ▸ rup_put (a' := .slice (some an) now.length ct) (b' := .int .i64 f) (c' := .int .i64 b) (d' := .int .i64 0) (e' := .int .i64 0) K6X.out
                 have hbw : Below w.heap.size w WF := hWF ▸ rup_below (HBc.out.trans (HBd.out.mono HBc.out.size)) (by omega)
                 obtain ⟨z0, z1, z2, z3, z4, _⟩ := rup_cells hb6
                 have hRF := hWF ▸ rup_R (w := w) (a := .slice (some an) now.length ct) (b := .int .i64 f) (c := .int .i64 b) (d := .int .i64 0) (e := .int .i64 0) HRt.out hs4 HBd.out
                 refine bodyPost_ret (v := .agg #[.slice (some an) now.length ct, .int .i64 f, .int .i64 b, .int .i64 0, .int .i64 0]) (by simp [results, Tryz.results24, go_sem, z0, z1, z2, z3, z4]) rfl ⟨_, ?_, hRF, hbw⟩
                 rw [← E2.out, ← E3.out, HF.out, HBY.out, HBK.out]
             ·have hd5 : decide ((f : Int) + b < M) = false := decide_eq_false (by omega)
              have K6X := Lib.hid (blk_below K6c.out HBr.out)
              obtain ⟨p0, p1, p2, p3, p4, q0, q1, q2, q3, q4⟩ := rup_cells K6X.out
              obtain ⟨o7, o8, o9, _⟩ := three_cells (blk_below HG10.out HBr.out)
              have HBK : Hid (updBack old now by_ = b) := Lib.hid (by
               have h1 := HCb.out
               unfold updBack
               rw [HM.out, HF.out, HRO.out, HRN.out, h1]
               omega)
              go_wp2_with fail
              obtain ⟨WF, hWF⟩ : ∃ WF, ((((wr.setCell ⟨w.heap.size + 1, 0, none⟩ (.slice At now.length ct)).setCell ⟨w.heap.size + 1, 1, none⟩ (.int .i64 f)).setCell ⟨w.heap.size + 1, 2, none⟩ (.int .i64 b)).setCell ⟨w.heap.size + 1, 3, none⟩ (.int .i64 0)).setCell ⟨w.heap.size + 1, 4, none⟩ (.int .i64 0) = WF := ⟨_, rfl⟩
              rw [hWF]
              have hb6 := hWF ▸ rup_put (a' := .slice At now.length ct) (b' := .int .i64 f) (c' := .int .i64 b) (d' := .int .i64 0) (e' := .int .i64 0) K6X.out
              have hbw : Below w.heap.size w WF := hWF ▸ rup_below (HBc.out.trans (HBr.out.mono HBc.out.size)) (by omega)
              obtain ⟨z0, z1, z2, z3, z4, _⟩ := rup_cells hb6
              have hRF := hWF ▸ rup_R (w := w) (a := .slice At now.length ct) (b := .int .i64 f) (c := .int .i64 b) (d := .int .i64 0) (e := .int .i64 0) HRt.out hs4 HBr.out
              refine bodyPost_ret (v := .agg #[.slice At now.length ct, .int .i64 f, .int .i64 b, .int .i64 0, .int .i64 0]) (by simp [results, Tryz.results24, go_sem, z0, z1, z2, z3, z4]) rfl ⟨_, ?_, hRF, hbw⟩
              rw [← E2.out, ← E3.out, HF.out, HBY.out, HBK.out]
       ·have x1 : (te != 0) = true := by simpa using he
        have hff := HFF.out
        rw [if_neg he] at hff
        obtain ⟨rfl, rfl, rfl, rfl, rfl⟩ : [] = r1 ∧ 0 = r2 ∧ 0 = r3 ∧ ta = r4 ∧ te = r5 := by simpa using hff
        clear hff he HFF HTS
        obtain ⟨p0, p1, p2, p3, p4, q0, q1, q2, q3, q4⟩ := rup_cells K6c.out
        go_wp2
        obtain ⟨WF, hWF⟩ : ∃ WF, ((((W2.setCell ⟨w.heap.size + 1, 0, none⟩ (.slice none 0 0)).setCell ⟨w.heap.size + 1, 1, none⟩ (.int .i64 0)).setCell ⟨w.heap.size + 1, 2, none⟩ (.int .i64 0)).setCell ⟨w.heap.size + 1, 3, none⟩ (.int .i64 ta)).setCell ⟨w.heap.size + 1, 4, none⟩ (.int .i64 te) = WF := ⟨_, rfl⟩
        rw [hWF]
        have hb6 := hWF ▸ rup_put (a' := .slice none 0 0) (b' := .int .i64 0) (c' := .int .i64 0) (d' := .int .i64 ta) (e' := .int .i64 te) K6c.out
        have hbw : Below w.heap.size w WF := hWF ▸ rup_below HBc.out (by omega)
        obtain ⟨z0, z1, z2, z3, z4, _⟩ := rup_cells hb6
        refine bodyPost_ret (v := .agg #[.slice none 0 0, .int .i64 0, .int .i64 0, .int .i64 ta, .int .i64 te]) (by simp [results, Tryz.results24, go_sem, z0, z1, z2, z3, z4]) rfl ⟨_, rfl, ?_, hbw⟩
        exact Kd.R_nil _ _ _ _ _
     ·rw [if_neg hz] at hff
      cases hff
    ·rw [if_neg hsp] at hff
     obtain ⟨rfl, rfl, rfl, rfl, rfl⟩ : [] = r1 ∧ 0 = r2 ∧ 0 = r3 ∧ 0 = r4 ∧ 1 = r5 := by simpa using hff
     have HC := Lib.hid (rup_no a0 x y z hsz (by simpa using hsp))
     clear hff hsp
     go_wp2_with fail
     refine (HC.out _).mono ?_
     rintro e w4 ⟨rfl, HB4⟩
     have K6 := Lib.hid (blk_below K6.out HB4.out)
     have HB := Lib.hid (HB.out.trans (HB4.out.mono HB.out.size))
     clear s0 s1 s2 s3 s4 s5 K5 HC HB4
     obtain ⟨p0, p1, p2, p3, p4, q0, q1, q2, q3, q4⟩ := rup_cells K6.out
     go_wp2
     obtain ⟨WF, hWF⟩ : ∃ WF, ((((w4.setCell ⟨w.heap.size + 1, 0, none⟩ (.slice none 0 0)).setCell ⟨w.heap.size + 1, 1, none⟩ (.int .i64 0)).setCell ⟨w.heap.size + 1, 2, none⟩ (.int .i64 0)).setCell ⟨w.heap.size + 1, 3, none⟩ (.int .i64 0)).setCell ⟨w.heap.size + 1, 4, none⟩ (.int .i64 1) = WF := ⟨_, rfl⟩
     rw [hWF]
     have hb6 := hWF ▸ rup_put (a' := .slice none 0 0) (b' := .int .i64 0) (c' := .int .i64 0) (d' := .int .i64 0) (e' := .int .i64 1) K6.out
     have hbw : Below w.heap.size w WF := hWF ▸ rup_below HB.out (by omega)
     obtain ⟨z0, z1, z2, z3, z4, _⟩ := rup_cells hb6
     refine bodyPost_ret (v := .agg #[.slice none 0 0, .int .i64 0, .int .i64 0, .int .i64 0, .int .i64 1]) (by simp [results, Tryz.results24, go_sem, z0, z1, z2, z3, z4]) rfl ⟨_, rfl, ?_, hbw⟩
     exact Kd.R_nil _ _ _ _ _
  ·have x1 : (oe != 0) = true := by simpa using he
   have hff := HFF.out
   unfold lex_Update.f at hff
   rw [HOE.out, if_neg (fun h => he h.1)] at hff
   obtain ⟨rfl, rfl, rfl, rfl, rfl⟩ : [] = r1 ∧ 0 = r2 ∧ 0 = r3 ∧ 0 = r4 ∧ 15 = r5 := by simpa using hff
   clear hff he HFF
   go_wp2
   obtain ⟨WF, hWF⟩ : ∃ WF, ((((wc.setCell ⟨w.heap.size + 1, 0, none⟩ (.slice none 0 0)).setCell ⟨w.heap.size + 1, 1, none⟩ (.int .i64 0)).setCell ⟨w.heap.size + 1, 2, none⟩ (.int .i64 0)).setCell ⟨w.heap.size + 1, 3, none⟩ (.int .i64 0)).setCell ⟨w.heap.size + 1, 4, none⟩ (.int .i64 15) = WF := ⟨_, rfl⟩
   rw [hWF]
   have hb6 := hWF ▸ rup_put (a' := .slice none 0 0) (b' := .int .i64 0) (c' := .int .i64 0) (d' := .int .i64 0) (e' := .int .i64 15) K6.out
   have hbw : Below w.heap.size w WF := hWF ▸ rup_below HB.out (by omega)
   obtain ⟨z0, z1, z2, z3, z4, _⟩ := rup_cells hb6
   exact bodyPost_ret (v := .agg #[.slice none 0 0, .int .i64 0, .int .i64 0, .int .i64 0, .int .i64 15]) (by simp [results, Tryz.results24, go_sem, z0, z1, z2, z3, z4]) rfl ⟨_, rfl, Kd.R_nil _ _ _ _ _, hbw⟩
theorem skerryref01_Update.calls (a0 : ByteArray) (A1 : Option Addr) (c1 : Nat) (l1 : List (S50)) (a2_0 : Int) (a2_1 : Int) (a2_2 : ByteArray) (r1 : List (S50)) (r2 : Int) (r3 : Int) (r4 : Int) (r5 : Int) (w : World) (hr1 : Kd.C k50 w A1 l1.length l1) (hc1 : l1.length ≤ c1) (h : skerryref01_Update.f a0 l1 a2_0 a2_1 a2_2 = some (r1, r2, r3, r4, r5)) :
  Calls Tryz.prog 24 #[.string a0, .slice A1 l1.length c1, .agg #[.int .i64 a2_0, .int .i64 a2_1, .string a2_2]] w fun e w' => ∃ v0_ : Value, e = .returned (.agg #[v0_, .int .i64 r2, .int .i64 r3, .int .i64 r4, .int .i64 r5]) ∧ Kd.R k50 50 w' w.heap.size (fun _ => True) v0_ r1 ∧ Below w.heap.size w w' := by
 unfold skerryref01_Update.f at h
 split at h
 ·rename_i hs
  exact rup_walk a0 hs A1 c1 l1 a2_0 a2_1 a2_2 r1 r2 r3 r4 r5 h w hr1 hc1
 ·cases h


/-! ### skerrylaw01_updates: function 8 -/
def skerrylaw01_updates.f (k : Nat) (a0 : ByteArray) (l1 : List (S50)) (a2_0 : Int) (a2_1 : Int) (a2_2 : ByteArray) : Option (Bool) := (lex_Update.f a0 l1 a2_0 a2_1 a2_2).bind fun bt191 => ((skerryref01_Update.f a0 l1 a2_0 a2_1 a2_2).bind fun bt199 => (if bt191.2.2.2.2 = bt199.2.2.2.2 then (if bt191.2.2.2.1 = bt199.2.2.2.1 then (if (bt191.2.1 == bt199.2.1 && (bt191.2.2.1 == bt199.2.2.1)) = true then ((skerryref01_SamePieces.f k bt191.1 bt199.1).bind fun t207 => (some t207)) else (some false)) else (some false)) else (some false)))
theorem skerrylaw01_updates.mono : ∀ a0 a1 a2 a3 a4 k, LeO (skerrylaw01_updates.f k a0 a1 a2 a3 a4) (skerrylaw01_updates.f (k + 1) a0 a1 a2 a3 a4) := by
 intro a0 a1 a2 a3 a4 k
 unfold skerrylaw01_updates.f
 repeat' first
   | (with_reducible exact skerryref01_SamePieces.mono _ _ _)
   | (with_reducible exact LeO.refl _)
   | (with_reducible exact LeO.none _)
   | (with_reducible refine LeO.ite ?_ ?_)
   | (with_reducible refine LeO.bind ?_ (fun _ => ?_))
   | exact skerryref01_SamePieces.mono _ _ _
   | exact LeO.none _
   | refine LeO.ite ?_ ?_
   | refine LeO.bind ?_ (fun _ => ?_)
set_option maxHeartbeats 8000000 in
set_option maxRecDepth 100000 in
theorem skerrylaw01_updates.calls (k : Nat) (a0 : ByteArray) (A1 : Option Addr) (c1 : Nat) (l1 : List (S50)) (a2_0 : Int) (a2_1 : Int) (a2_2 : ByteArray) (r : Bool) (w : World) (hr1 : Kd.C k50 w A1 l1.length l1) (hc1 : l1.length ≤ c1) (h : skerrylaw01_updates.f k a0 l1 a2_0 a2_1 a2_2 = some r) (hE : Lx.Env w) :
  Calls Tryz.prog 8 #[.string a0, .slice A1 l1.length c1, .agg #[.int .i64 a2_0, .int .i64 a2_1, .string a2_2]] w fun e w' => e = .returned (.bool r) ∧ Below w.heap.size w w' := by
 have HE := Lib.hid hE
 clear hE
 have hu24 := Tryz.underlying24
 have hu46 := Tryz.underlying46
 have hu55 := Tryz.underlying55
 have HR1 := Aside0.mk hr1
 have HC1 := Aside0.mk hc1
 clear hr1 hc1
 have HB := Aside0.mk (Below.refl w.heap.size w)
 have H : ((lex_Update.f a0 l1 a2_0 a2_1 a2_2).bind fun bt191 => ((skerryref01_Update.f a0 l1 a2_0 a2_1 a2_2).bind fun bt199 => (if bt191.2.2.2.2 = bt199.2.2.2.2 then (if bt191.2.2.2.1 = bt199.2.2.2.1 then (if (bt191.2.1 == bt199.2.1 && (bt191.2.2.1 == bt199.2.2.1)) = true then ((skerryref01_SamePieces.f k bt191.1 bt199.1).bind fun t207 => (some t207)) else (some false)) else (some false)) else (some false)))) = some r := h
 clear h
 replace H := Option.bind_eq_some_iff.mp H
 obtain ⟨⟨t191, t194, t195, t196, t197⟩, A40, H⟩ := H
 replace H : ((skerryref01_Update.f a0 l1 a2_0 a2_1 a2_2).bind fun bt199 => (if t197 = bt199.2.2.2.2 then (if t196 = bt199.2.2.2.1 then (if (t194 == bt199.2.1 && (t195 == bt199.2.2.1)) = true then ((skerryref01_SamePieces.f k t191 bt199.1).bind fun t207 => (some t207)) else (some false)) else (some false)) else (some false))) = some r := H
 have A4 := Aside0.mk A40
 clear A40
 replace H := Option.bind_eq_some_iff.mp H
 obtain ⟨⟨t199, t202, t203, t204, t205⟩, A50, H⟩ := H
 replace H : (if t197 = t205 then (if t196 = t204 then (if (t194 == t202 && (t195 == t203)) = true then ((skerryref01_SamePieces.f k t191 t199).bind fun t207 => (some t207)) else (some false)) else (some false)) else (some false)) = some r := H
 have A5 := Aside0.mk A50
 clear A50
 by_cases c6 : t197 = t205
 ·rw [if_pos c6] at H
  have c6b0 : (t197 == t205) = true := beq_iff_eq.mpr c6
  have c6b1 : (t197 != t205) = false := bne_eq_false_iff_eq.mpr c6
  clear c6
  by_cases c7 : t196 = t204
  ·rw [if_pos c7] at H
   have c7b0 : (t196 == t204) = true := beq_iff_eq.mpr c7
   have c7b1 : (t196 != t204) = false := bne_eq_false_iff_eq.mpr c7
   clear c7
   by_cases c8 : (t194 == t202 && (t195 == t203)) = true
   ·rw [if_pos c8] at H
    have c8b0 : (t194 == t202 && (t195 == t203)) = true := c8
    (try (have c8b1 : decide (t194 = t202 && (t195 == t203)) = true := by simpa using c8))
    (try (have c8b2 : (t194 == t202 && (t195 == t203)) = true := by simpa using c8))
    clear c8
    replace H := Option.bind_eq_some_iff.mp H
    obtain ⟨t207, A90, H⟩ := H
    replace H : (some t207) = some r := H
    have A9 := Aside0.mk A90
    clear A90
    obtain rfl := Option.some.inj H
    go_enter Tryz.func8, Tryz.ntmps8
    go_wp2_with (first | ((with_reducible refine gate_dst (N := 5) rfl ?_); refine box_event ?hg (N := 5) ?hd (cs := #[.int .i64 a2_0, .int .i64 a2_1, .string a2_2]) (t := 24) ?hr ?_; (case hd => rfl); (case hg => rfl); (case hr => first | (go_simp; done) | (go_simp; rfl)); intro gb190 hg w10 hbox hb; have n0_ := Aside0.mk (below_step (by repeat (first | (with_reducible first | exact HB.out | apply below_alloc | apply pw_below_drewN | apply below_drew1) | exact HB.out)) hb); have n1_ := Aside0.mk (hbox); have n2_ := Aside0.mk ((by rw [hg]; exact (below_size (by repeat (first | (with_reducible first | exact HB.out | apply below_alloc | apply pw_below_drewN | apply below_drew1) | exact HB.out))) : w.heap.size ≤ gb190)); have n3_ := Aside0.mk ((by rw [hg]; exact (below_size (by repeat (first | (with_reducible first | exact HB.out | apply below_alloc | apply pw_below_drewN | apply below_drew1) | exact HB.out))) : w.heap.size ≤ gb190)); clear HB; have HB := n0_; have BK190 := n1_; have GW190 := n2_; have GE190 := n3_; clear n0_ n1_ n2_ n3_; clear hb hbox hg; have hcz11_0 : w10.cell? ⟨gb190, 0, none⟩ = some (.int .i64 a2_0) := (blk_cell BK190.out 0).trans rfl; have hcz11_1 : w10.cell? ⟨gb190, 1, none⟩ = some (.int .i64 a2_1) := (blk_cell BK190.out 1).trans rfl; have hcz11_2 : w10.cell? ⟨gb190, 2, none⟩ = some (.string a2_2) := (blk_cell BK190.out 2).trans rfl; have hfz11_0 := blk_frozen BK190.out 0; have hfz11_1 := blk_frozen BK190.out 1; have hfz11_2 := blk_frozen BK190.out 2) | ((with_reducible refine gate_callee (f := 20) rfl ?_); refine goesL_ (some 16) rfl rfl Tryz.func20 (by kernel_rfl) rfl #[.string a0, .slice A1 l1.length c1, .agg #[.int .i64 a2_0, .int .i64 a2_1, .string a2_2]] rfl (by (try simp only [List.map_toArray, List.map_cons, List.map_nil]); first | done | rfl | (simp only [List.length_drop, List.length_take]; rfl)) ?_; (with_reducible refine (lex_Update.calls a0 _ _ l1 a2_0 a2_1 a2_2 t191 t194 t195 t196 t197 _ ?side1 ?side2 A4.out (Lx.Env.below HE.out (by repeat (first | (with_reducible first | exact HB.out | apply below_alloc | apply pw_below_drewN | apply below_drew1 | refine below_set ?_ GE190.out | refine below_set ?_ GE198.out | refine below_set ?_ GE206.out) | exact HB.out)))).mono ?_); (case side1 => repeat (first | exact (Kd.C_below HR1.out HB.out) | (with_reducible refine Kd.C_alloc ?_ _) | (with_reducible refine Kd.C_drewN ?_ _) | (with_reducible refine Kd.C_drew ?_))); (case side2 => exact HC1.out); rintro e w12 ⟨v192, rfl, ho0, hb⟩; refine ⟨_, rfl, ?_⟩; have n0_ := Aside0.mk (Kd.R_lower ho0 (below_size (by repeat (first | (with_reducible first | exact HB.out | apply below_alloc | apply pw_below_drewN | apply below_drew1 | refine below_set ?_ GE190.out) | exact HB.out)))); have n1_ := Aside0.mk (blk_below (g := gb190) (o := .cells #[.int .i64 a2_0, .int .i64 a2_1, .string a2_2] 24 (0, 0)) (by (with_reducible repeat (first | refine blk_drewN ?_ _ | refine blk_drew ?_ | refine blk_alloc ?_ _)); exact BK190.out) hb); have n2_ := Aside0.mk (below_step (by repeat (first | (with_reducible first | exact HB.out | apply below_alloc | apply pw_below_drewN | apply below_drew1 | refine below_set ?_ GE190.out) | exact HB.out)) hb); clear BK190; clear HB; have HO193 := n0_; have BK190 := n1_; have HB := n2_; clear n0_ n1_ n2_; (try clear hb); (try clear hb2); (try clear hk); (try clear hi); (try clear ho0)) | ((with_reducible refine gate_dst (N := 8) rfl ?_); refine box_event ?hg (N := 8) ?hd (cs := #[.int .i64 0, .int .i64 0]) (t := 46) ?hr ?_; (case hd => rfl); (case hg => rfl); (case hr => first | (go_simp; done) | (go_simp; rfl)); intro gb198 hg w13 hbox hb; have n0_ := Aside0.mk (Kd.R_below (by (with_reducible repeat (first | apply Kd.R_alloc | apply Kd.R_drewN | apply Kd.R_drew)); exact HO193.out) hb); have n1_ := Aside0.mk (blk_below (g := gb190) (o := .cells #[.int .i64 a2_0, .int .i64 a2_1, .string a2_2] 24 (0, 0)) (by (with_reducible repeat (first | refine blk_drewN ?_ _ | refine blk_drew ?_ | refine blk_alloc ?_ _)); exact BK190.out) hb); have n2_ := Aside0.mk (below_step (by repeat (first | (with_reducible first | exact HB.out | apply below_alloc | apply pw_below_drewN | apply below_drew1 | refine below_set ?_ GE190.out) | exact HB.out)) hb); have n3_ := Aside0.mk (hbox); have n4_ := Aside0.mk ((by rw [hg]; exact (below_size (by repeat (first | (with_reducible first | exact HB.out | apply below_alloc | apply pw_below_drewN | apply below_drew1 | refine below_set ?_ GE190.out) | exact HB.out))) : w.heap.size ≤ gb198)); have n5_ := Aside0.mk ((by rw [hg]; exact (below_size (by repeat (first | (with_reducible first | exact HB.out | apply below_alloc | apply pw_below_drewN | apply below_drew1 | refine below_set ?_ GE190.out) | exact HB.out))) : w.heap.size ≤ gb198)); have n6_ := Aside0.mk ((by rw [hg]; exact Nat.ne_of_lt (blk_lt (g := gb190) (o := .cells #[.int .i64 a2_0, .int .i64 a2_1, .string a2_2] 24 (0, 0)) (by (with_reducible repeat (first | refine blk_drewN ?_ _ | refine blk_drew ?_ | refine blk_alloc ?_ _)); exact BK190.out)) : gb190 ≠ gb198)); have n7_ := Aside0.mk ((by rw [hg]; exact Nat.ne_of_gt (blk_lt (g := gb190) (o := .cells #[.int .i64 a2_0, .int .i64 a2_1, .string a2_2] 24 (0, 0)) (by (with_reducible repeat (first | refine blk_drewN ?_ _ | refine blk_drew ?_ | refine blk_alloc ?_ _)); exact BK190.out)) : gb198 ≠ gb190)); clear HO193; clear BK190; clear HB; have HO193 := n0_; have BK190 := n1_; have HB := n2_; have BK198 := n3_; have GW198 := n4_; have GE198 := n5_; have NB190_198 := n6_; have NB198_190 := n7_; clear n0_ n1_ n2_ n3_ n4_ n5_ n6_ n7_; clear hb hbox hg; have hnb14 := NB198_190.out; have hnc14 := NB190_198.out; have hcz15_0 : w13.cell? ⟨gb198, 0, none⟩ = some (.int .i64 0) := (blk_cell BK198.out 0).trans rfl; have hcz15_1 : w13.cell? ⟨gb198, 1, none⟩ = some (.int .i64 0) := (blk_cell BK198.out 1).trans rfl; have hfz15_0 := blk_frozen BK198.out 0; have hfz15_1 := blk_frozen BK198.out 1; have hcz16_0 : w13.cell? ⟨gb190, 0, none⟩ = some (.int .i64 a2_0) := (blk_cell BK190.out 0).trans rfl; have hcz16_1 : w13.cell? ⟨gb190, 1, none⟩ = some (.int .i64 a2_1) := (blk_cell BK190.out 1).trans rfl; have hcz16_2 : w13.cell? ⟨gb190, 2, none⟩ = some (.string a2_2) := (blk_cell BK190.out 2).trans rfl; have hfz16_0 := blk_frozen BK190.out 0; have hfz16_1 := blk_frozen BK190.out 1; have hfz16_2 := blk_frozen BK190.out 2) | ((with_reducible refine gate_callee (f := 24) rfl ?_); refine goesL_ (some 24) rfl rfl Tryz.func24 (by kernel_rfl) rfl #[.string a0, .slice A1 l1.length c1, .agg #[.int .i64 a2_0, .int .i64 a2_1, .string a2_2]] rfl (by (try simp only [List.map_toArray, List.map_cons, List.map_nil]); first | done | rfl | (simp only [List.length_drop, List.length_take]; rfl)) ?_; (with_reducible refine (skerryref01_Update.calls a0 _ _ l1 a2_0 a2_1 a2_2 t199 t202 t203 t204 t205 _ ?side1 ?side2 A5.out).mono ?_); (case side1 => exact Kd.C_below HR1.out (by repeat (first | (with_reducible first | exact HB.out | apply below_alloc | apply pw_below_drewN | apply below_drew1 | refine below_set ?_ GE190.out | refine below_set ?_ GE198.out) | exact HB.out))); (case side2 => exact HC1.out); rintro e w17 ⟨v200, rfl, ho0, hb⟩; refine ⟨_, rfl, ?_⟩; have n0_ := Aside0.mk (Kd.R_elder' (by (with_reducible repeat (first | apply Kd.R_alloc | apply Kd.R_drewN | apply Kd.R_drew)); exact (Kd.R_mono (Kd.R_far (p := ⟨gb198, 1, none⟩) (Kd.R_far (p := ⟨gb198, 0, none⟩) (Kd.R_types HO193.out BK198.out (by decide)) (fun _ hk => hk.2) (.int .i64 t194)) (fun _ hk => hk.2) (.int .i64 t195)) (fun _ h_ => h_.1))) (Kd.R_base ho0) hb); have n1_ := Aside0.mk (Kd.R_lower (Kd.R_new' ho0 (Kd.R_lt (by (with_reducible repeat (first | apply Kd.R_alloc | apply Kd.R_drewN | apply Kd.R_drew)); exact (Kd.R_mono (Kd.R_far (p := ⟨gb198, 1, none⟩) (Kd.R_far (p := ⟨gb198, 0, none⟩) (Kd.R_types HO193.out BK198.out (by decide)) (fun _ hk => hk.2) (.int .i64 t194)) (fun _ hk => hk.2) (.int .i64 t195)) (fun _ h_ => h_.1))))) (below_size (by repeat (first | (with_reducible first | exact HB.out | apply below_alloc | apply pw_below_drewN | apply below_drew1 | refine below_set ?_ GE190.out | refine below_set ?_ GE198.out) | exact HB.out)))); have n2_ := Aside0.mk (blk_below (g := gb190) (o := .cells #[.int .i64 a2_0, .int .i64 a2_1, .string a2_2] 24 (0, 0)) (by (with_reducible repeat (first | refine blk_drewN ?_ _ | refine blk_drew ?_ | refine blk_alloc ?_ _)); refine blk_far ?_ NB190_198.out _; (with_reducible repeat (first | refine blk_drewN ?_ _ | refine blk_drew ?_ | refine blk_alloc ?_ _)); refine blk_far ?_ NB190_198.out _; (with_reducible repeat (first | refine blk_drewN ?_ _ | refine blk_drew ?_ | refine blk_alloc ?_ _)); exact BK190.out) hb); have n3_ := Aside0.mk (blk_below (g := gb198) (o := .cells #[.int .i64 t194, .int .i64 t195] 46 (0, 0)) (by (with_reducible repeat (first | refine blk_drewN ?_ _ | refine blk_drew ?_ | refine blk_alloc ?_ _)); refine blk_put (cs := #[.int .i64 t194, .int .i64 0]) ?_ 1 _ rfl; (with_reducible repeat (first | refine blk_drewN ?_ _ | refine blk_drew ?_ | refine blk_alloc ?_ _)); refine blk_put (cs := #[.int .i64 0, .int .i64 0]) ?_ 0 _ rfl; (with_reducible repeat (first | refine blk_drewN ?_ _ | refine blk_drew ?_ | refine blk_alloc ?_ _)); exact BK198.out) hb); have n4_ := Aside0.mk (below_step (by repeat (first | (with_reducible first | exact HB.out | apply below_alloc | apply pw_below_drewN | apply below_drew1 | refine below_set ?_ GE190.out | refine below_set ?_ GE198.out) | exact HB.out)) hb); clear HO193; clear BK190; clear BK198; clear HB; have HO193 := n0_; have HO201 := n1_; have BK190 := n2_; have BK198 := n3_; have HB := n4_; clear n0_ n1_ n2_ n3_ n4_; (try clear hb); (try clear hb2); (try clear hk); (try clear hi); (try clear ho0)) | ((with_reducible refine gate_dst (N := 11) rfl ?_); refine box_event ?hg (N := 11) ?hd (cs := #[.slice none 0 0, .int .i64 0, .int .i64 0, .int .i64 0, .int .i64 0]) (t := 55) ?hr ?_; (case hd => rfl); (case hg => rfl); (case hr => first | (go_simp; done) | (go_simp; rfl)); intro gb206 hg w18 hbox hb; have n0_ := Aside0.mk (Kd.R_below (by (with_reducible repeat (first | apply Kd.R_alloc | apply Kd.R_drewN | apply Kd.R_drew)); exact HO193.out) hb); have n1_ := Aside0.mk (Kd.R_below (by (with_reducible repeat (first | apply Kd.R_alloc | apply Kd.R_drewN | apply Kd.R_drew)); exact HO201.out) hb); have n2_ := Aside0.mk (blk_below (g := gb190) (o := .cells #[.int .i64 a2_0, .int .i64 a2_1, .string a2_2] 24 (0, 0)) (by (with_reducible repeat (first | refine blk_drewN ?_ _ | refine blk_drew ?_ | refine blk_alloc ?_ _)); exact BK190.out) hb); have n3_ := Aside0.mk (blk_below (g := gb198) (o := .cells #[.int .i64 t194, .int .i64 t195] 46 (0, 0)) (by (with_reducible repeat (first | refine blk_drewN ?_ _ | refine blk_drew ?_ | refine blk_alloc ?_ _)); exact BK198.out) hb); have n4_ := Aside0.mk (below_step (by repeat (first | (with_reducible first | exact HB.out | apply below_alloc | apply pw_below_drewN | apply below_drew1 | refine below_set ?_ GE190.out | refine below_set ?_ GE198.out) | exact HB.out)) hb); have n5_ := Aside0.mk (hbox); have n6_ := Aside0.mk ((by rw [hg]; exact (below_size (by repeat (first | (with_reducible first | exact HB.out | apply below_alloc | apply pw_below_drewN | apply below_drew1 | refine below_set ?_ GE190.out | refine below_set ?_ GE198.out) | exact HB.out))) : w.heap.size ≤ gb206)); have n7_ := Aside0.mk ((by rw [hg]; exact (below_size (by repeat (first | (with_reducible first | exact HB.out | apply below_alloc | apply pw_below_drewN | apply below_drew1 | refine below_set ?_ GE190.out | refine below_set ?_ GE198.out) | exact HB.out))) : w.heap.size ≤ gb206)); have n8_ := Aside0.mk ((by rw [hg]; exact Nat.ne_of_lt (blk_lt (g := gb190) (o := .cells #[.int .i64 a2_0, .int .i64 a2_1, .string a2_2] 24 (0, 0)) (by (with_reducible repeat (first | refine blk_drewN ?_ _ | refine blk_drew ?_ | refine blk_alloc ?_ _)); exact BK190.out)) : gb190 ≠ gb206)); have n9_ := Aside0.mk ((by rw [hg]; exact Nat.ne_of_gt (blk_lt (g := gb190) (o := .cells #[.int .i64 a2_0, .int .i64 a2_1, .string a2_2] 24 (0, 0)) (by (with_reducible repeat (first | refine blk_drewN ?_ _ | refine blk_drew ?_ | refine blk_alloc ?_ _)); exact BK190.out)) : gb206 ≠ gb190)); have n10_ := Aside0.mk ((by rw [hg]; exact Nat.ne_of_lt (blk_lt (g := gb198) (o := .cells #[.int .i64 t194, .int .i64 t195] 46 (0, 0)) (by (with_reducible repeat (first | refine blk_drewN ?_ _ | refine blk_drew ?_ | refine blk_alloc ?_ _)); exact BK198.out)) : gb198 ≠ gb206)); have n11_ := Aside0.mk ((by rw [hg]; exact Nat.ne_of_gt (blk_lt (g := gb198) (o := .cells #[.int .i64 t194, .int .i64 t195] 46 (0, 0)) (by (with_reducible repeat (first | refine blk_drewN ?_ _ | refine blk_drew ?_ | refine blk_alloc ?_ _)); exact BK198.out)) : gb206 ≠ gb198)); clear HO193; clear HO201; clear BK190; clear BK198; clear HB; have HO193 := n0_; have HO201 := n1_; have BK190 := n2_; have BK198 := n3_; have HB := n4_; have BK206 := n5_; have GW206 := n6_; have GE206 := n7_; have NB190_206 := n8_; have NB206_190 := n9_; have NB198_206 := n10_; have NB206_198 := n11_; clear n0_ n1_ n2_ n3_ n4_ n5_ n6_ n7_ n8_ n9_ n10_ n11_; clear hb hbox hg; obtain ⟨Ao19, co19, eo19⟩ := Kd.R_slice HO201.out; subst eo19; have hnb20 := NB206_190.out; have hnc20 := NB190_206.out; have hnb21 := NB206_198.out; have hnc21 := NB198_206.out; have hcz22_0 : w18.cell? ⟨gb206, 0, none⟩ = some (.slice none 0 0) := (blk_cell BK206.out 0).trans rfl; have hcz22_1 : w18.cell? ⟨gb206, 1, none⟩ = some (.int .i64 0) := (blk_cell BK206.out 1).trans rfl; have hcz22_2 : w18.cell? ⟨gb206, 2, none⟩ = some (.int .i64 0) := (blk_cell BK206.out 2).trans rfl; have hcz22_3 : w18.cell? ⟨gb206, 3, none⟩ = some (.int .i64 0) := (blk_cell BK206.out 3).trans rfl; have hcz22_4 : w18.cell? ⟨gb206, 4, none⟩ = some (.int .i64 0) := (blk_cell BK206.out 4).trans rfl; have hfz22_0 := blk_frozen BK206.out 0; have hfz22_1 := blk_frozen BK206.out 1; have hfz22_2 := blk_frozen BK206.out 2; have hfz22_3 := blk_frozen BK206.out 3; have hfz22_4 := blk_frozen BK206.out 4; have hcz23_0 : w18.cell? ⟨gb198, 0, none⟩ = some (.int .i64 t194) := (blk_cell BK198.out 0).trans rfl; have hcz23_1 : w18.cell? ⟨gb198, 1, none⟩ = some (.int .i64 t195) := (blk_cell BK198.out 1).trans rfl; have hfz23_0 := blk_frozen BK198.out 0; have hfz23_1 := blk_frozen BK198.out 1; obtain ⟨Ao24, co24, eo24⟩ := Kd.R_slice HO193.out; subst eo24) | (go_at_call 25; (with_reducible refine (skerryref01_SamePieces.calls k _ _ t191 _ _ t199 t207 _ ?side1 ?side2 ?side3 ?side4 A9.out).mono ?_); (case side1 => refine (Kd.R_reads' (e := 50) (base := w.heap.size) (ok := fun k_ => (True ∧ some k_ ≠ (.slice Ao19 t199.length co19 : Value).ownBlock)) (n := t191.length) (c := co24) ?_).2.2; exact (by (with_reducible repeat (first | apply Kd.R_alloc | apply Kd.R_drewN | apply Kd.R_drew)); exact (Kd.R_mono (Kd.R_far (p := ⟨gb206, 4, none⟩) (Kd.R_far (p := ⟨gb206, 3, none⟩) (Kd.R_far (p := ⟨gb206, 2, none⟩) (Kd.R_far (p := ⟨gb206, 1, none⟩) (Kd.R_far (p := ⟨gb206, 0, none⟩) (Kd.R_types HO193.out BK206.out (by decide)) (fun _ hk => hk.2) (.slice Ao19 t199.length co19)) (fun _ hk => hk.2) (.int .i64 t202)) (fun _ hk => hk.2) (.int .i64 t203)) (fun _ hk => hk.2) (.int .i64 t204)) (fun _ hk => hk.2) (.int .i64 t205)) (fun _ h_ => h_.1)))); (case side2 => exact (Kd.R_reads' HO193.out).2.1); (case side3 => refine (Kd.R_reads' (e := 50) (base := w.heap.size) (ok := fun k_ => (True ∧ some k_ ≠ (.slice Ao24 t191.length co24 : Value).ownBlock)) (n := t199.length) (c := co19) ?_).2.2; exact (by (with_reducible repeat (first | apply Kd.R_alloc | apply Kd.R_drewN | apply Kd.R_drew)); exact (Kd.R_mono (Kd.R_far (p := ⟨gb206, 4, none⟩) (Kd.R_far (p := ⟨gb206, 3, none⟩) (Kd.R_far (p := ⟨gb206, 2, none⟩) (Kd.R_far (p := ⟨gb206, 1, none⟩) (Kd.R_far (p := ⟨gb206, 0, none⟩) (Kd.R_types HO201.out BK206.out (by decide)) (fun _ hk => hk.2) (.slice Ao19 t199.length co19)) (fun _ hk => hk.2) (.int .i64 t202)) (fun _ hk => hk.2) (.int .i64 t203)) (fun _ hk => hk.2) (.int .i64 t204)) (fun _ hk => hk.2) (.int .i64 t205)) (fun _ h_ => h_.1)))); (case side4 => exact (Kd.R_reads' HO201.out).2.1); rintro e w' ⟨rfl, ⟨nd, rfl⟩⟩))
    go_ret
    exact ⟨by first | rfl | (simp [errW_none, errW_some] <;> rfl) | (simp [*, errW_none, errW_some] <;> rfl), by repeat (first | (with_reducible first | exact HB.out | apply below_alloc | apply pw_below_drewN | apply below_drew1 | refine below_set ?_ GE190.out | refine below_set ?_ GE198.out | refine below_set ?_ GE206.out) | exact HB.out)⟩
   ·rw [if_neg c8] at H
    have c8b0 : (t194 == t202 && (t195 == t203)) = false := by simpa using c8
    (try (have c8b1 : decide (t194 = t202 && (t195 == t203)) = false := by simpa using c8))
    (try (have c8b2 : (t194 == t202 && (t195 == t203)) = false := by simpa using c8))
    (try (have c8b3 : ¬ (t194 = t202 && (t195 == t203)) := by simpa using c8))
    clear c8
    obtain rfl := Option.some.inj H
    go_enter Tryz.func8, Tryz.ntmps8
    go_wp2_with (first | ((with_reducible refine gate_dst (N := 5) rfl ?_); refine box_event ?hg (N := 5) ?hd (cs := #[.int .i64 a2_0, .int .i64 a2_1, .string a2_2]) (t := 24) ?hr ?_; (case hd => rfl); (case hg => rfl); (case hr => first | (go_simp; done) | (go_simp; rfl)); intro gb190 hg w25 hbox hb; have n0_ := Aside0.mk (below_step (by repeat (first | (with_reducible first | exact HB.out | apply below_alloc | apply pw_below_drewN | apply below_drew1) | exact HB.out)) hb); have n1_ := Aside0.mk (hbox); have n2_ := Aside0.mk ((by rw [hg]; exact (below_size (by repeat (first | (with_reducible first | exact HB.out | apply below_alloc | apply pw_below_drewN | apply below_drew1) | exact HB.out))) : w.heap.size ≤ gb190)); have n3_ := Aside0.mk ((by rw [hg]; exact (below_size (by repeat (first | (with_reducible first | exact HB.out | apply below_alloc | apply pw_below_drewN | apply below_drew1) | exact HB.out))) : w.heap.size ≤ gb190)); clear HB; have HB := n0_; have BK190 := n1_; have GW190 := n2_; have GE190 := n3_; clear n0_ n1_ n2_ n3_; clear hb hbox hg; have hcz26_0 : w25.cell? ⟨gb190, 0, none⟩ = some (.int .i64 a2_0) := (blk_cell BK190.out 0).trans rfl; have hcz26_1 : w25.cell? ⟨gb190, 1, none⟩ = some (.int .i64 a2_1) := (blk_cell BK190.out 1).trans rfl; have hcz26_2 : w25.cell? ⟨gb190, 2, none⟩ = some (.string a2_2) := (blk_cell BK190.out 2).trans rfl; have hfz26_0 := blk_frozen BK190.out 0; have hfz26_1 := blk_frozen BK190.out 1; have hfz26_2 := blk_frozen BK190.out 2) | ((with_reducible refine gate_callee (f := 20) rfl ?_); refine goesL_ (some 16) rfl rfl Tryz.func20 (by kernel_rfl) rfl #[.string a0, .slice A1 l1.length c1, .agg #[.int .i64 a2_0, .int .i64 a2_1, .string a2_2]] rfl (by (try simp only [List.map_toArray, List.map_cons, List.map_nil]); first | done | rfl | (simp only [List.length_drop, List.length_take]; rfl)) ?_; (with_reducible refine (lex_Update.calls a0 _ _ l1 a2_0 a2_1 a2_2 t191 t194 t195 t196 t197 _ ?side1 ?side2 A4.out (Lx.Env.below HE.out (by repeat (first | (with_reducible first | exact HB.out | apply below_alloc | apply pw_below_drewN | apply below_drew1 | refine below_set ?_ GE190.out | refine below_set ?_ GE198.out | refine below_set ?_ GE206.out) | exact HB.out)))).mono ?_); (case side1 => repeat (first | exact (Kd.C_below HR1.out HB.out) | (with_reducible refine Kd.C_alloc ?_ _) | (with_reducible refine Kd.C_drewN ?_ _) | (with_reducible refine Kd.C_drew ?_))); (case side2 => exact HC1.out); rintro e w27 ⟨v192, rfl, ho0, hb⟩; refine ⟨_, rfl, ?_⟩; have n0_ := Aside0.mk (Kd.R_lower ho0 (below_size (by repeat (first | (with_reducible first | exact HB.out | apply below_alloc | apply pw_below_drewN | apply below_drew1 | refine below_set ?_ GE190.out) | exact HB.out)))); have n1_ := Aside0.mk (blk_below (g := gb190) (o := .cells #[.int .i64 a2_0, .int .i64 a2_1, .string a2_2] 24 (0, 0)) (by (with_reducible repeat (first | refine blk_drewN ?_ _ | refine blk_drew ?_ | refine blk_alloc ?_ _)); exact BK190.out) hb); have n2_ := Aside0.mk (below_step (by repeat (first | (with_reducible first | exact HB.out | apply below_alloc | apply pw_below_drewN | apply below_drew1 | refine below_set ?_ GE190.out) | exact HB.out)) hb); clear BK190; clear HB; have HO193 := n0_; have BK190 := n1_; have HB := n2_; clear n0_ n1_ n2_; (try clear hb); (try clear hb2); (try clear hk); (try clear hi); (try clear ho0)) | ((with_reducible refine gate_dst (N := 8) rfl ?_); refine box_event ?hg (N := 8) ?hd (cs := #[.int .i64 0, .int .i64 0]) (t := 46) ?hr ?_; (case hd => rfl); (case hg => rfl); (case hr => first | (go_simp; done) | (go_simp; rfl)); intro gb198 hg w28 hbox hb; have n0_ := Aside0.mk (Kd.R_below (by (with_reducible repeat (first | apply Kd.R_alloc | apply Kd.R_drewN | apply Kd.R_drew)); exact HO193.out) hb); have n1_ := Aside0.mk (blk_below (g := gb190) (o := .cells #[.int .i64 a2_0, .int .i64 a2_1, .string a2_2] 24 (0, 0)) (by (with_reducible repeat (first | refine blk_drewN ?_ _ | refine blk_drew ?_ | refine blk_alloc ?_ _)); exact BK190.out) hb); have n2_ := Aside0.mk (below_step (by repeat (first | (with_reducible first | exact HB.out | apply below_alloc | apply pw_below_drewN | apply below_drew1 | refine below_set ?_ GE190.out) | exact HB.out)) hb); have n3_ := Aside0.mk (hbox); have n4_ := Aside0.mk ((by rw [hg]; exact (below_size (by repeat (first | (with_reducible first | exact HB.out | apply below_alloc | apply pw_below_drewN | apply below_drew1 | refine below_set ?_ GE190.out) | exact HB.out))) : w.heap.size ≤ gb198)); have n5_ := Aside0.mk ((by rw [hg]; exact (below_size (by repeat (first | (with_reducible first | exact HB.out | apply below_alloc | apply pw_below_drewN | apply below_drew1 | refine below_set ?_ GE190.out) | exact HB.out))) : w.heap.size ≤ gb198)); have n6_ := Aside0.mk ((by rw [hg]; exact Nat.ne_of_lt (blk_lt (g := gb190) (o := .cells #[.int .i64 a2_0, .int .i64 a2_1, .string a2_2] 24 (0, 0)) (by (with_reducible repeat (first | refine blk_drewN ?_ _ | refine blk_drew ?_ | refine blk_alloc ?_ _)); exact BK190.out)) : gb190 ≠ gb198)); have n7_ := Aside0.mk ((by rw [hg]; exact Nat.ne_of_gt (blk_lt (g := gb190) (o := .cells #[.int .i64 a2_0, .int .i64 a2_1, .string a2_2] 24 (0, 0)) (by (with_reducible repeat (first | refine blk_drewN ?_ _ | refine blk_drew ?_ | refine blk_alloc ?_ _)); exact BK190.out)) : gb198 ≠ gb190)); clear HO193; clear BK190; clear HB; have HO193 := n0_; have BK190 := n1_; have HB := n2_; have BK198 := n3_; have GW198 := n4_; have GE198 := n5_; have NB190_198 := n6_; have NB198_190 := n7_; clear n0_ n1_ n2_ n3_ n4_ n5_ n6_ n7_; clear hb hbox hg; have hnb29 := NB198_190.out; have hnc29 := NB190_198.out; have hcz30_0 : w28.cell? ⟨gb198, 0, none⟩ = some (.int .i64 0) := (blk_cell BK198.out 0).trans rfl; have hcz30_1 : w28.cell? ⟨gb198, 1, none⟩ = some (.int .i64 0) := (blk_cell BK198.out 1).trans rfl; have hfz30_0 := blk_frozen BK198.out 0; have hfz30_1 := blk_frozen BK198.out 1; have hcz31_0 : w28.cell? ⟨gb190, 0, none⟩ = some (.int .i64 a2_0) := (blk_cell BK190.out 0).trans rfl; have hcz31_1 : w28.cell? ⟨gb190, 1, none⟩ = some (.int .i64 a2_1) := (blk_cell BK190.out 1).trans rfl; have hcz31_2 : w28.cell? ⟨gb190, 2, none⟩ = some (.string a2_2) := (blk_cell BK190.out 2).trans rfl; have hfz31_0 := blk_frozen BK190.out 0; have hfz31_1 := blk_frozen BK190.out 1; have hfz31_2 := blk_frozen BK190.out 2) | ((with_reducible refine gate_callee (f := 24) rfl ?_); refine goesL_ (some 24) rfl rfl Tryz.func24 (by kernel_rfl) rfl #[.string a0, .slice A1 l1.length c1, .agg #[.int .i64 a2_0, .int .i64 a2_1, .string a2_2]] rfl (by (try simp only [List.map_toArray, List.map_cons, List.map_nil]); first | done | rfl | (simp only [List.length_drop, List.length_take]; rfl)) ?_; (with_reducible refine (skerryref01_Update.calls a0 _ _ l1 a2_0 a2_1 a2_2 t199 t202 t203 t204 t205 _ ?side1 ?side2 A5.out).mono ?_); (case side1 => exact Kd.C_below HR1.out (by repeat (first | (with_reducible first | exact HB.out | apply below_alloc | apply pw_below_drewN | apply below_drew1 | refine below_set ?_ GE190.out | refine below_set ?_ GE198.out) | exact HB.out))); (case side2 => exact HC1.out); rintro e w32 ⟨v200, rfl, ho0, hb⟩; refine ⟨_, rfl, ?_⟩; have n0_ := Aside0.mk (Kd.R_elder' (by (with_reducible repeat (first | apply Kd.R_alloc | apply Kd.R_drewN | apply Kd.R_drew)); exact (Kd.R_mono (Kd.R_far (p := ⟨gb198, 1, none⟩) (Kd.R_far (p := ⟨gb198, 0, none⟩) (Kd.R_types HO193.out BK198.out (by decide)) (fun _ hk => hk.2) (.int .i64 t194)) (fun _ hk => hk.2) (.int .i64 t195)) (fun _ h_ => h_.1))) (Kd.R_base ho0) hb); have n1_ := Aside0.mk (Kd.R_lower (Kd.R_new' ho0 (Kd.R_lt (by (with_reducible repeat (first | apply Kd.R_alloc | apply Kd.R_drewN | apply Kd.R_drew)); exact (Kd.R_mono (Kd.R_far (p := ⟨gb198, 1, none⟩) (Kd.R_far (p := ⟨gb198, 0, none⟩) (Kd.R_types HO193.out BK198.out (by decide)) (fun _ hk => hk.2) (.int .i64 t194)) (fun _ hk => hk.2) (.int .i64 t195)) (fun _ h_ => h_.1))))) (below_size (by repeat (first | (with_reducible first | exact HB.out | apply below_alloc | apply pw_below_drewN | apply below_drew1 | refine below_set ?_ GE190.out | refine below_set ?_ GE198.out) | exact HB.out)))); have n2_ := Aside0.mk (blk_below (g := gb190) (o := .cells #[.int .i64 a2_0, .int .i64 a2_1, .string a2_2] 24 (0, 0)) (by (with_reducible repeat (first | refine blk_drewN ?_ _ | refine blk_drew ?_ | refine blk_alloc ?_ _)); refine blk_far ?_ NB190_198.out _; (with_reducible repeat (first | refine blk_drewN ?_ _ | refine blk_drew ?_ | refine blk_alloc ?_ _)); refine blk_far ?_ NB190_198.out _; (with_reducible repeat (first | refine blk_drewN ?_ _ | refine blk_drew ?_ | refine blk_alloc ?_ _)); exact BK190.out) hb); have n3_ := Aside0.mk (blk_below (g := gb198) (o := .cells #[.int .i64 t194, .int .i64 t195] 46 (0, 0)) (by (with_reducible repeat (first | refine blk_drewN ?_ _ | refine blk_drew ?_ | refine blk_alloc ?_ _)); refine blk_put (cs := #[.int .i64 t194, .int .i64 0]) ?_ 1 _ rfl; (with_reducible repeat (first | refine blk_drewN ?_ _ | refine blk_drew ?_ | refine blk_alloc ?_ _)); refine blk_put (cs := #[.int .i64 0, .int .i64 0]) ?_ 0 _ rfl; (with_reducible repeat (first | refine blk_drewN ?_ _ | refine blk_drew ?_ | refine blk_alloc ?_ _)); exact BK198.out) hb); have n4_ := Aside0.mk (below_step (by repeat (first | (with_reducible first | exact HB.out | apply below_alloc | apply pw_below_drewN | apply below_drew1 | refine below_set ?_ GE190.out | refine below_set ?_ GE198.out) | exact HB.out)) hb); clear HO193; clear BK190; clear BK198; clear HB; have HO193 := n0_; have HO201 := n1_; have BK190 := n2_; have BK198 := n3_; have HB := n4_; clear n0_ n1_ n2_ n3_ n4_; (try clear hb); (try clear hb2); (try clear hk); (try clear hi); (try clear ho0)) | ((with_reducible refine gate_dst (N := 11) rfl ?_); refine box_event ?hg (N := 11) ?hd (cs := #[.slice none 0 0, .int .i64 0, .int .i64 0, .int .i64 0, .int .i64 0]) (t := 55) ?hr ?_; (case hd => rfl); (case hg => rfl); (case hr => first | (go_simp; done) | (go_simp; rfl)); intro gb206 hg w33 hbox hb; have n0_ := Aside0.mk (Kd.R_below (by (with_reducible repeat (first | apply Kd.R_alloc | apply Kd.R_drewN | apply Kd.R_drew)); exact HO193.out) hb); have n1_ := Aside0.mk (Kd.R_below (by (with_reducible repeat (first | apply Kd.R_alloc | apply Kd.R_drewN | apply Kd.R_drew)); exact HO201.out) hb); have n2_ := Aside0.mk (blk_below (g := gb190) (o := .cells #[.int .i64 a2_0, .int .i64 a2_1, .string a2_2] 24 (0, 0)) (by (with_reducible repeat (first | refine blk_drewN ?_ _ | refine blk_drew ?_ | refine blk_alloc ?_ _)); exact BK190.out) hb); have n3_ := Aside0.mk (blk_below (g := gb198) (o := .cells #[.int .i64 t194, .int .i64 t195] 46 (0, 0)) (by (with_reducible repeat (first | refine blk_drewN ?_ _ | refine blk_drew ?_ | refine blk_alloc ?_ _)); exact BK198.out) hb); have n4_ := Aside0.mk (below_step (by repeat (first | (with_reducible first | exact HB.out | apply below_alloc | apply pw_below_drewN | apply below_drew1 | refine below_set ?_ GE190.out | refine below_set ?_ GE198.out) | exact HB.out)) hb); have n5_ := Aside0.mk (hbox); have n6_ := Aside0.mk ((by rw [hg]; exact (below_size (by repeat (first | (with_reducible first | exact HB.out | apply below_alloc | apply pw_below_drewN | apply below_drew1 | refine below_set ?_ GE190.out | refine below_set ?_ GE198.out) | exact HB.out))) : w.heap.size ≤ gb206)); have n7_ := Aside0.mk ((by rw [hg]; exact (below_size (by repeat (first | (with_reducible first | exact HB.out | apply below_alloc | apply pw_below_drewN | apply below_drew1 | refine below_set ?_ GE190.out | refine below_set ?_ GE198.out) | exact HB.out))) : w.heap.size ≤ gb206)); have n8_ := Aside0.mk ((by rw [hg]; exact Nat.ne_of_lt (blk_lt (g := gb190) (o := .cells #[.int .i64 a2_0, .int .i64 a2_1, .string a2_2] 24 (0, 0)) (by (with_reducible repeat (first | refine blk_drewN ?_ _ | refine blk_drew ?_ | refine blk_alloc ?_ _)); exact BK190.out)) : gb190 ≠ gb206)); have n9_ := Aside0.mk ((by rw [hg]; exact Nat.ne_of_gt (blk_lt (g := gb190) (o := .cells #[.int .i64 a2_0, .int .i64 a2_1, .string a2_2] 24 (0, 0)) (by (with_reducible repeat (first | refine blk_drewN ?_ _ | refine blk_drew ?_ | refine blk_alloc ?_ _)); exact BK190.out)) : gb206 ≠ gb190)); have n10_ := Aside0.mk ((by rw [hg]; exact Nat.ne_of_lt (blk_lt (g := gb198) (o := .cells #[.int .i64 t194, .int .i64 t195] 46 (0, 0)) (by (with_reducible repeat (first | refine blk_drewN ?_ _ | refine blk_drew ?_ | refine blk_alloc ?_ _)); exact BK198.out)) : gb198 ≠ gb206)); have n11_ := Aside0.mk ((by rw [hg]; exact Nat.ne_of_gt (blk_lt (g := gb198) (o := .cells #[.int .i64 t194, .int .i64 t195] 46 (0, 0)) (by (with_reducible repeat (first | refine blk_drewN ?_ _ | refine blk_drew ?_ | refine blk_alloc ?_ _)); exact BK198.out)) : gb206 ≠ gb198)); clear HO193; clear HO201; clear BK190; clear BK198; clear HB; have HO193 := n0_; have HO201 := n1_; have BK190 := n2_; have BK198 := n3_; have HB := n4_; have BK206 := n5_; have GW206 := n6_; have GE206 := n7_; have NB190_206 := n8_; have NB206_190 := n9_; have NB198_206 := n10_; have NB206_198 := n11_; clear n0_ n1_ n2_ n3_ n4_ n5_ n6_ n7_ n8_ n9_ n10_ n11_; clear hb hbox hg; obtain ⟨Ao34, co34, eo34⟩ := Kd.R_slice HO201.out; subst eo34; have hnb35 := NB206_190.out; have hnc35 := NB190_206.out; have hnb36 := NB206_198.out; have hnc36 := NB198_206.out; have hcz37_0 : w33.cell? ⟨gb206, 0, none⟩ = some (.slice none 0 0) := (blk_cell BK206.out 0).trans rfl; have hcz37_1 : w33.cell? ⟨gb206, 1, none⟩ = some (.int .i64 0) := (blk_cell BK206.out 1).trans rfl; have hcz37_2 : w33.cell? ⟨gb206, 2, none⟩ = some (.int .i64 0) := (blk_cell BK206.out 2).trans rfl; have hcz37_3 : w33.cell? ⟨gb206, 3, none⟩ = some (.int .i64 0) := (blk_cell BK206.out 3).trans rfl; have hcz37_4 : w33.cell? ⟨gb206, 4, none⟩ = some (.int .i64 0) := (blk_cell BK206.out 4).trans rfl; have hfz37_0 := blk_frozen BK206.out 0; have hfz37_1 := blk_frozen BK206.out 1; have hfz37_2 := blk_frozen BK206.out 2; have hfz37_3 := blk_frozen BK206.out 3; have hfz37_4 := blk_frozen BK206.out 4; have hcz38_0 : w33.cell? ⟨gb198, 0, none⟩ = some (.int .i64 t194) := (blk_cell BK198.out 0).trans rfl; have hcz38_1 : w33.cell? ⟨gb198, 1, none⟩ = some (.int .i64 t195) := (blk_cell BK198.out 1).trans rfl; have hfz38_0 := blk_frozen BK198.out 0; have hfz38_1 := blk_frozen BK198.out 1))
    go_ret
    exact ⟨by first | rfl | (simp [errW_none, errW_some] <;> rfl) | (simp [*, errW_none, errW_some] <;> rfl), by repeat (first | (with_reducible first | exact HB.out | apply below_alloc | apply pw_below_drewN | apply below_drew1 | refine below_set ?_ GE190.out | refine below_set ?_ GE198.out | refine below_set ?_ GE206.out) | exact HB.out)⟩
  ·rw [if_neg c7] at H
   have c7b0 : (t196 == t204) = false := beq_eq_false_iff_ne.mpr c7
   have c7b1 : (t196 != t204) = true := bne_iff_ne.mpr c7
   obtain rfl := Option.some.inj H
   go_enter Tryz.func8, Tryz.ntmps8
   go_wp2_with (first | ((with_reducible refine gate_dst (N := 5) rfl ?_); refine box_event ?hg (N := 5) ?hd (cs := #[.int .i64 a2_0, .int .i64 a2_1, .string a2_2]) (t := 24) ?hr ?_; (case hd => rfl); (case hg => rfl); (case hr => first | (go_simp; done) | (go_simp; rfl)); intro gb190 hg w39 hbox hb; have n0_ := Aside0.mk (below_step (by repeat (first | (with_reducible first | exact HB.out | apply below_alloc | apply pw_below_drewN | apply below_drew1) | exact HB.out)) hb); have n1_ := Aside0.mk (hbox); have n2_ := Aside0.mk ((by rw [hg]; exact (below_size (by repeat (first | (with_reducible first | exact HB.out | apply below_alloc | apply pw_below_drewN | apply below_drew1) | exact HB.out))) : w.heap.size ≤ gb190)); have n3_ := Aside0.mk ((by rw [hg]; exact (below_size (by repeat (first | (with_reducible first | exact HB.out | apply below_alloc | apply pw_below_drewN | apply below_drew1) | exact HB.out))) : w.heap.size ≤ gb190)); clear HB; have HB := n0_; have BK190 := n1_; have GW190 := n2_; have GE190 := n3_; clear n0_ n1_ n2_ n3_; clear hb hbox hg; have hcz40_0 : w39.cell? ⟨gb190, 0, none⟩ = some (.int .i64 a2_0) := (blk_cell BK190.out 0).trans rfl; have hcz40_1 : w39.cell? ⟨gb190, 1, none⟩ = some (.int .i64 a2_1) := (blk_cell BK190.out 1).trans rfl; have hcz40_2 : w39.cell? ⟨gb190, 2, none⟩ = some (.string a2_2) := (blk_cell BK190.out 2).trans rfl; have hfz40_0 := blk_frozen BK190.out 0; have hfz40_1 := blk_frozen BK190.out 1; have hfz40_2 := blk_frozen BK190.out 2) | ((with_reducible refine gate_callee (f := 20) rfl ?_); refine goesL_ (some 16) rfl rfl Tryz.func20 (by kernel_rfl) rfl #[.string a0, .slice A1 l1.length c1, .agg #[.int .i64 a2_0, .int .i64 a2_1, .string a2_2]] rfl (by (try simp only [List.map_toArray, List.map_cons, List.map_nil]); first | done | rfl | (simp only [List.length_drop, List.length_take]; rfl)) ?_; (with_reducible refine (lex_Update.calls a0 _ _ l1 a2_0 a2_1 a2_2 t191 t194 t195 t196 t197 _ ?side1 ?side2 A4.out (Lx.Env.below HE.out (by repeat (first | (with_reducible first | exact HB.out | apply below_alloc | apply pw_below_drewN | apply below_drew1 | refine below_set ?_ GE190.out | refine below_set ?_ GE198.out | refine below_set ?_ GE206.out) | exact HB.out)))).mono ?_); (case side1 => repeat (first | exact (Kd.C_below HR1.out HB.out) | (with_reducible refine Kd.C_alloc ?_ _) | (with_reducible refine Kd.C_drewN ?_ _) | (with_reducible refine Kd.C_drew ?_))); (case side2 => exact HC1.out); rintro e w41 ⟨v192, rfl, ho0, hb⟩; refine ⟨_, rfl, ?_⟩; have n0_ := Aside0.mk (Kd.R_lower ho0 (below_size (by repeat (first | (with_reducible first | exact HB.out | apply below_alloc | apply pw_below_drewN | apply below_drew1 | refine below_set ?_ GE190.out) | exact HB.out)))); have n1_ := Aside0.mk (blk_below (g := gb190) (o := .cells #[.int .i64 a2_0, .int .i64 a2_1, .string a2_2] 24 (0, 0)) (by (with_reducible repeat (first | refine blk_drewN ?_ _ | refine blk_drew ?_ | refine blk_alloc ?_ _)); exact BK190.out) hb); have n2_ := Aside0.mk (below_step (by repeat (first | (with_reducible first | exact HB.out | apply below_alloc | apply pw_below_drewN | apply below_drew1 | refine below_set ?_ GE190.out) | exact HB.out)) hb); clear BK190; clear HB; have HO193 := n0_; have BK190 := n1_; have HB := n2_; clear n0_ n1_ n2_; (try clear hb); (try clear hb2); (try clear hk); (try clear hi); (try clear ho0)) | ((with_reducible refine gate_dst (N := 8) rfl ?_); refine box_event ?hg (N := 8) ?hd (cs := #[.int .i64 0, .int .i64 0]) (t := 46) ?hr ?_; (case hd => rfl); (case hg => rfl); (case hr => first | (go_simp; done) | (go_simp; rfl)); intro gb198 hg w42 hbox hb; have n0_ := Aside0.mk (Kd.R_below (by (with_reducible repeat (first | apply Kd.R_alloc | apply Kd.R_drewN | apply Kd.R_drew)); exact HO193.out) hb); have n1_ := Aside0.mk (blk_below (g := gb190) (o := .cells #[.int .i64 a2_0, .int .i64 a2_1, .string a2_2] 24 (0, 0)) (by (with_reducible repeat (first | refine blk_drewN ?_ _ | refine blk_drew ?_ | refine blk_alloc ?_ _)); exact BK190.out) hb); have n2_ := Aside0.mk (below_step (by repeat (first | (with_reducible first | exact HB.out | apply below_alloc | apply pw_below_drewN | apply below_drew1 | refine below_set ?_ GE190.out) | exact HB.out)) hb); have n3_ := Aside0.mk (hbox); have n4_ := Aside0.mk ((by rw [hg]; exact (below_size (by repeat (first | (with_reducible first | exact HB.out | apply below_alloc | apply pw_below_drewN | apply below_drew1 | refine below_set ?_ GE190.out) | exact HB.out))) : w.heap.size ≤ gb198)); have n5_ := Aside0.mk ((by rw [hg]; exact (below_size (by repeat (first | (with_reducible first | exact HB.out | apply below_alloc | apply pw_below_drewN | apply below_drew1 | refine below_set ?_ GE190.out) | exact HB.out))) : w.heap.size ≤ gb198)); have n6_ := Aside0.mk ((by rw [hg]; exact Nat.ne_of_lt (blk_lt (g := gb190) (o := .cells #[.int .i64 a2_0, .int .i64 a2_1, .string a2_2] 24 (0, 0)) (by (with_reducible repeat (first | refine blk_drewN ?_ _ | refine blk_drew ?_ | refine blk_alloc ?_ _)); exact BK190.out)) : gb190 ≠ gb198)); have n7_ := Aside0.mk ((by rw [hg]; exact Nat.ne_of_gt (blk_lt (g := gb190) (o := .cells #[.int .i64 a2_0, .int .i64 a2_1, .string a2_2] 24 (0, 0)) (by (with_reducible repeat (first | refine blk_drewN ?_ _ | refine blk_drew ?_ | refine blk_alloc ?_ _)); exact BK190.out)) : gb198 ≠ gb190)); clear HO193; clear BK190; clear HB; have HO193 := n0_; have BK190 := n1_; have HB := n2_; have BK198 := n3_; have GW198 := n4_; have GE198 := n5_; have NB190_198 := n6_; have NB198_190 := n7_; clear n0_ n1_ n2_ n3_ n4_ n5_ n6_ n7_; clear hb hbox hg; have hnb43 := NB198_190.out; have hnc43 := NB190_198.out; have hcz44_0 : w42.cell? ⟨gb198, 0, none⟩ = some (.int .i64 0) := (blk_cell BK198.out 0).trans rfl; have hcz44_1 : w42.cell? ⟨gb198, 1, none⟩ = some (.int .i64 0) := (blk_cell BK198.out 1).trans rfl; have hfz44_0 := blk_frozen BK198.out 0; have hfz44_1 := blk_frozen BK198.out 1; have hcz45_0 : w42.cell? ⟨gb190, 0, none⟩ = some (.int .i64 a2_0) := (blk_cell BK190.out 0).trans rfl; have hcz45_1 : w42.cell? ⟨gb190, 1, none⟩ = some (.int .i64 a2_1) := (blk_cell BK190.out 1).trans rfl; have hcz45_2 : w42.cell? ⟨gb190, 2, none⟩ = some (.string a2_2) := (blk_cell BK190.out 2).trans rfl; have hfz45_0 := blk_frozen BK190.out 0; have hfz45_1 := blk_frozen BK190.out 1; have hfz45_2 := blk_frozen BK190.out 2) | ((with_reducible refine gate_callee (f := 24) rfl ?_); refine goesL_ (some 24) rfl rfl Tryz.func24 (by kernel_rfl) rfl #[.string a0, .slice A1 l1.length c1, .agg #[.int .i64 a2_0, .int .i64 a2_1, .string a2_2]] rfl (by (try simp only [List.map_toArray, List.map_cons, List.map_nil]); first | done | rfl | (simp only [List.length_drop, List.length_take]; rfl)) ?_; (with_reducible refine (skerryref01_Update.calls a0 _ _ l1 a2_0 a2_1 a2_2 t199 t202 t203 t204 t205 _ ?side1 ?side2 A5.out).mono ?_); (case side1 => exact Kd.C_below HR1.out (by repeat (first | (with_reducible first | exact HB.out | apply below_alloc | apply pw_below_drewN | apply below_drew1 | refine below_set ?_ GE190.out | refine below_set ?_ GE198.out) | exact HB.out))); (case side2 => exact HC1.out); rintro e w46 ⟨v200, rfl, ho0, hb⟩; refine ⟨_, rfl, ?_⟩; have n0_ := Aside0.mk (Kd.R_elder' (by (with_reducible repeat (first | apply Kd.R_alloc | apply Kd.R_drewN | apply Kd.R_drew)); exact (Kd.R_mono (Kd.R_far (p := ⟨gb198, 1, none⟩) (Kd.R_far (p := ⟨gb198, 0, none⟩) (Kd.R_types HO193.out BK198.out (by decide)) (fun _ hk => hk.2) (.int .i64 t194)) (fun _ hk => hk.2) (.int .i64 t195)) (fun _ h_ => h_.1))) (Kd.R_base ho0) hb); have n1_ := Aside0.mk (Kd.R_lower (Kd.R_new' ho0 (Kd.R_lt (by (with_reducible repeat (first | apply Kd.R_alloc | apply Kd.R_drewN | apply Kd.R_drew)); exact (Kd.R_mono (Kd.R_far (p := ⟨gb198, 1, none⟩) (Kd.R_far (p := ⟨gb198, 0, none⟩) (Kd.R_types HO193.out BK198.out (by decide)) (fun _ hk => hk.2) (.int .i64 t194)) (fun _ hk => hk.2) (.int .i64 t195)) (fun _ h_ => h_.1))))) (below_size (by repeat (first | (with_reducible first | exact HB.out | apply below_alloc | apply pw_below_drewN | apply below_drew1 | refine below_set ?_ GE190.out | refine below_set ?_ GE198.out) | exact HB.out)))); have n2_ := Aside0.mk (blk_below (g := gb190) (o := .cells #[.int .i64 a2_0, .int .i64 a2_1, .string a2_2] 24 (0, 0)) (by (with_reducible repeat (first | refine blk_drewN ?_ _ | refine blk_drew ?_ | refine blk_alloc ?_ _)); refine blk_far ?_ NB190_198.out _; (with_reducible repeat (first | refine blk_drewN ?_ _ | refine blk_drew ?_ | refine blk_alloc ?_ _)); refine blk_far ?_ NB190_198.out _; (with_reducible repeat (first | refine blk_drewN ?_ _ | refine blk_drew ?_ | refine blk_alloc ?_ _)); exact BK190.out) hb); have n3_ := Aside0.mk (blk_below (g := gb198) (o := .cells #[.int .i64 t194, .int .i64 t195] 46 (0, 0)) (by (with_reducible repeat (first | refine blk_drewN ?_ _ | refine blk_drew ?_ | refine blk_alloc ?_ _)); refine blk_put (cs := #[.int .i64 t194, .int .i64 0]) ?_ 1 _ rfl; (with_reducible repeat (first | refine blk_drewN ?_ _ | refine blk_drew ?_ | refine blk_alloc ?_ _)); refine blk_put (cs := #[.int .i64 0, .int .i64 0]) ?_ 0 _ rfl; (with_reducible repeat (first | refine blk_drewN ?_ _ | refine blk_drew ?_ | refine blk_alloc ?_ _)); exact BK198.out) hb); have n4_ := Aside0.mk (below_step (by repeat (first | (with_reducible first | exact HB.out | apply below_alloc | apply pw_below_drewN | apply below_drew1 | refine below_set ?_ GE190.out | refine below_set ?_ GE198.out) | exact HB.out)) hb); clear HO193; clear BK190; clear BK198; clear HB; have HO193 := n0_; have HO201 := n1_; have BK190 := n2_; have BK198 := n3_; have HB := n4_; clear n0_ n1_ n2_ n3_ n4_; (try clear hb); (try clear hb2); (try clear hk); (try clear hi); (try clear ho0)) | ((with_reducible refine gate_dst (N := 11) rfl ?_); refine box_event ?hg (N := 11) ?hd (cs := #[.slice none 0 0, .int .i64 0, .int .i64 0, .int .i64 0, .int .i64 0]) (t := 55) ?hr ?_; (case hd => rfl); (case hg => rfl); (case hr => first | (go_simp; done) | (go_simp; rfl)); intro gb206 hg w47 hbox hb; have n0_ := Aside0.mk (Kd.R_below (by (with_reducible repeat (first | apply Kd.R_alloc | apply Kd.R_drewN | apply Kd.R_drew)); exact HO193.out) hb); have n1_ := Aside0.mk (Kd.R_below (by (with_reducible repeat (first | apply Kd.R_alloc | apply Kd.R_drewN | apply Kd.R_drew)); exact HO201.out) hb); have n2_ := Aside0.mk (blk_below (g := gb190) (o := .cells #[.int .i64 a2_0, .int .i64 a2_1, .string a2_2] 24 (0, 0)) (by (with_reducible repeat (first | refine blk_drewN ?_ _ | refine blk_drew ?_ | refine blk_alloc ?_ _)); exact BK190.out) hb); have n3_ := Aside0.mk (blk_below (g := gb198) (o := .cells #[.int .i64 t194, .int .i64 t195] 46 (0, 0)) (by (with_reducible repeat (first | refine blk_drewN ?_ _ | refine blk_drew ?_ | refine blk_alloc ?_ _)); exact BK198.out) hb); have n4_ := Aside0.mk (below_step (by repeat (first | (with_reducible first | exact HB.out | apply below_alloc | apply pw_below_drewN | apply below_drew1 | refine below_set ?_ GE190.out | refine below_set ?_ GE198.out) | exact HB.out)) hb); have n5_ := Aside0.mk (hbox); have n6_ := Aside0.mk ((by rw [hg]; exact (below_size (by repeat (first | (with_reducible first | exact HB.out | apply below_alloc | apply pw_below_drewN | apply below_drew1 | refine below_set ?_ GE190.out | refine below_set ?_ GE198.out) | exact HB.out))) : w.heap.size ≤ gb206)); have n7_ := Aside0.mk ((by rw [hg]; exact (below_size (by repeat (first | (with_reducible first | exact HB.out | apply below_alloc | apply pw_below_drewN | apply below_drew1 | refine below_set ?_ GE190.out | refine below_set ?_ GE198.out) | exact HB.out))) : w.heap.size ≤ gb206)); have n8_ := Aside0.mk ((by rw [hg]; exact Nat.ne_of_lt (blk_lt (g := gb190) (o := .cells #[.int .i64 a2_0, .int .i64 a2_1, .string a2_2] 24 (0, 0)) (by (with_reducible repeat (first | refine blk_drewN ?_ _ | refine blk_drew ?_ | refine blk_alloc ?_ _)); exact BK190.out)) : gb190 ≠ gb206)); have n9_ := Aside0.mk ((by rw [hg]; exact Nat.ne_of_gt (blk_lt (g := gb190) (o := .cells #[.int .i64 a2_0, .int .i64 a2_1, .string a2_2] 24 (0, 0)) (by (with_reducible repeat (first | refine blk_drewN ?_ _ | refine blk_drew ?_ | refine blk_alloc ?_ _)); exact BK190.out)) : gb206 ≠ gb190)); have n10_ := Aside0.mk ((by rw [hg]; exact Nat.ne_of_lt (blk_lt (g := gb198) (o := .cells #[.int .i64 t194, .int .i64 t195] 46 (0, 0)) (by (with_reducible repeat (first | refine blk_drewN ?_ _ | refine blk_drew ?_ | refine blk_alloc ?_ _)); exact BK198.out)) : gb198 ≠ gb206)); have n11_ := Aside0.mk ((by rw [hg]; exact Nat.ne_of_gt (blk_lt (g := gb198) (o := .cells #[.int .i64 t194, .int .i64 t195] 46 (0, 0)) (by (with_reducible repeat (first | refine blk_drewN ?_ _ | refine blk_drew ?_ | refine blk_alloc ?_ _)); exact BK198.out)) : gb206 ≠ gb198)); clear HO193; clear HO201; clear BK190; clear BK198; clear HB; have HO193 := n0_; have HO201 := n1_; have BK190 := n2_; have BK198 := n3_; have HB := n4_; have BK206 := n5_; have GW206 := n6_; have GE206 := n7_; have NB190_206 := n8_; have NB206_190 := n9_; have NB198_206 := n10_; have NB206_198 := n11_; clear n0_ n1_ n2_ n3_ n4_ n5_ n6_ n7_ n8_ n9_ n10_ n11_; clear hb hbox hg; obtain ⟨Ao48, co48, eo48⟩ := Kd.R_slice HO201.out; subst eo48; have hnb49 := NB206_190.out; have hnc49 := NB190_206.out; have hnb50 := NB206_198.out; have hnc50 := NB198_206.out; have hcz51_0 : w47.cell? ⟨gb206, 0, none⟩ = some (.slice none 0 0) := (blk_cell BK206.out 0).trans rfl; have hcz51_1 : w47.cell? ⟨gb206, 1, none⟩ = some (.int .i64 0) := (blk_cell BK206.out 1).trans rfl; have hcz51_2 : w47.cell? ⟨gb206, 2, none⟩ = some (.int .i64 0) := (blk_cell BK206.out 2).trans rfl; have hcz51_3 : w47.cell? ⟨gb206, 3, none⟩ = some (.int .i64 0) := (blk_cell BK206.out 3).trans rfl; have hcz51_4 : w47.cell? ⟨gb206, 4, none⟩ = some (.int .i64 0) := (blk_cell BK206.out 4).trans rfl; have hfz51_0 := blk_frozen BK206.out 0; have hfz51_1 := blk_frozen BK206.out 1; have hfz51_2 := blk_frozen BK206.out 2; have hfz51_3 := blk_frozen BK206.out 3; have hfz51_4 := blk_frozen BK206.out 4))
   go_ret
   exact ⟨by first | rfl | (simp [errW_none, errW_some] <;> rfl) | (simp [*, errW_none, errW_some] <;> rfl), by repeat (first | (with_reducible first | exact HB.out | apply below_alloc | apply pw_below_drewN | apply below_drew1 | refine below_set ?_ GE190.out | refine below_set ?_ GE198.out | refine below_set ?_ GE206.out) | exact HB.out)⟩
 ·rw [if_neg c6] at H
  have c6b0 : (t197 == t205) = false := beq_eq_false_iff_ne.mpr c6
  have c6b1 : (t197 != t205) = true := bne_iff_ne.mpr c6
  obtain rfl := Option.some.inj H
  go_enter Tryz.func8, Tryz.ntmps8
  go_wp2_with (first | ((with_reducible refine gate_dst (N := 5) rfl ?_); refine box_event ?hg (N := 5) ?hd (cs := #[.int .i64 a2_0, .int .i64 a2_1, .string a2_2]) (t := 24) ?hr ?_; (case hd => rfl); (case hg => rfl); (case hr => first | (go_simp; done) | (go_simp; rfl)); intro gb190 hg w52 hbox hb; have n0_ := Aside0.mk (below_step (by repeat (first | (with_reducible first | exact HB.out | apply below_alloc | apply pw_below_drewN | apply below_drew1) | exact HB.out)) hb); have n1_ := Aside0.mk (hbox); have n2_ := Aside0.mk ((by rw [hg]; exact (below_size (by repeat (first | (with_reducible first | exact HB.out | apply below_alloc | apply pw_below_drewN | apply below_drew1) | exact HB.out))) : w.heap.size ≤ gb190)); have n3_ := Aside0.mk ((by rw [hg]; exact (below_size (by repeat (first | (with_reducible first | exact HB.out | apply below_alloc | apply pw_below_drewN | apply below_drew1) | exact HB.out))) : w.heap.size ≤ gb190)); clear HB; have HB := n0_; have BK190 := n1_; have GW190 := n2_; have GE190 := n3_; clear n0_ n1_ n2_ n3_; clear hb hbox hg; have hcz53_0 : w52.cell? ⟨gb190, 0, none⟩ = some (.int .i64 a2_0) := (blk_cell BK190.out 0).trans rfl; have hcz53_1 : w52.cell? ⟨gb190, 1, none⟩ = some (.int .i64 a2_1) := (blk_cell BK190.out 1).trans rfl; have hcz53_2 : w52.cell? ⟨gb190, 2, none⟩ = some (.string a2_2) := (blk_cell BK190.out 2).trans rfl; have hfz53_0 := blk_frozen BK190.out 0; have hfz53_1 := blk_frozen BK190.out 1; have hfz53_2 := blk_frozen BK190.out 2) | ((with_reducible refine gate_callee (f := 20) rfl ?_); refine goesL_ (some 16) rfl rfl Tryz.func20 (by kernel_rfl) rfl #[.string a0, .slice A1 l1.length c1, .agg #[.int .i64 a2_0, .int .i64 a2_1, .string a2_2]] rfl (by (try simp only [List.map_toArray, List.map_cons, List.map_nil]); first | done | rfl | (simp only [List.length_drop, List.length_take]; rfl)) ?_; (with_reducible refine (lex_Update.calls a0 _ _ l1 a2_0 a2_1 a2_2 t191 t194 t195 t196 t197 _ ?side1 ?side2 A4.out (Lx.Env.below HE.out (by repeat (first | (with_reducible first | exact HB.out | apply below_alloc | apply pw_below_drewN | apply below_drew1 | refine below_set ?_ GE190.out | refine below_set ?_ GE198.out | refine below_set ?_ GE206.out) | exact HB.out)))).mono ?_); (case side1 => repeat (first | exact (Kd.C_below HR1.out HB.out) | (with_reducible refine Kd.C_alloc ?_ _) | (with_reducible refine Kd.C_drewN ?_ _) | (with_reducible refine Kd.C_drew ?_))); (case side2 => exact HC1.out); rintro e w54 ⟨v192, rfl, ho0, hb⟩; refine ⟨_, rfl, ?_⟩; have n0_ := Aside0.mk (Kd.R_lower ho0 (below_size (by repeat (first | (with_reducible first | exact HB.out | apply below_alloc | apply pw_below_drewN | apply below_drew1 | refine below_set ?_ GE190.out) | exact HB.out)))); have n1_ := Aside0.mk (blk_below (g := gb190) (o := .cells #[.int .i64 a2_0, .int .i64 a2_1, .string a2_2] 24 (0, 0)) (by (with_reducible repeat (first | refine blk_drewN ?_ _ | refine blk_drew ?_ | refine blk_alloc ?_ _)); exact BK190.out) hb); have n2_ := Aside0.mk (below_step (by repeat (first | (with_reducible first | exact HB.out | apply below_alloc | apply pw_below_drewN | apply below_drew1 | refine below_set ?_ GE190.out) | exact HB.out)) hb); clear BK190; clear HB; have HO193 := n0_; have BK190 := n1_; have HB := n2_; clear n0_ n1_ n2_; (try clear hb); (try clear hb2); (try clear hk); (try clear hi); (try clear ho0)) | ((with_reducible refine gate_dst (N := 8) rfl ?_); refine box_event ?hg (N := 8) ?hd (cs := #[.int .i64 0, .int .i64 0]) (t := 46) ?hr ?_; (case hd => rfl); (case hg => rfl); (case hr => first | (go_simp; done) | (go_simp; rfl)); intro gb198 hg w55 hbox hb; have n0_ := Aside0.mk (Kd.R_below (by (with_reducible repeat (first | apply Kd.R_alloc | apply Kd.R_drewN | apply Kd.R_drew)); exact HO193.out) hb); have n1_ := Aside0.mk (blk_below (g := gb190) (o := .cells #[.int .i64 a2_0, .int .i64 a2_1, .string a2_2] 24 (0, 0)) (by (with_reducible repeat (first | refine blk_drewN ?_ _ | refine blk_drew ?_ | refine blk_alloc ?_ _)); exact BK190.out) hb); have n2_ := Aside0.mk (below_step (by repeat (first | (with_reducible first | exact HB.out | apply below_alloc | apply pw_below_drewN | apply below_drew1 | refine below_set ?_ GE190.out) | exact HB.out)) hb); have n3_ := Aside0.mk (hbox); have n4_ := Aside0.mk ((by rw [hg]; exact (below_size (by repeat (first | (with_reducible first | exact HB.out | apply below_alloc | apply pw_below_drewN | apply below_drew1 | refine below_set ?_ GE190.out) | exact HB.out))) : w.heap.size ≤ gb198)); have n5_ := Aside0.mk ((by rw [hg]; exact (below_size (by repeat (first | (with_reducible first | exact HB.out | apply below_alloc | apply pw_below_drewN | apply below_drew1 | refine below_set ?_ GE190.out) | exact HB.out))) : w.heap.size ≤ gb198)); have n6_ := Aside0.mk ((by rw [hg]; exact Nat.ne_of_lt (blk_lt (g := gb190) (o := .cells #[.int .i64 a2_0, .int .i64 a2_1, .string a2_2] 24 (0, 0)) (by (with_reducible repeat (first | refine blk_drewN ?_ _ | refine blk_drew ?_ | refine blk_alloc ?_ _)); exact BK190.out)) : gb190 ≠ gb198)); have n7_ := Aside0.mk ((by rw [hg]; exact Nat.ne_of_gt (blk_lt (g := gb190) (o := .cells #[.int .i64 a2_0, .int .i64 a2_1, .string a2_2] 24 (0, 0)) (by (with_reducible repeat (first | refine blk_drewN ?_ _ | refine blk_drew ?_ | refine blk_alloc ?_ _)); exact BK190.out)) : gb198 ≠ gb190)); clear HO193; clear BK190; clear HB; have HO193 := n0_; have BK190 := n1_; have HB := n2_; have BK198 := n3_; have GW198 := n4_; have GE198 := n5_; have NB190_198 := n6_; have NB198_190 := n7_; clear n0_ n1_ n2_ n3_ n4_ n5_ n6_ n7_; clear hb hbox hg; have hnb56 := NB198_190.out; have hnc56 := NB190_198.out; have hcz57_0 : w55.cell? ⟨gb198, 0, none⟩ = some (.int .i64 0) := (blk_cell BK198.out 0).trans rfl; have hcz57_1 : w55.cell? ⟨gb198, 1, none⟩ = some (.int .i64 0) := (blk_cell BK198.out 1).trans rfl; have hfz57_0 := blk_frozen BK198.out 0; have hfz57_1 := blk_frozen BK198.out 1; have hcz58_0 : w55.cell? ⟨gb190, 0, none⟩ = some (.int .i64 a2_0) := (blk_cell BK190.out 0).trans rfl; have hcz58_1 : w55.cell? ⟨gb190, 1, none⟩ = some (.int .i64 a2_1) := (blk_cell BK190.out 1).trans rfl; have hcz58_2 : w55.cell? ⟨gb190, 2, none⟩ = some (.string a2_2) := (blk_cell BK190.out 2).trans rfl; have hfz58_0 := blk_frozen BK190.out 0; have hfz58_1 := blk_frozen BK190.out 1; have hfz58_2 := blk_frozen BK190.out 2) | ((with_reducible refine gate_callee (f := 24) rfl ?_); refine goesL_ (some 24) rfl rfl Tryz.func24 (by kernel_rfl) rfl #[.string a0, .slice A1 l1.length c1, .agg #[.int .i64 a2_0, .int .i64 a2_1, .string a2_2]] rfl (by (try simp only [List.map_toArray, List.map_cons, List.map_nil]); first | done | rfl | (simp only [List.length_drop, List.length_take]; rfl)) ?_; (with_reducible refine (skerryref01_Update.calls a0 _ _ l1 a2_0 a2_1 a2_2 t199 t202 t203 t204 t205 _ ?side1 ?side2 A5.out).mono ?_); (case side1 => exact Kd.C_below HR1.out (by repeat (first | (with_reducible first | exact HB.out | apply below_alloc | apply pw_below_drewN | apply below_drew1 | refine below_set ?_ GE190.out | refine below_set ?_ GE198.out) | exact HB.out))); (case side2 => exact HC1.out); rintro e w59 ⟨v200, rfl, ho0, hb⟩; refine ⟨_, rfl, ?_⟩; have n0_ := Aside0.mk (Kd.R_elder' (by (with_reducible repeat (first | apply Kd.R_alloc | apply Kd.R_drewN | apply Kd.R_drew)); exact (Kd.R_mono (Kd.R_far (p := ⟨gb198, 1, none⟩) (Kd.R_far (p := ⟨gb198, 0, none⟩) (Kd.R_types HO193.out BK198.out (by decide)) (fun _ hk => hk.2) (.int .i64 t194)) (fun _ hk => hk.2) (.int .i64 t195)) (fun _ h_ => h_.1))) (Kd.R_base ho0) hb); have n1_ := Aside0.mk (Kd.R_lower (Kd.R_new' ho0 (Kd.R_lt (by (with_reducible repeat (first | apply Kd.R_alloc | apply Kd.R_drewN | apply Kd.R_drew)); exact (Kd.R_mono (Kd.R_far (p := ⟨gb198, 1, none⟩) (Kd.R_far (p := ⟨gb198, 0, none⟩) (Kd.R_types HO193.out BK198.out (by decide)) (fun _ hk => hk.2) (.int .i64 t194)) (fun _ hk => hk.2) (.int .i64 t195)) (fun _ h_ => h_.1))))) (below_size (by repeat (first | (with_reducible first | exact HB.out | apply below_alloc | apply pw_below_drewN | apply below_drew1 | refine below_set ?_ GE190.out | refine below_set ?_ GE198.out) | exact HB.out)))); have n2_ := Aside0.mk (blk_below (g := gb190) (o := .cells #[.int .i64 a2_0, .int .i64 a2_1, .string a2_2] 24 (0, 0)) (by (with_reducible repeat (first | refine blk_drewN ?_ _ | refine blk_drew ?_ | refine blk_alloc ?_ _)); refine blk_far ?_ NB190_198.out _; (with_reducible repeat (first | refine blk_drewN ?_ _ | refine blk_drew ?_ | refine blk_alloc ?_ _)); refine blk_far ?_ NB190_198.out _; (with_reducible repeat (first | refine blk_drewN ?_ _ | refine blk_drew ?_ | refine blk_alloc ?_ _)); exact BK190.out) hb); have n3_ := Aside0.mk (blk_below (g := gb198) (o := .cells #[.int .i64 t194, .int .i64 t195] 46 (0, 0)) (by (with_reducible repeat (first | refine blk_drewN ?_ _ | refine blk_drew ?_ | refine blk_alloc ?_ _)); refine blk_put (cs := #[.int .i64 t194, .int .i64 0]) ?_ 1 _ rfl; (with_reducible repeat (first | refine blk_drewN ?_ _ | refine blk_drew ?_ | refine blk_alloc ?_ _)); refine blk_put (cs := #[.int .i64 0, .int .i64 0]) ?_ 0 _ rfl; (with_reducible repeat (first | refine blk_drewN ?_ _ | refine blk_drew ?_ | refine blk_alloc ?_ _)); exact BK198.out) hb); have n4_ := Aside0.mk (below_step (by repeat (first | (with_reducible first | exact HB.out | apply below_alloc | apply pw_below_drewN | apply below_drew1 | refine below_set ?_ GE190.out | refine below_set ?_ GE198.out) | exact HB.out)) hb); clear HO193; clear BK190; clear BK198; clear HB; have HO193 := n0_; have HO201 := n1_; have BK190 := n2_; have BK198 := n3_; have HB := n4_; clear n0_ n1_ n2_ n3_ n4_; (try clear hb); (try clear hb2); (try clear hk); (try clear hi); (try clear ho0)) | ((with_reducible refine gate_dst (N := 11) rfl ?_); refine box_event ?hg (N := 11) ?hd (cs := #[.slice none 0 0, .int .i64 0, .int .i64 0, .int .i64 0, .int .i64 0]) (t := 55) ?hr ?_; (case hd => rfl); (case hg => rfl); (case hr => first | (go_simp; done) | (go_simp; rfl)); intro gb206 hg w60 hbox hb; have n0_ := Aside0.mk (Kd.R_below (by (with_reducible repeat (first | apply Kd.R_alloc | apply Kd.R_drewN | apply Kd.R_drew)); exact HO193.out) hb); have n1_ := Aside0.mk (Kd.R_below (by (with_reducible repeat (first | apply Kd.R_alloc | apply Kd.R_drewN | apply Kd.R_drew)); exact HO201.out) hb); have n2_ := Aside0.mk (blk_below (g := gb190) (o := .cells #[.int .i64 a2_0, .int .i64 a2_1, .string a2_2] 24 (0, 0)) (by (with_reducible repeat (first | refine blk_drewN ?_ _ | refine blk_drew ?_ | refine blk_alloc ?_ _)); exact BK190.out) hb); have n3_ := Aside0.mk (blk_below (g := gb198) (o := .cells #[.int .i64 t194, .int .i64 t195] 46 (0, 0)) (by (with_reducible repeat (first | refine blk_drewN ?_ _ | refine blk_drew ?_ | refine blk_alloc ?_ _)); exact BK198.out) hb); have n4_ := Aside0.mk (below_step (by repeat (first | (with_reducible first | exact HB.out | apply below_alloc | apply pw_below_drewN | apply below_drew1 | refine below_set ?_ GE190.out | refine below_set ?_ GE198.out) | exact HB.out)) hb); have n5_ := Aside0.mk (hbox); have n6_ := Aside0.mk ((by rw [hg]; exact (below_size (by repeat (first | (with_reducible first | exact HB.out | apply below_alloc | apply pw_below_drewN | apply below_drew1 | refine below_set ?_ GE190.out | refine below_set ?_ GE198.out) | exact HB.out))) : w.heap.size ≤ gb206)); have n7_ := Aside0.mk ((by rw [hg]; exact (below_size (by repeat (first | (with_reducible first | exact HB.out | apply below_alloc | apply pw_below_drewN | apply below_drew1 | refine below_set ?_ GE190.out | refine below_set ?_ GE198.out) | exact HB.out))) : w.heap.size ≤ gb206)); have n8_ := Aside0.mk ((by rw [hg]; exact Nat.ne_of_lt (blk_lt (g := gb190) (o := .cells #[.int .i64 a2_0, .int .i64 a2_1, .string a2_2] 24 (0, 0)) (by (with_reducible repeat (first | refine blk_drewN ?_ _ | refine blk_drew ?_ | refine blk_alloc ?_ _)); exact BK190.out)) : gb190 ≠ gb206)); have n9_ := Aside0.mk ((by rw [hg]; exact Nat.ne_of_gt (blk_lt (g := gb190) (o := .cells #[.int .i64 a2_0, .int .i64 a2_1, .string a2_2] 24 (0, 0)) (by (with_reducible repeat (first | refine blk_drewN ?_ _ | refine blk_drew ?_ | refine blk_alloc ?_ _)); exact BK190.out)) : gb206 ≠ gb190)); have n10_ := Aside0.mk ((by rw [hg]; exact Nat.ne_of_lt (blk_lt (g := gb198) (o := .cells #[.int .i64 t194, .int .i64 t195] 46 (0, 0)) (by (with_reducible repeat (first | refine blk_drewN ?_ _ | refine blk_drew ?_ | refine blk_alloc ?_ _)); exact BK198.out)) : gb198 ≠ gb206)); have n11_ := Aside0.mk ((by rw [hg]; exact Nat.ne_of_gt (blk_lt (g := gb198) (o := .cells #[.int .i64 t194, .int .i64 t195] 46 (0, 0)) (by (with_reducible repeat (first | refine blk_drewN ?_ _ | refine blk_drew ?_ | refine blk_alloc ?_ _)); exact BK198.out)) : gb206 ≠ gb198)); clear HO193; clear HO201; clear BK190; clear BK198; clear HB; have HO193 := n0_; have HO201 := n1_; have BK190 := n2_; have BK198 := n3_; have HB := n4_; have BK206 := n5_; have GW206 := n6_; have GE206 := n7_; have NB190_206 := n8_; have NB206_190 := n9_; have NB198_206 := n10_; have NB206_198 := n11_; clear n0_ n1_ n2_ n3_ n4_ n5_ n6_ n7_ n8_ n9_ n10_ n11_; clear hb hbox hg; obtain ⟨Ao61, co61, eo61⟩ := Kd.R_slice HO201.out; subst eo61; have hnb62 := NB206_190.out; have hnc62 := NB190_206.out; have hnb63 := NB206_198.out; have hnc63 := NB198_206.out; have hcz64_0 : w60.cell? ⟨gb206, 0, none⟩ = some (.slice none 0 0) := (blk_cell BK206.out 0).trans rfl; have hcz64_1 : w60.cell? ⟨gb206, 1, none⟩ = some (.int .i64 0) := (blk_cell BK206.out 1).trans rfl; have hcz64_2 : w60.cell? ⟨gb206, 2, none⟩ = some (.int .i64 0) := (blk_cell BK206.out 2).trans rfl; have hcz64_3 : w60.cell? ⟨gb206, 3, none⟩ = some (.int .i64 0) := (blk_cell BK206.out 3).trans rfl; have hcz64_4 : w60.cell? ⟨gb206, 4, none⟩ = some (.int .i64 0) := (blk_cell BK206.out 4).trans rfl; have hfz64_0 := blk_frozen BK206.out 0; have hfz64_1 := blk_frozen BK206.out 1; have hfz64_2 := blk_frozen BK206.out 2; have hfz64_3 := blk_frozen BK206.out 3; have hfz64_4 := blk_frozen BK206.out 4))
  go_ret
  exact ⟨by first | rfl | (simp [errW_none, errW_some] <;> rfl) | (simp [*, errW_none, errW_some] <;> rfl), by repeat (first | (with_reducible first | exact HB.out | apply below_alloc | apply pw_below_drewN | apply below_drew1 | refine below_set ?_ GE190.out | refine below_set ?_ GE198.out | refine below_set ?_ GE206.out) | exact HB.out)⟩

end Go.Proofs.YtdaccmjfefknoaaGreatDoor.PZa
