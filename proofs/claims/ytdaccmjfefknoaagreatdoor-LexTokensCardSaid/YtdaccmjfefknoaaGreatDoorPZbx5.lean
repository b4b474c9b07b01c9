-- PRINTED by print.py (a twelfth state) out of the translation. Not trusted: Lean checks it.
import Derived.Test.YtdaccmjfefknoaaGreatDoorPZbx0
import Derived.Test.YtdaccmjfefknoaaGreatDoorPZbx2
import Derived.Test.YtdaccmjfefknoaaGreatDoorPZbx3
import Derived.Test.YtdaccmjfefknoaaGreatDoorPZbx4
namespace Go.Proofs.YtdaccmjfefknoaaGreatDoor.PZb
open Go.RowKit Go.Proofs.YtdaccmjfefknoaaGreatDoorW.PrintWords Go.Proofs.YtdaccmjfefknoaaGreatDoorW.PrintLast Go.Proofs.YtdaccmjfefknoaaGreatDoorW.PrintMore
attribute [local go_sem] max2_int min2_int max_two min_two max_three min_three max_four min_four   -- for this text's walks alone
set_option linter.unusedVariables false
set_option linter.unusedSimpArgs false

attribute [local go_sem high] eqA50
/-! ### lex_Update: function 20 -/

/-! ### Plain -/
theorem updRd' (x : List S50) (j : Nat) (h : j < x.length) : rd_T50 x (j : Int) = x[j] := by
 simp [rd_T50, h]
def cell50 (p : Lx.Piece) : S50 := ⟨(p.kind : Int), (p.at_ : Int), (p.len : Int)⟩
def cells50 (s : ByteArray) : List S50 := (Lx.outL s).map cell50
def updEq (a b : S50) : Bool := a.f0 == b.f0 && (a.f1 == b.f1 && a.f2 == b.f2)
theorem updEq_iff (a b : S50) : updEq a b = true ↔ a = b := by
 obtain ⟨a0, a1, a2⟩ := a
 obtain ⟨b0, b1, b2⟩ := b
 simp [updEq]
def updSame : List S50 → List S50 → Bool
 | [], [] => true
 | x :: xs, y :: ys => updEq x y && updSame xs ys
 | _, _ => false
theorem updSame_iff : ∀ a b : List S50, updSame a b = true ↔ a = b
 | [], [] => by simp [updSame]
 | [], _ :: _ => by simp [updSame]
 | _ :: _, [] => by simp [updSame]
 | x :: xs, y :: ys => by
  unfold updSame
  rw [Bool.and_eq_true, updEq_iff, updSame_iff xs ys, List.cons.injEq]
/-- How many pieces at the begin are the same. -/
def updCommon : List S50 → List S50 → Nat
 | x :: xs, y :: ys => if updEq x y then updCommon xs ys + 1 else 0
 | _, _ => 0
theorem updCommon_step (a b : List S50) (f : Nat) (h0 : f < a.length) (h1 : f < b.length) : updCommon (a.drop f) (b.drop f) = if updEq (rd_T50 a (f : Int)) (rd_T50 b (f : Int)) = true then updCommon (a.drop (f + 1)) (b.drop (f + 1)) + 1 else 0 := by
 rw [updRd' a f h0, updRd' b f h1, List.drop_eq_getElem_cons h0, List.drop_eq_getElem_cons h1]
 rfl
theorem rev_now {now rn : List S50} {b : Nat} (h : now.reverse = rn) (hb : b < now.length) : rd_T50 rn (b : Int) = rd_T50 now ((now.length : Int) - 1 - b) := by
 subst h
 rw [updRd' _ b (by simpa using hb), show ((now.length : Int) - 1 - b) = ((now.length - 1 - b : Nat) : Int) from by omega, updRd' _ _ (by omega), List.getElem_reverse]
theorem updCommon_end (a b : List S50) (f : Nat) (h : a.length ≤ f ∨ b.length ≤ f) : updCommon (a.drop f) (b.drop f) = 0 := by
 rcases h with h | h
 ·rw [List.drop_of_length_le h]; cases b.drop f <;> rfl
 ·rw [List.drop_of_length_le h]; cases a.drop f <;> rfl
def updShift (by_ : Int) (p : S50) : S50 := ⟨p.f0, wrap64 (p.f1 + by_), p.f2⟩
theorem rev_at {old ro : List S50} {by_ : Int} {b : Nat} (h : (old.map (updShift by_)).reverse = ro) (hb : b < old.length) : rd_T50 ro (b : Int) = updShift by_ (rd_T50 old ((old.length : Int) - 1 - b)) := by
 subst h
 rw [updRd' _ b (by simpa using hb), show ((old.length : Int) - 1 - b) = ((old.length - 1 - b : Nat) : Int) from by omega, updRd' _ _ (by omega), List.getElem_reverse, List.getElem_map]
 congr 2
 simp
def updFront (a b : List S50) : Nat := updCommon a b
def updMost (a b : List S50) : Nat := if b.length < a.length then b.length else a.length
def updBack (a b : List S50) (by_ : Int) : Nat := min (updMost a b - updFront a b) (updCommon (a.map (updShift by_)).reverse b.reverse)
def updSplices (n : Nat) (x y : Int) : Bool := decide (0 ≤ x ∧ 0 ≤ y ∧ x ≤ n ∧ y ≤ (n : Int) - x)
def updChanged (a0 : ByteArray) (x y : Int) (z : ByteArray) : ByteArray := ((a0.extract 0 x.toNat) ++ z) ++ (a0.extract (x + y).toNat a0.size)
def lex_Update.f (a0 : ByteArray) (l1 : List S50) (x y : Int) (z : ByteArray) : Option (List S50 × Int × Int × Int × Int) :=
 if Lx.outE a0 = 0 ∧ updSame (cells50 a0) l1 = true then
  if updSplices a0.size x y = true then
   if z.size ≤ 140737488351232 then
    (if Lx.outE (updChanged a0 x y z) = 0 then some (cells50 (updChanged a0 x y z), updFront (cells50 a0) (cells50 (updChanged a0 x y z)), updBack (cells50 a0) (cells50 (updChanged a0 x y z)) (((updChanged a0 x y z).size : Int) - a0.size), 0, 0)
     else some ([], 0, 0, Lx.outAt (updChanged a0 x y z), Lx.outE (updChanged a0 x y z)))
   else none
  else some ([], 0, 0, 0, 1)
 else some ([], 0, 0, 0, 15)

theorem updSmall (n : Int) (h0 : -1000000 ≤ n) (h1 : n ≤ 1000000) : wrap64 n = n := by unfold wrap64; omega
theorem updRd (x : List S50) (j : Nat) (h : j < x.length) : rd_T50 x (j : Int) = x[j] := by
 simp [rd_T50, h]
theorem updNeq (a b : S50) : (!(a.f0 == b.f0) || (!(a.f1 == b.f1) || !(a.f2 == b.f2))) = true ↔ a ≠ b := by
 obtain ⟨a0, a1, a2⟩ := a
 obtain ⟨b0, b1, b2⟩ := b
 by_cases h0 : a0 = b0 <;> by_cases h1 : a1 = b1 <;> by_cases h2 : a2 = b2 <;> simp [h0, h1, h2]
theorem same_loop (x0 x1 : List S50) (hl : x0.length = x1.length) (hb : x0.length ≤ 100000) : ∀ (m j k : Nat), x0.length - j ≤ m → j ≤ x0.length → m < k → (∀ i, i < j → x0[i]? = x1[i]?) →
  ∃ r, api_Piece.l0 k x0 x1 (x0.length : Int) (j : Int) = some r ∧ (r = true ↔ x0 = x1)
 | m, j, 0, _, _, h, _ => by omega
 | m, j, k + 1, hm, hj, hk, he => by
  unfold api_Piece.l0
  by_cases hlt : j < x0.length
  ·have h1 : j < x1.length := by omega
   rw [if_pos (by omega), if_pos (by omega), if_pos (by omega), if_pos (by omega), updRd _ _ hlt, updRd _ _ h1]
   by_cases hd : x0[j] = x1[j]
   ·rw [if_neg (by rw [updNeq]; exact fun h => h hd)]
    rw [updSmall _ (by omega) (by omega), show (j : Int) + 1 = ((j + 1 : Nat) : Int) from by omega]
    refine same_loop x0 x1 hl hb (m - 1) (j + 1) k (by omega) (by omega) (by omega) (fun i hi => ?_)
    by_cases hij : i = j
    ·subst hij
     rw [List.getElem?_eq_getElem hlt, List.getElem?_eq_getElem h1, hd]
    ·exact he i (by omega)
   ·rw [if_pos (by rw [updNeq]; exact hd)]
    refine ⟨false, rfl, by simp, fun h => absurd ?_ hd⟩
    subst h
    rfl
  ·rw [if_neg (by omega)]
   refine ⟨true, rfl, fun _ => ?_, fun _ => rfl⟩
   exact List.ext_getElem? fun i => by
    by_cases hi : i < j
    ·exact he i hi
    ·rw [List.getElem?_eq_none (by omega), List.getElem?_eq_none (by omega)]
theorem same_all (x0 x1 : List S50) (hb : x0.length ≤ 100000) (k : Nat) (hk : x0.length < k) : ∃ r, api_Piece.f k x0 x1 = some r ∧ (r = true ↔ x0 = x1) := by
 unfold api_Piece.f
 by_cases hl : x0.length = x1.length
 ·rw [if_pos (by omega)]
  exact same_loop x0 x1 hl hb x0.length 0 k (by omega) (by omega) hk (fun i hi => by omega)
 ·rw [if_neg (by omega)]
  exact ⟨false, rfl, by simp, fun h => absurd (by rw [h]) hl⟩
theorem chain_len : ∀ (l : List Lx.Piece) (a e : Nat), Lx.Chain l a e → a + l.length ≤ e
 | [], a, e, h => by obtain rfl : a = e := h; simp
 | p :: l, a, e, h => by
  obtain ⟨h1, h2, h3, h4, h5, h6⟩ := h
  have := chain_len l _ _ h6
  simp only [List.length_cons]
  omega
theorem cells_len (s : ByteArray) : (cells50 s).length ≤ 20000 := by
 unfold cells50
 rw [List.length_map]
 unfold Lx.outL
 cases hp : Lx.pieces s.data.toList with
 | ok l =>
  obtain ⟨hc, hs⟩ := Lx.pieces_chain hp
  have := chain_len _ _ _ hc
  show l.length ≤ 20000
  omega
 | error er => simp
theorem size_le {s : ByteArray} (h : Lx.outE s = 0) : s.size ≤ 20000 := by
 unfold Lx.outE at h
 cases hp : Lx.pieces s.data.toList with
 | ok l =>
  have := (Lx.pieces_chain hp).2
  rw [Array.length_toList] at this
  exact this
 | error er => rw [hp] at h; exact absurd h (Lx.pieces_error hp)
theorem change_ok (k : Nat) (a0 : ByteArray) (x y : Int) (z : ByteArray) (h0 : a0.size ≤ 20000) (hz : z.size ≤ 140737488351232) (h : updSplices a0.size x y = true) : lex_Change.f (k + 1) a0 x y z = some (updChanged a0 x y z, 0) := by
 obtain ⟨h1, h2, h3, h4⟩ := of_decide_eq_true h
 have hs : ∀ a b, (a0.extract a b).size ≤ 20000 := fun a b => by rw [ByteArray.size_extract]; omega
 unfold lex_Change.f
 rw [if_neg (by omega), if_neg (by omega), if_neg (by omega), updSmall _ (by omega) (by omega), decide_eq_false (by omega)]
 rw [lex_Change.j0]
 rw [if_neg (by simp), if_pos h1, if_pos h3, updSmall _ (by omega) (by omega)]
 rw [if_pos (by have := hs 0 x.toNat; omega), if_pos (by omega), if_pos (by omega), if_pos (by rw [ByteArray.size_append]; have := hs 0 x.toNat; have := hs (x + y).toNat a0.size; omega)]
 rfl
theorem change_bad (k : Nat) (a0 : ByteArray) (x y : Int) (z : ByteArray) (h0 : a0.size ≤ 20000) (h : updSplices a0.size x y = false) : lex_Change.f (k + 1) a0 x y z = some (⟨#[]⟩, 1) := by
 have h' := of_decide_eq_false h
 unfold lex_Change.f
 by_cases h1 : x < 0
 ·rw [if_pos h1]; rw [lex_Change.j0, if_pos rfl]
 ·rw [if_neg h1]
  by_cases h2 : y < 0
  ·rw [if_pos h2]; rw [lex_Change.j0, if_pos rfl]
  ·rw [if_neg h2]
   by_cases h3 : x > (a0.size : Int)
   ·rw [if_pos h3]; rw [lex_Change.j0, if_pos rfl]
   ·rw [if_neg h3, updSmall _ (by omega) (by omega), decide_eq_true (by omega)]
    rw [lex_Change.j0, if_pos rfl]

/-! ### The contracts of the callees, in the walk's words -/
theorem pieces_c (a : ByteArray) {w : World} (hE : Lx.Env w) : Calls Tryz.prog 19 #[.string a] w fun e w' => ∃ A c, e = .returned (.tuple #[.slice A (cells50 a).length c, .int .i64 (Lx.outAt a), .int .i64 (Lx.outE a)]) ∧ Hid (Kd.R k50 50 w' w.heap.size (fun _ => True) (.slice A (cells50 a).length c) (cells50 a)) ∧ Hid (Below w.heap.size w w') :=
 (lex_Pieces.calls a (cells50 a) _ _ w rfl hE).mono fun e w' ⟨v, he, hr, hb⟩ => by
  obtain ⟨A, c, rfl⟩ := Kd.R_slice hr
  exact ⟨A, c, he, Lib.hid hr, Lib.hid hb⟩
theorem same_c {A0 A1 : Option Addr} {c0 c1 : Nat} {l0 l1 : List S50} {w : World} (hb : l0.length ≤ 20000) (h0 : Kd.C k50 w A0 l0.length l0) (g0 : l0.length ≤ c0) (h1 : Kd.C k50 w A1 l1.length l1) (g1 : l1.length ≤ c1) (r : Bool) (hr : r = true ↔ l0 = l1) :
  Calls Tryz.prog 40 #[.slice A0 l0.length c0, .slice A1 l1.length c1] w fun e w' => e = .returned (.bool r) ∧ Drawn0 w w' := by
 obtain ⟨b, hf, hb'⟩ := same_all l0 l1 (by omega) (l0.length + 1) (by omega)
 have e : b = r := by rw [Bool.eq_iff_iff, hb', hr]
 subst e
 exact api_Piece.calls (l0.length + 1) A0 c0 l0 A1 c1 l1 b w h0 g0 h1 g1 hf

/-- What the walk wants of a block that it knows. -/
theorem two_cells {w : World} {g : Nat} {u v : Value} {t : TypeId} (h : w.heap[g]? = some (.cells #[u, v] t (0, 0))) : w.cell? ⟨g, 0, none⟩ = some u ∧ w.cell? ⟨g, 1, none⟩ = some v ∧ w.frozen? ⟨g, 0, none⟩ = false ∧ w.frozen? ⟨g, 1, none⟩ = false :=
 ⟨blk_cell h 0, blk_cell h 1, blk_frozen h 0, blk_frozen h 1⟩
theorem three_cells {w : World} {g : Nat} {u v x : Value} {t : TypeId} (h : w.heap[g]? = some (.cells #[u, v, x] t (0, 0))) : w.cell? ⟨g, 0, none⟩ = some u ∧ w.cell? ⟨g, 1, none⟩ = some v ∧ w.cell? ⟨g, 2, none⟩ = some x ∧ w.frozen? ⟨g, 0, none⟩ = false ∧ w.frozen? ⟨g, 1, none⟩ = false ∧ w.frozen? ⟨g, 2, none⟩ = false :=
 ⟨blk_cell h 0, blk_cell h 1, blk_cell h 2, blk_frozen h 0, blk_frozen h 1, blk_frozen h 2⟩
theorem put_two {W : World} {g : Nat} {u v a b : Value} {t : TypeId} (h : W.heap[g]? = some (.cells #[u, v] t (0, 0))) : (W.setCell ⟨g, 0, none⟩ a).cell? ⟨g, 0, none⟩ = some a ∧ ((W.setCell ⟨g, 0, none⟩ a).setCell ⟨g, 1, none⟩ b).cell? ⟨g, 1, none⟩ = some b ∧ ((W.setCell ⟨g, 0, none⟩ a).setCell ⟨g, 1, none⟩ b).cell? ⟨g, 0, none⟩ = some a ∧ ((W.setCell ⟨g, 0, none⟩ a).setCell ⟨g, 1, none⟩ b).heap[g]? = some (.cells #[a, b] t (0, 0)) := by
 have h0 : (W.setCell ⟨g, 0, none⟩ a).heap[g]? = some (.cells #[a, v] t (0, 0)) := blk_put h 0 a rfl
 have h1 : ((W.setCell ⟨g, 0, none⟩ a).setCell ⟨g, 1, none⟩ b).heap[g]? = some (.cells #[a, b] t (0, 0)) := blk_put h0 1 b rfl
 exact ⟨blk_cell h0 0, blk_cell h1 1, blk_cell h1 0, h1⟩
theorem start_blk {w w2 : World} {o5 o7 : Obj} (hb : Below ((w.alloc o5).alloc o7).heap.size ((w.alloc o5).alloc o7) w2) : w2.heap[w.heap.size]? = some o5 ∧ w2.heap[w.heap.size + 1]? = some o7 ∧ Below w.heap.size w w2 := by
 refine ⟨blk_below (blk_alloc (blk_new w o5) o7) hb, blk_below ?_ hb, ?_⟩
 ·have h := blk_new (w.alloc o5) o7
  rwa [World.size_alloc] at h
 ·exact ((Below.refl _ _).alloc (Nat.le_refl _) _ |>.alloc (by simp) _).trans (hb.mono (by simp; omega))

set_option maxHeartbeats 1600000 in
set_option maxRecDepth 100000 in
theorem update_wrong (a0 : ByteArray) (A1 : Option Addr) (c1 : Nat) (l1 : List S50) (x y : Int) (z : ByteArray) (w : World) (h1 : Kd.C k50 w A1 l1.length l1) (g1 : l1.length ≤ c1) (hE : Lx.Env w) (h : ¬ (Lx.outE a0 = 0 ∧ cells50 a0 = l1)) :
  Calls Tryz.prog 20 #[.string a0, .slice A1 l1.length c1, .agg #[.int .i64 x, .int .i64 y, .string z]] w fun e w' => e = .returned (.tuple #[.slice none 0 0, .agg #[.int .i64 0, .int .i64 0], .int .i64 0, .int .i64 15]) ∧ Below w.heap.size w w' := by
 have HE := Lib.hid hE
 have H1 := Lib.hid h1
 have H := Lib.hid h
 clear hE h1 h
 by_cases he : Lx.outE a0 = 0
 ·have hd : decide (Lx.outE a0 = 0) = true := decide_eq_true he
  have hlen := cells_len a0
  have hne : cells50 a0 ≠ l1 := fun e => H.out ⟨he, e⟩
  have hd : (Lx.outE a0 == 0) = true := by simpa using he
  have hd2 : (Lx.outE a0 != 0) = false := by simpa using he
  have HE0 := Lib.hid he
  clear he
  go_enter Tryz.func20, Tryz.ntmps20
  go_wp2_with fail
  refine (pieces_c a0 (HE.out.below (by repeat (first | (with_reducible exact Below.refl _ _) | (with_reducible apply below_alloc))))).mono ?_
  rintro e w2 ⟨A, c, rfl, HR, HB⟩
  go_wp2_with fail
  obtain ⟨hb5, hb7, hb0⟩ := start_blk HB.out
  have B0 := Lib.hid hb0
  obtain ⟨x0, x1, y0, y1⟩ := two_cells hb7
  have K5 := Lib.hid hb5
  have K7 := Lib.hid hb7
  clear hb5 hb7 hb0
  refine (same_c hlen (Kd.R_reads' HR.out).2.2 (Kd.R_reads' HR.out).2.1 (Kd.C_below H1.out B0.out) g1 false (by simp [hne])).mono ?_
  rintro e w3 ⟨rfl, ⟨nd, rfl⟩⟩
  go_wp2_with fail
  obtain ⟨z0, z1, z2, _⟩ := put_two (a := .int .i64 0) (b := .int .i64 0) (blk_drewN K7.out nd)
  exact bodyPost_ret (v := .tuple #[.slice none 0 0, .agg #[.int .i64 0, .int .i64 0], .int .i64 0, .int .i64 15]) (by simp [results, Tryz.results20, go_sem, z0, z1, z2]) rfl ⟨rfl, by repeat (first | (with_reducible exact B0.out) | (with_reducible apply pw_below_drewN) | (with_reducible refine Below.setCell ?_ ?_ _; case refine_2 => simp))⟩
 ·have hd : (Lx.outE a0 == 0) = false := by simpa using he
  have hd2 : (Lx.outE a0 != 0) = true := by simpa using he
  clear he
  go_enter Tryz.func20, Tryz.ntmps20
  go_wp2_with fail
  refine (pieces_c a0 (HE.out.below (by repeat (first | (with_reducible exact Below.refl _ _) | (with_reducible apply below_alloc))))).mono ?_
  rintro e w2 ⟨A, c, rfl, HR, HB⟩
  obtain ⟨hb5, hb7, hb0⟩ := start_blk HB.out
  have B0 := Lib.hid hb0
  obtain ⟨x0, x1, y0, y1⟩ := two_cells hb7
  have K5 := Lib.hid hb5
  have K7 := Lib.hid hb7
  clear hb5 hb7 hb0
  go_wp2_with fail
  obtain ⟨z0, z1, z2, _⟩ := put_two (a := .int .i64 0) (b := .int .i64 0) K7.out
  exact bodyPost_ret (v := .tuple #[.slice none 0 0, .agg #[.int .i64 0, .int .i64 0], .int .i64 0, .int .i64 15]) (by simp [results, Tryz.results20, go_sem, z0, z1, z2]) rfl ⟨rfl, by repeat (first | (with_reducible exact B0.out) | (with_reducible apply pw_below_drewN) | (with_reducible refine Below.setCell ?_ ?_ _; case refine_2 => simp))⟩
theorem change_c (a0 : ByteArray) (x y : Int) (z : ByteArray) (h0 : a0.size ≤ 20000) (hz : z.size ≤ 140737488351232) (h : updSplices a0.size x y = true) (w : World) : Calls Tryz.prog 6 #[.string a0, .agg #[.int .i64 x, .int .i64 y, .string z]] w fun e w' => e = .returned (.tuple #[.string (updChanged a0 x y z), .int .i64 0]) ∧ Hid (Below w.heap.size w w') :=
 (lex_Change.calls 1 a0 x y z _ _ w (change_ok 0 a0 x y z h0 hz h)).mono fun _ _ h => ⟨h.1, Lib.hid h.2⟩
theorem change_no (a0 : ByteArray) (x y : Int) (z : ByteArray) (h0 : a0.size ≤ 20000) (h : updSplices a0.size x y = false) (w : World) : Calls Tryz.prog 6 #[.string a0, .agg #[.int .i64 x, .int .i64 y, .string z]] w fun e w' => e = .returned (.tuple #[.string ⟨#[]⟩, .int .i64 1]) ∧ Hid (Below w.heap.size w w') :=
 (lex_Change.calls 1 a0 x y z _ _ w (change_bad 0 a0 x y z h0 h)).mono fun _ _ h => ⟨h.1, Lib.hid h.2⟩

set_option maxHeartbeats 1600000 in
set_option maxRecDepth 100000 in
theorem update_bad (a0 : ByteArray) (A1 : Option Addr) (c1 : Nat) (x y : Int) (z : ByteArray) (w : World) (h1 : Kd.C k50 w A1 (cells50 a0).length (cells50 a0)) (g1 : (cells50 a0).length ≤ c1) (hE : Lx.Env w) (he : Lx.outE a0 = 0) (hs : updSplices a0.size x y = false) :
  Calls Tryz.prog 20 #[.string a0, .slice A1 (cells50 a0).length c1, .agg #[.int .i64 x, .int .i64 y, .string z]] w fun e w' => e = .returned (.tuple #[.slice none 0 0, .agg #[.int .i64 0, .int .i64 0], .int .i64 0, .int .i64 1]) ∧ Below w.heap.size w w' := by
 have HE := Lib.hid hE
 have H1 := Lib.hid h1
 have hlen := cells_len a0
 have hsz := size_le he
 have HC := Lib.hid (change_no a0 x y z hsz hs)
 have hd : (Lx.outE a0 == 0) = true := by simpa using he
 have hd2 : (Lx.outE a0 != 0) = false := by simpa using he
 clear hE h1 he hs
 go_enter Tryz.func20, Tryz.ntmps20
 go_wp2_with fail
 refine (pieces_c a0 (HE.out.below (by repeat (first | (with_reducible exact Below.refl _ _) | (with_reducible apply below_alloc))))).mono ?_
 rintro e w2 ⟨A, c, rfl, HR, HB⟩
 obtain ⟨hb5, hb7, hb0⟩ := start_blk HB.out
 have B0 := Lib.hid hb0
 obtain ⟨x0, x1, x2, y0, y1, y2⟩ := three_cells hb5
 have K7 := Lib.hid hb7
 clear hb5 hb7 hb0
 go_wp2_with fail
 refine (same_c hlen (Kd.R_reads' HR.out).2.2 (Kd.R_reads' HR.out).2.1 (Kd.C_below H1.out B0.out) g1 true (by simp)).mono ?_
 rintro e w3 ⟨rfl, ⟨nd, rfl⟩⟩
 go_wp2_with fail
 refine (HC.out _).mono ?_
 rintro e w4 ⟨rfl, HB4⟩
 have B4 := Lib.hid ((pw_below_drewN B0.out nd).trans (HB4.out.mono (pw_below_drewN B0.out nd).size))
 have K7' := Lib.hid (blk_below (blk_drewN K7.out nd) HB4.out)
 obtain ⟨x0, x1, y0, y1⟩ := two_cells K7'.out
 go_wp2_with fail
 obtain ⟨z0, z1, z2, _⟩ := put_two (a := .int .i64 0) (b := .int .i64 0) K7'.out
 exact bodyPost_ret (v := .tuple #[.slice none 0 0, .agg #[.int .i64 0, .int .i64 0], .int .i64 0, .int .i64 1]) (by simp [results, Tryz.results20, go_sem, z0, z1, z2]) rfl ⟨rfl, by repeat (first | (with_reducible exact B4.out) | (with_reducible apply pw_below_drewN) | (with_reducible refine Below.setCell ?_ ?_ _; case refine_2 => simp))⟩

set_option maxHeartbeats 1600000 in
set_option maxRecDepth 100000 in
theorem update_err (a0 : ByteArray) (A1 : Option Addr) (c1 : Nat) (x y : Int) (z : ByteArray) (w : World) (h1 : Kd.C k50 w A1 (cells50 a0).length (cells50 a0)) (g1 : (cells50 a0).length ≤ c1) (hE : Lx.Env w) (he : Lx.outE a0 = 0) (hz : z.size ≤ 140737488351232) (hs : updSplices a0.size x y = true) (ht : Lx.outE (updChanged a0 x y z) ≠ 0) :
  Calls Tryz.prog 20 #[.string a0, .slice A1 (cells50 a0).length c1, .agg #[.int .i64 x, .int .i64 y, .string z]] w fun e w' => e = .returned (.tuple #[.slice none 0 0, .agg #[.int .i64 0, .int .i64 0], .int .i64 (Lx.outAt (updChanged a0 x y z)), .int .i64 (Lx.outE (updChanged a0 x y z))]) ∧ Below w.heap.size w w' := by
 have HE := Lib.hid hE
 have H1 := Lib.hid h1
 have hlen := cells_len a0
 have hsz := size_le he
 have HC := Lib.hid (change_c a0 x y z hsz hz hs)
 have hd : (Lx.outE a0 == 0) = true := by simpa using he
 have hd2 : (Lx.outE a0 != 0) = false := by simpa using he
 obtain ⟨t, hT⟩ : ∃ t, updChanged a0 x y z = t := ⟨_, rfl⟩
 rw [hT] at HC ht ⊢
 have hd3 : (Lx.outE t == 0) = false := by simpa using ht
 have hd4 : (Lx.outE t != 0) = true := by simpa using ht
 clear hE h1 he hs hT ht
 go_enter Tryz.func20, Tryz.ntmps20
 go_wp2_with fail
 refine (pieces_c a0 (HE.out.below (by repeat (first | (with_reducible exact Below.refl _ _) | (with_reducible apply below_alloc))))).mono ?_
 rintro e w2 ⟨A, c, rfl, HR, HB⟩
 obtain ⟨hb5, hb7, hb0⟩ := start_blk HB.out
 have B0 := Lib.hid hb0
 obtain ⟨x0, x1, x2, y0, y1, y2⟩ := three_cells hb5
 have K7 := Lib.hid hb7
 clear hb5 hb7 hb0
 go_wp2_with fail
 refine (same_c hlen (Kd.R_reads' HR.out).2.2 (Kd.R_reads' HR.out).2.1 (Kd.C_below H1.out B0.out) g1 true (by simp)).mono ?_
 rintro e w3 ⟨rfl, ⟨nd, rfl⟩⟩
 go_wp2_with fail
 refine (HC.out _).mono ?_
 rintro e w4 ⟨rfl, HB4⟩
 have B4 := Lib.hid ((pw_below_drewN B0.out nd).trans (HB4.out.mono (pw_below_drewN B0.out nd).size))
 have K7' := Lib.hid (blk_below (blk_drewN K7.out nd) HB4.out)
 clear x0 x1 x2 y0 y1 y2 HB4
 go_wp2_with fail
 refine (pieces_c t (HE.out.below B4.out)).mono ?_
 rintro e w5 ⟨At, ct, rfl, HRt, HBt⟩
 have B5 := Lib.hid (B4.out.trans (HBt.out.mono B4.out.size))
 have K7t := Lib.hid (blk_below K7'.out HBt.out)
 obtain ⟨x0, x1, y0, y1⟩ := two_cells K7t.out
 go_wp2_with fail
 obtain ⟨z0, z1, z2, _⟩ := put_two (a := .int .i64 0) (b := .int .i64 0) K7t.out
 exact bodyPost_ret (v := .tuple #[.slice none 0 0, .agg #[.int .i64 0, .int .i64 0], .int .i64 (Lx.outAt t), .int .i64 (Lx.outE t)]) (by simp [results, Tryz.results20, go_sem, z0, z1, z2]) rfl ⟨rfl, by repeat (first | (with_reducible exact B5.out) | (with_reducible apply pw_below_drewN) | (with_reducible refine Below.setCell ?_ ?_ _; case refine_2 => simp))⟩

theorem fresh_two (wr : World) (oa ob : Obj) : ((wr.alloc oa).alloc ob).drew.heap[wr.heap.size]? = some oa ∧ ((wr.alloc oa).alloc ob).drew.heap[wr.heap.size + 1]? = some ob := by
 refine ⟨blk_drew (blk_alloc (blk_new wr oa) ob), ?_⟩
 have h := blk_new (wr.alloc oa) ob
 rw [World.size_alloc] at h
 exact blk_drew h
theorem updFinish {w w4 w5 X : World} {At : Option Addr} {n ct : Nat} {now : List S50} {u0 u1 : Value} (HRt : Kd.R k50 50 w5 w4.heap.size (fun _ => True) (.slice At n ct) now) (hs4 : w.heap.size + 1 < w4.heap.size) (h45 : w4.heap.size ≤ w5.heap.size) (hB5 : Below w.heap.size w w5) (HBX : Below w5.heap.size w5 X) (K7 : X.heap[w.heap.size + 1]? = some (.cells #[u0, u1] 46 (0, 0))) (a b : Value) :
  Kd.R k50 50 ((X.setCell ⟨w.heap.size + 1, 0, none⟩ a).setCell ⟨w.heap.size + 1, 1, none⟩ b) w.heap.size (fun _ => True) (.slice At n ct) now ∧ Below w.heap.size w ((X.setCell ⟨w.heap.size + 1, 0, none⟩ a).setCell ⟨w.heap.size + 1, 1, none⟩ b) := by
 refine ⟨?_, ((hB5.trans (HBX.mono hB5.size)).setCell (by simp) _).setCell (by simp) _⟩
 refine Kd.R_mono (Kd.R_lower (Kd.R_move (Kd.R_bound (Kd.R_below HRt HBX)) (fun k hk => ?_)) (by omega)) (fun _ _ => trivial)
 have hne : k ≠ w.heap.size + 1 := by have := hk.2.1; omega
 exact (Below.heap_setCell _ ⟨w.heap.size + 1, 1, none⟩ _ k hne).trans (Below.heap_setCell _ ⟨w.heap.size + 1, 0, none⟩ _ k hne)
set_option maxHeartbeats 3200000 in
set_option maxRecDepth 100000 in
theorem update_full (a0 : ByteArray) (A1 : Option Addr) (c1 : Nat) (x y : Int) (z : ByteArray) (w : World) (h1 : Kd.C k50 w A1 (cells50 a0).length (cells50 a0)) (g1 : (cells50 a0).length ≤ c1) (hE : Lx.Env w) (he : Lx.outE a0 = 0) (hz : z.size ≤ 140737488351232) (hs : updSplices a0.size x y = true) (ht : Lx.outE (updChanged a0 x y z) = 0) :
  Calls Tryz.prog 20 #[.string a0, .slice A1 (cells50 a0).length c1, .agg #[.int .i64 x, .int .i64 y, .string z]] w fun e w' => ∃ v, e = .returned (.tuple #[v, .agg #[.int .i64 (updFront (cells50 a0) (cells50 (updChanged a0 x y z)) : Nat), .int .i64 (updBack (cells50 a0) (cells50 (updChanged a0 x y z)) (((updChanged a0 x y z).size : Int) - a0.size) : Nat)], .int .i64 0, .int .i64 0]) ∧ Kd.R k50 50 w' w.heap.size (fun _ => True) v (cells50 (updChanged a0 x y z)) ∧ Below w.heap.size w w' := by
 have HE := Lib.hid hE
 have H1 := Lib.hid h1
 have hlen := cells_len a0
 have hsz := size_le he
 have HC := Lib.hid (change_c a0 x y z hsz hz hs)
 have hd : (Lx.outE a0 == 0) = true := by simpa using he
 have hd2 : (Lx.outE a0 != 0) = false := by simpa using he
 obtain ⟨t, hT⟩ : ∃ t, updChanged a0 x y z = t := ⟨_, rfl⟩
 rw [hT] at HC ht ⊢
 have hlent := cells_len t
 have hszt := size_le ht
 have hd3 : (Lx.outE t == 0) = true := by simpa using ht
 have hd4 : (Lx.outE t != 0) = false := by simpa using ht
 obtain ⟨old, hold⟩ : ∃ l, cells50 a0 = l := ⟨_, rfl⟩
 have PC := Lib.hid (fun (w : World) (hE : Lx.Env w) => pieces_c a0 hE)
 have PCt := Lib.hid (fun (w : World) (hE : Lx.Env w) => pieces_c t hE)
 obtain ⟨now, hnow⟩ : ∃ l, cells50 t = l := ⟨_, rfl⟩
 rw [hold] at H1 hlen g1 PC
 rw [hnow] at hlent PCt
 rw [hold, hnow]
 clear hE h1 he hs hT ht hold hnow
 go_enter Tryz.func20, Tryz.ntmps20
 go_wp2_with fail
 refine (PC.out _ (HE.out.below (by repeat (first | (with_reducible exact Below.refl _ _) | (with_reducible apply below_alloc))))).mono ?_
 rintro e w2 ⟨A, c, rfl, HR, HB⟩
 obtain ⟨hb5, hb7, hb0⟩ := start_blk HB.out
 have B0 := Lib.hid hb0
 obtain ⟨x0, x1, x2, y0, y1, y2⟩ := three_cells hb5
 have K7 := Lib.hid hb7
 have RD := Lib.hid ((Kd.R_reads' HR.out).2.2)
 clear hb5 hb7 hb0
 go_wp2_with fail
 refine (same_c hlen (Kd.R_reads' HR.out).2.2 (Kd.R_reads' HR.out).2.1 (Kd.C_below H1.out B0.out) g1 true (by simp)).mono ?_
 rintro e w3 ⟨rfl, ⟨nd, rfl⟩⟩
 go_wp2_with fail
 refine (HC.out _).mono ?_
 rintro e w4 ⟨rfl, HB4⟩
 have B4 := Lib.hid ((pw_below_drewN B0.out nd).trans (HB4.out.mono (pw_below_drewN B0.out nd).size))
 have K7' := Lib.hid (blk_below (blk_drewN K7.out nd) HB4.out)
 have RD4 := Lib.hid (Kd.C_below (Kd.C_drewN RD.out nd) HB4.out)
 clear x0 x1 x2 y0 y1 y2 HB4 RD K7 HR HB
 go_wp2_with fail
 refine (PCt.out _ (HE.out.below B4.out)).mono ?_
 rintro e w5 ⟨At, ct, rfl, HRt, HBt⟩
 have B5 := Lib.hid (B4.out.trans (HBt.out.mono B4.out.size))
 have K7t := Lib.hid (blk_below K7'.out HBt.out)
 have RDo := Lib.hid (Kd.C_below RD4.out HBt.out)
 have RDn := Lib.hid ((Kd.R_reads' HRt.out).2.2)
 have hs4 := blk_lt K7'.out
 clear RD4 K7' B4 B0 H1 HE HC PC PCt
 obtain ⟨M, hM⟩ : ∃ M, updMost old now = M := ⟨_, rfl⟩
 have HM := Lib.hid hM
 have hMo : M ≤ old.length := by rw [← hM]; unfold updMost; split <;> omega
 have hMn : M ≤ now.length := by rw [← hM]; unfold updMost; split <;> omega
 clear hM
 go_upto_region 11 with (fail)
 go_cut [17] (fun v17 wc => v17 = .int .i64 (M : Nat) ∧ wc = w5.alloc (.cells #[.int .i64 0, .int .i64 0] 46))
 case first =>
  go_wp2_with fail
  all_goals
   go_meet
   case rel =>
    refine ⟨?_, rfl⟩
    rw [← HM.out]
    unfold updMost
    first | rw [if_pos (by omega)] | rw [if_neg (by omega)]
 case rest =>
  obtain ⟨rfl, rfl⟩ := hcut
  go_wp2_with fail
  go_loopg [] M (fun kq wr => ∃ f : Nat, kq + f = M ∧ Hid (Below w5.heap.size w5 wr) ∧ Hid (wr.heap[w5.heap.size]? = some (.cells #[.int .i64 f, .int .i64 0] 46 (0, 0))) ∧ Hid (updCommon old now = f + updCommon (old.drop f) (now.drop f)))
  case atStart => exact ⟨0, by omega, Lib.hid (below_alloc (Below.refl _ _) _), Lib.hid (blk_new _ _), Lib.hid (by simp)⟩
  case round =>
   obtain ⟨f, hkf, HBr, HKr, HCr⟩ := hrel
   have hfM : f ≤ M := by omega
   have HKF := Lib.hid hkf
   clear hkf
   obtain ⟨v, hv⟩ : ∃ v : Bool, (decide (f < M) && updEq (rd_T50 old (f : Int)) (rd_T50 now (f : Int))) = v := ⟨_, rfl⟩
   have HV := Lib.hid hv
   clear hv
   go_upto_region 12 with (fail)
   go_cut [78] (fun v78 wc => v78 = .bool v ∧ Hid (Below w5.heap.size w5 wc) ∧ Hid (wc.heap[w5.heap.size]? = some (.cells #[.int .i64 f, .int .i64 0] 46 (0, 0))))
   case first =>
    obtain ⟨x0, x1, y0, y1⟩ := two_cells HKr.out
    by_cases hlt : f < M
    ·have hd5 : decide ((f : Int) < M) = true := decide_eq_true (by omega)
     obtain ⟨ad, had, o0, o1, o2⟩ := at_T50 (Kd.C_below RDo.out HBr.out) (f : Int) (by omega) (by omega)
     obtain ⟨an, han, n0, n1, n2⟩ := at_T50 (Kd.C_below RDn.out HBr.out) (f : Int) (by omega) (by omega)
     subst had
     subst han
     rw [Int.toNat_natCast] at o0 o1 o2 n0 n1 n2
     have hi0 : (0 : Int) ≤ f := by omega
     have hi1 : (f : Int) < old.length := by omega
     have hi2 : (f : Int) < now.length := by omega
     go_quiet (fail)
     go_wp2
     go_meet
     case rel =>
      refine ⟨?_, Lib.hid (pw_below_drewN HBr.out _), Lib.hid (blk_drewN HKr.out _)⟩
      rw [← HV.out, decide_eq_true hlt, Bool.true_and]
      rfl
    ·have hd5 : decide ((f : Int) < M) = false := decide_eq_false (by omega)
     go_quiet (fail)
     go_wp2
     go_meet
     case rel =>
      refine ⟨?_, Lib.hid (pw_below_drewN HBr.out _), Lib.hid (blk_drewN HKr.out _)⟩
      rw [← HV.out, decide_eq_false hlt, Bool.false_and]
   case rest =>
    obtain ⟨rfl, HBc, HKc⟩ := hcut
    clear HBr HKr
    obtain ⟨x0, x1, y0, y1⟩ := two_cells HKc.out
    cases v with
    | true =>
     have hb := HV.out
     rw [Bool.and_eq_true] at hb
     have hlt := of_decide_eq_true hb.1
     have HS := Lib.hid (updCommon_step old now f (by omega) (by omega))
     have HQ := Lib.hid hb.2
     have hw : IntKind.i64.wrap ((f : Int) + 1) = (f : Int) + 1 := IntWalk.i64_in _ (by omega)
     clear hb
     go_wp2_with fail
     go_roundg (gk - 1)
     case measure => have := HKF.out; omega
     case rel =>
      refine ⟨f + 1, by have := HKF.out; omega, Lib.hid ?_, Lib.hid ?_, Lib.hid ?_⟩
      ·exact HBc.out.setCell (by simp) _
      ·exact blk_put HKc.out 0 _ (by simp)
      ·have h1 := HCr.out
       rw [HS.out, if_pos HQ.out] at h1
       omega
    | false =>
     have HF : Hid (updFront old now = f) := Lib.hid (by
      unfold updFront
      rw [HCr.out]
      by_cases hlt : f < M
      ·have hb := HV.out
       rw [decide_eq_true hlt, Bool.true_and] at hb
       rw [updCommon_step old now f (by omega) (by omega), if_neg (by rw [hb]; simp), Nat.add_zero]
      ·rw [updCommon_end old now f (by have := HM.out; unfold updMost at this; split at this <;> omega), Nat.add_zero])
     clear HCr HV HKF x0 x1 y0 y1
     go_wp2_with fail
     obtain ⟨by_, hby⟩ : ∃ by_ : Int, (t.size : Int) - a0.size = by_ := ⟨_, rfl⟩
     have hby0 : -20000 ≤ by_ := by omega
     have hby1 : by_ ≤ 20000 := by omega
     have HBY := Lib.hid hby
     rw [hby]
     clear hby
     obtain ⟨ro, hro⟩ : ∃ r, (old.map (updShift by_)).reverse = r := ⟨_, rfl⟩
     obtain ⟨rn, hrn⟩ : ∃ r, now.reverse = r := ⟨_, rfl⟩
     have hlo : ro.length = old.length := by rw [← hro]; simp
     have hln : rn.length = now.length := by rw [← hrn]; simp
     have HRO := Lib.hid hro
     have HRN := Lib.hid hrn
     have HLO := Lib.hid hlo
     have HLN := Lib.hid hln
     clear hro hrn hlo hln
     go_loopg [] (M - f) (fun kq wr => ∃ b : Nat, kq + b = M - f ∧ Hid (Below w5.heap.size w5 wr) ∧ Hid (wr.heap[w5.heap.size]? = some (.cells #[.int .i64 f, .int .i64 b] 46 (0, 0))) ∧ Hid (updCommon ro rn = b + updCommon (ro.drop b) (rn.drop b)))
     case atStart => exact ⟨0, by omega, HBc, HKc, Lib.hid (by simp)⟩
     case round =>
      clear HBc HKc
      obtain ⟨b, hkb, HBr, HKr, HCb⟩ := hrel
      have hbM : f + b ≤ M := by omega
      have HKB := Lib.hid hkb
      clear hkb
      obtain ⟨x0, x1, y0, y1⟩ := two_cells HKr.out
      have hw1 : IntKind.i64.wrap ((f : Int) + b) = (f : Int) + b := IntWalk.i64_in _ (by omega)
      by_cases hlt : f + b < M
      ·have hd5 : decide ((f : Int) + b < M) = true := decide_eq_true (by omega)
       obtain ⟨ad, had, o0, o1, o2⟩ := at_T50 (Kd.C_below RDo.out HBr.out) ((old.length : Int) - 1 - b) (by omega) (by omega)
       obtain ⟨an, han, n0, n1, n2⟩ := at_T50 (Kd.C_below RDn.out HBr.out) ((now.length : Int) - 1 - b) (by omega) (by omega)
       subst had
       subst han
       have hi1 : (0 : Int) ≤ (old.length : Int) - 1 - b := by omega
       have hi2 : (old.length : Int) - 1 - b < old.length := by omega
       have hi3 : (0 : Int) ≤ (now.length : Int) - 1 - b := by omega
       have hi4 : (now.length : Int) - 1 - b < now.length := by omega
       obtain ⟨p, hp⟩ : ∃ p, rd_T50 old ((old.length : Int) - 1 - b) = p := ⟨_, rfl⟩
       obtain ⟨q, hq⟩ : ∃ q, rd_T50 now ((now.length : Int) - 1 - b) = q := ⟨_, rfl⟩
       rw [hp, show ((old.length : Int) - 1 - b).toNat = old.length - 1 - b from by omega] at o0 o1 o2
       rw [hq, show ((now.length : Int) - 1 - b).toNat = now.length - 1 - b from by omega] at n0 n1 n2
       have HP := Lib.hid hp
       have HQ := Lib.hid hq
       clear hp hq
       have hl5 : w5.heap.size < wr.heap.size := blk_lt HKr.out
       have hl6 : w5.heap.size ≤ wr.heap.size := Nat.le_of_lt hl5
       have ho5 := World.block_lt_of_cell? wr _ o0
       have ho6 := Nat.le_of_lt ho5
       have hn5 := World.block_lt_of_cell? wr _ n0
       have hn6 := Nat.le_of_lt hn5
       go_upto_region 16 with (fail)
       go_cut [19, 20] (fun v19 v20 wc => ∃ g h : Nat, v19 = .pointer (some ⟨g, 0, none⟩) ∧ v20 = .pointer (some ⟨h, 0, none⟩) ∧ g ≠ h ∧ w5.heap.size < g ∧ w5.heap.size < h ∧ Hid (Below w5.heap.size w5 wc) ∧ Hid (wc.heap[w5.heap.size]? = some (.cells #[.int .i64 f, .int .i64 b] 46 (0, 0))) ∧ Hid (wc.heap[g]? = some (.cells #[.int .i64 p.f0, .int .i64 p.f1, .int .i64 p.f2] 50 (0, 0))) ∧ Hid (wc.heap[h]? = some (.cells #[.int .i64 q.f0, .int .i64 q.f1, .int .i64 q.f2] 50 (0, 0))))
       case first =>
        go_region
        all_goals
         go_wp2
         go_meet
         case rel =>
          refine ⟨_, _, rfl, rfl, by omega, by omega, by omega, Lib.hid (below_drew1 (Below.alloc (Below.alloc HBr.out hl6 _) (by simp; omega) _)), Lib.hid (blk_drew (blk_alloc (blk_alloc HKr.out _) _)), Lib.hid ?_, Lib.hid ?_⟩
          ·first | exact (fresh_two _ _ _).1 | exact (fresh_two _ _ _).2
          ·first | exact (fresh_two _ _ _).1 | exact (fresh_two _ _ _).2
       case rest =>
        obtain ⟨g, h, rfl, rfl, hgh, hg5, hh5, HBc, HKc, HGc, HHc⟩ := hcut
        clear x0 x1 y0 y1 o0 o1 o2 n0 n1 n2 ho5 ho6 hn5 hn6 HBr HKr
        obtain ⟨x0, x1, y0, y1⟩ := two_cells HKc.out
        obtain ⟨o0, o1, o2, o3, o4, o5⟩ := three_cells HGc.out
        obtain ⟨n0, n1, n2, n3, n4, n5⟩ := three_cells HHc.out
        have hne1 : w5.heap.size ≠ g := by omega
        have hne2 : w5.heap.size ≠ h := by omega
        have hne3 : h ≠ g := fun e => hgh e.symm
        obtain ⟨v, hv⟩ : ∃ v : Bool, updEq (updShift by_ p) q = v := ⟨_, rfl⟩
        have HV := Lib.hid hv
        clear hv
        have hgs := blk_lt HGc.out
        go_upto_region 18 with (fail)
        go_name_world X hX
        have HBX : Hid (Below w5.heap.size w5 X) := Lib.hid (hX ▸ HBc.out.setCell (by simp; omega) _)
        have HKX : Hid (X.heap[w5.heap.size]? = some (.cells #[.int .i64 f, .int .i64 b] 46 (0, 0))) := Lib.hid (hX ▸ blk_far HKc.out (by simp; omega) _)
        have HGX : Hid (X.heap[g]? = some (.cells #[.int .i64 p.f0, .int .i64 (wrap64 (p.f1 + by_)), .int .i64 p.f2] 50 (0, 0))) := Lib.hid (hX ▸ blk_put HGc.out 1 _ rfl)
        have HHX : Hid (X.heap[h]? = some (.cells #[.int .i64 q.f0, .int .i64 q.f1, .int .i64 q.f2] 50 (0, 0))) := Lib.hid (hX ▸ blk_far HHc.out (by simp; omega) _)
        clear hX x0 x1 y0 y1 o0 o1 o2 o3 o4 o5 n0 n1 n2 n3 n4 n5
        obtain ⟨x0, x1, y0, y1⟩ := two_cells HKX.out
        obtain ⟨o0, o1, o2, o3, o4, o5⟩ := three_cells HGX.out
        obtain ⟨n0, n1, n2, n3, n4, n5⟩ := three_cells HHX.out
        have hw2 : IntKind.i64.wrap ((b : Int) + 1) = (b : Int) + 1 := IntWalk.i64_in _ (by omega)
        have HS := Lib.hid (updCommon_step ro rn b (by have := HLO.out; omega) (by have := HLN.out; omega))
        cases v with
        | true =>
         have hq : (p.f0 == q.f0 && (wrap64 (p.f1 + by_) == q.f1 && p.f2 == q.f2)) = true := HV.out
         go_wp2_with fail
         go_roundg (gk - 1)
         case measure => have := HKB.out; omega
         case rel =>
          refine ⟨b + 1, by have := HKB.out; omega, Lib.hid ?_, Lib.hid ?_, Lib.hid ?_⟩
          ·exact HBX.out.setCell (by simp) _
          ·exact blk_put HKX.out 1 _ (by simp)
          ·have h1 := HCb.out
           have hrv : updEq (rd_T50 ro (b : Int)) (rd_T50 rn (b : Int)) = true := by
            rw [rev_at HRO.out (by omega), rev_now HRN.out (by omega), HP.out, HQ.out]
            exact HV.out
           rw [HS.out, if_pos hrv] at h1
           omega
        | false =>
         have hq : (p.f0 == q.f0 && (wrap64 (p.f1 + by_) == q.f1 && p.f2 == q.f2)) = false := HV.out
         have K7X := Lib.hid (blk_below K7t.out HBX.out)
         obtain ⟨r0, r1, s0, s1⟩ := two_cells K7X.out
         have HBK : Hid (updBack old now by_ = b) := Lib.hid (by
          have h1 := HCb.out
          have hrv : ¬ updEq (rd_T50 ro (b : Int)) (rd_T50 rn (b : Int)) = true := by
           rw [rev_at HRO.out (by omega), rev_now HRN.out (by omega), HP.out, HQ.out]
           have := HV.out
           rw [this]
           simp
          rw [HS.out, if_neg hrv] at h1
          unfold updBack
          rw [HM.out, HF.out, HRO.out, HRN.out, h1]
          omega)
         go_wp2_with fail
         go_region
         go_wp2_with fail
         obtain ⟨z0, z1, z2, _⟩ := put_two (a := .int .i64 f) (b := .int .i64 b) K7X.out
         obtain ⟨g1', g2'⟩ := updFinish HRt.out hs4 HBt.out.size B5.out HBX.out K7X.out (.int .i64 f) (.int .i64 b)
         refine bodyPost_ret (v := .tuple #[.slice (some an) now.length ct, .agg #[.int .i64 f, .int .i64 b], .int .i64 0, .int .i64 0]) (by simp [results, Tryz.results20, go_sem, z0, z1, z2]) rfl ⟨_, ?_, Kd.R_drew g1', below_drew1 g2'⟩
         rw [HF.out, HBY.out, HBK.out]
      ·have hd5 : decide ((f : Int) + b < M) = false := decide_eq_false (by omega)
       have K7X := Lib.hid (blk_below K7t.out HBr.out)
       obtain ⟨r0, r1, s0, s1⟩ := two_cells K7X.out
       have HBK : Hid (updBack old now by_ = b) := Lib.hid (by
        have h1 := HCb.out
        unfold updBack
        rw [HM.out, HF.out, HRO.out, HRN.out, h1]
        omega)
       go_wp2_with fail
       go_region
       go_wp2_with fail
       obtain ⟨z0, z1, z2, _⟩ := put_two (a := .int .i64 f) (b := .int .i64 b) K7X.out
       obtain ⟨g1', g2'⟩ := updFinish HRt.out hs4 HBt.out.size B5.out HBr.out K7X.out (.int .i64 f) (.int .i64 b)
       refine bodyPost_ret (v := .tuple #[.slice At now.length ct, .agg #[.int .i64 f, .int .i64 b], .int .i64 0, .int .i64 0]) (by simp [results, Tryz.results20, go_sem, z0, z1, z2]) rfl ⟨_, ?_, Kd.R_drew g1', below_drew1 g2'⟩
       rw [HF.out, HBY.out, HBK.out]

theorem lex_Update.calls (a0 : ByteArray) (A1 : Option Addr) (c1 : Nat) (l1 : List (S50)) (a2_0 : Int) (a2_1 : Int) (a2_2 : ByteArray) (r1 : List (S50)) (r2 : Int) (r3 : Int) (r4 : Int) (r5 : Int) (w : World) (hr1 : Kd.C k50 w A1 l1.length l1) (hc1 : l1.length ≤ c1) (h : lex_Update.f a0 l1 a2_0 a2_1 a2_2 = some (r1, r2, r3, r4, r5)) (hE : Lx.Env w) :
  Calls Tryz.prog 20 #[.string a0, .slice A1 l1.length c1, .agg #[.int .i64 a2_0, .int .i64 a2_1, .string a2_2]] w fun e w' => ∃ v0_ : Value, e = .returned (.tuple #[v0_, .agg #[.int .i64 r2, .int .i64 r3], .int .i64 r4, .int .i64 r5]) ∧ Kd.R k50 50 w' w.heap.size (fun _ => True) v0_ r1 ∧ Below w.heap.size w w' := by
 unfold lex_Update.f at h
 by_cases h1 : Lx.outE a0 = 0 ∧ updSame (cells50 a0) l1 = true
 ·rw [if_pos h1] at h
  obtain rfl := (updSame_iff _ _).1 h1.2
  by_cases h2 : updSplices a0.size a2_0 a2_1 = true
  ·rw [if_pos h2] at h
   by_cases h3 : a2_2.size ≤ 140737488351232
   ·rw [if_pos h3] at h
    by_cases h4 : Lx.outE (updChanged a0 a2_0 a2_1 a2_2) = 0
    ·rw [if_pos h4] at h
     cases h
     exact update_full a0 A1 c1 a2_0 a2_1 a2_2 w hr1 hc1 hE h1.1 h3 h2 h4
    ·rw [if_neg h4] at h
     cases h
     exact (update_err a0 A1 c1 a2_0 a2_1 a2_2 w hr1 hc1 hE h1.1 h3 h2 h4).mono fun e w' ⟨he, hb⟩ => ⟨_, he, Kd.R_nil _ _ _ _ _, hb⟩
   ·rw [if_neg h3] at h; cases h
  ·rw [if_neg h2] at h
   cases h
   exact (update_bad a0 A1 c1 a2_0 a2_1 a2_2 w hr1 hc1 hE h1.1 (by simpa using h2)).mono fun e w' ⟨he, hb⟩ => ⟨_, he, Kd.R_nil _ _ _ _ _, hb⟩
 ·rw [if_neg h1] at h
  cases h
  exact (update_wrong a0 A1 c1 l1 a2_0 a2_1 a2_2 w hr1 hc1 hE (fun h => h1 ⟨h.1, (updSame_iff _ _).2 h.2⟩)).mono fun e w' ⟨he, hb⟩ => ⟨_, he, Kd.R_nil _ _ _ _ _, hb⟩

/-! ### strings_Cut: function 28 -/
def strings_Cut.f (a0 : ByteArray) (a1 : ByteArray) : Option (ByteArray × ByteArray × Bool) := if a0.size < 4294967281 then some (Lx.cutA a0 a1, Lx.cutB a0 a1, Lx.cutC a0 a1) else none
theorem strings_Cut.calls (a0 : ByteArray) (a1 : ByteArray) (r1 : ByteArray) (r2 : ByteArray) (r3 : Bool) (w : World) (h : strings_Cut.f a0 a1 = some (r1, r2, r3)) (hE : Lx.Env w) :
  Calls Tryz.prog 28 #[.string a0, .string a1] w fun e w' => e = .returned (.tuple #[.string r1, .string r2, .bool r3]) ∧ Drawn0 w w' := by
 unfold strings_Cut.f at h
 split at h
 ·rename_i hs
  simp only [Option.some.injEq, Prod.mk.injEq] at h
  obtain ⟨rfl, rfl, rfl⟩ := h
  exact Lx.cut_out a0 a1 hs hE
 ·cases h

end Go.Proofs.YtdaccmjfefknoaaGreatDoor.PZb
