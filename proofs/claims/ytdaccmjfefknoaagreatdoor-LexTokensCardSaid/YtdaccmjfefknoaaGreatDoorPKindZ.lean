/- What Kind hands back, in plain words, and what a token alone in its text is like. -/
import Derived.Test.YtdaccmjfefknoaaGreatDoorPZbx6
import Derived.Test.YtdaccmjfefknoaaGreatDoorPZbx5
import Derived.Test.YtdaccmjfefknoaaGreatDoorLxMore
import Derived.Test.YtdaccmjfefknoaaGreatDoorPZbx11
set_option linter.unusedVariables false
set_option linter.unusedSimpArgs false
namespace Go.Proofs.YtdaccmjfefknoaaGreatDoor.Pure
open Go.RowKit Go.Proofs.YtdaccmjfefknoaaGreatDoor.PZb Go.Proofs.YtdaccmjfefknoaaGreatDoorW.PrintWords Go.Proofs.YtdaccmjfefknoaaGreatDoorW.PrintLast

theorem small (n : Int) (h0 : -1000000 ≤ n) (h1 : n ≤ 1000000) : wrap64 n = n := by unfold wrap64; omega
def txt (a0 : ByteArray) (p : Lx.Piece) : ByteArray := a0.extract p.at_ (p.at_ + p.len)
def tok (a0 : ByteArray) (p : Lx.Piece) : S37 := ⟨(p.kind : Int), if p.kind = 2 then Lx.valN (txt a0 p).data.toList else 0, txt a0 p, (p.at_ : Int), 0⟩
def isTok (p : Lx.Piece) : Bool := decide (p.kind ≤ 6)
def toks (a0 : ByteArray) (l : List Lx.Piece) : List S37 := (l.filter isTok).map (tok a0)
theorem extract_list (a : ByteArray) (i j : Nat) : (a.extract i j).data.toList = (a.data.toList.drop i).take (j - i) := Lib.extract_data a i j
theorem txt_list (a : ByteArray) (p : Lx.Piece) : (txt a p).data.toList = (a.data.toList.drop p.at_).take p.len := by
  unfold txt
  rw [extract_list, show p.at_ + p.len - p.at_ = p.len from by omega]
theorem txt_size (a : ByteArray) (p : Lx.Piece) (h : p.at_ + p.len ≤ a.size) : (txt a p).size = p.len := by
  unfold txt
  rw [ByteArray.size_extract]
  omega
theorem value_f (s : ByteArray) (h : s.size ≤ 140737488351232) : lex_value.f s = some (Lx.valN s.data.toList, Lx.valB s.data.toList) := by
  unfold lex_value.f
  rw [if_pos h]
theorem scan_step (a0 : ByteArray) (k : Nat) (acc : List S37) (xs : List S50) (i : Nat) (p : Lx.Piece) (hi : i < xs.length) (hrd : rd_T50 xs (i : Int) = cell50 p) (hs : a0.size ≤ 20000) (hp : p.at_ + p.len ≤ a0.size) (hil : i ≤ 20000) (ha : acc.length ≤ 20000) :
    lex_Scan.l0 (k + 1) a0 acc xs (xs.length : Int) (i : Int) = lex_Scan.l0 k a0 (if isTok p = true then acc ++ [tok a0 p] else acc) xs (xs.length : Int) ((i + 1 : Nat) : Int) := by
  have s1 : wrap64 ((i : Int) + 1) = ((i + 1 : Nat) : Int) := by rw [small _ (by omega) (by omega)]; omega
  have s2 : wrap64 ((p.at_ : Int) + p.len) = (p.at_ : Int) + p.len := small _ (by omega) (by omega)
  have et : a0.extract ((p.at_ : Int)).toNat ((p.at_ : Int) + p.len).toNat = txt a0 p := by
    unfold txt
    rw [Int.toNat_natCast, show ((p.at_ : Int) + p.len).toNat = p.at_ + p.len from by omega]
  have hsz := txt_size a0 p hp
  have hv := value_f (txt a0 p) (by omega)
  have c1 : (i : Int) < (xs.length : Int) := by omega
  have c2 : (0 : Int) ≤ (i : Int) := by omega
  have c3 : (0 : Int) ≤ (p.at_ : Int) := by omega
  have c4 : (p.at_ : Int) ≤ (p.at_ : Int) + p.len := by omega
  have c5 : (p.at_ : Int) + p.len ≤ (a0.size : Int) := by omega
  have c6 : acc.length < 2932031007402 := by omega
  rw [lex_Scan.l0, if_pos c1, if_pos c2, if_pos c1, hrd]
  dsimp only [cell50]
  simp only [s1, s2]
  by_cases hk : p.kind ≤ 6
  · have hi' : isTok p = true := decide_eq_true hk
    have c7 : ¬ ((p.kind : Int) > 6) := by omega
    rw [if_neg c7, if_pos c3, if_pos c4, if_pos c5, et, if_pos hi']
    by_cases h2k : p.kind = 2
    · have c8 : (p.kind : Int) = 2 := by omega
      have e : tok a0 p = ⟨(p.kind : Int), Lx.valN (txt a0 p).data.toList, txt a0 p, (p.at_ : Int), 0⟩ := by unfold tok; rw [if_pos h2k]
      rw [if_pos c8, hv, Option.bind_some, if_pos c6, e]
    · have c8 : ¬ (p.kind : Int) = 2 := by omega
      have e : tok a0 p = ⟨(p.kind : Int), 0, txt a0 p, (p.at_ : Int), 0⟩ := by unfold tok; rw [if_neg h2k]
      rw [if_neg c8, if_pos c6, e]
  · have hi' : ¬ isTok p = true := by unfold isTok; simpa using hk
    have c7 : (p.kind : Int) > 6 := by omega
    rw [if_pos c7, if_neg hi']
theorem scan_loop (a0 : ByteArray) (hs : a0.size ≤ 20000) (l : List Lx.Piece) (hl : l.length ≤ 20000) (hp : ∀ p ∈ l, p.at_ + p.len ≤ a0.size) : ∀ (m i : Nat) (acc : List S37) (k : Nat), l.length - i = m → i ≤ l.length → acc.length ≤ i → m < k →
    lex_Scan.l0 k a0 acc (l.map cell50) ((l.map cell50).length : Int) (i : Int) = some (acc ++ toks a0 (l.drop i), 0, 0) := by
  intro m
  induction m with
  | zero =>
    intro i acc k hm hi ha hk
    obtain ⟨k, rfl⟩ : ∃ j, k = j + 1 := ⟨k - 1, by omega⟩
    have hle : ¬ ((i : Int) < ((l.map cell50).length : Int)) := by rw [List.length_map]; omega
    rw [lex_Scan.l0, if_neg hle, List.drop_of_length_le (by omega)]
    simp [toks]
  | succ m ih =>
    intro i acc k hm hi ha hk
    obtain ⟨k, rfl⟩ : ∃ j, k = j + 1 := ⟨k - 1, by omega⟩
    have hlt : i < l.length := by omega
    have hmem := List.getElem_mem hlt
    rw [scan_step a0 k acc (l.map cell50) i l[i] (by rw [List.length_map]; exact hlt) (by simp [rd_T50, hlt]) hs (hp _ hmem) (by omega) (by omega)]
    rw [ih (i + 1) _ k (by omega) (by omega) (by split <;> (try rw [List.length_append, List.length_singleton]) <;> omega) (by omega), List.drop_eq_getElem_cons hlt]
    unfold toks
    by_cases hk : isTok l[i] = true
    · rw [if_pos hk, List.filter_cons_of_pos hk, List.map_cons, List.append_assoc]
      rfl
    · rw [if_neg hk, List.filter_cons_of_neg hk]
theorem pieces_f (s : ByteArray) : lex_Pieces.f s = some (cells50 s, Lx.outAt s, Lx.outE s) := rfl
theorem size_list (a0 : ByteArray) : a0.data.toList.length = a0.size := by simp
theorem out_ok {a0 : ByteArray} {l : List Lx.Piece} (h : Lx.pieces a0.data.toList = .ok l) : Lx.outL a0 = l ∧ Lx.outE a0 = 0 ∧ Lx.outAt a0 = 0 := by
  unfold Lx.outL Lx.outE Lx.outAt
  rw [h]
  exact ⟨rfl, rfl, rfl⟩
theorem out_err {a0 : ByteArray} {e : Nat × Int} (h : Lx.pieces a0.data.toList = .error e) : Lx.outL a0 = [] ∧ Lx.outE a0 = e.2 ∧ Lx.outAt a0 = e.1 ∧ e.2 ≠ 0 := by
  unfold Lx.outL Lx.outE Lx.outAt
  rw [h]
  exact ⟨rfl, rfl, rfl, Lx.pieces_error h⟩
theorem scan_ok {a0 : ByteArray} {l : List Lx.Piece} (h : Lx.pieces a0.data.toList = .ok l) (k : Nat) (hk : 20000 < k) : lex_Scan.f k a0 = some (toks a0 l, 0, 0) := by
  obtain ⟨hc, hs⟩ := Lx.pieces_chain h
  rw [size_list] at hc hs
  have hl := chain_len _ _ _ hc
  obtain ⟨h1, h2, h3⟩ := out_ok h
  unfold lex_Scan.f
  rw [pieces_f, Option.bind_some]
  dsimp only
  rw [if_pos h2]
  unfold cells50
  rw [h1]
  have := scan_loop a0 hs l (by omega) (fun p hp => by have := (Lx.chain_ge _ _ _ hc p hp).2.1; omega) l.length 0 [] k rfl (by omega) (by simp) (by omega)
  rw [List.drop_zero, List.nil_append] at this
  exact this
theorem scan_err {a0 : ByteArray} {e : Nat × Int} (h : Lx.pieces a0.data.toList = .error e) (k : Nat) : lex_Scan.f k a0 = some ([], (e.1 : Int), e.2) := by
  obtain ⟨_, h2, h3, h4⟩ := out_err h
  unfold lex_Scan.f
  rw [pieces_f, Option.bind_some]
  dsimp only
  rw [if_neg (by rw [h2]; exact h4), h2, h3]

/-! ### One token alone -/
/-- The one token that a string is. -/
def one (u : ByteArray) : Option Lx.Piece := match Lx.pieces u.data.toList with
  | .ok l => match l.filter isTok with
    | [p] => if p.len = u.size then some p else none
    | _ => none
  | .error _ => none
theorem bytes_ext {a b : ByteArray} (h : a.data.toList = b.data.toList) : a = b := by
  cases a; cases b
  congr
  exact Array.ext' h
theorem toList_ne (a b : ByteArray) : (a.toList != b.toList) = decide (a ≠ b) := by
  rw [Lib.toList_data, Lib.toList_data]
  by_cases h : a = b
  · subst h; simp
  · have : a.data.toList ≠ b.data.toList := fun e => h (bytes_ext e)
    simp [h, this]
theorem single_f (u : ByteArray) (k : Nat) (hk : 20000 < k) : lex_single.f k u = match one u with
    | some p => some ((tok u p).f0, (tok u p).f1, (tok u p).f2, (tok u p).f3, (tok u p).f4, true)
    | none => some (0, 0, ⟨#[]⟩, 0, 0, false) := by
  obtain ⟨k, rfl⟩ : ∃ m, k = m + 1 := ⟨k - 1, by omega⟩
  unfold lex_single.f one
  cases hp : Lx.pieces u.data.toList with
  | error e =>
    rw [scan_err hp, Option.bind_some]
    dsimp only
    rw [if_neg (Lx.pieces_error hp), lex_single.j0, if_pos rfl]
  | ok l =>
    rw [scan_ok hp _ hk, Option.bind_some]
    dsimp only
    rw [if_pos rfl]
    obtain ⟨hc, hs⟩ := Lx.pieces_chain hp
    cases hf : l.filter isTok with
    | nil =>
      have ht : toks u l = [] := by unfold toks; rw [hf]; rfl
      rw [ht, if_neg (by simp), lex_single.j0, if_pos rfl]
    | cons p r =>
      cases r with
      | cons q r =>
        have ht : (toks u l).length = r.length + 2 := by unfold toks; rw [hf]; simp
        rw [ht, if_neg (by omega), lex_single.j0, if_pos rfl]
      | nil =>
        have ht : toks u l = [tok u p] := by unfold toks; rw [hf]; rfl
        have hm : p ∈ l := (List.mem_filter.1 (by rw [hf]; exact List.mem_cons_self)).1
        obtain ⟨op, h1, h2, _⟩ := Lx.pieces_next hp p hm
        rw [size_list] at h1
        rw [ht]
        have hz : rd_T37 [tok u p] 0 = tok u p := rfl
        rw [if_pos (by simp), if_pos (by simp), hz, toList_ne]
        have hsz := txt_size u p h1
        have hf2 : (tok u p).f2 = txt u p := rfl
        rw [hf2]
        dsimp only
        by_cases hl : p.len = u.size
        · have he : txt u p = u := by
            apply bytes_ext
            rw [txt_list, show p.at_ = 0 from by omega, List.drop_zero, List.take_of_length_le (by rw [size_list]; omega)]
          rw [if_pos hl, he]
          dsimp only
          rw [decide_eq_false (by simp), lex_single.j0, if_neg (by simp), if_pos (by simp), hz, hf2, he]
        · have he : txt u p ≠ u := fun e => hl (by rw [← hsz, e])
          rw [if_neg hl]
          rw [decide_eq_true he, lex_single.j0, if_pos rfl]
theorem one_next {u : ByteArray} {p : Lx.Piece} (h : one u = some p) : Lx.next false u.data.toList = .ok (p.kind, u.size) ∧ p.kind ≤ 6 ∧ p.at_ = 0 ∧ p.len = u.size ∧ ∃ l, Lx.pieces u.data.toList = .ok l ∧ p ∈ l := by
  unfold one at h
  split at h
  · rename_i l hp
    split at h
    · rename_i q hq
      split at h
      · rename_i hl
        injection h with h
        subst h
        have hm := List.mem_filter.1 (show q ∈ l.filter isTok from by rw [hq]; exact List.mem_cons_self)
        obtain ⟨op, h1, h2, h3⟩ := Lx.pieces_next hp q hm.1
        rw [size_list] at h1
        have h0 : q.at_ = 0 := by omega
        obtain rfl := h3 h0
        rw [h0, List.drop_zero, hl] at h2
        exact ⟨h2, of_decide_eq_true hm.2, h0, hl, l, hp, hm.1⟩
      · cases h
    · cases h
  · cases h
end Go.Proofs.YtdaccmjfefknoaaGreatDoor.Pure

set_option linter.unusedVariables false
set_option linter.unusedSimpArgs false
namespace Go.Proofs.YtdaccmjfefknoaaGreatDoor.Pure
open Go.RowKit Go.Proofs.YtdaccmjfefknoaaGreatDoor.PZb Go.Proofs.YtdaccmjfefknoaaGreatDoorW.PrintWords Go.Proofs.YtdaccmjfefknoaaGreatDoorW.PrintLast

def kindOf (u : ByteArray) : Int := match one u with | some p => (p.kind : Int) | none => 0
theorem one_of {u : ByteArray} {kd : Nat} (hs : u.size ≤ 20000) (h0 : u.size ≠ 0) (hn : Lx.next false u.data.toList = .ok (kd, u.size)) (hk : kd ≤ 6) : one u = some ⟨kd, 0, u.size⟩ := by
 have hp : Lx.pieces u.data.toList = .ok [⟨kd, 0, u.size⟩] := by
  unfold Lx.pieces
  rw [if_neg (by rw [size_list]; omega)]
  cases hl : u.data.toList with
  | nil =>
   have := congrArg List.length hl
   rw [size_list] at this
   exact absurd this h0
  | cons x t =>
   have hlen : (x :: t).length = u.size := by rw [← hl, size_list]
   rw [hl] at hn
   rw [hlen]
   obtain ⟨f, hf⟩ : ∃ f, u.size = f + 1 := ⟨u.size - 1, by omega⟩
   rw [hf, Lx.go_step, hn]
   dsimp only
   rw [if_neg (by omega), List.drop_of_length_le (by omega)]
   cases f <;> simp [Lx.piecesGo, hf]
 unfold one
 rw [hp]
 have : ([⟨kd, 0, u.size⟩] : List Lx.Piece).filter isTok = [⟨kd, 0, u.size⟩] := by
  rw [List.filter_cons_of_pos (by unfold isTok; exact decide_eq_true hk)]
  rfl
 simp only [this, if_true]
theorem one_size {u : ByteArray} {p : Lx.Piece} (h : one u = some p) : u.size ≠ 0 ∧ u.size ≤ 20000 := by
 obtain ⟨hn, hk, ha, hl, l, hp, hm⟩ := one_next h
 obtain ⟨hc, hs⟩ := Lx.pieces_chain hp
 rw [size_list] at hs
 have := (Lx.chain_ge _ _ _ hc p hm).2.2
 exact ⟨by omega, hs⟩
theorem rkind_f (u : ByteArray) (k : Nat) (hk : 10 < k) : skerryref01_Kind.f k u = some (kindOf u) := by
 obtain ⟨k, rfl⟩ : ∃ j, k = j + 2 := ⟨k - 2, by omega⟩
 have none_of : one u = none → kindOf u = 0 := fun h => by unfold kindOf; rw [h]
 have absent : (u.size = 0 ∨ 20000 < u.size) → one u = none := fun h => by
  cases ho : one u with
  | none => rfl
  | some p => have := one_size ho; omega
 unfold skerryref01_Kind.f
 by_cases h0 : u.size = 0
 ·rw [if_pos (by omega), skerryref01_Kind.j0, if_pos rfl, none_of (absent (.inl h0))]
 rw [if_neg (by omega)]
 by_cases hb : 20000 < u.size
 ·rw [decide_eq_true (by omega), skerryref01_Kind.j0, if_pos rfl, none_of (absent (.inr hb))]
 rw [decide_eq_false (by omega), skerryref01_Kind.j0, if_neg (by decide)]
 have hpf : ∀ (res : Except Int (Nat × Nat)), Lx.next false u.data.toList = res → ∀ A B C D, Ref.cutK res = A → Ref.cutA 0 res = B → Ref.cutN res = C → Ref.cutE res = D → skerryref01_piece.f u 0 false = some (A, B, C, D) := fun res hr A B C D e1 e2 e3 e4 => by
  subst e1 e2 e3 e4
  unfold skerryref01_piece.f
  rw [if_pos ⟨by omega, by omega, by omega⟩]
  simp only [Int.toNat_zero, List.drop_zero, hr]
 have hne : u.data.toList ≠ [] := fun h => h0 (by rw [← size_list, h]; rfl)
 cases hn : Lx.next false u.data.toList with
 | error e =>
  have he := Lx.next_err hn
  have h1 : one u = none := by
   cases ho : one u with
   | none => rfl
   | some p => have := (one_next ho).1; rw [hn] at this; cases this
  rw [hpf _ hn 0 0 0 e rfl rfl rfl rfl, Option.bind_some]
  rw [if_neg he, skerryref01_Kind.j1, if_pos rfl, none_of h1]
 | ok r =>
  obtain ⟨kd, n⟩ := r
  rw [hpf _ hn kd 0 n 0 rfl rfl rfl rfl, Option.bind_some]
  rw [if_pos rfl]
  by_cases hsz : n = u.size
  ·rw [if_pos (by show (n : Int) = (u.size : Int); omega), skerryref01_Kind.j1]
   by_cases h6 : kd ≤ 6
   ·rw [decide_eq_false (by show ¬ ((kd : Int) > 6); omega), if_neg (by decide)]
    subst hsz
    unfold kindOf
    rw [one_of (by omega) h0 hn h6]
   ·rw [decide_eq_true (by show (kd : Int) > 6; omega), if_pos rfl, none_of]
    cases ho : one u with
    | none => rfl
    | some p =>
     have h1 := (one_next ho).1
     have h2 := (one_next ho).2.1
     rw [hn] at h1
     injection h1 with h1
     injection h1 with h1 _
     omega
  ·rw [if_neg (by show ¬ ((n : Int) = (u.size : Int)); omega), skerryref01_Kind.j1, if_pos rfl, none_of]
   cases ho : one u with
   | none => rfl
   | some p =>
    have h1 := (one_next ho).1
    rw [hn] at h1
    injection h1 with h1
    injection h1 with _ h1
    exact absurd h1 hsz
theorem index_lt (c : UInt8) : ∀ (l : List UInt8), Lib.index l [c] ≠ -1 → Lib.index l [c] < l.length
 | [], h => absurd (by simp [Lib.index]) h
 | b :: l, h => by
  unfold Lib.index at h ⊢
  rw [List.length_cons]
  by_cases hp : ([c].isPrefixOf (b :: l)) = true
  ·rw [if_pos hp]; omega
  ·rw [if_neg hp] at h ⊢
   by_cases h1 : Lib.index l [c] = -1
   ·rw [h1] at h
    exact absurd rfl h
   ·have := index_lt c l h1
    rw [if_neg (by simpa using h1)]
    omega
theorem find_index (c : UInt8) : ∀ (l : List UInt8) (i : Nat), Ref.findN l c.toNat i = if Lib.index l [c] = -1 then -1 else Lib.index l [c] + i
 | [], i => by simp [Ref.findN, Lib.index]
 | b :: l, i => by
  have hp : ([c].isPrefixOf (b :: l)) = (c == b) := by simp [List.isPrefixOf]
  have hge := Lib.index_ge l [c]
  unfold Ref.findN
  by_cases h : b.toNat = c.toNat
  ·have e : b = c := UInt8.toNat_inj.1 h
   have hI : Lib.index (b :: l) [c] = 0 := by
    unfold Lib.index
    rw [hp, e, beq_self_eq_true, if_pos rfl]
   rw [if_pos h, hI]
   simp
  ·have e : (c == b) = false := by
    rw [beq_eq_false_iff_ne]
    intro e
    exact h (by rw [e])
   have hI : Lib.index (b :: l) [c] = if Lib.index l [c] = -1 then -1 else Lib.index l [c] + 1 := by
    conv => lhs; unfold Lib.index
    rw [hp, e]
    simp
   rw [if_neg h, find_index c l (i + 1), hI]
   by_cases h1 : Lib.index l [c] = -1
   ·rw [if_pos h1, if_pos h1, if_pos rfl]
   ·rw [if_neg h1, if_neg h1, if_neg (by omega)]
    omega
theorem one_zero {u : ByteArray} {p : Lx.Piece} (h : one u = some p) : tok u p = ⟨(p.kind : Int), if p.kind = 2 then Lx.valN u.data.toList else 0, u, 0, 0⟩ := by
 obtain ⟨hn, hk, ha, hl, _⟩ := one_next h
 have he : txt u p = u := by
  apply bytes_ext
  rw [txt_list, ha, List.drop_zero, List.take_of_length_le (by rw [size_list]; omega)]
 unfold tok
 rw [he, ha]
 rfl
/-- A token that is alone in its text: no comment, no blank; taken by the longest rule, and checked. -/
theorem one_longest {u : ByteArray} {p : Lx.Piece} (h : one u = some p) : Lx.longest false (u.data.toList.take 100) = (p.kind, u.size) ∧ Lx.check u.data.toList p.kind u.size = 0 := by
 obtain ⟨hn, hk, ha, hl, _⟩ := one_next h
 unfold Lx.next at hn
 split at hn
 ·cases hc : Lx.comment u.data.toList with
  | error e => rw [hc] at hn; cases hn
  | ok n =>
   rw [hc] at hn
   have : (8, n) = (p.kind, u.size) := by injection hn
   injection this with h8 _
   omega
 ·split at hn
  ·have : (7, Lx.allN Lx.cBlank u.data.toList) = (p.kind, u.size) := by injection hn
   injection this with h7 _
   omega
  ·unfold Lx.checked at hn
   split at hn
   ·rename_i hc
    have e : Lx.longest false (u.data.toList.take 100) = (p.kind, u.size) := by injection hn
    rw [e] at hc
    exact ⟨e, hc⟩
   ·cases hn
theorem one_num {u : ByteArray} {p : Lx.Piece} (h : one u = some p) (h2 : p.kind = 2) : Lx.valB u.data.toList = true := by
 have hc := (one_longest h).2
 rw [h2] at hc
 change (if Lx.valB (u.data.toList.take u.size) = false ∨ _ then (11 : Int) else 0) = 0 at hc
 rw [List.take_of_length_le (by rw [size_list]; omega)] at hc
 cases hv : Lx.valB u.data.toList with
 | true => rfl
 | false =>
  rw [if_pos (.inl hv)] at hc
  exact absurd hc (by decide)
theorem one_kind {u : ByteArray} {p : Lx.Piece} (h : one u = some p) : p.kind ∈ [1, 2, 3, 4, 5, 6] ∧ Lx.takes false (u.data.toList.take 100) p.kind = u.size := by
 obtain ⟨h1, h2⟩ := one_longest h
 have h0 : p.kind ≠ 0 := fun e => by
  rw [e] at h2
  change (if Lx.pre [35] u.data.toList = true then (12 : Int) else 10) = 0 at h2
  split at h2 <;> exact absurd h2 (by decide)
 obtain ⟨a, _, b⟩ := Lx.longest_is h1 h0
 exact ⟨a, b⟩
theorem num_len {s : List UInt8} (h : Lx.valB s = true) : s.length ≤ 20 := by
 have key : ∀ d, Lx.canon d → Lx.spell 0 d ≤ 9223372036854775808 → d.length ≤ 19 := fun d hd hs => by
  rcases hd.2.2 with h48 | h1
  ·have := (Lx.dec_spell _ d rfl hd.1 hd.2.1 (.inl h48)).2 h48
   rcases Nat.lt_or_ge 19 d.length with h6 | h6
   ·have h7 : 10 ^ 19 ≤ 10 ^ (d.length - 1) := Nat.pow_le_pow_right (by decide) (by omega)
    have h8 : (10 : Nat) ^ 19 = 10000000000000000000 := by decide
    omega
   ·exact h6
  ·omega
 rcases Lx.valB_inv h with ⟨a, b⟩ | ⟨d, rfl, a, _, b⟩
 ·have := key s a (by omega)
  omega
 ·have := key d a b
  rw [List.length_cons]
  omega
theorem one_len {u : ByteArray} {p : Lx.Piece} (h : one u = some p) : u.size ≤ 40 := by
 obtain ⟨h1, h2⟩ := one_kind h
 obtain ⟨_, hc⟩ := one_longest h
 simp only [List.mem_cons, List.not_mem_nil, or_false] at h1
 rcases h1 with e | e | e | e | e | e
 ·rw [e] at hc
  change (if 40 < u.size then (2 : Int) else 0) = 0 at hc
  split at hc
  ·exact absurd hc (by decide)
  ·omega
 ·have := num_len (one_num h e)
  rw [size_list] at this
  omega
 ·rw [e] at hc
  change (if 40 < u.size then (2 : Int) else 0) = 0 at hc
  split at hc
  ·exact absurd hc (by decide)
  ·omega
 ·rw [e] at h2
  change Lx.hash _ = u.size at h2
  unfold Lx.hash at h2
  split at h2 <;> omega
 ·rw [e] at h2
  change Lx.sign _ = u.size at h2
  unfold Lx.sign at h2
  split at h2
  ·omega
  ·split at h2
   ·omega
   ·split at h2 <;> omega
 ·rw [e] at hc
  change (if 40 < u.size then (2 : Int) else 0) = 0 at hc
  split at hc
  ·exact absurd hc (by decide)
  ·omega
end Go.Proofs.YtdaccmjfefknoaaGreatDoor.Pure
