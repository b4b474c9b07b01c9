/- What the printed Scan and Kind hand back, out of the plain pieces. -/
import Derived.Test.YtdaccmjfefknoaaDoorPLbx7
import Derived.Test.YtdaccmjfefknoaaDoorPLbx6
import Derived.Test.YtdaccmjfefknoaaDoorLxMore
set_option linter.unusedVariables false
set_option linter.unusedSimpArgs false
namespace Go.Proofs.YtdaccmjfefknoaaDoor.Pure
open Go.RowKit Go.Proofs.YtdaccmjfefknoaaDoor.PLb Go.Proofs.YtdaccmjfefknoaaDoorW.PrintWords Go.Proofs.YtdaccmjfefknoaaDoorW.PrintLast

theorem small (n : Int) (h0 : -1000000 ≤ n) (h1 : n ≤ 1000000) : wrap64 n = n := by unfold wrap64; omega
def txt (a0 : ByteArray) (p : Lx.Piece) : ByteArray := a0.extract p.at_ (p.at_ + p.len)
def tok (a0 : ByteArray) (p : Lx.Piece) : S54 := ⟨(p.kind : Int), if p.kind = 2 then Lx.valN (txt a0 p).data.toList else 0, txt a0 p, (p.at_ : Int), 0⟩
def isTok (p : Lx.Piece) : Bool := decide (p.kind ≤ 6)
def toks (a0 : ByteArray) (l : List Lx.Piece) : List S54 := (l.filter isTok).map (tok a0)
theorem rd_cell (pre : List Lx.Piece) (p : Lx.Piece) (rest : List Lx.Piece) : rd_T40 ((pre ++ p :: rest).map cell40) (pre.length : Int) = cell40 p := by
  simp [rd_T40]
theorem rd_tok (f : Lx.Piece → S54) (pre : List Lx.Piece) (p : Lx.Piece) (rest : List Lx.Piece) : rd_T54 ((pre ++ p :: rest).map f) (pre.length : Int) = f p := by
  simp [rd_T54]
theorem extract_list (a : ByteArray) (i j : Nat) : (a.extract i j).data.toList = (a.data.toList.drop i).take (j - i) := Lib.extract_data a i j
theorem txt_list (a : ByteArray) (p : Lx.Piece) : (txt a p).data.toList = (a.data.toList.drop p.at_).take p.len := by
  unfold txt
  rw [extract_list, show p.at_ + p.len - p.at_ = p.len from by omega]
theorem txt_size (a : ByteArray) (p : Lx.Piece) (h : p.at_ + p.len ≤ a.size) : (txt a p).size = p.len := by
  unfold txt
  rw [ByteArray.size_extract]
  omega
theorem value_f (s : ByteArray) (h : s.size ≤ 140737488351232) : lex_value.f s = some (Lx.valN s.data.toList, Lx.valB s.data.toList) := by
  unfold lex_value.f
  rw [if_pos h]
theorem scan_step (a0 : ByteArray) (k : Nat) (acc : List S54) (xs : List S40) (i : Nat) (p : Lx.Piece) (hi : i < xs.length) (hrd : rd_T40 xs (i : Int) = cell40 p) (hs : a0.size ≤ 20000) (hp : p.at_ + p.len ≤ a0.size) (hil : i ≤ 20000) (ha : acc.length ≤ 20000) :
    lex_Scan.l0 (k + 1) a0 acc xs (xs.length : Int) (i : Int) = lex_Scan.l0 k a0 (if isTok p = true then acc ++ [tok a0 p] else acc) xs (xs.length : Int) ((i + 1 : Nat) : Int) := by
  have s1 : wrap64 ((i : Int) + 1) = ((i + 1 : Nat) : Int) := by rw [small _ (by omega) (by omega)]; omega
  have s2 : wrap64 ((p.at_ : Int) + p.len) = (p.at_ : Int) + p.len := small _ (by omega) (by omega)
  have et : a0.extract ((p.at_ : Int)).toNat ((p.at_ : Int) + p.len).toNat = txt a0 p := by
    unfold txt
    rw [Int.toNat_natCast, show ((p.at_ : Int) + p.len).toNat = p.at_ + p.len from by omega]
  have hsz := txt_size a0 p hp
  have hv := value_f (txt a0 p) (by omega)
  have c1 : (i : Int) < (xs.length : Int) := by omega
  have c2 : (0 : Int) ≤ (i : Int) := by omega
  have c3 : (0 : Int) ≤ (p.at_ : Int) := by omega
  have c4 : (p.at_ : Int) ≤ (p.at_ : Int) + p.len := by omega
  have c5 : (p.at_ : Int) + p.len ≤ (a0.size : Int) := by omega
  have c6 : acc.length < 2932031007402 := by omega
  rw [lex_Scan.l0, if_pos c1, if_pos c2, if_pos c1, hrd]
  dsimp only [cell40]
  simp only [s1, s2]
  by_cases hk : p.kind ≤ 6
  · have hi' : isTok p = true := decide_eq_true hk
    have c7 : ¬ ((p.kind : Int) > 6) := by omega
    rw [if_neg c7, if_pos c3, if_pos c4, if_pos c5, et, if_pos hi']
    by_cases h2k : p.kind = 2
    · have c8 : (p.kind : Int) = 2 := by omega
      have e : tok a0 p = ⟨(p.kind : Int), Lx.valN (txt a0 p).data.toList, txt a0 p, (p.at_ : Int), 0⟩ := by unfold tok; rw [if_pos h2k]
      rw [if_pos c8, hv, Option.bind_some, if_pos c6, e]
    · have c8 : ¬ (p.kind : Int) = 2 := by omega
      have e : tok a0 p = ⟨(p.kind : Int), 0, txt a0 p, (p.at_ : Int), 0⟩ := by unfold tok; rw [if_neg h2k]
      rw [if_neg c8, if_pos c6, e]
  · have hi' : ¬ isTok p = true := by unfold isTok; simpa using hk
    have c7 : (p.kind : Int) > 6 := by omega
    rw [if_pos c7, if_neg hi']
theorem scan_loop (a0 : ByteArray) (hs : a0.size ≤ 20000) (l : List Lx.Piece) (hl : l.length ≤ 20000) (hp : ∀ p ∈ l, p.at_ + p.len ≤ a0.size) : ∀ (m i : Nat) (acc : List S54) (k : Nat), l.length - i = m → i ≤ l.length → acc.length ≤ i → m < k →
    lex_Scan.l0 k a0 acc (l.map cell40) ((l.map cell40).length : Int) (i : Int) = some (acc ++ toks a0 (l.drop i), 0, 0) := by
  intro m
  induction m with
  | zero =>
    intro i acc k hm hi ha hk
    obtain ⟨k, rfl⟩ : ∃ j, k = j + 1 := ⟨k - 1, by omega⟩
    have hle : ¬ ((i : Int) < ((l.map cell40).length : Int)) := by rw [List.length_map]; omega
    rw [lex_Scan.l0, if_neg hle, List.drop_of_length_le (by omega)]
    simp [toks]
  | succ m ih =>
    intro i acc k hm hi ha hk
    obtain ⟨k, rfl⟩ : ∃ j, k = j + 1 := ⟨k - 1, by omega⟩
    have hlt : i < l.length := by omega
    have hmem := List.getElem_mem hlt
    rw [scan_step a0 k acc (l.map cell40) i l[i] (by rw [List.length_map]; exact hlt) (by simp [rd_T40, hlt]) hs (hp _ hmem) (by omega) (by omega)]
    rw [ih (i + 1) _ k (by omega) (by omega) (by split <;> (try rw [List.length_append, List.length_singleton]) <;> omega) (by omega), List.drop_eq_getElem_cons hlt]
    unfold toks
    by_cases hk : isTok l[i] = true
    · rw [if_pos hk, List.filter_cons_of_pos hk, List.map_cons, List.append_assoc]
      rfl
    · rw [if_neg hk, List.filter_cons_of_neg hk]
theorem pieces_f (s : ByteArray) : lex_Pieces.f s = some (cells40 s, Lx.outAt s, Lx.outE s) := rfl
theorem size_list (a0 : ByteArray) : a0.data.toList.length = a0.size := by simp
theorem out_ok {a0 : ByteArray} {l : List Lx.Piece} (h : Lx.pieces a0.data.toList = .ok l) : Lx.outL a0 = l ∧ Lx.outE a0 = 0 ∧ Lx.outAt a0 = 0 := by
  unfold Lx.outL Lx.outE Lx.outAt
  rw [h]
  exact ⟨rfl, rfl, rfl⟩
theorem out_err {a0 : ByteArray} {e : Nat × Int} (h : Lx.pieces a0.data.toList = .error e) : Lx.outL a0 = [] ∧ Lx.outE a0 = e.2 ∧ Lx.outAt a0 = e.1 ∧ e.2 ≠ 0 := by
  unfold Lx.outL Lx.outE Lx.outAt
  rw [h]
  exact ⟨rfl, rfl, rfl, Lx.pieces_error h⟩
theorem scan_ok {a0 : ByteArray} {l : List Lx.Piece} (h : Lx.pieces a0.data.toList = .ok l) (k : Nat) (hk : 20000 < k) : lex_Scan.f k a0 = some (toks a0 l, 0, 0) := by
  obtain ⟨hc, hs⟩ := Lx.pieces_chain h
  rw [size_list] at hc hs
  have hl := chain_len _ _ _ hc
  obtain ⟨h1, h2, h3⟩ := out_ok h
  unfold lex_Scan.f
  rw [pieces_f, Option.bind_some]
  dsimp only
  rw [if_pos h2]
  unfold cells40
  rw [h1]
  have := scan_loop a0 hs l (by omega) (fun p hp => by have := (Lx.chain_ge _ _ _ hc p hp).2.1; omega) l.length 0 [] k rfl (by omega) (by simp) (by omega)
  rw [List.drop_zero, List.nil_append] at this
  exact this
theorem scan_err {a0 : ByteArray} {e : Nat × Int} (h : Lx.pieces a0.data.toList = .error e) (k : Nat) : lex_Scan.f k a0 = some ([], (e.1 : Int), e.2) := by
  obtain ⟨_, h2, h3, h4⟩ := out_err h
  unfold lex_Scan.f
  rw [pieces_f, Option.bind_some]
  dsimp only
  rw [if_neg (by rw [h2]; exact h4), h2, h3]

/-! ### One token alone -/
/-- The one token that a string is. -/
def one (u : ByteArray) : Option Lx.Piece := match Lx.pieces u.data.toList with
  | .ok l => match l.filter isTok with
    | [p] => if p.len = u.size then some p else none
    | _ => none
  | .error _ => none
theorem bytes_ext {a b : ByteArray} (h : a.data.toList = b.data.toList) : a = b := by
  cases a; cases b
  congr
  exact Array.ext' h
theorem toList_ne (a b : ByteArray) : (a.toList != b.toList) = decide (a ≠ b) := by
  rw [Lib.toList_data, Lib.toList_data]
  by_cases h : a = b
  · subst h; simp
  · have : a.data.toList ≠ b.data.toList := fun e => h (bytes_ext e)
    simp [h, this]
theorem single_f (u : ByteArray) (k : Nat) (hk : 20000 < k) : lex_single.f k u = match one u with
    | some p => some ((tok u p).f0, (tok u p).f1, (tok u p).f2, (tok u p).f3, (tok u p).f4, true)
    | none => some (0, 0, ⟨#[]⟩, 0, 0, false) := by
  obtain ⟨k, rfl⟩ : ∃ m, k = m + 1 := ⟨k - 1, by omega⟩
  unfold lex_single.f one
  cases hp : Lx.pieces u.data.toList with
  | error e =>
    rw [scan_err hp, Option.bind_some]
    dsimp only
    rw [if_neg (Lx.pieces_error hp), lex_single.j0, if_pos rfl]
  | ok l =>
    rw [scan_ok hp _ hk, Option.bind_some]
    dsimp only
    rw [if_pos rfl]
    obtain ⟨hc, hs⟩ := Lx.pieces_chain hp
    cases hf : l.filter isTok with
    | nil =>
      have ht : toks u l = [] := by unfold toks; rw [hf]; rfl
      rw [ht, if_neg (by simp), lex_single.j0, if_pos rfl]
    | cons p r =>
      cases r with
      | cons q r =>
        have ht : (toks u l).length = r.length + 2 := by unfold toks; rw [hf]; simp
        rw [ht, if_neg (by omega), lex_single.j0, if_pos rfl]
      | nil =>
        have ht : toks u l = [tok u p] := by unfold toks; rw [hf]; rfl
        have hm : p ∈ l := (List.mem_filter.1 (by rw [hf]; exact List.mem_cons_self)).1
        obtain ⟨op, h1, h2, _⟩ := Lx.pieces_next hp p hm
        rw [size_list] at h1
        rw [ht]
        have hz : rd_T54 [tok u p] 0 = tok u p := rfl
        rw [if_pos (by simp), if_pos (by simp), hz, toList_ne]
        have hsz := txt_size u p h1
        have hf2 : (tok u p).f2 = txt u p := rfl
        rw [hf2]
        dsimp only
        by_cases hl : p.len = u.size
        · have he : txt u p = u := by
            apply bytes_ext
            rw [txt_list, show p.at_ = 0 from by omega, List.drop_zero, List.take_of_length_le (by rw [size_list]; omega)]
          rw [if_pos hl, he]
          dsimp only
          rw [decide_eq_false (by simp), lex_single.j0, if_neg (by simp), if_pos (by simp), hz, hf2, he]
        · have he : txt u p ≠ u := fun e => hl (by rw [← hsz, e])
          rw [if_neg hl]
          rw [decide_eq_true he, lex_single.j0, if_pos rfl]
theorem kind_f (u : ByteArray) (k : Nat) (hk : 20000 < k) : lex_Kind.f k u = some (match one u with | some p => (p.kind : Int) | none => 0) := by
  unfold lex_Kind.f
  rw [single_f u k hk]
  cases one u with
  | none => rfl
  | some p => rfl
theorem one_next {u : ByteArray} {p : Lx.Piece} (h : one u = some p) : Lx.next false u.data.toList = .ok (p.kind, u.size) ∧ p.kind ≤ 6 ∧ p.at_ = 0 ∧ p.len = u.size ∧ ∃ l, Lx.pieces u.data.toList = .ok l ∧ p ∈ l := by
  unfold one at h
  split at h
  · rename_i l hp
    split at h
    · rename_i q hq
      split at h
      · rename_i hl
        injection h with h
        subst h
        have hm := List.mem_filter.1 (show q ∈ l.filter isTok from by rw [hq]; exact List.mem_cons_self)
        obtain ⟨op, h1, h2, h3⟩ := Lx.pieces_next hp q hm.1
        rw [size_list] at h1
        have h0 : q.at_ = 0 := by omega
        obtain rfl := h3 h0
        rw [h0, List.drop_zero, hl] at h2
        exact ⟨h2, of_decide_eq_true hm.2, h0, hl, l, hp, hm.1⟩
      · cases h
    · cases h
  · cases h
end Go.Proofs.YtdaccmjfefknoaaDoor.Pure
