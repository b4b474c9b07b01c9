/- What a token is checked by, in plain words: the program's Check and the reference's are one. -/
import Derived.Test.YtipnlgmeonepfaaGreatDoorPFax3
import Derived.Test.YtipnlgmeonepfaaGreatDoorLxMore
import Derived.Test.YtipnlgmeonepfaaGreatDoorFrA
import Derived.StillTailTactics
import Derived.Deep.RegionHeld3
set_option linter.unusedVariables false
set_option linter.unusedSimpArgs false
namespace Go.Proofs.YtipnlgmeonepfaaGreatDoor.Pure
open Go.RowKit Go.Proofs.YtipnlgmeonepfaaGreatDoor.PFa Go.Proofs.YtipnlgmeonepfaaGreatDoorW.PrintWords Go.Proofs.YtipnlgmeonepfaaGreatDoorW.PrintLast Go.Proofs.YtipnlgmeonepfaaGreatDoorW.PrintMore
theorem chain_len : ∀ (l : List Lx.Piece) (a e : Nat), Lx.Chain l a e → a + l.length ≤ e
 | [], a, e, h => by obtain rfl : a = e := h; simp
 | p :: l, a, e, h => by
  obtain ⟨h1, h2, h3, h4, h5, h6⟩ := h
  have := chain_len l _ _ h6
  simp only [List.length_cons]
  omega
def cell129 (p : Lx.Piece) : S129 := ⟨(p.kind : Int), (p.at_ : Int), (p.len : Int)⟩
def cells129 (s : ByteArray) : List S129 := (Lx.outL s).map cell129

theorem small (n : Int) (h0 : -1000000 ≤ n) (h1 : n ≤ 1000000) : wrap64 n = n := by unfold wrap64; omega
def txt (a0 : ByteArray) (p : Lx.Piece) : ByteArray := a0.extract p.at_ (p.at_ + p.len)
def tok (a0 : ByteArray) (p : Lx.Piece) : S39 := ⟨(p.kind : Int), if p.kind = 2 then Lx.valN (txt a0 p).data.toList else 0, txt a0 p, (p.at_ : Int), 0⟩
def isTok (p : Lx.Piece) : Bool := decide (p.kind ≤ 6)
def toks (a0 : ByteArray) (l : List Lx.Piece) : List S39 := (l.filter isTok).map (tok a0)
theorem extract_list (a : ByteArray) (i j : Nat) : (a.extract i j).data.toList = (a.data.toList.drop i).take (j - i) := Lib.extract_data a i j
theorem txt_list (a : ByteArray) (p : Lx.Piece) : (txt a p).data.toList = (a.data.toList.drop p.at_).take p.len := by
 unfold txt
 rw [extract_list, show p.at_ + p.len - p.at_ = p.len from by omega]
theorem txt_size (a : ByteArray) (p : Lx.Piece) (h : p.at_ + p.len ≤ a.size) : (txt a p).size = p.len := by
 unfold txt
 rw [ByteArray.size_extract]
 omega
theorem value_f (s : ByteArray) (h : s.size ≤ 140737488351232) : lex_value.f s = some (Lx.valN s.data.toList, Lx.valB s.data.toList) := by
 unfold lex_value.f
 rw [if_pos h]
theorem scan_step (a0 : ByteArray) (k : Nat) (acc : List S39) (xs : List S129) (i : Nat) (p : Lx.Piece) (hi : i < xs.length) (hrd : rd_T129 xs (i : Int) = cell129 p) (hs : a0.size ≤ 20000) (hp : p.at_ + p.len ≤ a0.size) (hil : i ≤ 20000) (ha : acc.length ≤ 20000) :
  lex_Scan.l0 (k + 1) a0 acc xs (xs.length : Int) (i : Int) = lex_Scan.l0 k a0 (if isTok p = true then acc ++ [tok a0 p] else acc) xs (xs.length : Int) ((i + 1 : Nat) : Int) := by
 have s1 : wrap64 ((i : Int) + 1) = ((i + 1 : Nat) : Int) := by rw [small _ (by omega) (by omega)]; omega
 have s2 : wrap64 ((p.at_ : Int) + p.len) = (p.at_ : Int) + p.len := small _ (by omega) (by omega)
 have et : a0.extract ((p.at_ : Int)).toNat ((p.at_ : Int) + p.len).toNat = txt a0 p := by
  unfold txt
  rw [Int.toNat_natCast, show ((p.at_ : Int) + p.len).toNat = p.at_ + p.len from by omega]
 have hsz := txt_size a0 p hp
 have hv := value_f (txt a0 p) (by omega)
 have c1 : (i : Int) < (xs.length : Int) := by omega
 have c2 : (0 : Int) ≤ (i : Int) := by omega
 have c3 : (0 : Int) ≤ (p.at_ : Int) := by omega
 have c4 : (p.at_ : Int) ≤ (p.at_ : Int) + p.len := by omega
 have c5 : (p.at_ : Int) + p.len ≤ (a0.size : Int) := by omega
 have c6 : acc.length < 2932031007402 := by omega
 rw [lex_Scan.l0, if_pos c1, if_pos c2, if_pos c1, hrd]
 dsimp only [cell129]
 simp only [s1, s2]
 by_cases hk : p.kind ≤ 6
 ·have hi' : isTok p = true := decide_eq_true hk
  have c7 : ¬ ((p.kind : Int) > 6) := by omega
  rw [if_neg c7, if_pos c3, if_pos c4, if_pos c5, et, if_pos hi']
  by_cases h2k : p.kind = 2
  ·have c8 : (p.kind : Int) = 2 := by omega
   have e : tok a0 p = ⟨(p.kind : Int), Lx.valN (txt a0 p).data.toList, txt a0 p, (p.at_ : Int), 0⟩ := by unfold tok; rw [if_pos h2k]
   rw [if_pos c8, hv, Option.bind_some, if_pos c6, e]
  ·have c8 : ¬ (p.kind : Int) = 2 := by omega
   have e : tok a0 p = ⟨(p.kind : Int), 0, txt a0 p, (p.at_ : Int), 0⟩ := by unfold tok; rw [if_neg h2k]
   rw [if_neg c8, if_pos c6, e]
 ·have hi' : ¬ isTok p = true := by unfold isTok; simpa using hk
  have c7 : (p.kind : Int) > 6 := by omega
  rw [if_pos c7, if_neg hi']
theorem scan_loop (a0 : ByteArray) (hs : a0.size ≤ 20000) (l : List Lx.Piece) (hl : l.length ≤ 20000) (hp : ∀ p ∈ l, p.at_ + p.len ≤ a0.size) : ∀ (m i : Nat) (acc : List S39) (k : Nat), l.length - i = m → i ≤ l.length → acc.length ≤ i → m < k →
  lex_Scan.l0 k a0 acc (l.map cell129) ((l.map cell129).length : Int) (i : Int) = some (acc ++ toks a0 (l.drop i), 0, 0) := by
 intro m
 induction m with
 | zero =>
  intro i acc k hm hi ha hk
  obtain ⟨k, rfl⟩ : ∃ j, k = j + 1 := ⟨k - 1, by omega⟩
  have hle : ¬ ((i : Int) < ((l.map cell129).length : Int)) := by rw [List.length_map]; omega
  rw [lex_Scan.l0, if_neg hle, List.drop_of_length_le (by omega)]
  simp [toks]
 | succ m ih =>
  intro i acc k hm hi ha hk
  obtain ⟨k, rfl⟩ : ∃ j, k = j + 1 := ⟨k - 1, by omega⟩
  have hlt : i < l.length := by omega
  have hmem := List.getElem_mem hlt
  rw [scan_step a0 k acc (l.map cell129) i l[i] (by rw [List.length_map]; exact hlt) (by simp [rd_T129, hlt]) hs (hp _ hmem) (by omega) (by omega)]
  rw [ih (i + 1) _ k (by omega) (by omega) (by split <;> (try rw [List.length_append, List.length_singleton]) <;> omega) (by omega), List.drop_eq_getElem_cons hlt]
  unfold toks
  by_cases hk : isTok l[i] = true
  ·rw [if_pos hk, List.filter_cons_of_pos hk, List.map_cons, List.append_assoc]
   rfl
  ·rw [if_neg hk, List.filter_cons_of_neg hk]
theorem pieces_f (s : ByteArray) : lex_Pieces.f s = some (cells129 s, Lx.outAt s, Lx.outE s) := rfl
theorem size_list (a0 : ByteArray) : a0.data.toList.length = a0.size := by simp
theorem out_ok {a0 : ByteArray} {l : List Lx.Piece} (h : Lx.pieces a0.data.toList = .ok l) : Lx.outL a0 = l ∧ Lx.outE a0 = 0 ∧ Lx.outAt a0 = 0 := by
 unfold Lx.outL Lx.outE Lx.outAt
 rw [h]
 exact ⟨rfl, rfl, rfl⟩
theorem out_err {a0 : ByteArray} {e : Nat × Int} (h : Lx.pieces a0.data.toList = .error e) : Lx.outL a0 = [] ∧ Lx.outE a0 = e.2 ∧ Lx.outAt a0 = e.1 ∧ e.2 ≠ 0 := by
 unfold Lx.outL Lx.outE Lx.outAt
 rw [h]
 exact ⟨rfl, rfl, rfl, Lx.pieces_error h⟩
theorem scan_ok {a0 : ByteArray} {l : List Lx.Piece} (h : Lx.pieces a0.data.toList = .ok l) (k : Nat) (hk : 20000 < k) : lex_Scan.f k a0 = some (toks a0 l, 0, 0) := by
 obtain ⟨hc, hs⟩ := Lx.pieces_chain h
 rw [size_list] at hc hs
 have hl := chain_len _ _ _ hc
 obtain ⟨h1, h2, h3⟩ := out_ok h
 unfold lex_Scan.f
 rw [pieces_f, Option.bind_some]
 dsimp only
 rw [if_pos h2]
 unfold cells129
 rw [h1]
 have := scan_loop a0 hs l (by omega) (fun p hp => by have := (Lx.chain_ge _ _ _ hc p hp).2.1; omega) l.length 0 [] k rfl (by omega) (by simp) (by omega)
 rw [List.drop_zero, List.nil_append] at this
 exact this
theorem scan_err {a0 : ByteArray} {e : Nat × Int} (h : Lx.pieces a0.data.toList = .error e) (k : Nat) : lex_Scan.f k a0 = some ([], (e.1 : Int), e.2) := by
 obtain ⟨_, h2, h3, h4⟩ := out_err h
 unfold lex_Scan.f
 rw [pieces_f, Option.bind_some]
 dsimp only
 rw [if_neg (by rw [h2]; exact h4), h2, h3]

/-! ### One token alone -/
/-- The one token that a string is. -/
def one (u : ByteArray) : Option Lx.Piece := match Lx.pieces u.data.toList with
 | .ok l => match l.filter isTok with
  | [p] => if p.len = u.size then some p else none
  | _ => none
 | .error _ => none
theorem bytes_ext {a b : ByteArray} (h : a.data.toList = b.data.toList) : a = b := by
 cases a; cases b
 congr
 exact Array.ext' h
theorem toList_ne (a b : ByteArray) : (a.toList != b.toList) = decide (a ≠ b) := by
 rw [Lib.toList_data, Lib.toList_data]
 by_cases h : a = b
 ·subst h; simp
 ·have : a.data.toList ≠ b.data.toList := fun e => h (bytes_ext e)
  simp [h, this]
theorem single_f (u : ByteArray) (k : Nat) (hk : 20000 < k) : lex_single.f k u = match one u with
  | some p => some ((tok u p).f0, (tok u p).f1, (tok u p).f2, (tok u p).f3, (tok u p).f4, true)
  | none => some (0, 0, ⟨#[]⟩, 0, 0, false) := by
 obtain ⟨k, rfl⟩ : ∃ m, k = m + 1 := ⟨k - 1, by omega⟩
 unfold lex_single.f one
 cases hp : Lx.pieces u.data.toList with
 | error e =>
  rw [scan_err hp, Option.bind_some]
  dsimp only
  rw [if_neg (Lx.pieces_error hp), lex_single.j0, if_pos rfl]
 | ok l =>
  rw [scan_ok hp _ hk, Option.bind_some]
  dsimp only
  rw [if_pos rfl]
  obtain ⟨hc, hs⟩ := Lx.pieces_chain hp
  cases hf : l.filter isTok with
  | nil =>
   have ht : toks u l = [] := by unfold toks; rw [hf]; rfl
   rw [ht, if_neg (by simp), lex_single.j0, if_pos rfl]
  | cons p r =>
   cases r with
   | cons q r =>
    have ht : (toks u l).length = r.length + 2 := by unfold toks; rw [hf]; simp
    rw [ht, if_neg (by omega), lex_single.j0, if_pos rfl]
   | nil =>
    have ht : toks u l = [tok u p] := by unfold toks; rw [hf]; rfl
    have hm : p ∈ l := (List.mem_filter.1 (by rw [hf]; exact List.mem_cons_self)).1
    obtain ⟨op, h1, h2, _⟩ := Lx.pieces_next hp p hm
    rw [size_list] at h1
    rw [ht]
    have hz : rd_T39 [tok u p] 0 = tok u p := rfl
    rw [if_pos (by simp), if_pos (by simp), hz, toList_ne]
    have hsz := txt_size u p h1
    have hf2 : (tok u p).f2 = txt u p := rfl
    rw [hf2]
    dsimp only
    by_cases hl : p.len = u.size
    ·have he : txt u p = u := by
      apply bytes_ext
      rw [txt_list, show p.at_ = 0 from by omega, List.drop_zero, List.take_of_length_le (by rw [size_list]; omega)]
     rw [if_pos hl, he]
     dsimp only
     rw [decide_eq_false (by simp), lex_single.j0, if_neg (by simp), if_pos (by simp), hz, hf2, he]
    ·have he : txt u p ≠ u := fun e => hl (by rw [← hsz, e])
     rw [if_neg hl]
     rw [decide_eq_true he, lex_single.j0, if_pos rfl]
theorem kind_f (u : ByteArray) (k : Nat) (hk : 20000 < k) : lex_Kind.f k u = some (match one u with | some p => (p.kind : Int) | none => 0) := by
 unfold lex_Kind.f
 rw [single_f u k hk]
 cases one u with
 | none => rfl
 | some p => rfl
theorem one_next {u : ByteArray} {p : Lx.Piece} (h : one u = some p) : Lx.next false u.data.toList = .ok (p.kind, u.size) ∧ p.kind ≤ 6 ∧ p.at_ = 0 ∧ p.len = u.size ∧ ∃ l, Lx.pieces u.data.toList = .ok l ∧ p ∈ l := by
 unfold one at h
 split at h
 ·rename_i l hp
  split at h
  ·rename_i q hq
   split at h
   ·rename_i hl
    injection h with h
    subst h
    have hm := List.mem_filter.1 (show q ∈ l.filter isTok from by rw [hq]; exact List.mem_cons_self)
    obtain ⟨op, h1, h2, h3⟩ := Lx.pieces_next hp q hm.1
    rw [size_list] at h1
    have h0 : q.at_ = 0 := by omega
    obtain rfl := h3 h0
    rw [h0, List.drop_zero, hl] at h2
    exact ⟨h2, of_decide_eq_true hm.2, h0, hl, l, hp, hm.1⟩
   ·cases h
  ·cases h
 ·cases h

def kindOf (u : ByteArray) : Int := match one u with | some p => (p.kind : Int) | none => 0
theorem one_of {u : ByteArray} {kd : Nat} (hs : u.size ≤ 20000) (h0 : u.size ≠ 0) (hn : Lx.next false u.data.toList = .ok (kd, u.size)) (hk : kd ≤ 6) : one u = some ⟨kd, 0, u.size⟩ := by
 have hp : Lx.pieces u.data.toList = .ok [⟨kd, 0, u.size⟩] := by
  unfold Lx.pieces
  rw [if_neg (by rw [size_list]; omega)]
  cases hl : u.data.toList with
  | nil =>
   have := congrArg List.length hl
   rw [size_list] at this
   exact absurd this h0
  | cons x t =>
   have hlen : (x :: t).length = u.size := by rw [← hl, size_list]
   rw [hl] at hn
   rw [hlen]
   obtain ⟨f, hf⟩ : ∃ f, u.size = f + 1 := ⟨u.size - 1, by omega⟩
   rw [hf, Lx.go_step, hn]
   dsimp only
   rw [if_neg (by omega), List.drop_of_length_le (by omega)]
   cases f <;> simp [Lx.piecesGo, hf]
 unfold one
 rw [hp]
 have : ([⟨kd, 0, u.size⟩] : List Lx.Piece).filter isTok = [⟨kd, 0, u.size⟩] := by
  rw [List.filter_cons_of_pos (by unfold isTok; exact decide_eq_true hk)]
  rfl
 simp only [this, if_true]
theorem one_size {u : ByteArray} {p : Lx.Piece} (h : one u = some p) : u.size ≠ 0 ∧ u.size ≤ 20000 := by
 obtain ⟨hn, hk, ha, hl, l, hp, hm⟩ := one_next h
 obtain ⟨hc, hs⟩ := Lx.pieces_chain hp
 rw [size_list] at hs
 have := (Lx.chain_ge _ _ _ hc p hm).2.2
 exact ⟨by omega, hs⟩
theorem lkind_f (u : ByteArray) (k : Nat) (hk : 20000 < k) : lex_Kind.f k u = some (kindOf u) := kind_f u k hk
theorem one_zero {u : ByteArray} {p : Lx.Piece} (h : one u = some p) : tok u p = ⟨(p.kind : Int), if p.kind = 2 then Lx.valN u.data.toList else 0, u, 0, 0⟩ := by
 obtain ⟨hn, hk, ha, hl, _⟩ := one_next h
 have he : txt u p = u := by
  apply bytes_ext
  rw [txt_list, ha, List.drop_zero, List.take_of_length_le (by rw [size_list]; omega)]
 unfold tok
 rw [he, ha]
 rfl
/-- A token that is alone in its text: no comment, no blank; taken by the longest rule, and checked. -/
theorem one_longest {u : ByteArray} {p : Lx.Piece} (h : one u = some p) : Lx.longest false (u.data.toList.take 100) = (p.kind, u.size) ∧ Lx.check u.data.toList p.kind u.size = 0 := by
 obtain ⟨hn, hk, ha, hl, _⟩ := one_next h
 unfold Lx.next at hn
 split at hn
 ·cases hc : Lx.comment u.data.toList with
  | error e => rw [hc] at hn; cases hn
  | ok n =>
   rw [hc] at hn
   have : (8, n) = (p.kind, u.size) := by injection hn
   injection this with h8 _
   omega
 ·split at hn
  ·have : (7, Lx.allN Lx.cBlank u.data.toList) = (p.kind, u.size) := by injection hn
   injection this with h7 _
   omega
  ·unfold Lx.checked at hn
   split at hn
   ·rename_i hc
    have e : Lx.longest false (u.data.toList.take 100) = (p.kind, u.size) := by injection hn
    rw [e] at hc
    exact ⟨e, hc⟩
   ·cases hn
theorem one_num {u : ByteArray} {p : Lx.Piece} (h : one u = some p) (h2 : p.kind = 2) : Lx.valB u.data.toList = true := by
 have hc := (one_longest h).2
 rw [h2] at hc
 change (if Lx.valB (u.data.toList.take u.size) = false ∨ _ then (11 : Int) else 0) = 0 at hc
 rw [List.take_of_length_le (by rw [size_list]; omega)] at hc
 cases hv : Lx.valB u.data.toList with
 | true => rfl
 | false =>
  rw [if_pos (.inl hv)] at hc
  exact absurd hc (by decide)
theorem one_kind {u : ByteArray} {p : Lx.Piece} (h : one u = some p) : p.kind ∈ [1, 2, 3, 4, 5, 6] ∧ Lx.takes false (u.data.toList.take 100) p.kind = u.size := by
 obtain ⟨h1, h2⟩ := one_longest h
 have h0 : p.kind ≠ 0 := fun e => by
  rw [e] at h2
  change (if Lx.pre [35] u.data.toList = true then (12 : Int) else 10) = 0 at h2
  split at h2 <;> exact absurd h2 (by decide)
 obtain ⟨a, _, b⟩ := Lx.longest_is h1 h0
 exact ⟨a, b⟩
theorem num_len {s : List UInt8} (h : Lx.valB s = true) : s.length ≤ 20 := by
 have key : ∀ d, Lx.canon d → Lx.spell 0 d ≤ 9223372036854775808 → d.length ≤ 19 := fun d hd hs => by
  rcases hd.2.2 with h48 | h1
  ·have := (Lx.dec_spell _ d rfl hd.1 hd.2.1 (.inl h48)).2 h48
   rcases Nat.lt_or_ge 19 d.length with h6 | h6
   ·have h7 : 10 ^ 19 ≤ 10 ^ (d.length - 1) := Nat.pow_le_pow_right (by decide) (by omega)
    have h8 : (10 : Nat) ^ 19 = 10000000000000000000 := by decide
    omega
   ·exact h6
  ·omega
 rcases Lx.valB_inv h with ⟨a, b⟩ | ⟨d, rfl, a, _, b⟩
 ·have := key s a (by omega)
  omega
 ·have := key d a b
  rw [List.length_cons]
  omega
theorem one_len {u : ByteArray} {p : Lx.Piece} (h : one u = some p) : u.size ≤ 40 := by
 obtain ⟨h1, h2⟩ := one_kind h
 obtain ⟨_, hc⟩ := one_longest h
 simp only [List.mem_cons, List.not_mem_nil, or_false] at h1
 rcases h1 with e | e | e | e | e | e
 ·rw [e] at hc
  change (if 40 < u.size then (2 : Int) else 0) = 0 at hc
  split at hc
  ·exact absurd hc (by decide)
  ·omega
 ·have := num_len (one_num h e)
  rw [size_list] at this
  omega
 ·rw [e] at hc
  change (if 40 < u.size then (2 : Int) else 0) = 0 at hc
  split at hc
  ·exact absurd hc (by decide)
  ·omega
 ·rw [e] at h2
  change Lx.hash _ = u.size at h2
  unfold Lx.hash at h2
  split at h2 <;> omega
 ·rw [e] at h2
  change Lx.sign _ = u.size at h2
  unfold Lx.sign at h2
  split at h2
  ·omega
  ·split at h2
   ·omega
   ·split at h2 <;> omega
 ·rw [e] at hc
  change (if 40 < u.size then (2 : Int) else 0) = 0 at hc
  split at hc
  ·exact absurd hc (by decide)
  ·omega
def good (t : S39) : Bool := decide ((t.f0 ≠ 0 ∧ kindOf t.f2 = t.f0) ∧ t.f1 = (if t.f0 = 2 then Lx.valN t.f2.data.toList else 0) ∧ 0 ≤ t.f3 ∧ 0 ≤ t.f4)
def chk (t : S39) : Int := if good t = true then 0 else 14
theorem chk_zero (t : S39) : chk t = 0 ↔ good t = true := by
 unfold chk
 split
 ·simp [*]
 ·simp [*]
theorem good_one {t : S39} (h : good t = true) : ∃ p, one t.f2 = some p ∧ (p.kind : Int) = t.f0 := by
 obtain ⟨⟨h0, h1⟩, _⟩ := of_decide_eq_true h
 unfold kindOf at h1
 cases ho : one t.f2 with
 | none => rw [ho] at h1; exact absurd h1.symm h0
 | some p => rw [ho] at h1; exact ⟨p, rfl, h1⟩
theorem good_len {t : S39} (h : good t = true) : t.f2.size ≤ 40 := by
 obtain ⟨p, hp, _⟩ := good_one h
 exact one_len hp
theorem lcheck_f (t : S39) (k : Nat) (hk : 30000 < k) : lex_Check.f k t.f0 t.f1 t.f2 t.f3 t.f4 = some (chk t) := by
 obtain ⟨k, rfl⟩ : ∃ j, k = j + 1 := ⟨k - 1, by omega⟩
 have jt : lex_Check.j0 (k + 1) true = some 14 := by rw [lex_Check.j0, if_pos rfl]
 have bad : good t = false → some (14 : Int) = some (chk t) := fun h => by unfold chk; rw [h]; rfl
 unfold lex_Check.f
 rw [single_f t.f2 (k + 1) (by omega)]
 cases ho : one t.f2 with
 | none =>
  have hb : good t = false := by
   cases hg : good t with
   | false => rfl
   | true => obtain ⟨p, hp, _⟩ := good_one hg; rw [ho] at hp; cases hp
  simp only [Option.bind_some]
  rw [if_neg (by decide), jt]
  exact bad hb
 | some p =>
  have hk1 : kindOf t.f2 = p.kind := by unfold kindOf; rw [ho]
  have hk0 := (one_kind ho).1
  have hkz : (p.kind : Int) ≠ 0 := fun e => by
   have : p.kind = 0 := by omega
   rw [this] at hk0
   exact absurd hk0 (by decide)
  simp only [Option.bind_some, one_zero ho]
  rw [if_pos trivial]
  by_cases h0 : t.f0 = p.kind
  ·rw [if_pos h0]
   have hn : (if p.kind = 2 then Lx.valN t.f2.data.toList else 0) = (if t.f0 = 2 then Lx.valN t.f2.data.toList else 0) := by
    by_cases h2 : p.kind = 2
    ·rw [if_pos h2, if_pos (by omega)]
    ·rw [if_neg h2, if_neg (by omega)]
   rw [hn]
   by_cases h1 : t.f1 = (if t.f0 = 2 then Lx.valN t.f2.data.toList else 0)
   ·rw [if_pos h1]
    by_cases h3 : t.f3 < 0
    ·rw [if_pos h3, jt]
     exact bad (decide_eq_false (fun h => by have := h.2.2.1; omega))
    ·rw [if_neg h3]
     by_cases h4 : t.f4 < 0
     ·rw [decide_eq_true h4, jt]
      exact bad (decide_eq_false (fun h => by have := h.2.2.2; omega))
     ·rw [decide_eq_false h4, lex_Check.j0, if_neg (by decide)]
      have hg : good t = true := decide_eq_true ⟨⟨by omega, by omega⟩, h1, by omega, by omega⟩
      unfold chk
      rw [if_pos hg]
   ·rw [if_neg h1, jt]
    exact bad (decide_eq_false (fun h => h1 h.2.1))
  ·rw [if_neg h0, jt]
   exact bad (decide_eq_false (fun h => h0 (by rw [← h.1.2, hk1])))
end Go.Proofs.YtipnlgmeonepfaaGreatDoor.Pure

set_option linter.unusedVariables false
set_option linter.unusedSimpArgs false
namespace Go.Proofs.YtipnlgmeonepfaaGreatDoor.PFa
open Go.RowKit Go.Proofs.YtipnlgmeonepfaaGreatDoorW.PrintWords Go.Proofs.YtipnlgmeonepfaaGreatDoorW.PrintLast Go.Proofs.YtipnlgmeonepfaaGreatDoorW.PrintMore
def ownWords : List ByteArray := [⟨#[98, 101, 103, 105, 110]⟩, ⟨#[105, 102]⟩, ⟨#[98, 108, 111, 99, 107]⟩, ⟨#[109, 101, 116, 104, 111, 100]⟩, ⟨#[99, 108, 97, 115, 115]⟩, ⟨#[109, 97, 99, 114, 111]⟩]
def takenWords : List ByteArray := ownWords ++ [⟨#[101, 110, 100]⟩, ⟨#[115, 108, 111, 116]⟩]
def memB (x : ByteArray) (l : List ByteArray) : Bool := l.any fun y => decide (y = x)
theorem toList_eq (a b : ByteArray) : a.toList = b.toList ↔ a = b := by
 have h := Pure.toList_ne a b
 constructor
 ·intro e
  rw [e, bne_self_eq_false] at h
  exact Decidable.byContradiction fun hn => absurd h (by simp [hn])
 ·rintro rfl
  rfl
theorem index_loop (l : List ByteArray) (s : ByteArray) (hl : l.length ≤ 1000000) : ∀ (m i k : Nat), l.length - i = m → i ≤ l.length → m < k → (∀ x ∈ l.take i, x ≠ s) →
  ∃ r, slices_Index_string_string.l0 k l s (l.length : Int) (i : Int) = some r ∧ decide (r ≥ 0) = memB s l
 | m, i, 0, _, _, h, _ => by omega
 | m, i, k + 1, hm, hi, hk, hn => by
  unfold slices_Index_string_string.l0
  by_cases hlt : i < l.length
  ·rw [if_pos (by omega), if_pos (by omega), if_pos (by omega)]
   have hrd : rdOf ByteArray.empty l (i : Int) = l[i] := by simp [rdOf, hlt]
   rw [hrd]
   by_cases he : s = l[i]
   ·rw [if_pos ((toList_eq _ _).2 he)]
    refine ⟨(i : Int), rfl, ?_⟩
    rw [decide_eq_true (by omega)]
    unfold memB
    exact (List.any_eq_true.2 ⟨l[i], List.getElem_mem hlt, by simp [he]⟩).symm
   ·rw [if_neg (fun h => he ((toList_eq _ _).1 h)), show wrap64 ((i : Int) + 1) = ((i + 1 : Nat) : Int) from by unfold wrap64; omega]
    refine index_loop l s hl (m - 1) (i + 1) k (by omega) (by omega) (by omega) (fun x hx => ?_)
    rw [List.take_succ_eq_append_getElem hlt] at hx
    rcases List.mem_append.1 hx with h | h
    ·exact hn x h
    ·rw [List.mem_singleton.1 h]
     exact fun e => he e.symm
  ·rw [if_neg (by omega)]
   refine ⟨-1, rfl, ?_⟩
   rw [decide_eq_false (by omega)]
   unfold memB
   rw [List.take_of_length_le (by omega)] at hn
   refine (List.any_eq_false.2 fun x hx => ?_).symm
   simp [hn x hx]
theorem contains_f (l : List ByteArray) (s : ByteArray) (hl : l.length ≤ 1000000) (k : Nat) (hk : l.length < k) : slices_Contains_string_string.f k l s = some (memB s l) := by
 unfold slices_Contains_string_string.f slices_Index_string_string.f
 obtain ⟨r, h1, h2⟩ := index_loop l s hl l.length 0 k rfl (by omega) hk (by simp)
 rw [show ((0 : Int)) = ((0 : Nat) : Int) from rfl, h1]
 simp only [Option.bind_some]
 show some (decide (r ≥ 0)) = _
 rw [h2]
theorem contains_c {A : Option Addr} {c : Nat} {l : List ByteArray} {w : World} (s : ByteArray) (hC : Kd.C Kd.string w A l.length l) (hc : l.length ≤ c) (hl : l.length ≤ 1000000) : Calls Tryz.prog 73 #[.slice A l.length c, .string s] w fun e w' => e = .returned (.bool (memB s l)) ∧ Drawn0 w w' :=
 slices_Contains_string_string.calls (l.length + 1) A c l s _ w hC hc (contains_f l s hl _ (by omega))
theorem strs_lit {w : World} {b : Nat} {l : List ByteArray} {t : TypeId} (h : w.heap[b]? = some (.cells (l.map Value.string).toArray t (0, 0))) (hl : l.length ≤ 1000000) : Kd.C Kd.string w (some ⟨b, 0, none⟩) l.length l := by
 refine ⟨rfl, by omega, fun _ => ⟨_, rfl, fun j p hj => ⟨[.string p], rfl, rfl, fun i u hu => ?_⟩⟩⟩
 rcases i with _ | i
 ·injection hu with hu
  subst hu
  have hadd : (⟨b, 0, none⟩ : Addr).add (j * 1 + 0) = ⟨b, j, none⟩ := by
   unfold Addr.add
   split <;> simp_all
  show w.cell? ((⟨b, 0, none⟩ : Addr).add (j * 1 + 0)) = _
  rw [hadd, blk_cell h j]
  simp [hj]
 ·simp at hu
theorem strs_take {w : World} {A : Option Addr} {l : List ByteArray} (h : Kd.C Kd.string w A l.length l) (i : Nat) (hi : i ≤ l.length) : Kd.C Kd.string w A (l.take i).length (l.take i) := by
 have hlen : (l.take i).length = i := by rw [List.length_take]; omega
 refine ⟨rfl, by have := h.2.1; omega, fun h0 => ?_⟩
 obtain ⟨ad, e, hc⟩ := h.2.2 (by omega)
 refine ⟨ad, e, fun j p hj => hc j p ?_⟩
 rw [List.getElem?_take] at hj
 split at hj
 ·exact hj
 ·cases hj
end Go.Proofs.YtipnlgmeonepfaaGreatDoor.PFa

set_option linter.unusedVariables false
set_option linter.unusedSimpArgs false
namespace Go.Proofs.YtipnlgmeonepfaaGreatDoor.PFa
open Go.RowKit Go.Proofs.YtipnlgmeonepfaaGreatDoorW.PrintWords Go.Proofs.YtipnlgmeonepfaaGreatDoorW.PrintLast Go.Proofs.YtipnlgmeonepfaaGreatDoorW.PrintMore
open Go.Proofs.YtipnlgmeonepfaaGreatDoor.Lx (Kp)
theorem check_c (T : Tk) (w : World) (hE : Lx.Env w) : Calls Tryz.prog 94 #[.agg #[.int .i64 T.f0, .int .i64 T.f1, .string T.f2, .int .i64 T.f3, .int .i64 T.f4]] w fun e w' => e = .returned (.int .i64 (Pure.chk T)) ∧ Below w.heap.size w w' :=
 lex_Check.calls (30000 + 1) _ _ _ _ _ _ w (Pure.lcheck_f T _ (by omega)) hE
section
variable {w W W' : World} {g : Nat} {A0 : Option Addr} {c0 : Nat} {l : List Tk} {A1 : Option Addr} {c1 : Nat} {ws : List ByteArray} {o : Nat → Nat} {at_ : Nat} {tv : Value} {top : List Fg} {sv : Value} {fs : List Fr} {ps : List PF}
/-- What valid comes to. -/
def ValPost (at_ : Nat) (T : Tk) (W : World) (e : Ending) (W' : World) : Prop := (if Pure.good T = true then e = .returned (.tuple #[]) else e = endR at_ 14) ∧ Below W.heap.size W W'
set_option maxHeartbeats 6400000 in
set_option maxRecDepth 100000 in
theorem valid_c (h : Rd w g A0 c0 l A1 c1 ws o at_ tv top sv fs W) (hC : Kd.C k39 w A0 l.length l) (hl : l.length ≤ 6000) (hat : at_ < l.length) (hE : Lx.Env w) :
  Calls Tryz.prog 75 #[.pointer (some ⟨g, 0, none⟩)] W (ValPost at_ (tkAt l at_) W) := by
 have HREF := Lib.hid (fun (W' : World) (hb : Below W.heap.size W W') => refuse_c (h.below hb) 14)
 obtain ⟨ad, had, t0, t1, t2, t3, t4⟩ := at_T39 (Kd.C_below hC h.bel) (at_ : Int) (by omega) (by omega)
 subst had
 obtain ⟨T, hT⟩ : ∃ T, rd_T39 l (at_ : Int) = T := ⟨_, rfl⟩
 rw [show tkAt l at_ = T from hT]
 rw [hT] at t0 t1 t2 t3 t4
 simp only [Int.toNat_natCast] at t0 t1 t2 t3 t4
 have k0 : W.cell? ⟨g, 0, none⟩ = some (.slice (some ad) l.length c0) := blk_cell h.blk 0
 have k1 : W.cell? ⟨g, 1, none⟩ = some (.int .i64 at_) := blk_cell h.blk 1
 have x2 : (0 : Int) ≤ (at_ : Int) := by omega
 have x3 : (at_ : Int) < (l.length : Int) := by omega
 have HCH := Lib.hid (fun (W' : World) (hb : Below w.heap.size w W') => check_c T W' (hE.below hb))
 have HB := Lib.hid h.bel
 obtain ⟨r, hr⟩ : ∃ r, Pure.chk T = r := ⟨_, rfl⟩
 rw [hr] at HCH
 have HR := Lib.hid hr
 clear hT h hC hE hr
 by_cases hg : Pure.good T = true
 ·obtain rfl : r = 0 := by rw [← HR.out]; exact (Pure.chk_zero T).2 hg
  have HP : Hid (∀ W', Below W.heap.size W W' → ValPost at_ T W (.returned (.tuple #[])) W') := Lib.hid (fun W' hb => by unfold ValPost; rw [if_pos hg]; exact ⟨rfl, hb⟩)
  clear hg
  go_enter Tryz.func75, Tryz.ntmps75
  go_wp2_with fail
  refine wp_region_still_tail 10 (by kernel_rfl) (by kernel_rfl) ?_
  simp only [List.take_succ_cons, List.take_zero, List.drop_succ_cons, List.drop_zero]
  repeat still_step
  try refine wpStill_nil ?_
  go_wp2_with fail
  refine (HCH.out _ (HB.out.drew)).mono ?_
  rintro e w1 ⟨rfl, hb1⟩
  have HB1 : Hid (Below W.heap.size W w1) := Lib.hid (((Below.refl _ W).drew).trans hb1)
  clear hb1
  go_wp2_with fail
  go_end0
  exact HP.out _ HB1.out
 ·have x1 : (r != 0) = true := by
   rw [bne_iff_ne, ← HR.out]
   intro e
   exact hg ((Pure.chk_zero T).1 e)
  have HP : Hid (∀ W', Below W.heap.size W W' → ValPost at_ T W (endR at_ 14) W') := Lib.hid (fun W' hb => by unfold ValPost; rw [if_neg hg]; exact ⟨rfl, hb⟩)
  clear hg
  go_enter Tryz.func75, Tryz.ntmps75
  go_wp2_with fail
  refine wp_region_still_tail 10 (by kernel_rfl) (by kernel_rfl) ?_
  simp only [List.take_succ_cons, List.take_zero, List.drop_succ_cons, List.drop_zero]
  repeat still_step
  try refine wpStill_nil ?_
  go_wp2_with fail
  refine (HCH.out _ (HB.out.drew)).mono ?_
  rintro e w1 ⟨rfl, hb1⟩
  have HB1 : Hid (Below W.heap.size W w1) := Lib.hid (((Below.refl _ W).drew).trans hb1)
  clear hb1
  go_wp2_with fail
  refine (HREF.out _ HB1.out).mono ?_
  rintro e W3 ⟨rfl, ⟨q, rfl⟩⟩
  exact ⟨rfl, HP.out _ (pw_below_drewN HB1.out _)⟩
end
end Go.Proofs.YtipnlgmeonepfaaGreatDoor.PFa

set_option linter.unusedVariables false
set_option linter.unusedSimpArgs false
namespace Go.Proofs.YtipnlgmeonepfaaGreatDoor.PFa
open Go.RowKit Go.Proofs.YtipnlgmeonepfaaGreatDoorW.PrintWords Go.Proofs.YtipnlgmeonepfaaGreatDoorW.PrintLast Go.Proofs.YtipnlgmeonepfaaGreatDoorW.PrintMore
open Go.Proofs.YtipnlgmeonepfaaGreatDoor.Lx (Kp)
def stopSigns : List ByteArray := [⟨#[59]⟩, ⟨#[44]⟩, ⟨#[41]⟩, ⟨#[93]⟩, ⟨#[125]⟩]
/-- Is there a token before which names may be dropped, or none? -/
def stopsB (l : List Tk) (i : Nat) : Bool := if l.length ≤ i then true else if isNm l i ⟨#[101, 110, 100]⟩ = true then true else ((tkAt l i).f0 == 5) && memB (tkAt l i).f2 stopSigns
section
variable {w W W' : World} {g : Nat} {A0 : Option Addr} {c0 : Nat} {l : List Tk} {A1 : Option Addr} {c1 : Nat} {ws : List ByteArray} {o : Nat → Nat} {at_ : Nat} {tv : Value} {top : List Fg} {sv : Value} {fs : List Fr} {ps : List PF}
set_option maxHeartbeats 6400000 in
set_option maxRecDepth 100000 in
theorem named_c (h : Rd w g A0 c0 l A1 c1 ws o at_ tv top sv fs W) (hfs : fs.length ≤ 100) (hat : at_ ≤ 6000) (hats : ∀ f ∈ fs, f.at_ ≤ 6000) : Calls Tryz.prog 77 #[.pointer (some ⟨g, 0, none⟩)] W fun e W' => e = .returned (.bool (nmd at_ (fs.map Fr.pf))) ∧ Drawn0 W W' := by
 have k1 : W.cell? ⟨g, 1, none⟩ = some (.int .i64 at_) := blk_cell h.blk 1
 cases fs with
 | nil =>
  obtain ⟨A, c, rfl⟩ := own_slice h.stk
  have k4 : W.cell? ⟨g, 4, none⟩ = some (.slice A 0 c) := blk_cell h.blk 4
  clear h
  go_enter Tryz.func77, Tryz.ntmps77
  go_wp2
  go_quiet (fail)
  go_wp2
  go_ret
  exact ⟨rfl, ⟨_, rfl⟩⟩
 | cons f r =>
  have hff := h.frs f List.mem_cons_self
  obtain ⟨P, cap, rfl, p0, p1, hcap⟩ := h.stack
  have hn1 : r.length + 1 ≤ 100 := hfs
  have hfa : f.at_ ≤ 6000 := hats f List.mem_cons_self
  have k4 : W.cell? ⟨g, 4, none⟩ = some (.slice (some ⟨P, 0, none⟩) (r.length + 1) cap) := blk_cell h.blk 4
  have v5 : W.cell? ⟨f.blk, 5, none⟩ = some (.string f.tok.f2) := blk_cell hff.1 5
  obtain ⟨k, hk⟩ : ∃ k, r.length = k := ⟨_, rfl⟩
  rw [hk] at p0 p1 k4 hn1
  obtain ⟨m, hm⟩ : ∃ m, k + 1 = m := ⟨_, rfl⟩
  rw [hm] at k4
  obtain ⟨b, hb⟩ : ∃ b, f.blk = b := ⟨_, rfl⟩
  rw [hb] at p0 v5
  obtain ⟨fa, hfa'⟩ : ∃ b, f.at_ = b := ⟨_, rfl⟩
  obtain ⟨S, hS⟩ : ∃ S, f.tok.f2 = S := ⟨_, rfl⟩
  have HR : Hid (nmd at_ ((f :: r).map Fr.pf) = ((S.toList == (⟨#[109, 97, 99, 114, 111]⟩ : ByteArray).toList) && ((fa : Int) == (at_ : Int) - 1))) := Lib.hid (by rw [← hS, ← hfa']; rfl)
  rw [hfa'] at p1 hfa
  rw [hS] at v5
  have x0 : decide ((0 : Int) < (m : Int)) = true := decide_eq_true (by omega)
  have x0' : decide (0 < m) = true := decide_eq_true (by omega)
  have x2 : IntKind.i64.wrap ((m : Int) - 1) = (k : Int) := by rw [IntWalk.i64_in _ (by omega)]; omega
  have x3 : (0 : Int) ≤ (k : Int) := by omega
  have x4 : (k : Int) < (m : Int) := by omega
  have x5 : IntKind.i64.wrap ((at_ : Int) - 1) = (at_ : Int) - 1 := IntWalk.i64_in _ (by omega)
  have hml : (⟨#[109, 97, 99, 114, 111]⟩ : ByteArray).toList = [109, 97, 99, 114, 111] := by decide +kernel
  rw [hml] at HR
  clear h hff hk hm hfs hats hb hfa' hS
  by_cases he : S.toList = [109, 97, 99, 114, 111]
  ·have x6 : (S.toList == [109, 97, 99, 114, 111]) = true := beq_iff_eq.2 he
   rw [HR.out, x6, Bool.true_and]
   clear he HR hml
   go_enter Tryz.func77, Tryz.ntmps77
   go_wp2
   go_quiet (fail)
   go_wp2
   go_ret
   exact ⟨rfl, ⟨_, rfl⟩⟩
  ·have x6 : (S.toList == [109, 97, 99, 114, 111]) = false := beq_eq_false_iff_ne.2 he
   rw [HR.out, x6, Bool.false_and]
   clear he HR hml
   go_enter Tryz.func77, Tryz.ntmps77
   go_wp2
   go_quiet (fail)
   go_wp2
   go_ret
   exact ⟨rfl, ⟨_, rfl⟩⟩
set_option maxHeartbeats 6400000 in
set_option maxRecDepth 100000 in
theorem stops_c (h : Rd w g A0 c0 l A1 c1 ws o at_ tv top sv fs W) (hC : Kd.C k39 w A0 l.length l) (hl : l.length ≤ 6000) (i : Nat) : Calls Tryz.prog 130 #[.pointer (some ⟨g, 0, none⟩), .int .i64 i] W fun e W' => e = .returned (.bool (stopsB l i)) ∧ Below W.heap.size W W' := by
 have k0 : W.cell? ⟨g, 0, none⟩ = some (.slice A0 l.length c0) := blk_cell h.blk 0
 by_cases hi : l.length ≤ i
 ·have HR : stopsB l i = true := by unfold stopsB; rw [if_pos hi]
  rw [HR]
  have x1 : decide (l.length ≤ i) = true := decide_eq_true hi
  clear HR h hC hi hl
  go_enter Tryz.func130, Tryz.ntmps130
  go_wp2
  go_ret
  exact ⟨rfl, Below.refl _ _⟩
 ·have hlt : i < l.length := by omega
  have x1 : decide (l.length ≤ i) = false := decide_eq_false hi
  have HN := Lib.hid (isName_c h hC hl i ⟨#[101, 110, 100]⟩)
  cases hb : isNm l i ⟨#[101, 110, 100]⟩ with
  | true =>
   have HR : stopsB l i = true := by unfold stopsB; rw [if_neg hi, if_pos hb]
   rw [HR]
   rw [hb] at HN
   clear HR h hC hi hl hb
   go_enter Tryz.func130, Tryz.ntmps130
   go_wp2_with fail
   refine HN.out.mono ?_
   rintro e W2 ⟨rfl, ⟨m, rfl⟩⟩
   go_wp2
   go_ret
   exact ⟨rfl, pw_below_drewN (Below.refl _ _) _⟩
  | false =>
   rw [hb] at HN
   have HR : stopsB l i = (((tkAt l i).f0 == 5) && memB (tkAt l i).f2 stopSigns) := by unfold stopsB; rw [if_neg hi, hb, if_neg (by decide)]
   rw [HR]
   obtain ⟨ad, had, t0, t1, t2, t3, t4⟩ := at_T39 (Kd.C_below hC h.bel) (i : Int) (by omega) (by omega)
   subst had
   obtain ⟨T, hT⟩ : ∃ T, rd_T39 l (i : Int) = T := ⟨_, rfl⟩
   rw [show tkAt l i = T from hT]
   rw [hT] at t0 t1 t2 t3 t4
   simp only [Int.toNat_natCast] at t0 t1 t2 t3 t4
   have x2 : (0 : Int) ≤ (i : Int) := by omega
   have x3 : (i : Int) < (l.length : Int) := by omega
   have HCO := Lib.hid (fun (W' : World) (b : Nat) (hb : W'.heap[b]? = some (.cells #[.string ⟨#[59]⟩, .string ⟨#[44]⟩, .string ⟨#[41]⟩, .string ⟨#[93]⟩, .string ⟨#[125]⟩] 9 (0, 0))) => contains_c (c := 5) (w := W') (A := some ⟨b, 0, none⟩) (l := stopSigns) T.f2 (strs_lit (t := 9) hb (by decide)) (by decide) (by decide))
   obtain ⟨mb, hmb⟩ : ∃ mb, memB T.f2 stopSigns = mb := ⟨_, rfl⟩
   rw [hmb] at HCO ⊢
   clear HR h hC hi hl hb hT hmb
   by_cases h5 : T.f0 = 5
   ·have x5 : (T.f0 == 5) = true := beq_iff_eq.2 h5
    rw [x5, Bool.true_and]
    clear h5
    go_enter Tryz.func130, Tryz.ntmps130
    go_wp2_with fail
    refine HN.out.mono ?_
    rintro e W2 ⟨rfl, hd⟩
    have HB2 : Hid (Below W.heap.size W W2) := Lib.hid (by obtain ⟨m, rfl⟩ := hd; exact pw_below_drewN (Below.refl _ _) _)
    clear hd
    have k0 := pw_cell_below HB2.out k0
    have t0 := pw_cell_below HB2.out t0
    have t1 := pw_cell_below HB2.out t1
    have t2 := pw_cell_below HB2.out t2
    have t3 := pw_cell_below HB2.out t3
    have t4 := pw_cell_below HB2.out t4
    go_wp2_with fail
    have hn := blk_new (W2.alloc (.cells #[.int .i64 T.f0, .int .i64 T.f1, .string T.f2, .int .i64 T.f3, .int .i64 T.f4] 39 (0, 0))) (.cells #[.string ⟨#[59]⟩, .string ⟨#[44]⟩, .string ⟨#[41]⟩, .string ⟨#[93]⟩, .string ⟨#[125]⟩] 9 (0, 0))
    rw [World.size_alloc] at hn
    refine (HCO.out _ _ hn).mono ?_
    clear hn
    rintro e W3 ⟨rfl, ⟨q, rfl⟩⟩
    go_wp2
    go_ret
    exact ⟨rfl, pw_below_drewN (below_alloc (below_alloc HB2.out _) _) _⟩
   ·have x5 : (T.f0 == 5) = false := beq_eq_false_iff_ne.2 h5
    rw [x5, Bool.false_and]
    clear h5
    go_enter Tryz.func130, Tryz.ntmps130
    go_wp2_with fail
    refine HN.out.mono ?_
    rintro e W2 ⟨rfl, hd⟩
    have HB2 : Hid (Below W.heap.size W W2) := Lib.hid (by obtain ⟨m, rfl⟩ := hd; exact pw_below_drewN (Below.refl _ _) _)
    clear hd
    have k0 := pw_cell_below HB2.out k0
    have t0 := pw_cell_below HB2.out t0
    have t1 := pw_cell_below HB2.out t1
    have t2 := pw_cell_below HB2.out t2
    have t3 := pw_cell_below HB2.out t3
    have t4 := pw_cell_below HB2.out t4
    go_wp2
    go_ret
    exact ⟨rfl, below_alloc HB2.out _⟩
theorem Rd.setAt (h : Rd w g A0 c0 l A1 c1 ws o at_ tv top sv fs W) (n : Nat) : Rd w g A0 c0 l A1 c1 ws o n tv top sv fs (W.setCell ⟨g, 1, none⟩ (.int .i64 n)) := by
 have hne : ∀ k z, o k = z → z ≠ 0 → k ≠ g := by
  rintro k z hk hz rfl
  exact hz (hk.symm.trans h.og)
 have hblk : ∀ f' ∈ fs, f'.blk ≠ g := by
  intro f' hf' e
  have h1 := h.blk
  rw [← e, (h.frs f' hf').1] at h1
  injection h1 with h1
  injection h1 with _ h2 _
  exact absurd h2 (by decide)
 exact ⟨blk_put h.blk 1 _ rfl, h.og, Kd.R_far h.top (fun k hk => hne k _ hk (by decide)) _, own_setCell h.stk (fun e => hne g 2 (h.so g e.symm) (by decide) rfl) _, h.so, fun f' hf' => ⟨blk_far (h.frs f' hf').1 (hblk f' hf') _, (h.frs f' hf').2.1, Kd.R_far (h.frs f' hf').2.2 (fun k hk => hne k _ hk (by omega)) _⟩, h.nd, h.bel.setCell h.hg _, h.hg, h.fb⟩
/-- What drop comes to. -/
def DropPost (w : World) (g : Nat) (A0 : Option Addr) (c0 : Nat) (l : List Tk) (A1 : Option Addr) (c1 : Nat) (ws : List ByteArray) (at_ : Nat) (top : List Fg) (ps : List PF) (n : Nat) (e : Ending) (W' : World) : Prop :=
 (e = .returned (.tuple #[]) ∧ (∀ j, j < n → Pure.good (tkAt l (at_ + 1 + j)) = true) ∧ RdAt w g A0 c0 l A1 c1 ws (at_ + n) top ps W') ∨
 (∃ j, j < n ∧ (∀ i, i < j → Pure.good (tkAt l (at_ + 1 + i)) = true) ∧ Pure.good (tkAt l (at_ + 1 + j)) = false ∧ e = endR (at_ + 1 + j) 14 ∧ Below w.heap.size w W')
/-- What drop comes to, where blocks are nobody's. -/
def DropZ (w : World) (g : Nat) (A0 : Option Addr) (c0 : Nat) (l : List Tk) (A1 : Option Addr) (c1 : Nat) (ws : List ByteArray) (at_ : Nat) (top : List Fg) (ps : List PF) (n : Nat) (Z : Nat → Prop) (W : World) (e : Ending) (W' : World) : Prop :=
 (e = .returned (.tuple #[]) ∧ (∀ j, j < n → Pure.good (tkAt l (at_ + 1 + j)) = true) ∧ RdZ w g A0 c0 l A1 c1 ws (at_ + n) top ps Z W' ∧ ∀ k, Z k → W'.heap[k]? = W.heap[k]?) ∨
 (∃ j, j < n ∧ (∀ i, i < j → Pure.good (tkAt l (at_ + 1 + i)) = true) ∧ Pure.good (tkAt l (at_ + 1 + j)) = false ∧ e = endR (at_ + 1 + j) 14 ∧ Below w.heap.size w W')
set_option maxHeartbeats 6400000 in
set_option maxRecDepth 100000 in
theorem drop_z {Z : Nat → Prop} (h : RdZ w g A0 c0 l A1 c1 ws at_ top ps Z W) (hZ : ∀ k, Z k → k < W.heap.size) (hC : Kd.C k39 w A0 l.length l) (hl : l.length ≤ 6000) (n : Nat) (hn : at_ + n < l.length) (hE : Lx.Env w) :
  Calls Tryz.prog 131 #[.pointer (some ⟨g, 0, none⟩), .int .i64 n] W (DropZ w g A0 c0 l A1 c1 ws at_ top ps n Z W) := by
 have HE := Lib.hid hE
 have HC := Lib.hid hC
 have H0 := Lib.hid h
 have HZL := Lib.hid hZ
 clear hE hC h hZ
 go_enter Tryz.func131, Tryz.ntmps131
 go_wp2
 go_loopg [5] n (fun kq v5 wr => ∃ i : Nat, v5 = .int .i64 i ∧ i ≤ n ∧ kq = n - i ∧ Hid (RdZ w g A0 c0 l A1 c1 ws (at_ + i) top ps Z wr ∧ W.heap.size ≤ wr.heap.size ∧ ∀ k, Z k → wr.heap[k]? = W.heap[k]?) ∧ Hid (∀ j, j < i → Pure.good (tkAt l (at_ + 1 + j)) = true))
 case atStart => exact ⟨0, rfl, Nat.zero_le _, rfl, Lib.hid ⟨H0.out, Nat.le_refl _, fun _ _ => rfl⟩, Lib.hid (fun j hj => absurd hj (by omega))⟩
 case round =>
  obtain ⟨i, rfl, hin, hkq, HI, HG⟩ := hrel
  have HKQ := Lib.hid hkq
  clear hkq H0
  by_cases hlt : i < n
  ·have x1 : decide (i < n) = true := decide_eq_true hlt
   obtain ⟨⟨o, tv, sv, fs, hrd, hps, hzo⟩, hzs, hzk⟩ := HI.out
   have HPS := Lib.hid hps
   have HZO := Lib.hid hzo
   have HZS := Lib.hid hzs
   have HZK := Lib.hid hzk
   clear hzo hzs hzk
   have HRD := Lib.hid hrd
   obtain ⟨a1, ha1⟩ : ∃ a, at_ + i = a := ⟨_, rfl⟩
   rw [ha1] at HRD
   have k1 : wr.cell? ⟨g, 1, none⟩ = some (.int .i64 a1) := blk_cell HRD.out.blk 1
   have f1 : wr.frozen? ⟨g, 1, none⟩ = false := blk_frozen HRD.out.blk 1
   have HA1 := Lib.hid ha1
   have x2 : wrap64 ((a1 : Int) + 1) = ((a1 + 1 : Nat) : Int) := by unfold wrap64; omega
   have x3 : wrap64 ((i : Int) + 1) = ((i + 1 : Nat) : Int) := by unfold wrap64; omega
   obtain ⟨a2, ha2⟩ : ∃ a, a1 + 1 = a := ⟨_, rfl⟩
   have HX := Lib.hid (HRD.out.setAt (a1 + 1))
   rw [ha2] at HX x2
   have HA2 := Lib.hid ha2
   have hlt2 : a2 < l.length := by omega
   have HV := Lib.hid (valid_c HX.out HC.out hl hlt2 HE.out)
   clear hrd hps ha1 ha2
   go_wp2_with fail
   refine HV.out.mono ?_
   rintro e W3 ⟨hp, hb3⟩
   have HB3 := Lib.hid hb3
   clear hb3
   by_cases hg : Pure.good (tkAt l a2) = true
   ·rw [if_pos hg] at hp
    subst hp
    have HGG := Lib.hid hg
    clear hg
    go_wp2_with fail
    go_roundg (gk - 1)
    case measure => have := HKQ.out; omega
    case rel =>
     refine ⟨i + 1, by go_num, by omega, by have := HKQ.out; omega, Lib.hid ?_, Lib.hid ?_⟩
     ·refine ⟨⟨o, tv, sv, fs, ?_, HPS.out, HZO.out⟩, Nat.le_trans HZS.out (Nat.le_trans (by simp) HB3.out.size), fun k hk => ?_⟩
      ·have := HX.out.below HB3.out
       rw [show at_ + (i + 1) = a2 from by have := HA1.out; have := HA2.out; omega]
       exact this
      ·have hk1 := HZL.out k hk
       refine (HB3.out.block k (by simp; have := HZS.out; omega)).trans ((Below.heap_setCell _ _ _ k (HZO.out k hk).2.1).trans (HZK.out k hk))
     ·intro j hj
      by_cases hji : j < i
      ·exact HG.out j hji
      ·obtain rfl : j = i := by omega
       rw [show at_ + 1 + j = a2 from by have := HA1.out; have := HA2.out; omega]
       exact HGG.out
   ·rw [if_neg hg] at hp
    subst hp
    refine ⟨rfl, .inr ⟨i, hlt, HG.out, ?_, ?_, ?_⟩⟩
    ·rw [show at_ + 1 + i = a2 from by have := HA1.out; have := HA2.out; omega]
     simpa using hg
    ·rw [show at_ + 1 + i = a2 from by have := HA1.out; have := HA2.out; omega]
     rfl
    ·exact (HX.out.below HB3.out).bel
  ·obtain rfl : i = n := by omega
   have x1 : decide (i < i) = false := decide_eq_false hlt
   have HP : Hid (∀ W', (RdZ w g A0 c0 l A1 c1 ws (at_ + i) top ps Z W' ∧ W.heap.size ≤ W'.heap.size ∧ ∀ k, Z k → W'.heap[k]? = W.heap[k]?) → DropZ w g A0 c0 l A1 c1 ws at_ top ps i Z W (.returned (.tuple #[])) W') := Lib.hid (fun W' h => .inl ⟨rfl, HG.out, h.1, h.2.2⟩)
   clear HG hlt
   go_wp2
   go_end0
   exact HP.out _ HI.out
end
end Go.Proofs.YtipnlgmeonepfaaGreatDoor.PFa

set_option linter.unusedVariables false
set_option linter.unusedSimpArgs false
namespace Go.Proofs.YtipnlgmeonepfaaGreatDoor.PFa
open Go.RowKit Go.Proofs.YtipnlgmeonepfaaGreatDoorW.PrintWords Go.Proofs.YtipnlgmeonepfaaGreatDoorW.PrintLast Go.Proofs.YtipnlgmeonepfaaGreatDoorW.PrintMore
open Go.Proofs.YtipnlgmeonepfaaGreatDoor.Lx (Kp)
/-- Is the token so many behind the present one the name of what has been closed? -/
def nameAt (l : List Tk) (at_ : Nat) (kids : List Fg) (n : Nat) : Bool :=
 match kids with
 | [] => false
 | k :: _ => decide (k.f1 = ⟨#[]⟩) && (k.f0.f0 == 1) && isNm l (at_ + n) k.f0.f2
section
variable {w W W' : World} {g : Nat} {A0 : Option Addr} {c0 : Nat} {l : List Tk} {A1 : Option Addr} {c1 : Nat} {ws : List ByteArray} {o : Nat → Nat} {at_ : Nat} {tv : Value} {top : List Fg} {sv : Value} {fs : List Fr} {ps : List PF}
set_option maxHeartbeats 6400000 in
set_option maxRecDepth 100000 in
/-- The closure named of close: f lies in block fb, the reader's pointer in block rb. -/
theorem namedAt_c (h : Rd w g A0 c0 l A1 c1 ws o at_ tv top sv fs W) (hC : Kd.C k39 w A0 l.length l) (hl : l.length ≤ 6000) (hat : at_ ≤ 6000) {fb rb : Nat} {T : Tk} {op : ByteArray} {A : Option Addr} {c : Nat} {kids : List Fg} (hf : W.heap[fb]? = some (.cells #[.int .i64 T.f0, .int .i64 T.f1, .string T.f2, .int .i64 T.f3, .int .i64 T.f4, .string op, .slice A kids.length c] 49 (0, 0))) (hr : W.heap[rb]? = some (.cells #[.pointer (some ⟨g, 0, none⟩)] 68 (0, 0))) (hk : Kd.C k49 W A kids.length kids) (n : Nat) (hn : n ≤ 2) :
  Calls Tryz.prog 129 #[.int .i64 n, .pointer (some ⟨fb, 0, none⟩), .pointer (some ⟨rb, 0, none⟩)] W fun e W' => e = .returned (.bool (nameAt l at_ kids n)) ∧ Drawn0 W W' := by
 have v6 : W.cell? ⟨fb, 6, none⟩ = some (.slice A kids.length c) := blk_cell hf 6
 have r0 : W.cell? ⟨rb, 0, none⟩ = some (.pointer (some ⟨g, 0, none⟩)) := blk_cell hr 0
 have k1 : W.cell? ⟨g, 1, none⟩ = some (.int .i64 at_) := blk_cell h.blk 1
 have x1 : IntKind.i64.wrap ((at_ : Int) + n) = (at_ : Int) + n := IntWalk.i64_in _ (by omega)
 cases kids with
 | nil =>
  have e0 : nameAt l at_ [] n = false := rfl
  rw [e0]
  rw [List.length_nil] at v6
  clear h hC hf hr hk e0
  go_enter Tryz.func129, Tryz.ntmps129
  go_wp2
  go_quiet (fail)
  go_wp2
  go_ret
  exact ⟨rfl, ⟨_, rfl⟩⟩
 | cons k r =>
  have e0 : nameAt l at_ (k :: r) n = (decide (k.f1 = ⟨#[]⟩) && (k.f0.f0 == 1) && isNm l (at_ + n) k.f0.f2) := rfl
  have HN := Lib.hid (fun (W' : World) (hb : Below W.heap.size W W') => isName_c (h.below hb) hC hl (at_ + n) k.f0.f2)
  simp only [Int.natCast_add] at HN
  obtain ⟨ad, A6, c6, had, t0, _, t2, _, _, t5, _⟩ := at_T49 hk 0 (by omega) (by simp)
  subst had
  have hrd : rd_T49 (k :: r) 0 = k := rfl
  rw [hrd] at t0 t2 t5
  simp only [Int.toNat_zero, Nat.zero_mul] at t0 t2 t5
  have hz : ad.add 0 = ad := by simp [go_sem]
  rw [hz] at t0 t2 t5
  obtain ⟨m, hm⟩ : ∃ m, (k :: r).length = m := ⟨_, rfl⟩
  rw [hm] at v6
  have hmp : 0 < m := by rw [← hm]; simp
  have y0 : decide ((0 : Int) < (m : Int)) = true := decide_eq_true (by omega)
  have y1 : decide (0 < m) = true := decide_eq_true hmp
  have y2 : (0 : Int) < (m : Int) := by omega
  rw [e0]
  clear h hC hf hr hk e0 hrd hm hz
  obtain ⟨S, hS⟩ : ∃ S, k.f1 = S := ⟨_, rfl⟩
  obtain ⟨K0, hK0⟩ : ∃ K, k.f0.f0 = K := ⟨_, rfl⟩
  obtain ⟨U, hU⟩ : ∃ K, k.f0.f2 = K := ⟨_, rfl⟩
  rw [hS, hK0, hU]
  rw [hS] at t5
  rw [hK0] at t0
  rw [hU] at t2 HN
  obtain ⟨b3, hb3⟩ : ∃ b, isNm l (at_ + n) U = b := ⟨_, rfl⟩
  rw [hb3] at HN ⊢
  clear hS hK0 hU hb3
  by_cases h1 : S = ⟨#[]⟩
  ·have z1 : S.toList.isEmpty = true := by rw [h1]; decide +kernel
   have z2 : (S.toList == []) = true := by rw [h1]; decide +kernel
   rw [decide_eq_true h1, Bool.true_and]
   clear h1
   by_cases h2 : K0 = 1
   ·have z3 : (K0 == 1) = true := beq_iff_eq.2 h2
    rw [z3, Bool.true_and]
    clear h2
    go_enter Tryz.func129, Tryz.ntmps129
    go_wp2
    go_quiet ((go_at_call 76; exact Lx.quiet0 (HN.out _ (pw_below_drewN (Below.refl _ _) _))))
    go_wp2
    go_ret
    exact ⟨rfl, ⟨_, rfl⟩⟩
   ·have z3 : (K0 == 1) = false := beq_eq_false_iff_ne.2 h2
    rw [z3, Bool.false_and]
    clear h2
    go_enter Tryz.func129, Tryz.ntmps129
    go_wp2
    go_quiet (fail)
    go_wp2
    go_ret
    exact ⟨rfl, ⟨_, rfl⟩⟩
  ·have z1 : S.toList.isEmpty = false := by
    cases hq : S.toList.isEmpty with
    | false => rfl
    | true => exact absurd ((toList_eq S ⟨#[]⟩).1 ((List.isEmpty_iff.1 hq).trans (by decide +kernel))) h1
   have z2 : (S.toList == []) = false := by rw [← z1]; cases S.toList <;> rfl
   rw [decide_eq_false h1, Bool.false_and, Bool.false_and]
   clear h1
   go_enter Tryz.func129, Tryz.ntmps129
   go_wp2
   go_quiet (fail)
   go_wp2
   go_ret
   exact ⟨rfl, ⟨_, rfl⟩⟩
end
end Go.Proofs.YtipnlgmeonepfaaGreatDoor.PFa

set_option linter.unusedVariables false
set_option linter.unusedSimpArgs false
namespace Go.Proofs.YtipnlgmeonepfaaGreatDoor.PFa
open Go.RowKit Go.Proofs.YtipnlgmeonepfaaGreatDoorW.PrintWords Go.Proofs.YtipnlgmeonepfaaGreatDoorW.PrintLast Go.Proofs.YtipnlgmeonepfaaGreatDoorW.PrintMore
open Go.Proofs.YtipnlgmeonepfaaGreatDoor.Lx (Kp)
def cClass : List UInt8 := [99, 108, 97, 115, 115]
def cMethod : List UInt8 := [109, 101, 116, 104, 111, 100]
def cMacro : List UInt8 := [109, 97, 99, 114, 111]
/-- How many names behind a group's end are dropped. -/
def dropN (l : List Tk) (at_ : Nat) (T : Tk) (kids : List Fg) : Nat :=
 if T.f2.toList = cClass ∨ T.f2.toList = cMethod ∨ T.f2.toList = cMacro then
  if isNm l (at_ + 1) T.f2 = true ∧ nameAt l at_ kids 2 = true ∧ stopsB l (at_ + 3) = true then 2
  else if (isNm l (at_ + 1) T.f2 = true ∨ nameAt l at_ kids 1 = true) ∧ stopsB l (at_ + 2) = true then 1 else 0
 else 0
section
variable {w W W' : World} {g : Nat} {A0 : Option Addr} {c0 : Nat} {l : List Tk} {A1 : Option Addr} {c1 : Nat} {ws : List ByteArray} {o : Nat → Nat} {at_ : Nat} {tv : Value} {top : List Fg} {sv : Value} {fs : List Fr} {ps : List PF}
/-- finish in whatever world behind W: what is new since W is not ours. -/
theorem finish_new {f : Fr} {r : List Fr} (h : Rd w g A0 c0 l A1 c1 ws o at_ tv top sv (f :: r) W) (hfs : r.length + 1 ≤ 100) (hcl : (curL top r).length ≤ 6000) (tx : ByteArray) (htx : closeTx f.tok.f2 = tx) (hb : Below W.heap.size W W') {Z : Nat → Prop} (hZ : ∀ k, Z k → k < W.heap.size ∧ o k = 0 ∧ k ≠ g ∧ ∀ f' ∈ f :: r, k ≠ f'.blk) :
  Calls Tryz.prog 128 #[.pointer (some ⟨g, 0, none⟩), .string tx] W' (FinPost w g A0 c0 l A1 c1 ws at_ top (r.map Fr.pf) (fun k => Z k ∨ (W.heap.size ≤ k ∧ k < W'.heap.size)) W' f.tok f.kids) := by
 obtain ⟨o', h', hc, hco⟩ := h.clip
 refine finish_c (h'.below hb) hfs hcl tx htx ?_
 rintro k (hk | hk)
 ·exact ⟨Nat.lt_of_lt_of_le (hZ k hk).1 hb.size, (hco k (hZ k hk).1).trans (hZ k hk).2.1, (hZ k hk).2.2.1, fun f' hf' => (hZ k hk).2.2.2 f' (List.mem_cons_of_mem _ hf')⟩
 ·refine ⟨hk.2, hc k hk.1, ?_, fun f' hf' => ?_⟩
  ·have := blk_lt h.blk
   omega
  ·have := blk_lt (h.frs f' (List.mem_cons_of_mem _ hf')).1
   omega
/-- What lies in memory behind finish, in close: the group in a block of its own, the reader's pointer in another. -/
structure CloseMid (w : World) (g : Nat) (A0 : Option Addr) (c0 : Nat) (l : List Tk) (A1 : Option Addr) (c1 : Nat) (ws : List ByteArray) (at_ : Nat) (top : List Fg) (ps : List PF) (rb fb : Nat) (T : Tk) (kids : List Fg) (A : Option Addr) (c : Nat) (Z : Nat → Prop) (W0 : World) (W : World) : Prop where
 rd : RdZ w g A0 c0 l A1 c1 ws at_ (addT top ⟨T, T.f2, kids⟩ ps) (addP ⟨T, T.f2, kids⟩ ps) Z W
 zk : ∀ k, Z k → W.heap[k]? = W0.heap[k]?
 rp : W.heap[rb]? = some (.cells #[.pointer (some ⟨g, 0, none⟩)] 68 (0, 0))
 fp : W.heap[fb]? = some (.cells #[.int .i64 T.f0, .int .i64 T.f1, .string T.f2, .int .i64 T.f3, .int .i64 T.f4, .string T.f2, .slice A kids.length c] 49 (0, 0))
 kc : Kd.C k49 W A kids.length kids
/-- But for one block, what lay in W lies as it lay. -/
def Kb (b : Nat) (W W' : World) : Prop := W.heap.size ≤ W'.heap.size ∧ ∀ a : Addr, a.block < W.heap.size → a.block ≠ b → W'.cell? a = W.cell? a
theorem Kb.refl (b : Nat) (W : World) : Kb b W W := ⟨Nat.le_refl _, fun _ _ _ => rfl⟩
theorem Kb.alloc {b : Nat} {W X : World} (h : Kb b W X) (o : Obj) : Kb b W (X.alloc o) := ⟨by simp; have := h.1; omega, fun a ha hb => (World.cell?_of_block (w := X) (Below.heap_alloc X o a.block (by have := h.1; omega))).trans (h.2 a ha hb)⟩
theorem Kb.set {b : Nat} {W X : World} (h : Kb b W X) (i : Nat) (u : Value) : Kb b W (X.setCell ⟨b, i, none⟩ u) := ⟨by simpa using h.1, fun a ha hb => (World.cell?_setCell_far X ⟨b, i, none⟩ a u (fun e => hb e.symm)).trans (h.2 a ha hb)⟩
theorem Kb.cell {b : Nat} {W X : World} (h : Kb b W X) {a : Addr} {v : Value} (hc : W.cell? a = some v) (hb : a.block ≠ b) : X.cell? a = some v := (h.2 a (World.block_lt_of_cell? W a hc) hb).trans hc
theorem seven_cells {W : World} {b : Nat} {t : TypeId} {a0 a1 a2 a3 a4 a5 a6 : Value} (h : W.heap[b]? = some (.cells #[a0, a1, a2, a3, a4, a5, a6] t (0, 0))) : W.cell? ⟨b, 0, none⟩ = some a0 ∧ W.cell? ⟨b, 1, none⟩ = some a1 ∧ W.cell? ⟨b, 2, none⟩ = some a2 ∧ W.cell? ⟨b, 3, none⟩ = some a3 ∧ W.cell? ⟨b, 4, none⟩ = some a4 ∧ W.cell? ⟨b, 5, none⟩ = some a5 ∧ W.cell? ⟨b, 6, none⟩ = some a6 ∧
  W.frozen? ⟨b, 0, none⟩ = false ∧ W.frozen? ⟨b, 1, none⟩ = false ∧ W.frozen? ⟨b, 2, none⟩ = false ∧ W.frozen? ⟨b, 3, none⟩ = false ∧ W.frozen? ⟨b, 4, none⟩ = false ∧ W.frozen? ⟨b, 5, none⟩ = false ∧ W.frozen? ⟨b, 6, none⟩ = false :=
 ⟨blk_cell h 0, blk_cell h 1, blk_cell h 2, blk_cell h 3, blk_cell h 4, blk_cell h 5, blk_cell h 6, blk_frozen h 0, blk_frozen h 1, blk_frozen h 2, blk_frozen h 3, blk_frozen h 4, blk_frozen h 5, blk_frozen h 6⟩
/-- What close's second half needs of it. -/
structure CloseRest (w : World) (g : Nat) (A0 : Option Addr) (c0 : Nat) (l : List Tk) (A1 : Option Addr) (c1 : Nat) (ws : List ByteArray) (at_ : Nat) (top : List Fg) (ps : List PF) (rb fb : Nat) (T : Tk) (kids : List Fg) (A : Option Addr) (c : Nat) (Z : Nat → Prop) (W : World) : Prop where
 rd : RdZ w g A0 c0 l A1 c1 ws at_ top ps Z W
 rp : W.heap[rb]? = some (.cells #[.pointer (some ⟨g, 0, none⟩)] 68 (0, 0))
 fp : W.heap[fb]? = some (.cells #[.int .i64 T.f0, .int .i64 T.f1, .string T.f2, .int .i64 T.f3, .int .i64 T.f4, .string T.f2, .slice A kids.length c] 49 (0, 0))
 kc : Kd.C k49 W A kids.length kids
section
variable {rb fb : Nat} {T : Tk} {kids : List Fg} {A : Option Addr} {c : Nat} {Z : Nat → Prop}
theorem CloseRest.below (h : CloseRest w g A0 c0 l A1 c1 ws at_ top ps rb fb T kids A c Z W) (hb : Below W.heap.size W W') : CloseRest w g A0 c0 l A1 c1 ws at_ top ps rb fb T kids A c Z W' := by
 obtain ⟨⟨o, tv, sv, fs, h1, h2⟩, h3, h4, h5⟩ := h
 exact ⟨⟨o, tv, sv, fs, h1.below hb, h2⟩, blk_below h3 hb, blk_below h4 hb, Kd.C_below h5 hb⟩
theorem CloseRest.isName (h : CloseRest w g A0 c0 l A1 c1 ws at_ top ps rb fb T kids A c Z W) (hC : Kd.C k39 w A0 l.length l) (hl : l.length ≤ 6000) (i : Nat) (s : ByteArray) : Calls Tryz.prog 76 #[.pointer (some ⟨g, 0, none⟩), .int .i64 i, .string s] W fun e W' => e = .returned (.bool (isNm l i s)) ∧ Drawn0 W W' := by
 obtain ⟨⟨o, tv, sv, fs, h1, h2⟩, _⟩ := h
 exact isName_c h1 hC hl i s
theorem CloseRest.named (h : CloseRest w g A0 c0 l A1 c1 ws at_ top ps rb fb T kids A c Z W) (hC : Kd.C k39 w A0 l.length l) (hl : l.length ≤ 6000) (hat : at_ ≤ 6000) (n : Nat) (hn : n ≤ 2) : Calls Tryz.prog 129 #[.int .i64 n, .pointer (some ⟨fb, 0, none⟩), .pointer (some ⟨rb, 0, none⟩)] W fun e W' => e = .returned (.bool (nameAt l at_ kids n)) ∧ Drawn0 W W' := by
 obtain ⟨⟨o, tv, sv, fs, h1, h2⟩, h3, h4, h5⟩ := h
 exact namedAt_c h1 hC hl hat h4 h3 h5 n hn
theorem CloseRest.stops (h : CloseRest w g A0 c0 l A1 c1 ws at_ top ps rb fb T kids A c Z W) (hC : Kd.C k39 w A0 l.length l) (hl : l.length ≤ 6000) (i : Nat) : Calls Tryz.prog 130 #[.pointer (some ⟨g, 0, none⟩), .int .i64 i] W fun e W' => e = .returned (.bool (stopsB l i)) ∧ Below W.heap.size W W' := by
 obtain ⟨⟨o, tv, sv, fs, h1, h2⟩, _⟩ := h
 exact stops_c h1 hC hl i
theorem CloseRest.cells (h : CloseRest w g A0 c0 l A1 c1 ws at_ top ps rb fb T kids A c Z W) : W.cell? ⟨rb, 0, none⟩ = some (.pointer (some ⟨g, 0, none⟩)) ∧ W.cell? ⟨g, 1, none⟩ = some (.int .i64 at_) ∧ W.cell? ⟨fb, 5, none⟩ = some (.string T.f2) := by
 obtain ⟨⟨o, tv, sv, fs, h1, h2⟩, h3, h4, h5⟩ := h
 exact ⟨blk_cell h3 0, blk_cell h1.blk 1, blk_cell h4 5⟩
end
theorem lt_of_kept {W W' : World} {k : Nat} (h : W'.heap[k]? = W.heap[k]?) (hk : k < W.heap.size) : k < W'.heap.size := by
 rcases Nat.lt_or_ge k W'.heap.size with h1 | h1
 ·exact h1
 ·rw [Array.getElem?_eq_none h1, Array.getElem?_eq_getElem hk] at h
  cases h
theorem isNm_lt {l : List Tk} {i : Nat} {s : ByteArray} (h : isNm l i s = true) : i < l.length := by
 unfold isNm at h
 by_cases hi : i < l.length
 ·exact hi
 ·rw [decide_eq_false hi] at h
  simp at h
theorem nameAt_lt {l : List Tk} {i n : Nat} {kids : List Fg} (h : nameAt l i kids n = true) : i + n < l.length := by
 cases kids with
 | nil => exact absurd h (by simp [nameAt])
 | cons k r =>
  unfold nameAt at h
  simp only [Bool.and_eq_true] at h
  exact isNm_lt h.2
set_option maxHeartbeats 12800000 in
set_option maxRecDepth 100000 in
theorem close_c {f : Fr} {r : List Fr} (h : Rd w g A0 c0 l A1 c1 ws o at_ tv top sv (f :: r) W) (hC : Kd.C k39 w A0 l.length l) (hl : l.length ≤ 6000) (hat : at_ < l.length) (hE : Lx.Env w) (hfs : r.length + 1 ≤ 100) (hcl : (curL top r).length ≤ 6000) (htx : closeTx f.tok.f2 = (tkAt l at_).f2) {Z : Nat → Prop} (hZ : ∀ k, Z k → k < W.heap.size ∧ o k = 0 ∧ k ≠ g ∧ ∀ f' ∈ f :: r, k ≠ f'.blk) :
  Calls Tryz.prog 105 #[.pointer (some ⟨g, 0, none⟩)] W (DropZ w g A0 c0 l A1 c1 ws at_ (addT top ⟨f.tok, f.tok.f2, f.kids⟩ (r.map Fr.pf)) (addP ⟨f.tok, f.tok.f2, f.kids⟩ (r.map Fr.pf)) (dropN l at_ f.tok f.kids) Z W) := by
 have HFIN := Lib.hid (fun (W' : World) (hb : Below W.heap.size W W') => finish_new h hfs hcl _ htx hb hZ)
 have HZL : Hid (∀ k, Z k → k < W.heap.size) := Lib.hid (fun k hk => (hZ k hk).1)
 clear hZ
 have HC := Lib.hid hC
 have HE := Lib.hid hE
 obtain ⟨ad, had, t0, t1, t2, t3, t4⟩ := at_T39 (Kd.C_below hC h.bel) (at_ : Int) (by omega) (by omega)
 subst had
 obtain ⟨T, hT⟩ : ∃ T, rd_T39 l (at_ : Int) = T := ⟨_, rfl⟩
 rw [show tkAt l at_ = T from hT] at HFIN
 rw [hT] at t2
 simp only [Int.toNat_natCast] at t2
 have hto := World.block_lt_of_cell? W _ t2
 have k0 : W.cell? ⟨g, 0, none⟩ = some (.slice (some ad) l.length c0) := blk_cell h.blk 0
 have k1 : W.cell? ⟨g, 1, none⟩ = some (.int .i64 at_) := blk_cell h.blk 1
 have x2 : (0 : Int) ≤ (at_ : Int) := by omega
 have x3 : (at_ : Int) < (l.length : Int) := by omega
 have H0 := Lib.hid h
 obtain ⟨ad2, had2, _, _, s2, _⟩ := at_T39 hC (at_ : Int) (by omega) (by omega)
 obtain rfl : ad = ad2 := by injection had2
 rw [hT] at s2
 simp only [Int.toNat_natCast] at s2
 have HTW := Lib.hid s2
 have hto2 := Lib.hid (World.block_lt_of_cell? w _ s2)
 clear had2 s2
 clear hC hE h hT t0 t1 t3 t4
 go_enter Tryz.func105, Tryz.ntmps105
 go_upto_region 1 with (fail)
 go_name_world W1 hW1
 have hb1 : Hid (Below W.heap.size W W1) := Lib.hid (hW1 ▸ below_alloc (Below.refl _ _) _)
 have hrb : Hid (W1.heap[W.heap.size]? = some (.cells #[.pointer (some ⟨g, 0, none⟩)] 68 (0, 0))) := Lib.hid (hW1 ▸ blk_new W _)
 have k0 := pw_cell_below hb1.out k0
 have k1 := pw_cell_below hb1.out k1
 have t2 := pw_cell_below hb1.out t2
 have r0 : W1.cell? ⟨W.heap.size, 0, none⟩ = some (.pointer (some ⟨g, 0, none⟩)) := blk_cell hrb.out 0
 clear hW1
 obtain ⟨rb, hrbe⟩ : ∃ rb, W.heap.size = rb := ⟨_, rfl⟩
 rw [hrbe] at hrb r0 ⊢
 have HRB := Lib.hid hrbe
 have hgl : g < W.heap.size := blk_lt H0.out.blk
 have hsz1 : rb < W1.heap.size := blk_lt hrb.out
 have HS : Hid (∀ w' : World, Below W1.heap.size W1 w' → (w'.cell? ⟨rb, 0, none⟩ = some (.pointer (some ⟨g, 0, none⟩)) ∧ w'.cell? ⟨g, 0, none⟩ = some (.slice (some ad) l.length c0) ∧ w'.cell? ⟨g, 1, none⟩ = some (.int .i64 at_) ∧ w'.cell? ⟨(ad.add (at_ * 5)).block, (ad.add (at_ * 5)).off + 2, none⟩ = some (.string T.f2))) := Lib.hid (fun w' hb => ⟨pw_cell_below hb r0, pw_cell_below hb k0, pw_cell_below hb k1, pw_cell_below hb t2⟩)
 have hn1 : W1.heap.size ≠ rb := by omega
 have hn2 : W1.heap.size ≠ g := by have := hb1.out.size; omega
 have hn3 : W1.heap.size ≠ (ad.add (at_ * 5)).block := by have := hb1.out.size; have hto : (ad.add (at_ * 5)).block < W.heap.size := hto; omega
 have HSK : Hid (∀ (W3 : World), (∀ w' : World, w' = W3 → (w'.cell? ⟨rb, 0, none⟩ = some (.pointer (some ⟨g, 0, none⟩)) ∧ w'.cell? ⟨g, 0, none⟩ = some (.slice (some ad) l.length c0) ∧ w'.cell? ⟨g, 1, none⟩ = some (.int .i64 at_) ∧ w'.cell? ⟨(ad.add (at_ * 5)).block, (ad.add (at_ * 5)).off + 2, none⟩ = some (.string T.f2))) → ∀ w' : World, Kb W1.heap.size W3 w' → (w'.cell? ⟨rb, 0, none⟩ = some (.pointer (some ⟨g, 0, none⟩)) ∧ w'.cell? ⟨g, 0, none⟩ = some (.slice (some ad) l.length c0) ∧ w'.cell? ⟨g, 1, none⟩ = some (.int .i64 at_) ∧ w'.cell? ⟨(ad.add (at_ * 5)).block, (ad.add (at_ * 5)).off + 2, none⟩ = some (.string T.f2))) := Lib.hid (fun W3 h w' hk => by
  obtain ⟨a1, a2, a3, a4⟩ := h W3 rfl
  exact ⟨hk.cell a1 (Ne.symm hn1), hk.cell a2 (Ne.symm hn2), hk.cell a3 (Ne.symm hn2), hk.cell a4 (Ne.symm hn3)⟩)
 have HS3 : Hid (∀ (X W3 : World), Below W1.heap.size W1 X → RdZ w g (some ad) c0 l A1 c1 ws at_ (addT top ⟨f.tok, f.tok.f2, f.kids⟩ (r.map Fr.pf)) (addP ⟨f.tok, f.tok.f2, f.kids⟩ (r.map Fr.pf)) (fun k => Z k ∨ (W.heap.size ≤ k ∧ k < X.heap.size)) W3 → (∀ k, (Z k ∨ (W.heap.size ≤ k ∧ k < X.heap.size)) → W3.heap[k]? = X.heap[k]?) → ∀ w' : World, w' = W3 → (w'.cell? ⟨rb, 0, none⟩ = some (.pointer (some ⟨g, 0, none⟩)) ∧ w'.cell? ⟨g, 0, none⟩ = some (.slice (some ad) l.length c0) ∧ w'.cell? ⟨g, 1, none⟩ = some (.int .i64 at_) ∧ w'.cell? ⟨(ad.add (at_ * 5)).block, (ad.add (at_ * 5)).off + 2, none⟩ = some (.string T.f2))) := Lib.hid (fun X W3 hX hZ hP w' e => by
  subst e
  obtain ⟨o2, tv2, sv2, fs2, hq1, hq2, hq3⟩ := hZ
  have e1 := hP rb (.inr ⟨by have := HRB.out; omega, by have := hX.size; omega⟩)
  exact ⟨blk_cell (e1.trans (blk_below hrb.out hX)) 0, blk_cell hq1.blk 0, blk_cell hq1.blk 1, (hq1.bel.cell hto2.out).trans HTW.out⟩)
 clear hrbe
 have HFA := Lib.hid (HFIN.out (W1.alloc (.cells #[.int .i64 0, .int .i64 0, .string ⟨#[]⟩, .int .i64 0, .int .i64 0, .string ⟨#[]⟩, .slice none 0 0] 49 (0, 0))).drew (hb1.out.trans (((below_alloc (Below.refl W1.heap.size W1) _).drew).mono hb1.out.size)))
 have HFB := Lib.hid (HFIN.out W1.drew (hb1.out.trans ((Below.drew (Below.refl W1.heap.size W1)).mono hb1.out.size)))
 have HKA : Hid (∀ k, Z k → (W1.alloc (.cells #[.int .i64 0, .int .i64 0, .string ⟨#[]⟩, .int .i64 0, .int .i64 0, .string ⟨#[]⟩, .slice none 0 0] 49 (0, 0))).drew.heap[k]? = W.heap[k]?) := Lib.hid (fun k hk => (hb1.out.trans (((below_alloc (Below.refl W1.heap.size W1) _).drew).mono hb1.out.size)).block k (HZL.out k hk))
 have HKB : Hid (∀ k, Z k → W1.drew.heap[k]? = W.heap[k]?) := Lib.hid (fun k hk => (hb1.out.trans ((Below.drew (Below.refl W1.heap.size W1)).mono hb1.out.size)).block k (HZL.out k hk))
 have HXA : Hid (Below W1.heap.size W1 (W1.alloc (.cells #[.int .i64 0, .int .i64 0, .string ⟨#[]⟩, .int .i64 0, .int .i64 0, .string ⟨#[]⟩, .slice none 0 0] 49 (0, 0))).drew) := Lib.hid (below_alloc (Below.refl _ _) _).drew
 have HXB : Hid (Below W1.heap.size W1 W1.drew) := Lib.hid (Below.drew (Below.refl _ _))
 have HFZ : Hid (∀ W3 : World, (∀ k, (Z k ∨ (W.heap.size ≤ k ∧ k < (W1.alloc (.cells #[.int .i64 0, .int .i64 0, .string ⟨#[]⟩, .int .i64 0, .int .i64 0, .string ⟨#[]⟩, .slice none 0 0] 49 (0, 0))).drew.heap.size)) → W3.heap[k]? = (W1.alloc (.cells #[.int .i64 0, .int .i64 0, .string ⟨#[]⟩, .int .i64 0, .int .i64 0, .string ⟨#[]⟩, .slice none 0 0] 49 (0, 0))).drew.heap[k]?) → W3.heap[W1.heap.size]? = some (.cells #[.int .i64 0, .int .i64 0, .string ⟨#[]⟩, .int .i64 0, .int .i64 0, .string ⟨#[]⟩, .slice none 0 0] 49 (0, 0))) := Lib.hid (fun W3 h => (h W1.heap.size (.inr ⟨hb1.out.size, by simp⟩)).trans (blk_drew (blk_new W1 _)))
 go_cut [2] (fun v2 wc => ∃ fb A c, v2 = .pointer (some ⟨fb, 0, none⟩) ∧ f.kids.length ≤ c ∧ Hid (CloseMid w g (some ad) c0 l A1 c1 ws at_ top (r.map Fr.pf) rb fb f.tok f.kids A c Z W wc))
 case first =>
  go_region_held3 (fun w' => w'.cell? ⟨rb, 0, none⟩ = some (.pointer (some ⟨g, 0, none⟩)) ∧ w'.cell? ⟨g, 0, none⟩ = some (.slice (some ad) l.length c0) ∧ w'.cell? ⟨g, 1, none⟩ = some (.int .i64 at_) ∧ w'.cell? ⟨(ad.add (at_ * 5)).block, (ad.add (at_ * 5)).off + 2, none⟩ = some (.string T.f2))
   (first | (refine HS.out _ ?_; (repeat (with_reducible first | exact Below.refl _ _ | apply Below.drew | apply below_alloc)); done) | (refine hK3 _ ?_; (repeat (with_reducible first | exact Kb.refl _ _ | apply Kb.set | apply Kb.alloc)); done))
   (first
    | (go_at_call 128; (with_reducible refine HFA.out.mono ?_); rintro e W3 ⟨A6, c6, rfl, hle6, hC6, hZ6, hP6⟩; have hK3 := HSK.out _ (HS3.out _ _ HXA.out hZ6 hP6); have hfb : W3.heap[W1.heap.size]? = some (.cells #[.int .i64 0, .int .i64 0, .string ⟨#[]⟩, .int .i64 0, .int .i64 0, .string ⟨#[]⟩, .slice none 0 0] 49 (0, 0)) := HFZ.out W3 hP6; obtain ⟨q0, q1, q2, q3, q4, q5, q6, p0, p1, p2, p3, p4, p5, p6⟩ := seven_cells hfb; have HZ6 := Lib.hid hZ6; have HP6 := Lib.hid hP6; have HC6 := Lib.hid hC6; have HFB6 := Lib.hid hfb; have tokA : True := trivial; clear hZ6 hP6 hC6 hfb)
    | (go_at_call 128; (with_reducible refine HFB.out.mono ?_); rintro e W3 ⟨A6, c6, rfl, hle6, hC6, hZ6, hP6⟩; have hK3 := HSK.out _ (HS3.out _ _ HXB.out hZ6 hP6); have HZ6 := Lib.hid hZ6; have HP6 := Lib.hid hP6; have HC6 := Lib.hid hC6; clear hZ6 hP6 hC6))
  all_goals go_wp2
  all_goals go_meet
  ·case rel =>
    have hr3 := (HP6.out rb (.inr ⟨by have := HRB.out; omega, by simpa using hsz1⟩)).trans hrb.out
    refine ⟨_, _, _, rfl, hle6, Lib.hid ⟨?_, fun k hk => ?_, ?_, blk_new W3 _, ?_⟩⟩
    ·exact RdZ.mono (RdZ.alloc (RdZ.mono HZ6.out (Z' := Z) (fun k hk => .inl hk)) (fun k hk => lt_of_kept ((HP6.out k (.inl hk)).trans (HKB.out k hk)) (HZL.out k hk)) _) (fun k hk => .inl hk)
    ·have e1 := (HP6.out k (.inl hk)).trans (HKB.out k hk)
     exact (Below.heap_alloc W3 _ k (lt_of_kept e1 (HZL.out k hk))).trans e1
    ·exact blk_alloc hr3 _
    ·exact Kd.C_alloc (HC6.out W3 (fun _ _ => rfl)) _
  ·case rel =>
    have hz1 : W.heap.size ≤ W1.heap.size ∧ W1.heap.size < ((W1.alloc (.cells #[.int .i64 0, .int .i64 0, .string ⟨#[]⟩, .int .i64 0, .int .i64 0, .string ⟨#[]⟩, .slice none 0 0] 49 (0, 0))).drew).heap.size := ⟨hb1.out.size, by simp⟩
    have hzr : W.heap.size ≤ rb ∧ rb < ((W1.alloc (.cells #[.int .i64 0, .int .i64 0, .string ⟨#[]⟩, .int .i64 0, .int .i64 0, .string ⟨#[]⟩, .slice none 0 0] 49 (0, 0))).drew).heap.size := ⟨by have := HRB.out; omega, by simp; omega⟩
    have hr3 : W3.heap[rb]? = some (.cells #[.pointer (some ⟨g, 0, none⟩)] 68 (0, 0)) := (HP6.out rb (.inr hzr)).trans (blk_drew (blk_alloc hrb.out _))
    have hw : w.heap.size ≤ W1.heap.size := Nat.le_trans H0.out.bel.size hb1.out.size
    have hrn : rb ≠ W1.heap.size := by omega
    have hfar : ∀ k, k ≠ W1.heap.size → ∀ (a0 a1 a2 a3 a4 a5 a6 : Value), (((((((W3.setCell ⟨W1.heap.size, 0, none⟩ a0).setCell ⟨W1.heap.size, 1, none⟩ a1).setCell ⟨W1.heap.size, 2, none⟩ a2).setCell ⟨W1.heap.size, 3, none⟩ a3).setCell ⟨W1.heap.size, 4, none⟩ a4).setCell ⟨W1.heap.size, 5, none⟩ a5).setCell ⟨W1.heap.size, 6, none⟩ a6).heap[k]? = W3.heap[k]? := fun k hk a0 a1 a2 a3 a4 a5 a6 =>
     (Below.heap_setCell _ _ _ k hk).trans ((Below.heap_setCell _ _ _ k hk).trans ((Below.heap_setCell _ _ _ k hk).trans ((Below.heap_setCell _ _ _ k hk).trans ((Below.heap_setCell _ _ _ k hk).trans ((Below.heap_setCell _ _ _ k hk).trans (Below.heap_setCell _ _ _ k hk))))))
    refine ⟨W1.heap.size, A6, c6, rfl, hle6, Lib.hid ⟨?_, fun k hk => ?_, ?_, ?_, ?_⟩⟩
    ·exact RdZ.mono (Z := fun k => Z k ∨ k = W1.heap.size) ((((((((RdZ.mono HZ6.out (Z' := fun k => Z k ∨ k = W1.heap.size) (fun k hk => hk.imp id (fun e => by rw [e]; exact hz1))).far (.inr rfl) hw 0 _).far (.inr rfl) hw 1 _).far (.inr rfl) hw 2 _).far (.inr rfl) hw 3 _).far (.inr rfl) hw 4 _).far (.inr rfl) hw 5 _).far (.inr rfl) hw 6 _) (fun k hk => .inl hk)
    ·refine (hfar k ?_ _ _ _ _ _ _ _).trans ((HP6.out k (.inl hk)).trans (HKA.out k hk))
     have := HZL.out k hk
     have := hb1.out.size
     omega
    ·exact blk_far (blk_far (blk_far (blk_far (blk_far (blk_far (blk_far hr3 hrn _) hrn _) hrn _) hrn _) hrn _) hrn _) hrn _
    ·exact blk_put (blk_put (blk_put (blk_put (blk_put (blk_put (blk_put HFB6.out 0 _ rfl) 1 _ rfl) 2 _ rfl) 3 _ rfl) 4 _ rfl) 5 _ rfl) 6 _ rfl
    ·exact HC6.out _ (fun k hk => hfar k (fun e => hk (.inr (e ▸ hz1))) _ _ _ _ _ _ _)
 case rest =>
  obtain ⟨fb, A6, c6, rfl, hle6, HM⟩ := hcut
  clear HFIN HFA HFB HXA HXB HFZ HS HS3 HSK hn1 hn2 hn3 k0 k1 t2 r0 hb1 hrb
  obtain ⟨tp, htp⟩ : ∃ tp, addT top (⟨f.tok, f.tok.f2, f.kids⟩ : Fg) (r.map Fr.pf) = tp := ⟨_, rfl⟩
  obtain ⟨pp, hpp⟩ : ∃ pp, addP (⟨f.tok, f.tok.f2, f.kids⟩ : Fg) (r.map Fr.pf) = pp := ⟨_, rfl⟩
  have HR : Hid (CloseRest w g (some ad) c0 l A1 c1 ws at_ tp pp rb fb f.tok f.kids A6 c6 Z wc) := Lib.hid (by rw [← htp, ← hpp]; exact ⟨HM.out.rd, HM.out.rp, HM.out.fp, HM.out.kc⟩)
  have HZK : Hid (∀ k, Z k → wc.heap[k]? = W.heap[k]?) := Lib.hid HM.out.zk
  clear HRB HTW HM HKA HKB
  obtain ⟨r0, g1, v5⟩ := HR.out.cells
  obtain ⟨S, hS⟩ : ∃ S, f.tok.f2 = S := ⟨_, rfl⟩
  rw [hS] at v5
  have HSX := Lib.hid hS
  clear hS
  by_cases hc : S.toList = cClass ∨ S.toList = cMethod ∨ S.toList = cMacro
  ·obtain ⟨bw, hbw⟩ : ∃ b, isNm l (at_ + 1) S = b := ⟨_, rfl⟩
   obtain ⟨n2, hn2⟩ : ∃ b, nameAt l at_ f.kids 2 = b := ⟨_, rfl⟩
   obtain ⟨n1, hn1⟩ : ∃ b, nameAt l at_ f.kids 1 = b := ⟨_, rfl⟩
   obtain ⟨s3, hs3⟩ : ∃ b, stopsB l (at_ + 3) = b := ⟨_, rfl⟩
   obtain ⟨s2, hs2⟩ : ∃ b, stopsB l (at_ + 2) = b := ⟨_, rfl⟩
   have HD : Hid (dropN l at_ f.tok f.kids = if (bw && n2 && s3) = true then 2 else if ((bw || n1) && s2) = true then 1 else 0) := Lib.hid (by
    unfold dropN
    rw [HSX.out, if_pos hc, hbw, hn2, hn1, hs3, hs2]
    cases bw <;> cases n2 <;> cases n1 <;> cases s3 <;> cases s2 <;> rfl)
   have HL2 : Hid ((bw && n2 && s3) = true → at_ + 2 < l.length) := Lib.hid (fun h => by
    simp only [Bool.and_eq_true] at h
    exact nameAt_lt (hn2.trans h.1.2))
   have HL1 : Hid (((bw || n1) && s2) = true → at_ + 1 < l.length) := Lib.hid (fun h => by
    simp only [Bool.and_eq_true, Bool.or_eq_true] at h
    rcases h.1 with h | h
    ·exact isNm_lt (hbw.trans h)
    ·exact nameAt_lt (hn1.trans h))
   obtain ⟨a1, ha1⟩ : ∃ a, at_ + 1 = a := ⟨_, rfl⟩
   obtain ⟨a2, ha2⟩ : ∃ a, at_ + 2 = a := ⟨_, rfl⟩
   obtain ⟨a3, ha3⟩ : ∃ a, at_ + 3 = a := ⟨_, rfl⟩
   rw [ha1] at hbw
   rw [ha2] at hs2
   rw [ha3] at hs3
   have x1 : IntKind.i64.wrap ((at_ : Int) + 1) = (a1 : Int) := by rw [IntWalk.i64_in _ (by omega)]; omega
   have x2 : IntKind.i64.wrap ((at_ : Int) + 2) = (a2 : Int) := by rw [IntWalk.i64_in _ (by omega)]; omega
   have x3 : IntKind.i64.wrap ((at_ : Int) + 3) = (a3 : Int) := by rw [IntWalk.i64_in _ (by omega)]; omega
   have HW : Hid (∀ W' : World, Below wc.heap.size wc W' → Calls Tryz.prog 76 #[.pointer (some ⟨g, 0, none⟩), .int .i64 a1, .string S] W' fun e W'' => e = .returned (.bool bw) ∧ Drawn0 W' W'') := Lib.hid (fun W' hb => hbw ▸ (HR.out.below hb).isName HC.out hl a1 S)
   have HN2 : Hid (∀ W' : World, Below wc.heap.size wc W' → Calls Tryz.prog 129 #[.int .i64 2, .pointer (some ⟨fb, 0, none⟩), .pointer (some ⟨rb, 0, none⟩)] W' fun e W'' => e = .returned (.bool n2) ∧ Drawn0 W' W'') := Lib.hid (fun W' hb => hn2 ▸ (HR.out.below hb).named HC.out hl (by omega) 2 (by omega))
   have HN1 : Hid (∀ W' : World, Below wc.heap.size wc W' → Calls Tryz.prog 129 #[.int .i64 1, .pointer (some ⟨fb, 0, none⟩), .pointer (some ⟨rb, 0, none⟩)] W' fun e W'' => e = .returned (.bool n1) ∧ Drawn0 W' W'') := Lib.hid (fun W' hb => hn1 ▸ (HR.out.below hb).named HC.out hl (by omega) 1 (by omega))
   have HS3 : Hid (∀ W' : World, Below wc.heap.size wc W' → Calls Tryz.prog 130 #[.pointer (some ⟨g, 0, none⟩), .int .i64 a3] W' fun e W'' => e = .returned (.bool s3) ∧ Below wc.heap.size wc W'') := Lib.hid (fun W' hb => hs3 ▸ ((HR.out.below hb).stops HC.out hl a3).mono (fun _ _ h => ⟨h.1, hb.trans (h.2.mono hb.size)⟩))
   have HS2 : Hid (∀ W' : World, Below wc.heap.size wc W' → Calls Tryz.prog 130 #[.pointer (some ⟨g, 0, none⟩), .int .i64 a2] W' fun e W'' => e = .returned (.bool s2) ∧ Below wc.heap.size wc W'') := Lib.hid (fun W' hb => hs2 ▸ ((HR.out.below hb).stops HC.out hl a2).mono (fun _ _ h => ⟨h.1, hb.trans (h.2.mono hb.size)⟩))
   have HDR : Hid (∀ (n : Nat) (W' : World), at_ + n < l.length → Below wc.heap.size wc W' → Calls Tryz.prog 131 #[.pointer (some ⟨g, 0, none⟩), .int .i64 n] W' (DropZ w g (some ad) c0 l A1 c1 ws at_ tp pp n Z W)) := Lib.hid (fun n W' hn hb => (drop_z (HR.out.below hb).rd (fun k hk => Nat.lt_of_lt_of_le (lt_of_kept (HZK.out k hk) (HZL.out k hk)) hb.size) HC.out hl n hn HE.out).mono (fun e W'' h => h.imp (fun h => ⟨h.1, h.2.1, h.2.2.1, fun k hk => (h.2.2.2 k hk).trans ((hb.block k (lt_of_kept (HZK.out k hk) (HZL.out k hk))).trans (HZK.out k hk))⟩) id))
   have HCL : Hid (∀ W' : World, Below wc.heap.size wc W' → W'.cell? ⟨rb, 0, none⟩ = some (.pointer (some ⟨g, 0, none⟩)) ∧ W'.cell? ⟨g, 1, none⟩ = some (.int .i64 at_)) := Lib.hid (fun W' hb => ⟨(HR.out.below hb).cells.1, (HR.out.below hb).cells.2.1⟩)
   clear hbw hn2 hn1 hs3 hs2 ha1 ha2 ha3
   have HCT := Lib.hid hc
   clear hc
   go_upto_region 2 with (fail)
   go_cut [30] (fun v wd => v = .bool false ∧ wd = wc)
   case first =>
    rcases HCT.out with h1 | h1 | h1
    ·have c1' : (S.toList == [99, 108, 97, 115, 115]) = true := beq_iff_eq.2 h1
     clear h1
     go_wp2
     go_meet
     case rel => exact ⟨rfl, rfl⟩
    ·have c1' : (S.toList == [99, 108, 97, 115, 115]) = false := by rw [h1]; decide
     have c2' : (S.toList == [109, 101, 116, 104, 111, 100]) = true := beq_iff_eq.2 h1
     clear h1
     go_wp2
     go_meet
     case rel => exact ⟨rfl, rfl⟩
    ·have c1' : (S.toList == [99, 108, 97, 115, 115]) = false := by rw [h1]; decide
     have c2' : (S.toList == [109, 101, 116, 104, 111, 100]) = false := by rw [h1]; decide
     have c3' : (S.toList == [109, 97, 99, 114, 111]) = true := beq_iff_eq.2 h1
     clear h1
     go_wp2
     go_meet
     case rel => exact ⟨rfl, rfl⟩
   case rest =>
    obtain ⟨rfl, rfl⟩ := hcut
    obtain ⟨wb, hwb⟩ : ∃ x, x = wc := ⟨_, rfl⟩
    subst hwb
    clear HCT t2 hto k0 k1 hto2 H0
    go_upto_region 3 with (fail)
    go_quiet ((go_at_call 76; exact Lx.quiet0 (HW.out _ (pw_below_drewN (Below.refl _ _) _))))
    go_upto_region 5 with (fail)
    go_name_world Wq hWq
    have HBQ : Hid (Below wb.heap.size wb Wq) := Lib.hid (hWq ▸ by repeat (with_reducible first | exact Below.refl _ _ | apply pw_below_drewN | apply Below.drew))
    clear hWq
    have r0 := (HCL.out _ HBQ.out).1
    have g1 := (HCL.out _ HBQ.out).2
    obtain ⟨b5, hb5⟩ : ∃ b, (bw && n2 && s3) = b := ⟨_, rfl⟩
    rw [hb5] at HD HL2
    have HB5 := Lib.hid hb5
    clear hb5
    go_cut [41] (fun v wd => v = .bool b5 ∧ Hid (Below wb.heap.size wb wd))
    case first =>
     cases bw with
     | false =>
      go_quiet (fail)
      go_wp2
      go_meet
      case rel => exact ⟨congrArg Value.bool HB5.out, Lib.hid (by repeat (with_reducible first | exact HBQ.out | apply pw_below_drewN | apply Below.drew))⟩
     | true =>
      cases n2 with
      | false =>
       go_quiet ((go_at_call 129; exact Lx.quiet0 (HN2.out _ (pw_below_drewN HBQ.out _))))
       go_wp2
       go_meet
       case rel => exact ⟨congrArg Value.bool HB5.out, Lib.hid (by repeat (with_reducible first | exact HBQ.out | apply pw_below_drewN | apply Below.drew))⟩
      | true =>
       go_region_held3 (fun w' => w'.cell? ⟨rb, 0, none⟩ = some (.pointer (some ⟨g, 0, none⟩)) ∧ w'.cell? ⟨g, 1, none⟩ = some (.int .i64 at_))
        (first | (refine HCL.out _ ?_; (repeat (with_reducible first | exact HBQ.out | exact hb6 | apply pw_below_drewN | apply Below.drew)); done))
        (first
         | (go_at_call 129; (refine (HN2.out _ (by repeat (with_reducible first | exact HBQ.out | apply pw_below_drewN | apply Below.drew))).mono ?_); rintro e W3 ⟨rfl, ⟨m, rfl⟩⟩)
         | (go_at_call 130; (refine (HS3.out _ (by repeat (with_reducible first | exact HBQ.out | apply pw_below_drewN | apply Below.drew))).mono ?_); rintro e W3 ⟨rfl, hb6⟩))
       all_goals go_wp2
       all_goals go_meet
       all_goals exact ⟨congrArg Value.bool HB5.out, Lib.hid (by repeat (with_reducible first | exact hb6 | exact HBQ.out | apply pw_below_drewN | apply Below.drew))⟩
    case rest =>
     obtain ⟨rfl, HBD⟩ := hcut
     clear r0 g1 HBQ
     have r0 := (HCL.out _ HBD.out).1
     have g1 := (HCL.out _ HBD.out).2
     cases b5 with
     | true =>
      have HDD : Hid (dropN l at_ f.tok f.kids = 2) := Lib.hid HD.out
      go_wp2_with fail
      refine (HDR.out 2 _ (HL2.out trivial) HBD.out).mono ?_
      rintro e W9 hd
      rcases hd with ⟨rfl, h1, h2, h2k⟩ | ⟨j, h1, h2, h3, rfl, h5⟩
      ·have HP : Hid (DropZ w g (some ad) c0 l A1 c1 ws at_ tp pp (dropN l at_ f.tok f.kids) Z W (.returned (.tuple #[])) W9) := Lib.hid (by rw [HDD.out]; exact .inl ⟨rfl, h1, h2, h2k⟩)
       clear h1 h2 h2k
       go_wp2
       go_end0
       first | exact HP.out | (rw [htp, hpp]; exact HP.out)
      ·refine ⟨rfl, ?_⟩
       rw [HDD.out]
       exact .inr ⟨j, h1, h2, h3, rfl, h5⟩
     | false =>
      go_upto_region 7 with (fail)
      have HBQ := HBD
      rename World => Wq
      obtain ⟨b7, hb7⟩ : ∃ b, ((bw || n1) && s2) = b := ⟨_, rfl⟩
      rw [hb7] at HD HL1
      have HB7 := Lib.hid hb7
      clear hb7 HBD
      go_cut [58] (fun v wd => v = .bool b7 ∧ Hid (Below wb.heap.size wb wd))
      case first =>
       cases bw with
       | true =>
        refine wp_region_still_tail 12 (by kernel_rfl) (by kernel_rfl) ?_
        simp only [List.take_succ_cons, List.take_zero, List.drop_succ_cons, List.drop_zero]
        repeat still_step
        try refine wpStill_nil ?_
        go_wp2_with fail
        refine (HS2.out _ (by repeat (with_reducible first | exact HBQ.out | apply pw_below_drewN | apply Below.drew))).mono ?_
        rintro e W3 ⟨rfl, hb6⟩
        go_wp2
        go_meet
        case rel => exact ⟨congrArg Value.bool HB7.out, Lib.hid hb6⟩
       | false =>
        cases n1 with
        | false =>
         go_quiet ((go_at_call 129; exact Lx.quiet0 (HN1.out _ (pw_below_drewN HBQ.out _))))
         go_wp2
         go_meet
         case rel => exact ⟨congrArg Value.bool HB7.out, Lib.hid (by repeat (with_reducible first | exact HBQ.out | apply pw_below_drewN | apply Below.drew))⟩
        | true =>
         go_region_held3 (fun w' => w'.cell? ⟨rb, 0, none⟩ = some (.pointer (some ⟨g, 0, none⟩)) ∧ w'.cell? ⟨g, 1, none⟩ = some (.int .i64 at_))
          (first | (refine HCL.out _ ?_; (repeat (with_reducible first | exact HBQ.out | exact hb6 | apply pw_below_drewN | apply Below.drew)); done))
          (first
           | (go_at_call 129; (refine (HN1.out _ (by repeat (with_reducible first | exact HBQ.out | apply pw_below_drewN | apply Below.drew))).mono ?_); rintro e W3 ⟨rfl, ⟨m, rfl⟩⟩)
           | (go_at_call 130; (refine (HS2.out _ (by repeat (with_reducible first | exact HBQ.out | apply pw_below_drewN | apply Below.drew))).mono ?_); rintro e W3 ⟨rfl, hb6⟩))
         all_goals go_wp2
         all_goals go_meet
         all_goals exact ⟨congrArg Value.bool HB7.out, Lib.hid (by repeat (with_reducible first | exact hb6 | exact HBQ.out | apply pw_below_drewN | apply Below.drew))⟩
      case rest =>
       obtain ⟨rfl, HBD⟩ := hcut
       clear r0 g1 HBQ
       have r0 := (HCL.out _ HBD.out).1
       have g1 := (HCL.out _ HBD.out).2
       cases b7 with
       | true =>
        have HDD : Hid (dropN l at_ f.tok f.kids = 1) := Lib.hid HD.out
        go_wp2_with fail
        refine (HDR.out 1 _ (HL1.out trivial) HBD.out).mono ?_
        rintro e W9 hd
        rcases hd with ⟨rfl, h1, h2, h2k⟩ | ⟨j, h1, h2, h3, rfl, h5⟩
        ·have HP : Hid (DropZ w g (some ad) c0 l A1 c1 ws at_ tp pp (dropN l at_ f.tok f.kids) Z W (.returned (.tuple #[])) W9) := Lib.hid (by rw [HDD.out]; exact .inl ⟨rfl, h1, h2, h2k⟩)
         clear h1 h2 h2k
         go_wp2
         go_end0
         first | exact HP.out | (rw [htp, hpp]; exact HP.out)
        ·refine ⟨rfl, ?_⟩
         first | rw [HDD.out] | (rw [htp, hpp, HDD.out])
         exact .inr ⟨j, h1, h2, h3, rfl, h5⟩
       | false =>
        have HP : Hid (DropZ w g (some ad) c0 l A1 c1 ws at_ tp pp (dropN l at_ f.tok f.kids) Z W (.returned (.tuple #[])) wc) := Lib.hid (by rw [HD.out]; exact .inl ⟨rfl, fun j hj => absurd hj (by simp), (HR.out.below HBD.out).rd, fun k hk => (HBD.out.block k (lt_of_kept (HZK.out k hk) (HZL.out k hk))).trans (HZK.out k hk)⟩)
        go_wp2
        go_end0
        first | exact HP.out | (rw [htp, hpp]; exact HP.out)
  ·have c1' : (S.toList == [99, 108, 97, 115, 115]) = false := beq_eq_false_iff_ne.2 (fun e => hc (.inl e))
   have c2' : (S.toList == [109, 101, 116, 104, 111, 100]) = false := beq_eq_false_iff_ne.2 (fun e => hc (.inr (.inl e)))
   have c3' : (S.toList == [109, 97, 99, 114, 111]) = false := beq_eq_false_iff_ne.2 (fun e => hc (.inr (.inr e)))
   have HD : Hid (dropN l at_ f.tok f.kids = 0) := Lib.hid (by unfold dropN; rw [HSX.out, if_neg hc])
   clear hc
   go_wp2
   go_end0
   rw [HD.out]
   exact .inl ⟨rfl, fun j hj => absurd hj (by omega), HR.out.rd, HZK.out⟩
end
end Go.Proofs.YtipnlgmeonepfaaGreatDoor.PFa

set_option linter.unusedVariables false
set_option linter.unusedSimpArgs false
namespace Go.Proofs.YtipnlgmeonepfaaGreatDoor.PFa
open Go.RowKit Go.Proofs.YtipnlgmeonepfaaGreatDoorW.PrintWords Go.Proofs.YtipnlgmeonepfaaGreatDoorW.PrintLast Go.Proofs.YtipnlgmeonepfaaGreatDoorW.PrintMore
open Go.Proofs.YtipnlgmeonepfaaGreatDoor.Lx (Kp)
section
variable {w W W' : World} {g : Nat} {A0 : Option Addr} {c0 : Nat} {l : List Tk} {A1 : Option Addr} {c1 : Nat} {ws : List ByteArray} {o : Nat → Nat} {at_ : Nat} {tv : Value} {top : List Fg} {sv : Value} {fs : List Fr} {ps : List PF}
set_option maxHeartbeats 6400000 in
set_option maxRecDepth 100000 in
theorem close_ends (h : Rd w g A0 c0 l A1 c1 ws o at_ tv top sv fs W) (hC : Kd.C k39 w A0 l.length l) (hl : l.length ≤ 6000) (hat : at_ < l.length)
  (hf : ∀ W', Below W.heap.size W W' → Calls Tryz.prog 128 #[.pointer (some ⟨g, 0, none⟩), .string (tkAt l at_).f2] W' fun e W'' => e = endR at_ 20 ∧ Below W'.heap.size W' W'') :
  Calls Tryz.prog 105 #[.pointer (some ⟨g, 0, none⟩)] W fun e W' => e = endR at_ 20 ∧ Below W.heap.size W W' := by
 have HF : Hid (∀ W', Below W.heap.size W W' → Calls Tryz.prog 128 #[.pointer (some ⟨g, 0, none⟩), .string (tkAt l at_).f2] W' fun e W'' => e = endR at_ 20 ∧ Below W.heap.size W W'') := Lib.hid (fun W' hb => (hf W' hb).mono (fun _ _ h => ⟨h.1, hb.trans (h.2.mono hb.size)⟩))
 clear hf
 obtain ⟨ad, had, t0, t1, t2, t3, t4⟩ := at_T39 (Kd.C_below hC h.bel) (at_ : Int) (by omega) (by omega)
 subst had
 obtain ⟨T, hT⟩ : ∃ T, rd_T39 l (at_ : Int) = T := ⟨_, rfl⟩
 rw [show tkAt l at_ = T from hT] at HF
 rw [hT] at t2
 simp only [Int.toNat_natCast] at t2
 have k0 : W.cell? ⟨g, 0, none⟩ = some (.slice (some ad) l.length c0) := blk_cell h.blk 0
 have k1 : W.cell? ⟨g, 1, none⟩ = some (.int .i64 at_) := blk_cell h.blk 1
 have x2 : (0 : Int) ≤ (at_ : Int) := by omega
 have x3 : (at_ : Int) < (l.length : Int) := by omega
 clear h hC hT t0 t1 t3 t4 hl hat
 go_enter Tryz.func105, Tryz.ntmps105
 go_upto_region 1 with (fail)
 go_name_world W1 hW1
 have hb1 : Hid (Below W.heap.size W W1) := Lib.hid (hW1 ▸ below_alloc (Below.refl _ _) _)
 have hrb : Hid (W1.heap[W.heap.size]? = some (.cells #[.pointer (some ⟨g, 0, none⟩)] 68 (0, 0))) := Lib.hid (hW1 ▸ blk_new W _)
 have k0 := pw_cell_below hb1.out k0
 have k1 := pw_cell_below hb1.out k1
 have t2 := pw_cell_below hb1.out t2
 have r0 : W1.cell? ⟨W.heap.size, 0, none⟩ = some (.pointer (some ⟨g, 0, none⟩)) := blk_cell hrb.out 0
 clear hW1
 have HS : Hid (∀ w' : World, Below W1.heap.size W1 w' → (w'.cell? ⟨W.heap.size, 0, none⟩ = some (.pointer (some ⟨g, 0, none⟩)) ∧ w'.cell? ⟨g, 0, none⟩ = some (.slice (some ad) l.length c0) ∧ w'.cell? ⟨g, 1, none⟩ = some (.int .i64 at_) ∧ w'.cell? ⟨(ad.add (at_ * 5)).block, (ad.add (at_ * 5)).off + 2, none⟩ = some (.string T.f2))) := Lib.hid (fun w' hb => ⟨pw_cell_below hb r0, pw_cell_below hb k0, pw_cell_below hb k1, pw_cell_below hb t2⟩)
 have HFA := Lib.hid (HF.out (W1.alloc (.cells #[.int .i64 0, .int .i64 0, .string ⟨#[]⟩, .int .i64 0, .int .i64 0, .string ⟨#[]⟩, .slice none 0 0] 49 (0, 0))).drew (hb1.out.trans (((below_alloc (Below.refl W1.heap.size W1) _).drew).mono hb1.out.size)))
 have HFB := Lib.hid (HF.out W1.drew (hb1.out.trans ((Below.drew (Below.refl W1.heap.size W1)).mono hb1.out.size)))
 clear HF k0 k1 t2 r0 hb1 hrb
 refine wp_region_held_drew (S := fun w' => w'.cell? ⟨W.heap.size, 0, none⟩ = some (.pointer (some ⟨g, 0, none⟩)) ∧ w'.cell? ⟨g, 0, none⟩ = some (.slice (some ad) l.length c0) ∧ w'.cell? ⟨g, 1, none⟩ = some (.int .i64 at_) ∧ w'.cell? ⟨(ad.add (at_ * 5)).block, (ad.add (at_ * 5)).off + 2, none⟩ = some (.string T.f2)) (by kernel_rfl) ?_ (fun hHeld => ?_)
 ·exact HS.out _ (Below.drew (Below.refl _ _))
 refine wpAnyH_take (i := 0) (v := ?_) rfl (by kernel_rfl) (by kernel_rfl) (by kernel_rfl) (fun _ _ _ h => h) (Or.inl ⟨by rfl, ?hy⟩) (by assumption) ?_
 case hy =>
  intro w hSw
  try dsimp only at hSw
  simp only [List.getElem_toArray, List.getElem_cons_zero, List.getElem_cons_succ]
  go_simp
  try with_reducible rfl
 simp only [List.getElem_toArray, List.getElem_cons_zero, List.getElem_cons_succ, Act.put, List.setIfInBounds_toArray, List.set_cons_zero, List.set_cons_succ]
 refine wpAnyH_take (i := 1) (v := ?_) rfl (by kernel_rfl) (by kernel_rfl) (by kernel_rfl) (fun _ _ _ h => h) (Or.inl ⟨by rfl, ?hy⟩) (by assumption) ?_
 case hy =>
  intro w hSw
  try dsimp only at hSw
  simp only [List.getElem_toArray, List.getElem_cons_zero, List.getElem_cons_succ]
  go_simp
  try with_reducible rfl
 simp only [List.getElem_toArray, List.getElem_cons_zero, List.getElem_cons_succ, Act.put, List.setIfInBounds_toArray, List.set_cons_zero, List.set_cons_succ]
 refine wpAnyH_take (i := 2) (v := ?_) rfl (by kernel_rfl) (by kernel_rfl) (by kernel_rfl) (fun _ _ _ h => h) (Or.inl ⟨by rfl, ?hy⟩) (by assumption) ?_
 case hy =>
  intro w hSw
  try dsimp only at hSw
  simp only [List.getElem_toArray, List.getElem_cons_zero, List.getElem_cons_succ]
  go_simp
  try with_reducible rfl
 simp only [List.getElem_toArray, List.getElem_cons_zero, List.getElem_cons_succ, Act.put, List.setIfInBounds_toArray, List.set_cons_zero, List.set_cons_succ]
 refine wpAnyH_take (i := 3) (v := ?_) rfl (by kernel_rfl) (by kernel_rfl) (by kernel_rfl) (fun _ _ _ h => h) (Or.inl ⟨by rfl, ?hy⟩) (by assumption) ?_
 case hy =>
  intro w hSw
  try dsimp only at hSw
  simp only [List.getElem_toArray, List.getElem_cons_zero, List.getElem_cons_succ]
  go_simp
  try with_reducible rfl
 simp only [List.getElem_toArray, List.getElem_cons_zero, List.getElem_cons_succ, Act.put, List.setIfInBounds_toArray, List.set_cons_zero, List.set_cons_succ]
 refine wpAnyH_take (i := 4) (v := ?_) rfl (by kernel_rfl) (by kernel_rfl) (by kernel_rfl) (fun _ _ _ h => h) (Or.inl ⟨by rfl, ?hy⟩) (by assumption) ?_
 case hy =>
  intro w hSw
  try dsimp only at hSw
  simp only [List.getElem_toArray, List.getElem_cons_zero, List.getElem_cons_succ]
  go_simp
  try with_reducible rfl
 simp only [List.getElem_toArray, List.getElem_cons_zero, List.getElem_cons_succ, Act.put, List.setIfInBounds_toArray, List.set_cons_zero, List.set_cons_succ]
 refine wpAnyH_take (i := 5) (v := ?_) rfl (by kernel_rfl) (by kernel_rfl) (by kernel_rfl) (fun _ _ _ h => h) (Or.inl ⟨by rfl, ?hy⟩) (by assumption) ?_
 case hy =>
  intro w hSw
  try dsimp only at hSw
  simp only [List.getElem_toArray, List.getElem_cons_zero, List.getElem_cons_succ]
  go_simp
  try with_reducible rfl
 simp only [List.getElem_toArray, List.getElem_cons_zero, List.getElem_cons_succ, Act.put, List.setIfInBounds_toArray, List.set_cons_zero, List.set_cons_succ]
 refine wpAnyH_take (i := 6) (v := ?_) rfl (by kernel_rfl) (by kernel_rfl) (by kernel_rfl) (fun _ _ _ h => h) (Or.inl ⟨by rfl, ?hy⟩) (by assumption) ?_
 case hy =>
  intro w hSw
  try dsimp only at hSw
  simp only [List.getElem_toArray, List.getElem_cons_zero, List.getElem_cons_succ]
  go_simp
  try with_reducible rfl
 simp only [List.getElem_toArray, List.getElem_cons_zero, List.getElem_cons_succ, Act.put, List.setIfInBounds_toArray, List.set_cons_zero, List.set_cons_succ]
 refine wpAnyH_take (i := 7) (v := ?_) rfl (by kernel_rfl) (by kernel_rfl) (by kernel_rfl) (fun _ _ _ h => h) (Or.inl ⟨by rfl, ?hy⟩) (by assumption) ?_
 case hy =>
  intro w hSw
  try dsimp only at hSw
  simp only [List.getElem_toArray, List.getElem_cons_zero, List.getElem_cons_succ]
  go_simp
  try with_reducible rfl
 simp only [List.getElem_toArray, List.getElem_cons_zero, List.getElem_cons_succ, Act.put, List.setIfInBounds_toArray, List.set_cons_zero, List.set_cons_succ]
 refine wpAnyH_take (i := 8) (v := ?_) rfl (by kernel_rfl) (by kernel_rfl) (by kernel_rfl) (fun _ _ _ h => h) (Or.inl ⟨by rfl, ?hy⟩) (by assumption) ?_
 case hy =>
  intro w hSw
  try dsimp only at hSw
  simp only [List.getElem_toArray, List.getElem_cons_zero, List.getElem_cons_succ]
  go_simp
  try with_reducible rfl
 simp only [List.getElem_toArray, List.getElem_cons_zero, List.getElem_cons_succ, Act.put, List.setIfInBounds_toArray, List.set_cons_zero, List.set_cons_succ]
 refine wpAnyH_take (i := 9) (v := ?_) rfl (by kernel_rfl) (by kernel_rfl) (by kernel_rfl) (fun _ _ _ h => h) (Or.inl ⟨by rfl, ?hy⟩) (by assumption) ?_
 case hy =>
  intro w hSw
  try dsimp only at hSw
  simp only [List.getElem_toArray, List.getElem_cons_zero, List.getElem_cons_succ]
  go_simp
  try with_reducible rfl
 simp only [List.getElem_toArray, List.getElem_cons_zero, List.getElem_cons_succ, Act.put, List.setIfInBounds_toArray, List.set_cons_zero, List.set_cons_succ]
 refine wpAnyH_take (i := 10) (v := ?_) rfl (by kernel_rfl) (by kernel_rfl) (by kernel_rfl) (fun _ _ _ h => h) (Or.inl ⟨by rfl, ?hy⟩) (by assumption) ?_
 case hy =>
  intro w hSw
  try dsimp only at hSw
  simp only [List.getElem_toArray, List.getElem_cons_zero, List.getElem_cons_succ]
  go_simp
  try with_reducible rfl
 simp only [List.getElem_toArray, List.getElem_cons_zero, List.getElem_cons_succ, Act.put, List.setIfInBounds_toArray, List.set_cons_zero, List.set_cons_succ]
 refine wpAnyH_take (i := 11) (v := ?_) rfl (by kernel_rfl) (by kernel_rfl) (by kernel_rfl) (fun _ _ _ h => h) (Or.inl ⟨by rfl, ?hy⟩) (by assumption) ?_
 case hy =>
  intro w hSw
  try dsimp only at hSw
  simp only [List.getElem_toArray, List.getElem_cons_zero, List.getElem_cons_succ]
  go_simp
  try with_reducible rfl
 simp only [List.getElem_toArray, List.getElem_cons_zero, List.getElem_cons_succ, Act.put, List.setIfInBounds_toArray, List.set_cons_zero, List.set_cons_succ]
 refine wpAnyH_ready (rs := [12, 13]) (by kernel_rfl) (by simp) ?_
 refine AllReadyH.cons rfl (fun K hK => ?_) ?_
 ·simp only [List.getElem_toArray, List.getElem_cons_zero, List.getElem_cons_succ]
  go_simp
  go_at_call 128
  (with_reducible refine HFB.out.mono ?_)
  rintro e W3 ⟨rfl, hb3⟩
  exact ⟨rfl, rfl, hb3⟩
 refine AllReadyH.cons rfl (fun K hK => ?_) ?_
 ·simp only [List.getElem_toArray, List.getElem_cons_zero, List.getElem_cons_succ]
  go_simp
  refine hK.out _ _ ?_ (fun hHeld => ?_)
  ·exact HS.out _ (below_alloc (Below.refl _ _) _).drew
  clear hK K
  try simp only [List.getElem_toArray, List.getElem_cons_zero, List.getElem_cons_succ, Act.put, List.setIfInBounds_toArray, List.set_cons_zero, List.set_cons_succ]
  refine wpAnyH_ready (rs := [12]) (by kernel_rfl) (by simp) ?_
  refine AllReadyH.cons rfl (fun K hK => ?_) ?_
  ·simp only [List.getElem_toArray, List.getElem_cons_zero, List.getElem_cons_succ]
   go_simp
   go_at_call 128
   (with_reducible refine HFA.out.mono ?_)
   rintro e W3 ⟨rfl, hb3⟩
   exact ⟨rfl, rfl, hb3⟩
  exact AllReadyH.nil
 exact AllReadyH.nil
theorem close_none (h : Rd w g A0 c0 l A1 c1 ws o at_ tv top sv [] W) (hC : Kd.C k39 w A0 l.length l) (hl : l.length ≤ 6000) (hat : at_ < l.length) :
  Calls Tryz.prog 105 #[.pointer (some ⟨g, 0, none⟩)] W fun e W' => e = endR at_ 20 ∧ Below W.heap.size W W' :=
 close_ends h hC hl hat (fun W' hb => finish_none (h.below hb) _)
theorem close_bad {f : Fr} {r : List Fr} (h : Rd w g A0 c0 l A1 c1 ws o at_ tv top sv (f :: r) W) (hfs : r.length + 1 ≤ 100) (hC : Kd.C k39 w A0 l.length l) (hl : l.length ≤ 6000) (hat : at_ < l.length) (htx : (closeTx f.tok.f2).toList ≠ (tkAt l at_).f2.toList) :
  Calls Tryz.prog 105 #[.pointer (some ⟨g, 0, none⟩)] W fun e W' => e = endR at_ 20 ∧ Below W.heap.size W W' :=
 close_ends h hC hl hat (fun W' hb => finish_bad (h.below hb) hfs _ htx)
end
end Go.Proofs.YtipnlgmeonepfaaGreatDoor.PFa
