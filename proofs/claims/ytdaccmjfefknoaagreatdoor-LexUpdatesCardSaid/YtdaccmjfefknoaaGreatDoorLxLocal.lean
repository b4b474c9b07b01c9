/- Pieces that end well ahead of the place from which two texts differ are the same. -/
import Derived.Test.YtdaccmjfefknoaaGreatDoorLxTake
namespace Go.Proofs.YtdaccmjfefknoaaGreatDoor.Lx

theorem take_cons_eq {x : UInt8} {s s' : List UInt8} {m : Nat} (h : (x :: s).take (m + 1) = s'.take (m + 1)) : ∃ t, s' = x :: t ∧ s.take m = t.take m := by
  cases s' with
  | nil => simp at h
  | cons y t =>
    simp only [List.take_succ_cons, List.cons.injEq] at h
    obtain ⟨rfl, h⟩ := h
    exact ⟨t, rfl, h⟩
theorem lineGo_local : ∀ (s s' : List UInt8) (m i : Nat), s.take m = s'.take m → lineGo s i < i + m → lineGo s i < i + s.length → lineGo s' i = lineGo s i
  | [], s', m, i, h, hm, hl => by simp [lineGo] at hl
  | x :: s, s', 0, i, h, hm, hl => by have := (lineGo_len (x :: s) i).1; omega
  | x :: s, s', m + 1, i, h, hm, hl => by
    obtain ⟨t, rfl, h'⟩ := take_cons_eq h
    unfold lineGo at hm hl ⊢
    by_cases hx : x.toNat = 10
    · rw [if_pos hx, if_pos hx]
    · rw [if_neg hx] at hm hl ⊢
      rw [if_neg hx]
      simp only [List.length_cons] at hl
      exact lineGo_local s t m (i + 1) h' (by omega) (by omega)
theorem blockGo_local : ∀ (k : Nat) (s s' : List UInt8) (m i : Nat) (o : Int) (r : Nat), s.length ≤ k → s.take m = s'.take m → blockGo s i o = .ok r → r ≤ i + m → blockGo s' i o = .ok r
  | _, [], s', m, i, o, r, _, h, hb, hr => by simp [blockGo] at hb
  | _, [x], s', m, i, o, r, _, h, hb, hr => by simp [blockGo] at hb
  | 0, x :: y :: s, s', m, i, o, r, hk, h, hb, hr => by simp at hk
  | k + 1, x :: y :: s, s', m, i, o, r, hk, h, hb, hr => by
    have hlen := blockGo_len _ (x :: y :: s) i o r (Nat.le_refl _) hb
    obtain ⟨m, rfl⟩ : ∃ j, m = j + 2 := ⟨m - 2, by omega⟩
    obtain ⟨t, rfl, h1⟩ := take_cons_eq (m := m + 1) h
    obtain ⟨u, rfl, h2⟩ := take_cons_eq h1
    simp only [List.length_cons] at hk
    unfold blockGo at hb ⊢
    by_cases c1 : x.toNat = 47 ∧ y.toNat = 42
    · rw [if_pos c1] at hb ⊢
      by_cases c2 : 100 < o + 1
      · rw [if_pos c2] at hb; cases hb
      · rw [if_neg c2] at hb ⊢
        exact blockGo_local k s u m (i + 2) (o + 1) r (by omega) h2 hb (by omega)
    · rw [if_neg c1] at hb ⊢
      by_cases c3 : x.toNat = 42 ∧ y.toNat = 47
      · rw [if_pos c3] at hb ⊢
        by_cases c4 : o - 1 = 0
        · rw [if_pos c4] at hb ⊢; exact hb
        · rw [if_neg c4] at hb ⊢
          exact blockGo_local k s u m (i + 2) (o - 1) r (by omega) h2 hb (by omega)
      · rw [if_neg c3] at hb ⊢
        exact blockGo_local k (y :: s) (y :: u) (m + 1) (i + 1) o r (by simp only [List.length_cons]; omega) h1 hb (by omega)
theorem pre_same {p s s' : List UInt8} {m : Nat} (h : s.take m = s'.take m) (hp : p.length ≤ m) : pre p s' = pre p s := by
  rw [← pre_take (m := m) (p := p) (s := s') hp, ← h, pre_take hp]
theorem byteAt_same {s s' : List UInt8} {m i : Nat} (h : s.take m = s'.take m) (hi : i < m) : byteAt s' i = byteAt s i := by
  rw [← byteAt_take s' hi, ← h, byteAt_take s hi]
theorem take_same {s s' : List UInt8} {m n : Nat} (h : s.take m = s'.take m) (hn : n ≤ m) : s'.take n = s.take n := by
  have h1 : (s.take m).take n = (s'.take m).take n := by rw [h]
  rw [List.take_take, List.take_take, show min n m = n from by omega] at h1
  exact h1.symm
theorem allN_same (T : Nat → Bool) {s s' : List UInt8} {m : Nat} (h : s.take m = s'.take m) (hn : allN T s < m) : allN T s' = allN T s := by
  have h1 := allN_take T s m
  have h2 := allN_take T s' m
  rw [h] at h1
  omega
theorem check_same {s s' : List UInt8} {m k n : Nat} (h : s.take m = s'.take m) (hn : n < m) : check s' k n = check s k n := by
  unfold check
  rw [byteAt_same h hn, take_same h (by omega), pre_same h (by show 1 ≤ m; omega)]
theorem comment_local {s s' : List UInt8} {m n : Nat} (h : s.take m = s'.take m) (hc : comment s = .ok n) (hm : n < m) (hl : m ≤ s.length) (h2 : 2 ≤ m) : comment s' = .ok n := by
  unfold comment at hc ⊢
  rw [pre_same h (by show 2 ≤ m; omega)]
  split at hc
  · rename_i hp
    injection hc with hc
    rw [if_pos hp, lineGo_local s s' m 0 h (by omega) (by omega), hc]
  · rename_i hp
    rw [if_neg hp]
    exact blockGo_local s.length s s' m 0 0 n (Nat.le_refl _) h hc (by omega)
theorem next_local {op : Bool} {s s' : List UInt8} {m k n : Nat} (h : s.take m = s'.take m) (hl : m ≤ s.length) (hs : next op s = .ok (k, n)) (hm : n + 101 ≤ m) : next op s' = .ok (k, n) := by
  unfold next at hs ⊢
  rw [pre_same h (by show 2 ≤ m; omega), pre_same h (by show 2 ≤ m; omega), byteAt_same h (by omega)]
  split at hs
  · rename_i hp
    rw [if_pos hp]
    cases hc : comment s with
    | error e => rw [hc] at hs; cases hs
    | ok r =>
      rw [hc] at hs
      cases hs
      rw [comment_local h hc (by omega) hl (by omega)]
      rfl
  · rename_i hp
    rw [if_neg hp]
    split at hs
    · rename_i hb
      rw [if_pos hb]
      injection hs with hs
      injection hs with hk hs
      rw [allN_same cBlank h (by omega), hs, hk]
    · rename_i hb
      rw [if_neg hb, take_same h (by omega)]
      unfold checked at hs ⊢
      split at hs
      · rename_i hc
        injection hs with hs
        rw [hs] at hc ⊢
        rw [check_same h (by show n < m; omega), if_pos hc]
      · cases hs
theorem go_local : ∀ (f f' : Nat) (s s' : List UInt8) (at_ toks : Nat) (op : Bool) (l l' : List Piece) (m : Nat), piecesGo f s at_ toks op = .ok l → piecesGo f' s' at_ toks op = .ok l' → s.take m = s'.take m → m ≤ s.length → m ≤ s'.length →
    ∀ (i : Nat) (p : Piece), l[i]? = some p → p.at_ + p.len + 101 ≤ at_ + m → l'.take (i + 1) = l.take (i + 1)
  | f, f', [], s', at_, toks, op, l, l', m, h, h', ht, hm, hm', i, p, hp, hpm => by
    have h'' : (Except.ok [] : Except (Nat × Int) (List Piece)) = .ok l := by cases f <;> exact h
    cases h''
    simp at hp
  | 0, f', x :: s, s', at_, toks, op, l, l', m, h, h', ht, hm, hm', i, p, hp, hpm => by cases h
  | f + 1, f', x :: s, s', at_, toks, op, l, l', m, h, h', ht, hm, hm', i, p, hp, hpm => by
    have hch := go_chain _ _ _ _ _ _ h
    have hmem : p ∈ l := List.mem_of_getElem? hp
    have hat : at_ ≤ p.at_ := (chain_ge _ _ _ hch p hmem).1
    obtain ⟨m, rfl⟩ : ∃ j, m = j + 1 := ⟨m - 1, by omega⟩
    obtain ⟨t, rfl, ht'⟩ := take_cons_eq ht
    cases f' with
    | zero => cases h'
    | succ f' =>
      rw [go_step] at h h'
      cases hn : next op (x :: s) with
      | error e => rw [hn] at h; cases h
      | ok q =>
        obtain ⟨k, n⟩ := q
        rw [hn] at h
        simp only at h
        have hb := next_len (by simp) hn
        split at h
        · cases h
        · rename_i hcnt
          cases hr : piecesGo f ((x :: s).drop n) (at_ + n) (if k ≤ 6 then toks + 1 else toks) (if k ≤ 6 then operand k ((x :: s).take n) else op) with
          | error e => rw [hr] at h; cases h
          | ok l1 =>
            rw [hr] at h
            cases h
            have hnm : n + 101 ≤ m + 1 := by
              cases i with
              | zero =>
                obtain rfl : (⟨k, at_, n⟩ : Piece) = p := by simpa using hp
                have : (at_ + n) + 101 ≤ at_ + (m + 1) := hpm
                omega
              | succ i =>
                have hp1 : l1[i]? = some p := by simpa using hp
                have := (chain_ge _ _ _ (go_chain _ _ _ _ _ _ hr) p (List.mem_of_getElem? hp1)).1
                omega
            have hn' := next_local ht hm hn hnm
            rw [hn'] at h'
            simp only at h'
            rw [if_neg hcnt] at h'
            have htk : (x :: t).take n = (x :: s).take n := take_same ht (by omega)
            rw [htk] at h'
            cases hr' : piecesGo f' ((x :: t).drop n) (at_ + n) (if k ≤ 6 then toks + 1 else toks) (if k ≤ 6 then operand k ((x :: s).take n) else op) with
            | error e => rw [hr'] at h'; cases h'
            | ok l2 =>
              rw [hr'] at h'
              cases h'
              cases i with
              | zero => simp
              | succ i =>
                have hp1 : l1[i]? = some p := by simpa using hp
                have hd : ((x :: s).drop n).take (m + 1 - n) = ((x :: t).drop n).take (m + 1 - n) := by
                  rw [← List.drop_take, ← List.drop_take, ht]
                have ih := go_local f f' _ _ _ _ _ _ _ (m + 1 - n) hr hr' hd (by rw [List.length_drop]; omega) (by rw [List.length_drop]; omega) i p hp1 (by omega)
                rw [List.take_succ_cons, List.take_succ_cons, ih]
theorem pieces_local {s s' : List UInt8} {l l' : List Piece} {m : Nat} (h : pieces s = .ok l) (h' : pieces s' = .ok l') (ht : s.take m = s'.take m) (hm : m ≤ s.length) (hm' : m ≤ s'.length) (i : Nat) (p : Piece) (hp : l[i]? = some p) (hpm : p.at_ + p.len + 101 ≤ m) : l'.take (i + 1) = l.take (i + 1) := by
  unfold pieces at h h'
  split at h
  · cases h
  · split at h'
    · cases h'
    · exact go_local _ _ _ _ _ _ _ _ _ m h h' ht hm hm' i p hp (by omega)
end Go.Proofs.YtdaccmjfefknoaaGreatDoor.Lx
