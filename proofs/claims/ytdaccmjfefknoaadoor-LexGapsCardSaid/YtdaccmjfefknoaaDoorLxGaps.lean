/- The tokens of a text, without their places: blanks and comments make no difference. -/
import Derived.Test.YtdaccmjfefknoaaDoorLxLocal
import Derived.Test.YtdaccmjfefknoaaDoorLxMore
namespace Go.Proofs.YtdaccmjfefknoaaDoor.Lx

/-- The tokens from here on: kinds and texts. -/
def tkGo : Nat → List UInt8 → Nat → Bool → Option (List (Nat × List UInt8))
  | _, [], _, _ => some []
  | 0, _ :: _, _, _ => none
  | f + 1, x :: s, toks, op =>
    match next op (x :: s) with
    | .error _ => none
    | .ok (k, n) =>
      if k ≤ 6 then
        if 6000 < toks + 1 then none
        else match tkGo f ((x :: s).drop n) (toks + 1) (operand k ((x :: s).take n)) with
          | none => none
          | some l => some ((k, (x :: s).take n) :: l)
      else tkGo f ((x :: s).drop n) toks op
theorem tk_step (f : Nat) (x : UInt8) (s : List UInt8) (toks : Nat) (op : Bool) : tkGo (f + 1) (x :: s) toks op =
    match next op (x :: s) with
    | .error _ => none
    | .ok (k, n) =>
      if k ≤ 6 then
        if 6000 < toks + 1 then none
        else match tkGo f ((x :: s).drop n) (toks + 1) (operand k ((x :: s).take n)) with
          | none => none
          | some l => some ((k, (x :: s).take n) :: l)
      else tkGo f ((x :: s).drop n) toks op := rfl
theorem tk_nil (f : Nat) (toks : Nat) (op : Bool) : tkGo f [] toks op = some [] := by cases f <;> rfl
theorem tk_fuel : ∀ (f f' : Nat) (s : List UInt8) (toks : Nat) (op : Bool), s.length ≤ f → s.length ≤ f' → tkGo f s toks op = tkGo f' s toks op
  | f, f', [], toks, op, _, _ => by rw [tk_nil, tk_nil]
  | 0, f', x :: s, toks, op, h, _ => by simp at h
  | f + 1, 0, x :: s, toks, op, _, h => by simp at h
  | f + 1, f' + 1, x :: s, toks, op, h, h' => by
    rw [tk_step, tk_step]
    cases hn : next op (x :: s) with
    | error e => rfl
    | ok q =>
      obtain ⟨k, n⟩ := q
      have hb := next_len (by simp) hn
      have hd : ((x :: s).drop n).length ≤ f ∧ ((x :: s).drop n).length ≤ f' := by
        rw [List.length_drop]
        simp only [List.length_cons] at h h' ⊢
        omega
      dsimp only
      rw [tk_fuel f f' _ _ _ hd.1 hd.2, tk_fuel f f' _ _ _ hd.1 hd.2]
def tk (s : List UInt8) (toks : Nat) (op : Bool) : Option (List (Nat × List UInt8)) := tkGo s.length s toks op
theorem tk_unfold {s : List UInt8} (hs : s ≠ []) (toks : Nat) (op : Bool) : tk s toks op =
    match next op s with
    | .error _ => none
    | .ok (k, n) =>
      if k ≤ 6 then
        if 6000 < toks + 1 then none
        else match tk (s.drop n) (toks + 1) (operand k (s.take n)) with
          | none => none
          | some l => some ((k, s.take n) :: l)
      else tk (s.drop n) toks op := by
  cases s with
  | nil => exact absurd rfl hs
  | cons x s =>
    unfold tk
    rw [List.length_cons, tk_step]
    cases hn : next op (x :: s) with
    | error e => rfl
    | ok q =>
      obtain ⟨k, n⟩ := q
      have hb := next_len (by simp) hn
      have hd : ((x :: s).drop n).length ≤ s.length := by
        rw [List.length_drop]
        simp only [List.length_cons]
        omega
      dsimp only
      rw [tk_fuel s.length _ _ _ _ hd (Nat.le_refl _), tk_fuel s.length _ _ _ _ hd (Nat.le_refl _)]
/-- Blanks and comments are passed by. -/
theorem tk_skip {s : List UInt8} {toks : Nat} {op : Bool} {k n : Nat} (hs : s ≠ []) (h : next op s = .ok (k, n)) (hk : ¬ k ≤ 6) : tk s toks op = tk (s.drop n) toks op := by
  rw [tk_unfold hs, h]
  dsimp only
  rw [if_neg hk]
theorem next_blank (op : Bool) (b : UInt8) (s : List UInt8) (hb : cBlank b.toNat = true) : next op (b :: s) = .ok (7, allN cBlank s + 1) := by
  obtain ⟨_, _, _, _, _, _, _, _, _, _, h47, _⟩ := stops _ hb
  have h1 : ∀ c, pre [47, c] (b :: s) = false := fun c => by
    have : (47 == b) = false := by simpa using fun e => h47 (by rw [← e]; rfl)
    simp [pre, List.isPrefixOf, this]
  unfold next
  rw [h1, h1, if_neg (by simp)]
  have h2 : byteAt (b :: s) 0 = b.toNat := rfl
  rw [h2, if_pos hb]
  show _ = Except.ok (7, allN cBlank s + 1)
  conv => lhs; unfold allN
  rw [if_pos hb]
theorem tk_blank (b : UInt8) (s : List UInt8) (hb : cBlank b.toNat = true) (toks : Nat) (op : Bool) : tk (b :: s) toks op = tk s toks op := by
  rw [tk_skip (by simp) (next_blank op b s hb) (by omega)]
  show tk (s.drop (allN cBlank s)) toks op = _
  cases s with
  | nil => rfl
  | cons c s =>
    by_cases hc : cBlank c.toNat = true
    · rw [tk_skip (by simp) (next_blank op c s hc) (by omega)]
      have : allN cBlank (c :: s) = allN cBlank s + 1 := by
        conv => lhs; unfold allN
        rw [if_pos hc]
      rw [this]
    · have : allN cBlank (c :: s) = 0 := by
        conv => lhs; unfold allN
        rw [if_neg hc]
      rw [this, List.drop_zero]
theorem tk_blanks : ∀ (a s : List UInt8), (∀ x ∈ a, cBlank x.toNat = true) → ∀ (toks : Nat) (op : Bool), tk (a ++ s) toks op = tk s toks op
  | [], s, _, toks, op => rfl
  | x :: a, s, h, toks, op => by
    rw [List.cons_append, tk_blank x _ (h x List.mem_cons_self), tk_blanks a s (fun y hy => h y (List.mem_cons_of_mem _ hy))]
/-- A comment that holds no star and no slash. -/
theorem blockGo_plain : ∀ (f r : List UInt8) (i : Nat), (∀ x ∈ f, x.toNat ≠ 42 ∧ x.toNat ≠ 47) → blockGo (f ++ 42 :: 47 :: r) i 1 = .ok (i + f.length + 2)
  | [], r, i, _ => by
    show blockGo (42 :: 47 :: r) i 1 = _
    unfold blockGo
    rw [if_neg (by decide), if_pos (by decide), if_pos (by decide)]
    simp
  | [x], r, i, h => by
    have hx := h x List.mem_cons_self
    show blockGo (x :: 42 :: 47 :: r) i 1 = _
    unfold blockGo
    rw [if_neg (fun h' => hx.2 h'.1), if_neg (fun h' => hx.1 h'.1)]
    have := blockGo_plain [] r (i + 1) (by simp)
    simp only [List.nil_append] at this
    rw [this]
    simp
  | x :: y :: f, r, i, h => by
    have hx := h x List.mem_cons_self
    show blockGo (x :: y :: (f ++ 42 :: 47 :: r)) i 1 = _
    unfold blockGo
    rw [if_neg (fun h' => hx.2 h'.1), if_neg (fun h' => hx.1 h'.1)]
    have := blockGo_plain (y :: f) r (i + 1) (fun z hz => h z (List.mem_cons_of_mem _ hz))
    rw [List.cons_append] at this
    rw [this]
    simp only [List.length_cons]
    congr 1
    omega
def gapOf (f : List UInt8) : List UInt8 := [32, 47, 42, 32] ++ f ++ [32, 42, 47, 32]
theorem tk_gap (f r : List UInt8) (hf : ∀ x ∈ f, x.toNat ≠ 42 ∧ x.toNat ≠ 47) (toks : Nat) (op : Bool) : tk (gapOf f ++ r) toks op = tk r toks op := by
  have e : gapOf f ++ r = 32 :: 47 :: 42 :: ((32 :: f ++ [32]) ++ 42 :: 47 :: (32 :: r)) := by simp [gapOf]
  rw [e, tk_blank 32 _ (by decide)]
  have hb : blockGo (47 :: 42 :: ((32 :: f ++ [32]) ++ 42 :: 47 :: (32 :: r))) 0 0 = .ok (0 + 2 + (32 :: f ++ [32]).length + 2) := by
    unfold blockGo
    rw [if_pos (by decide), if_neg (by decide)]
    refine blockGo_plain (32 :: f ++ [32]) (32 :: r) (0 + 2) ?_
    intro x hx
    rcases List.mem_append.1 hx with hx | hx
    · rcases List.mem_cons.1 hx with rfl | hx
      · decide
      · exact hf x hx
    · rw [List.mem_singleton.1 hx]; decide
  have hn : next op (47 :: 42 :: ((32 :: f ++ [32]) ++ 42 :: 47 :: (32 :: r))) = .ok (8, 0 + 2 + (32 :: f ++ [32]).length + 2) := by
    unfold next
    rw [if_pos (by simp [pre, List.isPrefixOf])]
    unfold comment
    rw [if_neg (by simp [pre, List.isPrefixOf]), hb]
    rfl
  rw [tk_skip (by simp) hn (by omega)]
  have hd : (47 :: 42 :: ((32 :: f ++ [32]) ++ 42 :: 47 :: (32 :: r))).drop (0 + 2 + (32 :: f ++ [32]).length + 2) = 32 :: r := by
    have : (47 :: 42 :: ((32 :: f ++ [32]) ++ 42 :: 47 :: (32 :: r)) : List UInt8) = ((47 :: 42 :: (32 :: f ++ [32])) ++ [42, 47]) ++ (32 :: r) := by simp
    rw [this]
    exact List.drop_left' (by simp <;> omega)
  rw [hd, tk_blank 32 _ (by decide)]

/-! ### The last byte of a piece -/
theorem name_last {s : List UInt8} (h : 0 < name s) : byteAt s (name s - 1) ≠ 58 := by
  have hW : ∀ q, cW (byteAt s q) = true → byteAt s q ≠ 58 := fun q hq e => by rw [e] at hq; exact absurd hq (by decide)
  have hp : ∀ (h0 : 0 < plain s), byteAt s (plain s - 1) ≠ 58 := fun h0 => by
    obtain ⟨q, hq, hw⟩ := plain_last h0
    rw [show plain s - 1 = q from by omega]
    exact hW q hw
  unfold name at h ⊢
  by_cases h0 : 0 < plain s
  · rw [if_pos h0]
    cases hd : s.drop (plain s) with
    | nil => exact hp h0
    | cons c q =>
      dsimp only
      by_cases hc : c.toNat = 64 ∧ 0 < allN cQ q ∧ byteAt q 0 ≠ 45
      · rw [if_pos hc]
        have hq := allN_at cQ q (allN cQ q - 1) (by omega)
        have e : byteAt s (plain s + 1 + allN cQ q - 1) = byteAt q (allN cQ q - 1) := by
          have h1 : byteAt (s.drop (plain s)) (allN cQ q) = byteAt s (plain s + allN cQ q) := byteAt_drop _ _ _
          rw [hd] at h1
          rw [show plain s + 1 + allN cQ q - 1 = plain s + allN cQ q from by omega, ← h1]
          obtain ⟨j, hj⟩ : ∃ j, allN cQ q = j + 1 := ⟨allN cQ q - 1, by omega⟩
          rw [hj]
          rfl
        rw [e]
        intro e58
        rw [e58] at hq
        exact absurd hq (by decide)
      · rw [if_neg hc]; exact hp h0
  · rw [if_neg h0] at h; omega
theorem integer_last {op : Bool} {s : List UInt8} (h : 0 < integer op s) : byteAt s (integer op s - 1) ≠ 58 := by
  unfold integer at h ⊢
  by_cases h0 : 0 < allN cD (s.drop (minus op s))
  · rw [if_pos h0]
    have hq := allN_at cD (s.drop (minus op s)) (allN cD (s.drop (minus op s)) - 1) (by omega)
    rw [byteAt_drop] at hq
    rw [show minus op s + allN cD (s.drop (minus op s)) - 1 = minus op s + (allN cD (s.drop (minus op s)) - 1) from by omega]
    intro e
    rw [e] at hq
    exact absurd hq (by decide)
  · rw [if_neg h0] at h; omega
theorem hash_last {s : List UInt8} (h : 0 < hash s) : byteAt s (hash s - 1) ≠ 58 := by
  unfold hash at h ⊢
  by_cases h0 : (pre [35, 116] s || pre [35, 102] s) = true
  · rw [if_pos h0]
    rcases Bool.or_eq_true_iff.1 h0 with h1 | h1
    · obtain ⟨r, rfl⟩ := pre2 h1
      exact (by decide : (116 : UInt8).toNat ≠ 58)
    · obtain ⟨r, rfl⟩ := pre2 h1
      exact (by decide : (102 : UInt8).toNat ≠ 58)
  · rw [if_neg h0] at h; omega
theorem sign_last {s : List UInt8} (h : 0 < sign s) (h58 : byteAt s (sign s - 1) = 58) : 2 ≤ sign s ∧ ∀ q, q + 1 = sign s - 1 → cW (byteAt s q) = false := by
  unfold sign at h h58 ⊢
  by_cases h0 : sign2.any (fun p => pre p s) = true
  · rw [if_pos h0] at h58 ⊢
    obtain ⟨p, hp, hs⟩ := List.any_eq_true.1 h0
    refine ⟨by omega, ?_⟩
    intro q hq
    obtain rfl : q = 0 := by omega
    simp only [sign2, List.mem_cons, List.not_mem_nil, or_false] at hp
    rcases hp with rfl | rfl | rfl | rfl | rfl | rfl <;> obtain ⟨r, rfl⟩ := pre2 hs
    · exact absurd (show (61 : UInt8).toNat = 58 from h58) (by decide)
    · exact (by decide : cW (58 : UInt8).toNat = false)
    · exact absurd (show (62 : UInt8).toNat = 58 from h58) (by decide)
    · exact absurd (show (61 : UInt8).toNat = 58 from h58) (by decide)
    · exact absurd (show (61 : UInt8).toNat = 58 from h58) (by decide)
    · exact absurd (show (61 : UInt8).toNat = 58 from h58) (by decide)
  · rw [if_neg h0] at h58 ⊢
    cases s with
    | nil => rw [if_neg h0] at h; simp at h
    | cons c t =>
      rw [if_neg h0] at h
      dsimp only at h h58 ⊢
      by_cases hc : cSign c.toNat = true
      · rw [if_pos hc] at h58
        have h58' : c.toNat = 58 := h58
        rw [h58'] at hc
        exact absurd hc (by decide)
      · rw [if_neg hc] at h
        omega
theorem pattern_last {s : List UInt8} (h : 0 < pattern s) : byteAt s (pattern s - 1) ≠ 58 := by
  have hW : ∀ (t : List UInt8) q, cW (byteAt t q) = true → byteAt t q ≠ 58 := fun t q hq e => by rw [e] at hq; exact absurd hq (by decide)
  cases s with
  | nil => simp [pattern] at h
  | cons c t =>
    rw [pattern_cons] at h ⊢
    by_cases hc : c.toNat = 63
    · rw [if_pos hc] at h ⊢
      by_cases h0 : plain t = 0
      · rw [if_pos h0] at h; omega
      · rw [if_neg h0] at h ⊢
        have h1 : byteAt (c :: t) (plain t + 1 - 1) ≠ 58 := by
          obtain ⟨q, hq, hw⟩ := plain_last (s := t) (by omega)
          rw [show plain t + 1 - 1 = q + 1 from by omega]
          exact hW t q hw
        by_cases hcl : colon (c :: t) (plain t + 1) = true
        · rw [if_pos hcl] at h ⊢
          by_cases hp : 0 < plain ((c :: t).drop (plain t + 1 + 1))
          · rw [if_pos hp]
            obtain ⟨q, hq, hw⟩ := plain_last hp
            rw [byteAt_drop] at hw
            rw [show plain t + 1 + 1 + plain ((c :: t).drop (plain t + 1 + 1)) - 1 = plain t + 1 + 1 + q from by omega]
            exact hW _ _ hw
          · rw [if_neg hp]; exact h1
        · rw [if_neg hcl]; exact h1
    · rw [if_neg hc] at h; omega
theorem blockGo_last : ∀ (k : Nat) (s : List UInt8) (i : Nat) (o : Int) (r : Nat), s.length ≤ k → blockGo s i o = .ok r → byteAt s (r - i - 1) = 47
  | _, [], _, _, _, _, h => by simp [blockGo] at h
  | _, [_], _, _, _, _, h => by simp [blockGo] at h
  | 0, _ :: _ :: _, _, _, _, hm, _ => by simp at hm
  | m + 1, x :: y :: r, i, o, n, hm, h => by
    have hlen := blockGo_len _ _ _ _ _ (Nat.le_refl _) h
    have h' := h
    unfold blockGo at h
    simp only [List.length_cons] at hm
    have two : ∀ o', blockGo r (i + 2) o' = .ok n → byteAt (x :: y :: r) (n - i - 1) = 47 := fun o' hb => by
      have h1 := blockGo_last m r (i + 2) o' n (by omega) hb
      have h2 := blockGo_len _ _ _ _ _ (Nat.le_refl _) hb
      obtain ⟨j, hj⟩ : ∃ j, n = i + 2 + (j + 2) := ⟨n - i - 4, by omega⟩
      rw [show n - i - 1 = (j + 1) + 2 from by omega]
      rw [show n - (i + 2) - 1 = j + 1 from by omega] at h1
      exact h1
    split at h
    · split at h
      · cases h
      · exact two _ h
    · split at h
      · rename_i hc
        split at h
        · injection h with h
          rw [← h, show i + 2 - i - 1 = 1 from by omega]
          exact hc.2
        · exact two _ h
      · have h1 := blockGo_last m (y :: r) (i + 1) o n (by simp only [List.length_cons]; omega) h
        have h2 := blockGo_len _ _ _ _ _ (Nat.le_refl _) h
        obtain ⟨j, hj⟩ : ∃ j, n = i + 1 + (j + 2) := ⟨n - i - 3, by omega⟩
        rw [show n - i - 1 = (j + 1) + 1 from by omega]
        rw [show n - (i + 1) - 1 = j + 1 from by omega] at h1
        exact h1
/-- Behind a piece that ends with a colon stands no second sign of the colon's. -/
theorem next_last {op : Bool} {s : List UInt8} {k n : Nat} (hs : s ≠ []) (h : next op s = .ok (k, n)) (hline : ¬ (pre [47, 47] s = true)) (h58 : byteAt s (n - 1) = 58) : colon s (n - 1) = true ∨ (2 ≤ n ∧ ∀ q, q + 1 = n - 1 → cW (byteAt s q) = false) := by
  have hlen := next_len hs h
  by_cases hk : k ≤ 6
  · obtain ⟨_, _, hl, hc⟩ := next_token h hk
    have hk0 : k ≠ 0 := by rintro rfl; exact check0 _ _ hc
    obtain ⟨hm, _, ht⟩ := longest_is hl hk0
    have hn100 : n ≤ 100 := by
      have := (longest_inv op (s.take 100)).2
      rw [hl] at this
      simp only [List.length_take] at this
      omega
    have hb : byteAt (s.take 100) (n - 1) = byteAt s (n - 1) := byteAt_take s (by omega)
    have hk' : k = 1 ∨ k = 2 ∨ k = 3 ∨ k = 4 ∨ k = 5 ∨ k = 6 := by simpa using hm
    rcases hk' with rfl | rfl | rfl | rfl | rfl | rfl
    · have ht : name (s.take 100) = n := ht
      have := name_last (s := s.take 100) (by omega)
      rw [ht, hb] at this
      exact absurd h58 this
    · have ht : integer op (s.take 100) = n := ht
      have := integer_last (op := op) (s := s.take 100) (by omega)
      rw [ht, hb] at this
      exact absurd h58 this
    · left
      have ht : keyword (s.take 100) = n := ht
      have hc40 : n ≤ 40 := by
        have hc' : (if 40 < n then (2 : Int) else 0) = 0 := hc
        split at hc' <;> omega
      unfold keyword at ht
      split at ht
      · rename_i hkw
        have h1 := hkw.2
        rw [colon_take_lt (by omega)] at h1
        rw [show n - 1 = plain (s.take 100) from by omega]
        exact h1
      · omega
    · have ht : hash (s.take 100) = n := ht
      have := hash_last (s := s.take 100) (by omega)
      rw [ht, hb] at this
      exact absurd h58 this
    · right
      have ht : sign (s.take 100) = n := ht
      have := sign_last (s := s.take 100) (by omega) (by rw [ht, hb]; exact h58)
      refine ⟨by omega, ?_⟩
      intro q hq
      have h1 := this.2 q (by omega)
      rwa [byteAt_take s (by omega)] at h1
    · have ht : pattern (s.take 100) = n := ht
      have := pattern_last (s := s.take 100) (by omega)
      rw [ht, hb] at this
      exact absurd h58 this
  · exfalso
    unfold next at h
    split at h
    · cases hc : comment s with
      | error e => rw [hc] at h; cases h
      | ok m =>
        rw [hc] at h
        cases h
        unfold comment at hc
        rw [if_neg hline] at hc
        have := blockGo_last s.length s 0 0 n (Nat.le_refl _) hc
        rw [Nat.sub_zero] at this
        omega
    · split at h
      · rename_i hb
        injection h with h
        injection h with _ h
        have := allN_at cBlank s (n - 1) (by omega)
        rw [h58] at this
        exact absurd this (by decide)
      · unfold checked at h
        split at h
        · injection h with h
          have := (longest_inv op (s.take 100)).1
          rw [h] at this
          exact hk this
        · cases h

/-! ### A blank put between two pieces -/
/-- No sign of two bytes stands over the seam, right behind a name. -/
def Bnd (A R : List UInt8) : Prop := ∀ p, p + 1 = A.length → byteAt A p = 58 → colonHere (58 :: R) = true ∨ (∀ q, q + 1 = p → cW (byteAt A q) = false)
theorem Bnd.drop {A R : List UInt8} (h : Bnd A R) {n : Nat} (hn : n < A.length) : Bnd (A.drop n) R := by
  intro p hp hb
  rw [List.length_drop] at hp
  rw [byteAt_drop] at hb
  rcases h (n + p) (by omega) hb with h1 | h1
  · exact .inl h1
  · refine .inr fun q hq => ?_
    rw [byteAt_drop]
    exact h1 (n + q) (by omega)
theorem byteAt_left (A R : List UInt8) {i : Nat} (h : i < A.length) : byteAt (A ++ R) i = byteAt A i := byteAt_append_left A R h
theorem drop_last {A : List UInt8} {p : Nat} (h : p + 1 = A.length) : ∃ x, A.drop p = [x] ∧ byteAt A p = x.toNat := by
  have hlt : p < A.length := by omega
  refine ⟨A[p], ?_, ?_⟩
  · rw [List.drop_eq_getElem_cons hlt, List.drop_of_length_le (by omega)]
  · unfold byteAt
    rw [List.getD_eq_getElem?_getD, List.getElem?_eq_getElem hlt]
    rfl
theorem colonHere_take (R : List UInt8) {j : Nat} (hj : 1 ≤ j) : colonHere (58 :: R.take j) = colonHere (58 :: R) := by
  obtain ⟨j, rfl⟩ : ∃ i, j = i + 1 := ⟨j - 1, by omega⟩
  cases R with
  | nil => rfl
  | cons c R => rfl
theorem Bnd.good {A R : List UInt8} (h : Bnd A R) (hl : A.length < 100) : Good ((A ++ R).take 100) A.length := by
  intro p hp hb
  rw [byteAt_take _ (by omega), byteAt_left A R (by omega)] at hb
  rcases h p hp hb with h1 | h1
  · left
    unfold colon
    obtain ⟨x, hx, hx'⟩ := drop_last hp
    have hx58 : x = 58 := UInt8.toNat_inj.1 (by rw [← hx', hb]; rfl)
    rw [drop_take_comm, List.drop_append_of_le_length (by omega), hx, hx58]
    obtain ⟨j, hj⟩ : ∃ j, 100 - p = j + 1 := ⟨99 - p, by omega⟩
    rw [hj]
    show colonHere (58 :: R.take j) = true
    rw [colonHere_take R (by omega)]
    exact h1
  · right
    intro q hq
    rw [byteAt_take _ (by omega), byteAt_left A R (by omega)]
    exact h1 q hq
theorem comment_two {s : List UInt8} {n : Nat} (h : comment s = .ok n) : 2 ≤ n := by
  unfold comment at h
  split at h
  · rename_i hp
    obtain ⟨r, rfl⟩ := pre2 hp
    injection h with h
    have h1 := lineGo_len r 2
    have h2 : lineGo (47 :: 47 :: r) 0 = lineGo r 2 := rfl
    omega
  · have := blockGo_len s.length s 0 0 n (Nat.le_refl _) h
    omega
theorem check_blank {A R G : List UInt8} {k n : Nat} (hk : k ≠ 0) (hn : n ≤ A.length) (h : check (A ++ R) k n = 0) : check (A ++ 32 :: G) k n = 0 := by
  have ht : (A ++ 32 :: G).take n = (A ++ R).take n := by
    rw [List.take_append_of_le_length hn, List.take_append_of_le_length hn]
  by_cases hlt : n < A.length
  · rw [check_same (s := A ++ R) (s' := A ++ 32 :: G) (m := A.length) (by rw [List.take_append_of_le_length (Nat.le_refl _), List.take_append_of_le_length (Nat.le_refl _)]) hlt]
    exact h
  · obtain rfl : n = A.length := by omega
    have hb : byteAt (A ++ 32 :: G) A.length = 32 := by
      unfold byteAt
      rw [List.getD_eq_getElem?_getD, List.getElem?_append_right (Nat.le_refl _), Nat.sub_self]
      rfl
    match k, hk, h with
    | 0, hk, _ => exact absurd rfl hk
    | 1, _, h => exact h
    | 2, _, h =>
      have h' : (if valB ((A ++ R).take A.length) = false ∨ 100 ≤ A.length ∨ cL (byteAt (A ++ R) A.length) = true ∨ (byteAt (A ++ R) A.length ≠ 0 ∧ cTail (byteAt (A ++ R) A.length) = true) then (11 : Int) else 0) = 0 := h
      show (if valB ((A ++ 32 :: G).take A.length) = false ∨ 100 ≤ A.length ∨ cL (byteAt (A ++ 32 :: G) A.length) = true ∨ (byteAt (A ++ 32 :: G) A.length ≠ 0 ∧ cTail (byteAt (A ++ 32 :: G) A.length) = true) then (11 : Int) else 0) = 0
      rw [hb, ht]
      split at h'
      · omega
      · rename_i hc
        rw [if_neg]
        intro hc'
        apply hc
        rcases hc' with h1 | h1 | h1 | h1
        · exact .inl h1
        · exact .inr (.inl h1)
        · exact absurd h1 (by decide)
        · exact absurd h1.2 (by decide)
    | 3, _, h => exact h
    | 4, _, _ =>
      show (if cW (byteAt (A ++ 32 :: G) A.length) = true then (12 : Int) else 0) = 0
      rw [hb, if_neg (by decide)]
    | 5, _, _ => rfl
    | k + 6, _, h => exact h
theorem next_keep {op : Bool} {A R G : List UInt8} {k n : Nat} (hA : A ≠ []) (h : next op (A ++ R) = .ok (k, n)) (hn : n ≤ A.length) (hb : Bnd A R) (h7 : ¬ (k = 7 ∧ n = A.length)) (hline : ¬ (pre [47, 47] (A ++ R) = true ∧ n = A.length)) : next op (A ++ 32 :: G) = .ok (k, n) := by
  have hAl : 0 < A.length := List.length_pos_iff.2 hA
  have ht : (A ++ R).take A.length = (A ++ 32 :: G).take A.length := by
    rw [List.take_append_of_le_length (Nat.le_refl _), List.take_append_of_le_length (Nat.le_refl _)]
  unfold next at h ⊢
  by_cases hp : (pre [47, 47] (A ++ R) || pre [47, 42] (A ++ R)) = true
  · rw [if_pos hp] at h
    cases hc : comment (A ++ R) with
    | error e => rw [hc] at h; cases h
    | ok m =>
      rw [hc] at h
      cases h
      have h2 := comment_two hc
      rw [pre_same ht (by show 2 ≤ A.length; omega), pre_same ht (by show 2 ≤ A.length; omega), if_pos hp]
      have hc' : comment (A ++ 32 :: G) = .ok n := by
        unfold comment at hc ⊢
        rw [pre_same ht (by show 2 ≤ A.length; omega)]
        by_cases hl : pre [47, 47] (A ++ R) = true
        · rw [if_pos hl] at hc ⊢
          injection hc with hc
          have hlt : n < A.length := by
            rcases Nat.lt_or_ge n A.length with h1 | h1
            · exact h1
            · exact absurd ⟨hl, by omega⟩ hline
          rw [lineGo_local (A ++ R) (A ++ 32 :: G) A.length 0 ht (by omega) (by rw [List.length_append]; omega), hc]
        · rw [if_neg hl] at hc ⊢
          exact blockGo_local _ (A ++ R) (A ++ 32 :: G) A.length 0 0 n (Nat.le_refl _) ht hc (by omega)
      rw [hc']
      rfl
  · rw [if_neg hp] at h
    have hstop : ∀ c : UInt8, c ≠ 32 → pre [47, c] (A ++ R) = false → pre [47, c] (A ++ 32 :: G) = false := by
      intro c hc h0
      rw [pre2_stop 47 c A 32 G (fun e => hc e.symm) (by decide)]
      cases hh : pre [47, c] A with
      | false => rfl
      | true =>
        have h1 : pre [47, c] (A ++ R) = true := by
          unfold pre at hh ⊢
          rw [List.isPrefixOf_iff_prefix] at hh ⊢
          exact hh.trans (List.prefix_append _ _)
        rw [h0] at h1
        cases h1
    have hp1 : pre [47, 47] (A ++ R) = false := by
      cases hh : pre [47, 47] (A ++ R) with
      | false => rfl
      | true => rw [hh] at hp; exact absurd rfl hp
    have hp2 : pre [47, 42] (A ++ R) = false := by
      cases hh : pre [47, 42] (A ++ R) with
      | false => rfl
      | true => rw [hh, Bool.or_true] at hp; exact absurd rfl hp
    rw [hstop 47 (by decide) hp1, hstop 42 (by decide) hp2, if_neg (by simp), byteAt_same ht hAl]
    by_cases hbl : cBlank (byteAt (A ++ R) 0) = true
    · rw [if_pos hbl] at h ⊢
      injection h with h
      injection h with hk h
      have hlt : n < A.length := by
        rcases Nat.lt_or_ge n A.length with h1 | h1
        · exact h1
        · exact absurd ⟨hk.symm, by omega⟩ h7
      rw [allN_same cBlank ht (by omega), h, hk]
    · rw [if_neg hbl] at h ⊢
      unfold checked at h ⊢
      split at h
      · rename_i hc
        injection h with h
        rw [h] at hc
        have hk0 : k ≠ 0 := by rintro rfl; exact check0 _ _ hc
        have hl : longest op ((A ++ 32 :: G).take 100) = (k, n) := by
          rcases Nat.lt_or_ge A.length 100 with h1 | h1
          · have hg := hb.good h1
            have hl := longest_take h hAl hn hg
            rw [List.take_take, show min A.length 100 = A.length from by omega, List.take_append_of_le_length (Nat.le_refl _), List.take_length] at hl
            have e : (A ++ 32 :: G).take 100 = A ++ 32 :: (G.take (99 - A.length)) := by
              rw [List.take_append, List.take_of_length_le (by omega)]
              obtain ⟨j, hj⟩ : ∃ j, 100 - A.length = j + 1 := ⟨99 - A.length, by omega⟩
              rw [hj, List.take_succ_cons, show 99 - A.length = j from by omega]
            rw [e, longest_stop op A 32 _ (by decide)]
            exact hl
          · rw [take_same ht h1]
            exact h
        rw [hl]
        rw [if_pos (check_blank hk0 hn hc)]
      · cases h
def total (l : List Piece) : Nat := (l.map (·.len)).sum
/-- A blank, and what follows it, in the place of what stands behind some pieces. -/
theorem tk_keep : ∀ (l1 : List Piece) (A R G : List UInt8) (f at_ toks : Nat) (op : Bool) (l : List Piece), piecesGo f (A ++ R) at_ toks op = .ok (l1 ++ l) → total l1 = A.length → Bnd A R →
    (∀ p, l1.getLast? = some p → p.kind = 8 → 2 ≤ p.len → byteAt A (A.length - p.len + 1) ≠ 47) → (∀ toks op, tk R toks op = tk (32 :: G) toks op) → tk (A ++ R) toks op = tk (A ++ 32 :: G) toks op
  | [], A, R, G, f, at_, toks, op, l, h, ht, hb, hl, hR => by
    have hA : A = [] := List.length_eq_zero_iff.1 ht.symm
    subst hA
    exact hR toks op
  | p :: l1, A, R, G, f, at_, toks, op, l, h, ht, hb, hl, hR => by
    have htot : total (p :: l1) = p.len + total l1 := by simp [total]
    have hne : A ++ R ≠ [] := by
      intro e
      rw [e] at h
      have h' : (Except.ok [] : Except (Nat × Int) (List Piece)) = .ok (p :: l1 ++ l) := by cases f <;> exact h
      cases h'
    obtain ⟨x, s, hxs⟩ := List.exists_cons_of_ne_nil hne
    cases f with
    | zero => rw [hxs] at h; cases h
    | succ f =>
      rw [hxs, go_step] at h
      cases hn : next op (x :: s) with
      | error e => rw [hn] at h; cases h
      | ok q =>
        obtain ⟨k, n⟩ := q
        rw [hn] at h
        simp only at h
        have hlen := next_len (by simp) hn
        split at h
        · cases h
        · rename_i hcnt
          cases hr : piecesGo f ((x :: s).drop n) (at_ + n) (if k ≤ 6 then toks + 1 else toks) (if k ≤ 6 then operand k ((x :: s).take n) else op) with
          | error e => rw [hr] at h; cases h
          | ok l' =>
            rw [hr] at h
            simp only [List.cons_append, Except.ok.injEq, List.cons.injEq] at h
            obtain ⟨rfl, rfl⟩ := h
            rw [← hxs] at hn hr hlen
            have htot' : n + total l1 = A.length := by rw [← ht, htot]
            have hnA : n ≤ A.length := by omega
            have hA : A ≠ [] := by
              intro e
              rw [e] at hnA
              have := hlen.1
              simp at hnA
              omega
            by_cases h7 : k = 7 ∧ n = A.length
            · obtain ⟨rfl, hnl⟩ := h7
              have hbl : ∀ y ∈ A, cBlank y.toNat = true := by
                intro y hy
                obtain ⟨i, hi, rfl⟩ := List.getElem_of_mem hy
                have h1 : allN cBlank (A ++ R) = n := by
                  unfold next at hn
                  split at hn
                  · cases hc : comment (A ++ R) with
                    | error e => rw [hc] at hn; cases hn
                    | ok m => rw [hc] at hn; cases hn
                  · split at hn
                    · injection hn with hn
                      injection hn with _ hn
                    · unfold checked at hn
                      split at hn
                      · injection hn with hn
                        have := (longest_inv op ((A ++ R).take 100)).1
                        rw [hn] at this
                        simp at this
                      · cases hn
                have h2 := allN_at cBlank (A ++ R) i (by omega)
                rw [byteAt_left A R hi] at h2
                unfold byteAt at h2
                rw [List.getD_eq_getElem?_getD, List.getElem?_eq_getElem hi] at h2
                exact h2
              rw [tk_blanks A R hbl, tk_blanks A (32 :: G) hbl]
              exact hR toks op
            · have hline : ¬ (pre [47, 47] (A ++ R) = true ∧ n = A.length) := by
                rintro ⟨hp, hnl⟩
                have hl1 : l1 = [] := by
                  cases l1 with
                  | nil => rfl
                  | cons q l1 =>
                    have hch := go_chain _ _ _ _ _ _ hr
                    have := (chain_ge _ _ _ hch q (by simp)).2.2
                    simp [total] at htot'
                    omega
                subst hl1
                have hk8 : k = 8 ∧ 2 ≤ n := by
                  unfold next at hn
                  rw [hp, Bool.true_or, if_pos rfl] at hn
                  cases hc : comment (A ++ R) with
                  | error e => rw [hc] at hn; cases hn
                  | ok m =>
                    rw [hc] at hn
                    cases hn
                    exact ⟨rfl, comment_two hc⟩
                have h1 := hl ⟨k, at_, n⟩ rfl hk8.1 hk8.2
                apply h1
                show byteAt A (A.length - n + 1) = 47
                rw [show A.length - n + 1 = 1 from by omega, ← byteAt_left A R (by omega)]
                obtain ⟨r, hr⟩ := pre2 hp
                rw [hr]
                rfl
              have hn' := next_keep (G := G) hA hn hnA hb h7 hline
              rw [tk_unfold hne, hn, tk_unfold (by simp) (s := A ++ 32 :: G), hn']
              dsimp only
              rw [List.take_append_of_le_length hnA, List.take_append_of_le_length hnA, List.drop_append_of_le_length hnA, List.drop_append_of_le_length hnA]
              rw [List.take_append_of_le_length hnA, List.drop_append_of_le_length hnA] at hr
              have hrest : ∀ toks' op', piecesGo f (A.drop n ++ R) (at_ + n) toks' op' = .ok (l1 ++ l) → tk (A.drop n ++ R) toks' op' = tk (A.drop n ++ 32 :: G) toks' op' := by
                intro toks' op' hr'
                by_cases hnl : n < A.length
                · refine tk_keep l1 (A.drop n) R G f (at_ + n) toks' op' l hr' (by rw [List.length_drop]; omega) (hb.drop hnl) ?_ hR
                  intro q hq hq8 hq2
                  have hmem : q ∈ l1 := List.mem_of_getLast? hq
                  have hle : q.len ≤ total l1 := by
                    have : ∀ (l : List Piece), q ∈ l → q.len ≤ total l := by
                      intro l
                      induction l with
                      | nil => intro h; cases h
                      | cons y l ih =>
                        intro h
                        have : total (y :: l) = y.len + total l := by simp [total]
                        rcases List.mem_cons.1 h with rfl | h
                        · omega
                        · have := ih h; omega
                    exact this l1 hmem
                  have h1 := hl q (by
                    cases l1 with
                    | nil => simp at hq
                    | cons y l1 => rw [List.getLast?_cons_cons]; exact hq) hq8 hq2
                  rw [byteAt_drop, List.length_drop, show n + (A.length - n - q.len + 1) = A.length - q.len + 1 from by omega]
                  exact h1
                · have hd : A.drop n = [] := List.drop_of_length_le (by omega)
                  rw [hd]
                  exact hR toks' op'
              by_cases hk : k ≤ 6
              · rw [if_pos hk, if_pos hk]
                rw [if_pos hk, if_pos hk] at hr
                rw [hrest _ _ hr]
              · rw [if_neg hk, if_neg hk]
                rw [if_neg hk, if_neg hk] at hr
                exact hrest _ _ hr
def tokK (p : Piece) : Bool := decide (p.kind ≤ 6)
theorem tk_of_go : ∀ (f : Nat) (s : List UInt8) (at_ toks : Nat) (op : Bool) (l : List Piece), piecesGo f s at_ toks op = .ok l → tk s toks op = some ((l.filter tokK).map (fun p => (p.kind, (s.drop (p.at_ - at_)).take p.len)))
  | f, [], at_, toks, op, l, h => by
    have h' : (Except.ok [] : Except (Nat × Int) (List Piece)) = .ok l := by cases f <;> exact h
    cases h'
    rfl
  | 0, x :: s, at_, toks, op, l, h => by cases h
  | f + 1, x :: s, at_, toks, op, l, h => by
    rw [go_step] at h
    cases hn : next op (x :: s) with
    | error e => rw [hn] at h; cases h
    | ok q =>
      obtain ⟨k, n⟩ := q
      rw [hn] at h
      simp only at h
      have hlen := next_len (by simp) hn
      split at h
      · cases h
      · rename_i hcnt
        cases hr : piecesGo f ((x :: s).drop n) (at_ + n) (if k ≤ 6 then toks + 1 else toks) (if k ≤ 6 then operand k ((x :: s).take n) else op) with
        | error e => rw [hr] at h; cases h
        | ok l' =>
          rw [hr] at h
          cases h
          have ih := tk_of_go f _ _ _ _ _ hr
          have hch := go_chain _ _ _ _ _ _ hr
          have hmap : (l'.filter tokK).map (fun p => (p.kind, (((x :: s).drop n).drop (p.at_ - (at_ + n))).take p.len)) = (l'.filter tokK).map (fun p => (p.kind, ((x :: s).drop (p.at_ - at_)).take p.len)) := by
            refine List.map_congr_left fun p hp => ?_
            have := (chain_ge _ _ _ hch p (List.mem_filter.1 hp).1).1
            rw [List.drop_drop, show n + (p.at_ - (at_ + n)) = p.at_ - at_ from by omega]
          rw [hmap] at ih
          rw [tk_unfold (by simp), hn]
          dsimp only
          by_cases hk : k ≤ 6
          · have hf : tokK (⟨k, at_, n⟩ : Piece) = true := decide_eq_true hk
            rw [if_pos hk, if_pos hk] at ih
            rw [if_pos hk, if_neg (fun h => hcnt ⟨hk, h⟩), ih, List.filter_cons_of_pos hf, List.map_cons]
            show some ((k, (x :: s).take n) :: _) = some ((k, ((x :: s).drop (at_ - at_)).take n) :: _)
            rw [Nat.sub_self, List.drop_zero]
          · have hf : ¬ tokK (⟨k, at_, n⟩ : Piece) = true := by unfold tokK; simpa using hk
            rw [if_neg hk, if_neg hk] at ih
            rw [if_neg hk, ih, List.filter_cons_of_neg hf]
theorem go_of_tk : ∀ (f : Nat) (s : List UInt8) (at_ toks : Nat) (op : Bool) (ts : List (Nat × List UInt8)), s.length ≤ f → tk s toks op = some ts → ∃ l, piecesGo f s at_ toks op = .ok l
  | f, [], at_, toks, op, ts, _, h => ⟨[], by cases f <;> rfl⟩
  | 0, x :: s, at_, toks, op, ts, hf, h => by simp at hf
  | f + 1, x :: s, at_, toks, op, ts, hf, h => by
    rw [tk_unfold (by simp)] at h
    rw [go_step]
    cases hn : next op (x :: s) with
    | error e => rw [hn] at h; cases h
    | ok q =>
      obtain ⟨k, n⟩ := q
      rw [hn] at h
      have hlen := next_len (by simp) hn
      have hd : ((x :: s).drop n).length ≤ f := by
        rw [List.length_drop]
        simp only [List.length_cons] at hf ⊢
        omega
      dsimp only at h ⊢
      by_cases hk : k ≤ 6
      · rw [if_pos hk] at h
        split at h
        · cases h
        · rename_i hcnt
          cases hr : tk ((x :: s).drop n) (toks + 1) (operand k ((x :: s).take n)) with
          | none => rw [hr] at h; cases h
          | some l =>
            obtain ⟨l', hl'⟩ := go_of_tk f _ (at_ + n) _ _ _ hd hr
            rw [if_neg (fun h => hcnt h.2), if_pos hk, if_pos hk, hl']
            exact ⟨_, rfl⟩
      · rw [if_neg hk] at h
        obtain ⟨l', hl'⟩ := go_of_tk f _ (at_ + n) _ _ _ hd h
        rw [if_neg (fun h => hk h.1), if_neg hk, if_neg hk, hl']
        exact ⟨_, rfl⟩
end Go.Proofs.YtdaccmjfefknoaaDoor.Lx
