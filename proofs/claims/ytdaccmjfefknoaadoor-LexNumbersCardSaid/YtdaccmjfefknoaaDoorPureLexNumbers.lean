/- LexNumbers: Digits is as specified, and Number and Kind read it back. -/
import Derived.Test.YtdaccmjfefknoaaDoorPureLexKinds
set_option linter.unusedVariables false
set_option linter.unusedSimpArgs false
namespace Go.Proofs.YtdaccmjfefknoaaDoor.Lx
open Go

theorem first_b : ∀ c : Nat, c < 58 → (cD c || c == 45) = true → (!cL c && (!cB c && (!cBlank c && (c != 47 && (c != 35 && (c != 63 && (c != 58 && (c != 61 && (c != 60 && (c != 62 && (!cD c || (!cSign c && c != 45)))))))))))) = true := by decide
theorem first_facts (c : Nat) (h : c < 58) (h' : (cD c || c == 45) = true) : cL c = false ∧ cB c = false ∧ cBlank c = false ∧ c ≠ 47 ∧ c ≠ 35 ∧ c ≠ 63 ∧ c ≠ 58 ∧ c ≠ 61 ∧ c ≠ 60 ∧ c ≠ 62 ∧ (cD c = true → cSign c = false ∧ c ≠ 45) := by
  have := first_b c h h'
  simp only [Bool.and_eq_true, Bool.or_eq_true, Bool.not_eq_true', bne_iff_ne] at this
  obtain ⟨f1, f2, f3, f4, f5, f6, f7, f8, f9, f10, f11⟩ := this
  refine ⟨f1, f2, f3, f4, f5, f6, f7, f8, f9, f10, fun hd => ?_⟩
  rcases f11 with h | h
  · rw [h] at hd; cases hd
  · exact h
theorem allN_all (T : Nat → Bool) : ∀ l : List UInt8, (∀ c ∈ l, T c.toNat = true) → allN T l = l.length
  | [], _ => rfl
  | c :: l, h => by
    rw [allN, if_pos (h c (List.mem_cons_self ..)), allN_all T l (fun x hx => h x (List.mem_cons_of_mem _ hx))]
    rfl
theorem canon_dec (u : Nat) : canon (Lib.decDigits u) := by
  obtain ⟨h1, h2, h3, h4⟩ := decDigits_digits u u (Nat.le_refl _)
  refine ⟨h2, h1, ?_⟩
  rcases h4 with h | rfl
  · exact .inl h
  · exact .inr (by simp [Lib.decDigits])
theorem dec_len (u : Nat) (h : u ≤ 9223372036854775808) : (Lib.decDigits u).length ≤ 19 := by
  obtain ⟨h1, h2, h3, h4⟩ := decDigits_digits u u (Nat.le_refl _)
  rcases h4 with h5 | rfl
  · have := (dec_spell _ (Lib.decDigits u) rfl h2 h1 (.inl h5)).2 h5
    rw [h3] at this
    rcases Nat.lt_or_ge 19 (Lib.decDigits u).length with h6 | h6
    · have h7 : 10 ^ 19 ≤ 10 ^ ((Lib.decDigits u).length - 1) := Nat.pow_le_pow_right (by decide) (by omega)
      have h8 : (10 : Nat) ^ 19 = 10000000000000000000 := by decide
      omega
    · exact h6
  · simp [Lib.decDigits]
theorem itoa_val (n : Int) (h0 : -9223372036854775808 ≤ n) (h1 : n ≤ 9223372036854775807) : valB (Lib.itoa n) = true ∧ valN (Lib.itoa n) = n ∧ (Lib.itoa n).length ≤ 20 := by
  have sp : ∀ u, spell 0 (Lib.decDigits u) = u := fun u => (decDigits_digits u u (Nat.le_refl _)).2.2.1
  unfold Lib.itoa
  by_cases hn : n < 0
  · rw [if_pos hn]
    have hl := dec_len n.natAbs (by omega)
    obtain ⟨a, b⟩ := val_neg (canon_dec n.natAbs) (by rw [sp]; omega) (by rw [sp]; omega)
    rw [sp] at b
    exact ⟨a, by rw [b]; omega, by rw [List.length_cons]; omega⟩
  · rw [if_neg hn]
    have hl := dec_len n.toNat (by omega)
    obtain ⟨a, b⟩ := val_pos (canon_dec n.toNat) (by rw [sp]; omega)
    rw [sp] at b
    exact ⟨a, by rw [b]; omega, by omega⟩
theorem ne8 {c : UInt8} {b : UInt8} (h : c.toNat ≠ b.toNat) : c ≠ b := fun e => h (by rw [e])
theorem longest_num {s : List UInt8} (h : (canon s) ∨ ∃ d, s = 45 :: d ∧ canon d) : longest false s = (2, s.length) ∧ pre [47, 47] s = false ∧ pre [47, 42] s = false ∧ cBlank (byteAt s 0) = false := by
  have key : ∃ c t, s = c :: t ∧ c.toNat < 58 ∧ (cD c.toNat || c.toNat == 45) = true ∧ integer false s = s.length ∧ (cD c.toNat = true ∨ 2 ≤ s.length) := by
    rcases h with ⟨h1, h2, h3⟩ | ⟨d, rfl, h1, h2, h3⟩
    · obtain ⟨c, t, rfl, h4, h5⟩ := head_not h2 h1
      have hc : cD c.toNat = true := h2 c (List.mem_cons_self ..)
      refine ⟨c, t, rfl, by omega, by rw [hc]; rfl, ?_, .inl hc⟩
      have hm : minus false (c :: t) = 0 := by
        have : c ≠ 45 := ne8 (show c.toNat ≠ 45 by omega)
        unfold minus pre
        rw [if_neg]
        simp [List.isPrefixOf, Ne.symm this]
      have ha := allN_all cD (c :: t) h2
      unfold integer
      rw [hm, List.drop_zero, ha, if_pos (by simp)]
      omega
    · have hm : minus false (45 :: d) = 1 := by
        unfold minus pre
        rw [if_pos (by simp [List.isPrefixOf])]
      have ha := allN_all cD d h2
      have hd : 0 < d.length := List.length_pos_iff.2 h1
      refine ⟨45, d, rfl, by decide, by decide, ?_, .inr (by rw [List.length_cons]; omega)⟩
      unfold integer
      rw [hm, List.drop_one, List.tail_cons, ha, if_pos hd, List.length_cons]
      omega
  obtain ⟨c, t, rfl, hc, hd, hi, h2⟩ := key
  obtain ⟨f1, f2, f3, f4, f5, f6, f7, f8, f9, f10, f11⟩ := first_facts c.toNat hc hd
  have hp : plain (c :: t) = 0 := by rw [plain_cons, f1, f2]; rfl
  have hn : name (c :: t) = 0 := by unfold name; rw [hp, if_neg (by decide)]
  have hk : keyword (c :: t) = 0 := by unfold keyword; rw [hp, if_neg (by simp)]
  have ne : ∀ b : UInt8, c.toNat ≠ b.toNat → (b == c) = false := fun b h => beq_eq_false_iff_ne.2 (fun e => h (by rw [e]))
  have hh : hash (c :: t) = 0 := by
    unfold hash pre
    simp [List.isPrefixOf, ne 35 f5]
  have hs2 : sign2.any (fun p => pre p (c :: t)) = false := by
    unfold sign2 pre
    simp [List.isPrefixOf, ne 58 f7, ne 61 f8, ne 60 f9, ne 62 f10]
  have hs : sign (c :: t) ≤ 1 ∧ (cD c.toNat = true → sign (c :: t) = 0) := by
    unfold sign
    rw [hs2, if_neg (by decide)]
    refine ⟨by dsimp only; split <;> omega, fun h => ?_⟩
    dsimp only
    rw [(f11 h).1, if_neg (by decide)]
  have hq : pattern (c :: t) = 0 := by rw [pattern_cons, if_neg f6]
  have hlen : 0 < (c :: t).length := by simp
  have hsl : ¬ (c :: t).length < sign (c :: t) := by
    rcases h2 with h | h
    · rw [hs.2 h]; omega
    · have := hs.1; omega
  refine ⟨?_, by unfold pre; simp [List.isPrefixOf, ne 47 f4], by unfold pre; simp [List.isPrefixOf, ne 47 f4], f3⟩
  unfold longest
  simp only [List.foldl_cons, List.foldl_nil, turn, takes, pick6, hp, hn, hk, hh, hq, hi, Nat.lt_irrefl, decide_false, Bool.false_and, Bool.false_eq_true, if_false, hlen, if_true, hsl, Nat.not_lt_zero]
theorem next_num {s : List UInt8} (h : valB s = true) (hl : s.length ≤ 20) : next false s = .ok (2, s.length) := by
  have hc : (canon s) ∨ ∃ d, s = 45 :: d ∧ canon d := by
    rcases valB_inv h with ⟨a, _⟩ | ⟨d, e, a, _⟩
    · exact .inl a
    · exact .inr ⟨d, e, a⟩
  obtain ⟨h1, h2, h3, h4⟩ := longest_num hc
  have hb : byteAt s s.length = 0 := byteAt_end (Nat.le_refl _)
  have h0 : check s 2 s.length = 0 := by
    show (if valB (s.take s.length) = false ∨ 100 ≤ s.length ∨ cL (byteAt s s.length) = true ∨ (byteAt s s.length ≠ 0 ∧ cTail (byteAt s s.length) = true) then (11 : Int) else 0) = 0
    rw [List.take_length, h, hb, if_neg]
    rintro (h | h | h | h)
    · cases h
    · omega
    · exact absurd h (by decide)
    · exact h.1 rfl
  unfold next
  rw [h2, h3, h4, if_neg (by decide), if_neg (by decide), List.take_of_length_le (by omega), h1]
  unfold checked
  rw [if_pos h0]
end Go.Proofs.YtdaccmjfefknoaaDoor.Lx
namespace Go.Proofs.YtdaccmjfefknoaaDoor.Pure
open Go.RowKit Go.Proofs.YtdaccmjfefknoaaDoor.PLb Go.Proofs.YtdaccmjfefknoaaDoorW.PrintWords Go.Proofs.YtdaccmjfefknoaaDoorW.PrintLast

theorem LexNumbers : skerrylaw01_LexNumbers.Pure := by
  intro a0 ha0
  obtain ⟨K, hKb⟩ : ∃ K, 1000000 ≤ K := ⟨1000000, Nat.le_refl _⟩
  have hb : -9223372036854775808 ≤ a0 ∧ a0 ≤ 9223372036854775807 := by
    have := ha0
    simp [Lit.wf, IntKind.min, IntKind.max, IntKind.signed, IntKind.bits] at this
    omega
  obtain ⟨v1, v2, v3⟩ := Lx.itoa_val a0 hb.1 hb.2
  obtain ⟨u, hu⟩ : ∃ u : ByteArray, u = ⟨(Lib.itoa a0).toArray⟩ := ⟨_, rfl⟩
  have hul : u.data.toList = Lib.itoa a0 := by rw [hu]
  have hus : u.size ≤ 20 := by rw [← size_list, hul]; exact v3
  rw [← hul] at v1 v2 v3
  obtain ⟨n1, n2, e1, _, e3⟩ := number_f u (by omega)
  obtain ⟨rfl, rfl⟩ := e3 v1
  have hn := Lx.next_num v1 v3
  rw [size_list] at hn
  have h0 : u.size ≠ 0 := fun h => by
    have : u.data.toList = [] := List.length_eq_zero_iff.1 (by rw [size_list]; exact h)
    rw [this] at v1
    exact absurd v1 (by decide)
  have hk : kindOf u = 2 := by
    unfold kindOf
    rw [one_of (by omega) h0 hn (by omega)]
    rfl
  refine ⟨K, ?_⟩
  unfold skerrylaw01_LexNumbers.f lex_Digits.f strconv_Itoa.f skerryref01_Digits.f
  rw [sane_k K (by omega), if_pos hb, ← hu]
  simp only [Option.bind_some, if_true]
  rw [e1]
  simp only [Option.bind_some]
  rw [v2, if_pos rfl, if_pos trivial, lkind_f u K (by omega), hk]
  rfl
end Go.Proofs.YtdaccmjfefknoaaDoor.Pure
