/- LexKinds and LexNumbers: Kind, IsName, IsPlain, Split, Number and Digits are as specified. -/
import Derived.Test.YtdaccmjfefknoaaDoorPScanB
import Derived.Test.YtdaccmjfefknoaaDoorPSaneB
import Derived.Test.YtdaccmjfefknoaaDoorPLbx11
set_option linter.unusedVariables false
set_option linter.unusedSimpArgs false
namespace Go.Proofs.YtdaccmjfefknoaaDoor.Pure
open Go.RowKit Go.Proofs.YtdaccmjfefknoaaDoor.PLb Go.Proofs.YtdaccmjfefknoaaDoorW.PrintWords Go.Proofs.YtdaccmjfefknoaaDoorW.PrintLast

def kindOf (u : ByteArray) : Int := match one u with | some p => (p.kind : Int) | none => 0
theorem one_of {u : ByteArray} {kd : Nat} (hs : u.size ≤ 20000) (h0 : u.size ≠ 0) (hn : Lx.next false u.data.toList = .ok (kd, u.size)) (hk : kd ≤ 6) : one u = some ⟨kd, 0, u.size⟩ := by
  have hp : Lx.pieces u.data.toList = .ok [⟨kd, 0, u.size⟩] := by
    unfold Lx.pieces
    rw [if_neg (by rw [size_list]; omega)]
    cases hl : u.data.toList with
    | nil =>
      have := congrArg List.length hl
      rw [size_list] at this
      exact absurd this h0
    | cons x t =>
      have hlen : (x :: t).length = u.size := by rw [← hl, size_list]
      rw [hl] at hn
      rw [hlen]
      obtain ⟨f, hf⟩ : ∃ f, u.size = f + 1 := ⟨u.size - 1, by omega⟩
      rw [hf, Lx.go_step, hn]
      dsimp only
      rw [if_neg (by omega), List.drop_of_length_le (by omega)]
      cases f <;> simp [Lx.piecesGo, hf]
  unfold one
  rw [hp]
  have : ([⟨kd, 0, u.size⟩] : List Lx.Piece).filter isTok = [⟨kd, 0, u.size⟩] := by
    rw [List.filter_cons_of_pos (by unfold isTok; exact decide_eq_true hk)]
    rfl
  simp only [this, if_true]
theorem one_size {u : ByteArray} {p : Lx.Piece} (h : one u = some p) : u.size ≠ 0 ∧ u.size ≤ 20000 := by
  obtain ⟨hn, hk, ha, hl, l, hp, hm⟩ := one_next h
  obtain ⟨hc, hs⟩ := Lx.pieces_chain hp
  rw [size_list] at hs
  have := (Lx.chain_ge _ _ _ hc p hm).2.2
  exact ⟨by omega, hs⟩
theorem rkind_f (u : ByteArray) (k : Nat) (hk : 10 < k) : skerryref01_Kind.f k u = some (kindOf u) := by
  obtain ⟨k, rfl⟩ : ∃ j, k = j + 2 := ⟨k - 2, by omega⟩
  have none_of : one u = none → kindOf u = 0 := fun h => by unfold kindOf; rw [h]
  have absent : (u.size = 0 ∨ 20000 < u.size) → one u = none := fun h => by
    cases ho : one u with
    | none => rfl
    | some p => have := one_size ho; omega
  unfold skerryref01_Kind.f
  by_cases h0 : u.size = 0
  · rw [if_pos (by omega), skerryref01_Kind.j0, if_pos rfl, none_of (absent (.inl h0))]
  rw [if_neg (by omega)]
  by_cases hb : 20000 < u.size
  · rw [decide_eq_true (by omega), skerryref01_Kind.j0, if_pos rfl, none_of (absent (.inr hb))]
  rw [decide_eq_false (by omega), skerryref01_Kind.j0, if_neg (by decide)]
  have hpf : ∀ (res : Except Int (Nat × Nat)), Lx.next false u.data.toList = res → ∀ A B C D, Ref.cutK res = A → Ref.cutA 0 res = B → Ref.cutN res = C → Ref.cutE res = D → skerryref01_piece.f u 0 false = some (A, B, C, D) := fun res hr A B C D e1 e2 e3 e4 => by
    subst e1 e2 e3 e4
    unfold skerryref01_piece.f
    rw [if_pos ⟨by omega, by omega, by omega⟩]
    simp only [Int.toNat_zero, List.drop_zero, hr]
  have hne : u.data.toList ≠ [] := fun h => h0 (by rw [← size_list, h]; rfl)
  cases hn : Lx.next false u.data.toList with
  | error e =>
    have he := Lx.next_err hn
    have h1 : one u = none := by
      cases ho : one u with
      | none => rfl
      | some p => have := (one_next ho).1; rw [hn] at this; cases this
    rw [hpf _ hn 0 0 0 e rfl rfl rfl rfl, Option.bind_some]
    rw [if_neg he, skerryref01_Kind.j1, if_pos rfl, none_of h1]
  | ok r =>
    obtain ⟨kd, n⟩ := r
    rw [hpf _ hn kd 0 n 0 rfl rfl rfl rfl, Option.bind_some]
    rw [if_pos rfl]
    by_cases hsz : n = u.size
    · rw [if_pos (by show (n : Int) = (u.size : Int); omega), skerryref01_Kind.j1]
      by_cases h6 : kd ≤ 6
      · rw [decide_eq_false (by show ¬ ((kd : Int) > 6); omega), if_neg (by decide)]
        subst hsz
        unfold kindOf
        rw [one_of (by omega) h0 hn h6]
      · rw [decide_eq_true (by show (kd : Int) > 6; omega), if_pos rfl, none_of]
        cases ho : one u with
        | none => rfl
        | some p =>
          have h1 := (one_next ho).1
          have h2 := (one_next ho).2.1
          rw [hn] at h1
          injection h1 with h1
          injection h1 with h1 _
          omega
    · rw [if_neg (by show ¬ ((n : Int) = (u.size : Int)); omega), skerryref01_Kind.j1, if_pos rfl, none_of]
      cases ho : one u with
      | none => rfl
      | some p =>
        have h1 := (one_next ho).1
        rw [hn] at h1
        injection h1 with h1
        injection h1 with _ h1
        exact absurd h1 hsz
theorem lkind_f (u : ByteArray) (k : Nat) (hk : 20000 < k) : lex_Kind.f k u = some (kindOf u) := kind_f u k hk
theorem index_lt (c : UInt8) : ∀ (l : List UInt8), Lib.index l [c] ≠ -1 → Lib.index l [c] < l.length
  | [], h => absurd (by simp [Lib.index]) h
  | b :: l, h => by
    unfold Lib.index at h ⊢
    rw [List.length_cons]
    by_cases hp : ([c].isPrefixOf (b :: l)) = true
    · rw [if_pos hp]; omega
    · rw [if_neg hp] at h ⊢
      by_cases h1 : Lib.index l [c] = -1
      · rw [h1] at h
        exact absurd rfl h
      · have := index_lt c l h1
        rw [if_neg (by simpa using h1)]
        omega
theorem find_index (c : UInt8) : ∀ (l : List UInt8) (i : Nat), Ref.findN l c.toNat i = if Lib.index l [c] = -1 then -1 else Lib.index l [c] + i
  | [], i => by simp [Ref.findN, Lib.index]
  | b :: l, i => by
    have hp : ([c].isPrefixOf (b :: l)) = (c == b) := by simp [List.isPrefixOf]
    have hge := Lib.index_ge l [c]
    unfold Ref.findN
    by_cases h : b.toNat = c.toNat
    · have e : b = c := UInt8.toNat_inj.1 h
      have hI : Lib.index (b :: l) [c] = 0 := by
        unfold Lib.index
        rw [hp, e, beq_self_eq_true, if_pos rfl]
      rw [if_pos h, hI]
      simp
    · have e : (c == b) = false := by
        rw [beq_eq_false_iff_ne]
        intro e
        exact h (by rw [e])
      have hI : Lib.index (b :: l) [c] = if Lib.index l [c] = -1 then -1 else Lib.index l [c] + 1 := by
        conv => lhs; unfold Lib.index
        rw [hp, e]
        simp
      rw [if_neg h, find_index c l (i + 1), hI]
      by_cases h1 : Lib.index l [c] = -1
      · rw [if_pos h1, if_pos h1, if_pos rfl]
      · rw [if_neg h1, if_neg h1, if_neg (by omega)]
        omega
theorem find_contains (c : UInt8) (l : List UInt8) : decide (Ref.findN l c.toNat 0 < 0) = !l.contains c := by
  have h := Ref.find_in l c.toNat 0
  have e : l.any (fun x => x.toNat == c.toNat) = l.contains c := by
    rw [Bool.eq_iff_iff, List.any_eq_true, List.contains_iff_mem]
    constructor
    · rintro ⟨x, hx, he⟩
      rw [← UInt8.toNat_inj.1 (beq_iff_eq.1 he)]
      exact hx
    · intro hx; exact ⟨c, hx, by simp⟩
  rw [e] at h
  rw [← h, Bool.eq_iff_iff]
  simp
theorem isname_f (u : ByteArray) (k : Nat) (hk : 20000 < k) : lex_IsName.f k u = some (kindOf u == 1) ∧ skerryref01_IsName.f k u = some (kindOf u == 1) := by
  unfold lex_IsName.f skerryref01_IsName.f
  rw [lkind_f u k hk, rkind_f u k (by omega)]
  exact ⟨rfl, rfl⟩
theorem name_size {u : ByteArray} (h : (kindOf u == 1) = true) : u.size ≤ 20000 := by
  unfold kindOf at h
  cases ho : one u with
  | none => rw [ho] at h; exact absurd h (by decide)
  | some p => exact (one_size ho).2
theorem isplain_f (u : ByteArray) (k : Nat) (hk : 20000 < k) : lex_IsPlain.f k u = some ((kindOf u == 1) && !u.data.toList.contains 64) ∧ skerryref01_IsPlain.f k u = some ((kindOf u == 1) && !u.data.toList.contains 64) := by
  obtain ⟨h1, h2⟩ := isname_f u k hk
  unfold lex_IsPlain.f skerryref01_IsPlain.f
  rw [h1, h2, Option.bind_some, Option.bind_some]
  cases hn : kindOf u == 1 with
  | false => exact ⟨rfl, rfl⟩
  | true =>
    have hs := name_size hn
    rw [if_pos rfl, if_pos rfl]
    refine ⟨rfl, ?_⟩
    unfold skerryref01_Find.f
    rw [if_pos ⟨hs, by decide⟩, Option.bind_some]
    have := find_contains 64 u.data.toList
    rw [show (64 : UInt8).toNat = (64 : Int).toNat from rfl] at this
    rw [this]
    rfl
theorem split_f (u : ByteArray) (k : Nat) (hk : 20000 < k) : ∃ a b, lex_Split.f k u = some (a, b) ∧ skerryref01_Split.f k u = some (a, b) := by
  obtain ⟨k, rfl⟩ : ∃ j, k = j + 1 := ⟨k - 1, by omega⟩
  obtain ⟨h1, h2⟩ := isname_f u (k + 1) hk
  obtain ⟨_, h3⟩ := isplain_f u (k + 1) hk
  unfold lex_Split.f skerryref01_Split.f
  rw [h1, h2, Option.bind_some, Option.bind_some]
  cases hn : kindOf u == 1 with
  | false =>
    refine ⟨u, ⟨#[]⟩, rfl, ?_⟩
    rw [if_neg (by decide), skerryref01_Split.j0, if_pos rfl]
  | true =>
    have hs := name_size hn
    rw [if_pos rfl, if_pos rfl, h3, Option.bind_some, hn, Bool.true_and]
    unfold strings_Cut.f
    rw [if_pos (by omega), Option.bind_some]
    refine ⟨_, _, rfl, ?_⟩
    have hfi := find_index 64 u.data.toList 0
    have hfc := find_contains 64 u.data.toList
    have hge := Lib.index_ge u.data.toList [64]
    rw [skerryref01_Split.j0]
    unfold Lx.cutA Lx.cutB Lib.cut
    have e64 : (⟨#[64]⟩ : ByteArray).data.toList = [64] := rfl
    rw [e64]
    by_cases hc : u.data.toList.contains 64 = true
    · rw [hc] at hfc ⊢
      have hnn : ¬ Ref.findN u.data.toList (64 : UInt8).toNat 0 < 0 := by simpa using hfc
      have hidx : Lib.index u.data.toList [64] ≠ -1 := fun e => by
        rw [if_pos e] at hfi
        omega
      rw [if_neg hidx] at hfi
      have hix : Lib.index u.data.toList [64] < u.size := by
        have := index_lt 64 u.data.toList hidx
        rw [size_list] at this
        exact this
      have hF : skerryref01_Find.f u 64 = some (Lib.index u.data.toList [64]) := by
        unfold skerryref01_Find.f
        rw [if_pos ⟨hs, by decide⟩]
        congr 1
        rw [show (64 : Int).toNat = (64 : UInt8).toNat from rfl, hfi]
        simp
      obtain ⟨i, hi⟩ : ∃ i : Nat, Lib.index u.data.toList [64] = i := ⟨(Lib.index u.data.toList [64]).toNat, by omega⟩
      rw [hi] at hF hix
      have s1 : wrap64 ((i : Int) + 1) = ((i + 1 : Nat) : Int) := by rw [small _ (by omega) (by omega)]; omega
      rw [if_neg (by simp), hF, Option.bind_some, s1, if_pos (by omega), if_pos (by omega), if_pos (by omega), if_pos (by omega), if_pos (by rw [hi]; omega), hi]
      congr 2
      · apply bytes_ext
        rw [extract_list]
        simp
      · apply bytes_ext
        rw [extract_list]
        simp only [Int.toNat_natCast]
        rw [List.take_of_length_le (by rw [List.length_drop, size_list]; omega)]
        rfl
    · have hc' : u.data.toList.contains 64 = false := by simpa using hc
      rw [hc'] at hfc ⊢
      have hlt : Ref.findN u.data.toList (64 : UInt8).toNat 0 < 0 := by simpa using hfc
      have hidx : Lib.index u.data.toList [64] = -1 := by
        rcases Classical.em (Lib.index u.data.toList [64] = -1) with h | h
        · exact h
        · rw [if_neg h] at hfi; omega
      rw [if_pos (by decide)]
      simp [hidx]
theorem number_f (u : ByteArray) (h : u.size ≤ 140737488351232) : ∃ a b, lex_Number.f u = some (a, b) ∧ skerryref01_Number.f u = some (a, b) ∧ (Lx.valB u.data.toList = true → a = Lx.valN u.data.toList ∧ b = 0) := by
  unfold lex_Number.f skerryref01_Number.f Ref.numV Ref.numE
  rw [value_f u h, Option.bind_some]
  have c : u.size ≤ 9223372036854775807 := by omega
  by_cases hv : Lx.valB u.data.toList = true
  · refine ⟨_, _, by rw [if_pos hv], by rw [if_pos c, if_pos hv, if_pos hv], fun _ => ⟨rfl, rfl⟩⟩
  · refine ⟨_, _, by rw [if_neg hv], by rw [if_pos c, if_neg hv, if_neg hv], fun h => absurd h hv⟩
theorem LexKinds : skerrylaw01_LexKinds.Pure := by
  intro a0 ha0
  obtain ⟨K, hKb⟩ : ∃ K, 1000000 ≤ K := ⟨1000000, Nat.le_refl _⟩
  refine ⟨K, ?_⟩
  obtain ⟨s1, s2, e1, e2⟩ := split_f a0 K (by omega)
  obtain ⟨n1, n2, e3, e4, _⟩ := number_f a0 (by omega)
  obtain ⟨i1, i2⟩ := isname_f a0 K (by omega)
  obtain ⟨j1, j2⟩ := isplain_f a0 K (by omega)
  unfold skerrylaw01_LexKinds.f
  rw [sane_k K (by omega), e1, e2, e3, e4, lkind_f a0 K (by omega), rkind_f a0 K (by omega), i1, i2, j1, j2]
  simp
end Go.Proofs.YtdaccmjfefknoaaDoor.Pure
