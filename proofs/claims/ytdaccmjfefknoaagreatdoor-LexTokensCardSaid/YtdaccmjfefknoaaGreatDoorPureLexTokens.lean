/- LexTokens: Check, Join, Same and Pattern are as specified. -/
import Derived.Test.YtdaccmjfefknoaaGreatDoorPZbx7
import Derived.Test.YtdaccmjfefknoaaGreatDoorPKindZ
import Derived.Test.YtdaccmjfefknoaaGreatDoorPZbx13
set_option linter.unusedVariables false
set_option linter.unusedSimpArgs false
namespace Go.Proofs.YtdaccmjfefknoaaGreatDoor.Pure
open Go.RowKit Go.Proofs.YtdaccmjfefknoaaGreatDoor.PZb Go.Proofs.YtdaccmjfefknoaaGreatDoorW.PrintWords Go.Proofs.YtdaccmjfefknoaaGreatDoorW.PrintLast
theorem sane_true : skerrylaw01_sane.f 60 = some true := by decide +kernel
theorem sane_at : ∀ k, skerrylaw01_sane.f (60 + k) = some true
  | 0 => sane_true
  | k + 1 => skerrylaw01_sane.mono _ _ (sane_at k)
theorem sane_k (k : Nat) (h : 60 ≤ k) : skerrylaw01_sane.f k = some true := by
  obtain ⟨j, rfl⟩ : ∃ j, k = 60 + j := ⟨k - 60, by omega⟩
  exact sane_at j
end Go.Proofs.YtdaccmjfefknoaaGreatDoor.Pure

set_option linter.unusedVariables false
set_option linter.unusedSimpArgs false
namespace Go.Proofs.YtdaccmjfefknoaaGreatDoor.Pure
open Go.RowKit Go.Proofs.YtdaccmjfefknoaaGreatDoor.PZb Go.Proofs.YtdaccmjfefknoaaGreatDoorW.PrintWords Go.Proofs.YtdaccmjfefknoaaGreatDoorW.PrintLast Go.Proofs.YtdaccmjfefknoaaGreatDoorW.PrintMore

def good (t : S37) : Bool := decide ((t.f0 ≠ 0 ∧ kindOf t.f2 = t.f0) ∧ t.f1 = (if t.f0 = 2 then Lx.valN t.f2.data.toList else 0) ∧ 0 ≤ t.f3 ∧ 0 ≤ t.f4)
def chk (t : S37) : Int := if good t = true then 0 else 14
theorem chk_zero (t : S37) : chk t = 0 ↔ good t = true := by
 unfold chk
 split
 ·simp [*]
 ·simp [*]
theorem good_one {t : S37} (h : good t = true) : ∃ p, one t.f2 = some p ∧ (p.kind : Int) = t.f0 := by
 obtain ⟨⟨h0, h1⟩, _⟩ := of_decide_eq_true h
 unfold kindOf at h1
 cases ho : one t.f2 with
 | none => rw [ho] at h1; exact absurd h1.symm h0
 | some p => rw [ho] at h1; exact ⟨p, rfl, h1⟩
theorem good_len {t : S37} (h : good t = true) : t.f2.size ≤ 40 := by
 obtain ⟨p, hp, _⟩ := good_one h
 exact one_len hp
theorem lcheck_f (t : S37) (k : Nat) (hk : 30000 < k) : lex_Check.f k t.f0 t.f1 t.f2 t.f3 t.f4 = some (chk t) := by
 obtain ⟨k, rfl⟩ : ∃ j, k = j + 1 := ⟨k - 1, by omega⟩
 have jt : lex_Check.j0 (k + 1) true = some 14 := by rw [lex_Check.j0, if_pos rfl]
 have bad : good t = false → some (14 : Int) = some (chk t) := fun h => by unfold chk; rw [h]; rfl
 unfold lex_Check.f
 rw [single_f t.f2 (k + 1) (by omega)]
 cases ho : one t.f2 with
 | none =>
  have hb : good t = false := by
   cases hg : good t with
   | false => rfl
   | true => obtain ⟨p, hp, _⟩ := good_one hg; rw [ho] at hp; cases hp
  simp only [Option.bind_some]
  rw [if_neg (by decide), jt]
  exact bad hb
 | some p =>
  have hk1 : kindOf t.f2 = p.kind := by unfold kindOf; rw [ho]
  have hk0 := (one_kind ho).1
  have hkz : (p.kind : Int) ≠ 0 := fun e => by
   have : p.kind = 0 := by omega
   rw [this] at hk0
   exact absurd hk0 (by decide)
  simp only [Option.bind_some, one_zero ho]
  rw [if_pos trivial]
  by_cases h0 : t.f0 = p.kind
  ·rw [if_pos h0]
   have hn : (if p.kind = 2 then Lx.valN t.f2.data.toList else 0) = (if t.f0 = 2 then Lx.valN t.f2.data.toList else 0) := by
    by_cases h2 : p.kind = 2
    ·rw [if_pos h2, if_pos (by omega)]
    ·rw [if_neg h2, if_neg (by omega)]
   rw [hn]
   by_cases h1 : t.f1 = (if t.f0 = 2 then Lx.valN t.f2.data.toList else 0)
   ·rw [if_pos h1]
    by_cases h3 : t.f3 < 0
    ·rw [if_pos h3, jt]
     exact bad (decide_eq_false (fun h => by have := h.2.2.1; omega))
    ·rw [if_neg h3]
     by_cases h4 : t.f4 < 0
     ·rw [decide_eq_true h4, jt]
      exact bad (decide_eq_false (fun h => by have := h.2.2.2; omega))
     ·rw [decide_eq_false h4, lex_Check.j0, if_neg (by decide)]
      have hg : good t = true := decide_eq_true ⟨⟨by omega, by omega⟩, h1, by omega, by omega⟩
      unfold chk
      rw [if_pos hg]
   ·rw [if_neg h1, jt]
    exact bad (decide_eq_false (fun h => h1 h.2.1))
  ·rw [if_neg h0, jt]
   exact bad (decide_eq_false (fun h => h0 (by rw [← h.1.2, hk1])))
theorem rj0_f (t : S37) (k : Nat) (hk : 30000 < k) (x : Int) : skerryref01_Check.j0 k x t.f0 t.f1 t.f2 t.f3 t.f4 = some (if (t.f0 ≠ 0 ∧ kindOf t.f2 = t.f0) ∧ t.f1 = x ∧ 0 ≤ t.f3 ∧ 0 ≤ t.f4 then 0 else 14) := by
 obtain ⟨k, rfl⟩ : ∃ j, k = j + 2 := ⟨k - 2, by omega⟩
 have jt : skerryref01_Check.j1 (k + 1) true = some 14 := by rw [skerryref01_Check.j1, if_pos rfl]
 rw [skerryref01_Check.j0]
 by_cases h0 : t.f0 = 0
 ·rw [if_pos h0, jt, if_neg (fun h => h.1.1 h0)]
 ·rw [if_neg h0, rkind_f t.f2 (k + 1) (by omega), Option.bind_some]
  by_cases h1 : kindOf t.f2 = t.f0
  ·rw [if_pos h1]
   by_cases h2 : t.f1 = x
   ·rw [if_pos h2]
    by_cases h3 : t.f3 < 0
    ·rw [if_pos h3, jt, if_neg (fun h => by have := h.2.2.1; omega)]
    ·rw [if_neg h3]
     by_cases h4 : t.f4 < 0
     ·rw [decide_eq_true h4, jt, if_neg (fun h => by have := h.2.2.2; omega)]
     ·rw [decide_eq_false h4, skerryref01_Check.j1, if_neg (by decide), if_pos ⟨⟨h0, h1⟩, h2, by omega, by omega⟩]
   ·rw [if_neg h2, jt, if_neg (fun h => h2 h.2.1)]
  ·rw [if_neg h1, jt, if_neg (fun h => h1 h.1.2)]
theorem rcheck_f (t : S37) (k : Nat) (hk : 30000 < k) (hs : t.f2.size ≤ 140737488351232) : skerryref01_Check.f k t.f0 t.f1 t.f2 t.f3 t.f4 = some (chk t) := by
 unfold skerryref01_Check.f chk good
 by_cases h2 : t.f0 = 2
 ·rw [if_pos h2]
  unfold skerryref01_Number.f
  rw [if_pos (by omega), Option.bind_some, rj0_f t k hk, if_pos h2]
  by_cases hk2 : kindOf t.f2 = t.f0
  ·have hv : Lx.valB t.f2.data.toList = true := by
    unfold kindOf at hk2
    cases ho : one t.f2 with
    | none => rw [ho] at hk2; exact absurd (hk2.trans h2) (by decide)
    | some p =>
     rw [ho] at hk2
     have e : (p.kind : Int) = t.f0 := hk2
     exact one_num ho (by omega)
   have e : Ref.numV t.f2.data.toList = Lx.valN t.f2.data.toList := by unfold Ref.numV; rw [if_pos hv]
   simp only [e, decide_eq_true_eq]
  ·rw [if_neg (fun h => hk2 h.1.2), if_neg (fun h => hk2 (of_decide_eq_true h).1.2)]
 ·rw [if_neg h2, rj0_f t k hk, if_neg h2]
  simp only [decide_eq_true_eq]
theorem pat_first {t : S37} (h : good t = true) (h6 : t.f0 = 6) : ∃ v, t.f2.data.toList = 63 :: v := by
 obtain ⟨p, hp, hk⟩ := good_one h
 have e : p.kind = 6 := by omega
 obtain ⟨_, h2⟩ := one_kind hp
 have h0 := (one_size hp).1
 rw [e] at h2
 change Lx.pattern _ = t.f2.size at h2
 cases hl : t.f2.data.toList with
 | nil =>
  have := congrArg List.length hl
  rw [size_list] at this
  exact absurd this h0
 | cons c v =>
  rw [hl] at h2
  rw [show (c :: v).take 100 = c :: v.take 99 from rfl, Lx.pattern_cons] at h2
  by_cases hc : c.toNat = 63
  ·exact ⟨v, by rw [show c = 63 from UInt8.toNat_inj.1 hc]⟩
  ·rw [if_neg hc] at h2
   exact absurd h2.symm h0
theorem index_tail (v : List UInt8) : Lib.index (63 :: v) [58] = if Lib.index v [58] = -1 then -1 else Lib.index v [58] + 1 := by
 conv => lhs; unfold Lib.index
 have hp : ([58].isPrefixOf ((63 : UInt8) :: v)) = false := by simp [List.isPrefixOf]
 rw [hp]
 simp
theorem pattern_f (t : S37) (k : Nat) (hk : 40000 < k) (hs : t.f2.size ≤ 140737488351232) : ∃ a b, lex_Pattern.f k t.f0 t.f1 t.f2 t.f3 t.f4 = some (a, b) ∧ skerryref01_Pattern.f k t.f0 t.f1 t.f2 t.f3 t.f4 = some (a, b) := by
 obtain ⟨k, rfl⟩ : ∃ j, k = j + 1 := ⟨k - 1, by omega⟩
 unfold lex_Pattern.f skerryref01_Pattern.f
 by_cases h6 : t.f0 = 6
 ·rw [if_pos h6, if_pos h6, lcheck_f t (k + 1) (by omega), rcheck_f t (k + 1) (by omega) hs, Option.bind_some, Option.bind_some]
  cases hg : good t with
  | false =>
   have hc : chk t = 14 := by unfold chk; rw [hg]; rfl
   rw [hc]
   exact ⟨⟨#[]⟩, ⟨#[]⟩, by rw [lex_Pattern.j0, if_pos (by decide)], by rw [skerryref01_Pattern.j0, if_pos (by decide)]⟩
  | true =>
   have hc : chk t = 0 := (chk_zero t).2 hg
   have hl := good_len hg
   obtain ⟨v, hv⟩ := pat_first hg h6
   have hsz : t.f2.size = v.length + 1 := by rw [← size_list, hv]; rfl
   rw [hc]
   have hx : (t.f2.extract 1 t.f2.size).data.toList = v := by
    rw [extract_list, hv, List.drop_one, List.tail_cons, List.take_of_length_le (by omega)]
   have hxs : (t.f2.extract 1 t.f2.size).size = v.length := by rw [← size_list, hx]
   have hF : skerryref01_Find.f t.f2 58 = some (if Lib.index v [58] = -1 then -1 else Lib.index v [58] + 1) := by
    unfold skerryref01_Find.f
    rw [if_pos ⟨by omega, by decide⟩, hv, show (58 : Int).toNat = (58 : UInt8).toNat from rfl, find_index, index_tail]
    have := Lib.index_ge v [58]
    by_cases h1 : Lib.index v [58] = -1
    ·rw [if_pos h1, if_pos rfl]
    ·rw [if_neg h1, if_neg (by omega)]
     simp
   rw [lex_Pattern.j0, if_neg (by decide), if_pos (by omega), skerryref01_Pattern.j0, if_neg (by decide), hF, Option.bind_some]
   unfold strings_Cut.f
   rw [if_pos (by omega), Option.bind_some]
   refine ⟨_, _, rfl, ?_⟩
   unfold Lx.cutA Lx.cutB Lib.cut
   rw [hx, show (⟨#[58]⟩ : ByteArray).data.toList = [58] from rfl]
   have hge := Lib.index_ge v [58]
   by_cases h1 : Lib.index v [58] = -1
   ·rw [if_pos h1, if_pos (by decide), if_pos (by omega), h1, if_neg (by decide)]
    congr 2
    apply bytes_ext
    rw [hx]
   ·have hlt := index_lt 58 v h1
    obtain ⟨i, hi⟩ : ∃ i : Nat, Lib.index v [58] = i := ⟨(Lib.index v [58]).toNat, by omega⟩
    rw [hi] at hlt h1 ⊢
    have s1 : wrap64 ((i : Int) + 1 + 1) = ((i + 2 : Nat) : Int) := by rw [small _ (by omega) (by omega)]; omega
    rw [if_neg h1, if_neg (by omega), if_pos (by omega), if_pos (by omega), s1, if_pos (by omega), if_pos (by omega), if_pos (by omega)]
    congr 2
    ·apply bytes_ext
     rw [extract_list, hv, List.drop_one, List.tail_cons]
     simp only [Int.toNat_natCast]
     rw [show ((i : Int) + 1).toNat - 1 = i from by omega]
    ·apply bytes_ext
     rw [extract_list, hv]
     simp only [Int.toNat_natCast]
     rw [List.take_of_length_le (by rw [List.length_drop, List.length_cons]; omega)]
     rfl
 ·rw [if_neg h6, if_neg h6]
  exact ⟨⟨#[]⟩, ⟨#[]⟩, by rw [lex_Pattern.j0, if_pos rfl], by rw [skerryref01_Pattern.j0, if_pos rfl]⟩

/-! ### Same -/
theorem wide (n : Int) (h0 : -4000000000000000 ≤ n) (h1 : n ≤ 4000000000000000) : wrap64 n = n := by unfold wrap64; omega
theorem rsame_loop (x y : List S37) (hl : x.length = y.length) (hb : x.length ≤ 1000000000000000) : ∀ (m i k : Nat), x.length - i = m → i ≤ x.length → 2 * m + 10 < k → ∀ b : Bool, skerryref01_Same.l0 k x y b (i : Int) = some (b && toksSame (x.drop i) (y.drop i)) := by
 intro m
 induction m with
 | zero =>
  intro i k hm hi hk b
  obtain ⟨k, rfl⟩ : ∃ j, k = j + 2 := ⟨k - 2, by omega⟩
  rw [List.drop_of_length_le (by omega), List.drop_of_length_le (by omega)]
  cases b with
  | true => rw [skerryref01_Same.l0, if_pos rfl, decide_eq_false (by omega), skerryref01_Same.j1, if_neg (by decide)]; rfl
  | false => rw [skerryref01_Same.l0, if_neg (by decide), skerryref01_Same.j1, if_neg (by decide)]; rfl
 | succ m ih =>
  intro i k hm hi hk b
  obtain ⟨k, rfl⟩ : ∃ j, k = j + 2 := ⟨k - 2, by omega⟩
  cases b with
  | false => rw [skerryref01_Same.l0, if_neg (by decide), skerryref01_Same.j1, if_neg (by decide)]; rfl
  | true =>
   have s1 : wrap64 ((i : Int) + 1) = ((i + 1 : Nat) : Int) := by rw [wide _ (by omega) (by omega)]; omega
   rw [skerryref01_Same.l0, if_pos rfl, decide_eq_true (by omega), skerryref01_Same.j1, if_pos rfl, if_pos (by omega), if_pos (by omega), if_pos (by omega), s1]
   rw [toks_step x y i (by omega) (by omega)]
   have hi' := ih (i + 1) k (by omega) (by omega) (by omega)
   unfold tokSame
   by_cases h0 : (rd_T37 x (i : Int)).f0 = (rd_T37 y (i : Int)).f0
   ·rw [if_pos h0]
    by_cases h1 : (rd_T37 x (i : Int)).f1 = (rd_T37 y (i : Int)).f1
    ·rw [if_pos h1, hi', h0, h1]
     simp
    ·rw [if_neg h1, hi']
     simp [h1]
   ·rw [if_neg h0, hi']
    simp [h0]
theorem rsame_f (x y : List S37) (hb : x.length ≤ 1000000000000000) (k : Nat) (hk : 2 * x.length + 20 < k) : skerryref01_Same.f k x y = some (toksSame x y) := by
 unfold skerryref01_Same.f
 by_cases hl : x.length = y.length
 ·have e : ((x.length : Int) == (y.length : Int)) = true := by simp [hl]
  rw [e]
  have := rsame_loop x y hl hb x.length 0 k (by omega) (by omega) (by omega) true
  simpa using this
 ·have e : ((x.length : Int) == (y.length : Int)) = false := by simp; omega
  have hf : toksSame x y = false := by
   cases h : toksSame x y with
   | false => rfl
   | true => exact absurd (toks_len _ _ h) hl
  obtain ⟨k, rfl⟩ : ∃ j, k = j + 2 := ⟨k - 2, by omega⟩
  rw [e, hf, skerryref01_Same.l0, if_neg (by decide), skerryref01_Same.j1, if_neg (by decide)]

/-! ### Join -/
def texts (l : List S37) : List (List UInt8) := l.map (fun t => t.f2.data.toList)
def joined (l : List S37) : List UInt8 := Lib.join (texts l) [32]
def joinOf (l : List S37) : ByteArray := if l.all good = true then ⟨(joined l).toArray⟩ else ⟨#[]⟩
theorem joined_snoc (l : List S37) (t : S37) (h : l ≠ []) : joined (l ++ [t]) = joined l ++ [32] ++ t.f2.data.toList := by
 cases l with
 | nil => exact absurd rfl h
 | cons a l =>
  show Lib.join (a.f2.data.toList :: (l ++ [t]).map (fun t => t.f2.data.toList)) [32] = Lib.join (a.f2.data.toList :: l.map (fun t => t.f2.data.toList)) [32] ++ [32] ++ t.f2.data.toList
  rw [Lib.join_cons, Lib.join_cons, List.map_append]
  simp [Lib.joinTail]
theorem joined_one (t : S37) : joined [t] = t.f2.data.toList := Lib.join_one _ _
theorem take_snoc {α : Type} (l : List α) (i : Nat) (h : i < l.length) : l.take (i + 1) = l.take i ++ [l[i]] := by
 rw [List.take_add_one, List.getElem?_eq_getElem h]
 rfl
theorem joined_len (l : List S37) (h : ∀ t ∈ l, good t = true) : ∀ i, i ≤ l.length → (joined (l.take i)).length ≤ 41 * i := by
 intro i
 induction i with
 | zero => intro _; simp [joined, texts, Lib.join_nil]
 | succ i ih =>
  intro hi
  have h1 := ih (by omega)
  have hg := good_len (h _ (List.getElem_mem (by omega : i < l.length)))
  rw [take_snoc l i (by omega)]
  cases i with
  | zero =>
   rw [List.take_zero, List.nil_append, joined_one, size_list]
   omega
  | succ j =>
   have hne : l.take (j + 1) ≠ [] := fun e => by
    have := congrArg List.length e
    rw [List.length_take, List.length_nil] at this
    omega
   rw [joined_snoc _ _ hne, List.length_append, List.length_append, size_list]
   simp only [List.length_cons, List.length_nil]
   omega
theorem rd_at (l : List S37) (i : Nat) (h : i < l.length) : rd_T37 l (i : Int) = l[i] := by
 simp [rd_T37, h]
theorem all_cut (l : List S37) (i : Nat) (h : i < l.length) (hb : good l[i] = false) : l.all good = false := by
 rw [List.all_eq_false]
 exact ⟨_, List.getElem_mem h, by rw [hb]; decide⟩
theorem ljoin_loop (l : List S37) (hN : l.length ≤ 2932031007402) : ∀ (m i k : Nat), l.length - i = m → i ≤ l.length → m + 40000 < k → (∀ t ∈ l.take i, good t = true) → lex_Join.l0 k ((l.take i).map (·.f2)) l (l.length : Int) (i : Int) = some (joinOf l) := by
 intro m
 induction m with
 | zero =>
  intro i k hm hi hk hg
  obtain ⟨k, rfl⟩ : ∃ j, k = j + 1 := ⟨k - 1, by omega⟩
  have e : l.take i = l := List.take_of_length_le (by omega)
  rw [e] at hg ⊢
  have hj := joined_len l hg l.length (Nat.le_refl _)
  rw [List.take_length] at hj
  have hall : l.all good = true := List.all_eq_true.2 hg
  have hm2 : (l.map (·.f2)).map (·.data.toList) = texts l := by unfold texts; rw [List.map_map]; rfl
  rw [lex_Join.l0, if_neg (by omega)]
  unfold strings_Join.f
  rw [hm2, show (⟨#[32]⟩ : ByteArray).data.toList = [32] from rfl]
  have hj' : (Lib.join (texts l) [32]).length ≤ 41 * l.length := hj
  rw [if_pos ⟨by rw [List.length_map]; omega, by omega⟩, Option.bind_some]
  unfold joinOf
  rw [if_pos hall]
  rfl
 | succ m ih =>
  intro i k hm hi hk hg
  obtain ⟨k, rfl⟩ : ∃ j, k = j + 1 := ⟨k - 1, by omega⟩
  have hlt : i < l.length := by omega
  have s1 : wrap64 ((i : Int) + 1) = ((i + 1 : Nat) : Int) := by rw [wide _ (by omega) (by omega)]; omega
  rw [lex_Join.l0, if_pos (by omega), if_pos (by omega), if_pos (by omega), lcheck_f _ k (by omega), Option.bind_some, rd_at l i hlt, s1]
  cases hgi : good l[i] with
  | true =>
   rw [if_pos ((chk_zero _).2 hgi), if_pos (by rw [List.length_map, List.length_take]; omega)]
   have := ih (i + 1) k (by omega) (by omega) (by omega) (by
    rw [take_snoc l i hlt]
    intro t ht
    rcases List.mem_append.1 ht with h | h
    ·exact hg t h
    ·rw [List.mem_singleton.1 h]; exact hgi)
   rw [take_snoc l i hlt, List.map_append] at this
   exact this
  | false =>
   rw [if_neg (fun h => by rw [chk_zero, hgi] at h; cases h)]
   unfold joinOf
   rw [all_cut l i hlt hgi]
   rfl
def ints (l : List UInt8) : List Int := l.map fun b => (b.toNat : Int)
theorem str_ints (l : List UInt8) : strOfNums (ints l) = ⟨l.toArray⟩ := by
 apply bytes_ext
 rw [strOfNums_data]
 unfold ints
 rw [List.map_map]
 show l.map ((fun n : Int => UInt8.ofNat n.toNat) ∘ fun b : UInt8 => (b.toNat : Int)) = l
 have e : ((fun n : Int => UInt8.ofNat n.toNat) ∘ fun b : UInt8 => (b.toNat : Int)) = id := funext fun b => by
  show UInt8.ofNat ((b.toNat : Int).toNat) = b
  rw [Int.toNat_natCast]
  exact UInt8.ofNat_toNat
 rw [e, List.map_id]
theorem rjoin_loop (l : List S37) (hN : l.length ≤ 2932031007402) (hs : ∀ t ∈ l, t.f2.size ≤ 140737488351232) : ∀ (m i k : Nat), l.length - i = m → i ≤ l.length → m + 40000 < k → (∀ t ∈ l.take i, good t = true) → skerryref01_Join.l0 k l (ints (joined (l.take i))) (i : Int) = some (joinOf l) := by
 intro m
 induction m with
 | zero =>
  intro i k hm hi hk hg
  obtain ⟨k, rfl⟩ : ∃ j, k = j + 1 := ⟨k - 1, by omega⟩
  have e : l.take i = l := List.take_of_length_le (by omega)
  rw [e] at hg ⊢
  have hall : l.all good = true := List.all_eq_true.2 hg
  rw [skerryref01_Join.l0, if_neg (by omega), str_ints]
  unfold joinOf
  rw [if_pos hall]
 | succ m ih =>
  intro i k hm hi hk hg
  obtain ⟨k, rfl⟩ : ∃ j, k = j + 1 := ⟨k - 1, by omega⟩
  have hlt : i < l.length := by omega
  have s1 : wrap64 ((i : Int) + 1) = ((i + 1 : Nat) : Int) := by rw [wide _ (by omega) (by omega)]; omega
  have hjl := joined_len (l.take i) hg i (by rw [List.length_take]; omega)
  rw [List.take_take, Nat.min_self] at hjl
  rw [skerryref01_Join.l0, if_pos (by omega), if_pos (by omega), rd_at l i hlt, rcheck_f _ k (by omega) (hs _ (List.getElem_mem hlt)), Option.bind_some, s1]
  cases hgi : good l[i] with
  | true =>
   have hl40 := good_len hgi
   have hil : (ints (joined (l.take i))).length ≤ 41 * i := by unfold ints; rw [List.length_map]; exact hjl
   have := ih (i + 1) k (by omega) (by omega) (by omega) (by
    rw [take_snoc l i hlt]
    intro t ht
    rcases List.mem_append.1 ht with h | h
    ·exact hg t h
    ·rw [List.mem_singleton.1 h]; exact hgi)
   rw [take_snoc l i hlt] at this
   rw [if_pos ((chk_zero _).2 hgi)]
   have hb : bytesOf l[i].f2 = ints l[i].f2.data.toList := rfl
   cases i with
   | zero =>
    rw [List.take_zero, List.nil_append, joined_one] at this
    have h0 : ints (joined (l.take 0)) = [] := by simp [joined, texts, Lib.join_nil, ints]
    rw [if_neg (by omega), h0, if_pos (by simp only [List.length_nil]; omega), hb, List.nil_append]
    exact this
   | succ j =>
    have hne : l.take (j + 1) ≠ [] := fun e => by
     have := congrArg List.length e
     rw [List.length_take, List.length_nil] at this
     omega
    rw [joined_snoc _ _ hne] at this
    have e3 : ints (joined (l.take (j + 1)) ++ [32] ++ l[j + 1].f2.data.toList) = ints (joined (l.take (j + 1))) ++ [32] ++ ints l[j + 1].f2.data.toList := by unfold ints; rw [List.map_append, List.map_append]; rfl
    rw [e3] at this
    rw [if_pos (by omega), if_pos (by omega), Option.bind_some, if_pos (by rw [List.length_append]; simp only [List.length_cons, List.length_nil]; omega), hb]
    exact this
  | false =>
   rw [if_neg (fun h => by rw [chk_zero, hgi] at h; cases h)]
   unfold joinOf
   rw [all_cut l i hlt hgi]
   rfl

/-! ### The law -/
theorem law_loop (x y : List S37) (hN : x.length ≤ 2932031007402) (hs : ∀ t ∈ x, t.f2.size ≤ 140737488351232) : ∀ (m i k : Nat), x.length - i = m → i ≤ x.length → 2 * m + 2 * x.length + 100000 < k → skerrylaw01_LexTokens.l0 k x y true (i : Int) = some true := by
 intro m
 induction m with
 | zero =>
  intro i k hm hi hk
  obtain ⟨k, rfl⟩ : ∃ j, k = j + 1 := ⟨k - 1, by omega⟩
  have h1 : lex_Join.f k x = some (joinOf x) := ljoin_loop x hN x.length 0 k (by omega) (by omega) (by omega) (by simp)
  have h2 : skerryref01_Join.f k x = some (joinOf x) := by
   have := rjoin_loop x hN hs x.length 0 k (by omega) (by omega) (by omega) (by simp)
   have h0 : ints (joined (x.take 0)) = [] := by simp [joined, texts, Lib.join_nil, ints]
   rw [h0] at this
   exact this
  have h3 : lex_Same.f x y = some (toksSame x y) := rfl
  rw [skerrylaw01_LexTokens.l0, if_neg (by omega), if_pos rfl, h1, h2, h3, rsame_f x y (by omega) k (by omega)]
  simp only [Option.bind_some, if_true, beq_self_eq_true]
 | succ m ih =>
  intro i k hm hi hk
  obtain ⟨k, rfl⟩ : ∃ j, k = j + 2 := ⟨k - 2, by omega⟩
  have hlt : i < x.length := by omega
  have s1 : wrap64 ((i : Int) + 1) = ((i + 1 : Nat) : Int) := by rw [wide _ (by omega) (by omega)]; omega
  obtain ⟨a, b, e1, e2⟩ := pattern_f x[i] (k + 1) (by omega) (hs _ (List.getElem_mem hlt))
  rw [skerrylaw01_LexTokens.l0, if_pos (by omega), if_pos (by omega), rd_at x i hlt, e1, e2, lcheck_f _ (k + 1) (by omega), rcheck_f _ (k + 1) (by omega) (hs _ (List.getElem_mem hlt))]
  simp only [Option.bind_some, if_true, bne_self_eq_false]
  rw [skerrylaw01_LexTokens.j1, if_neg (by decide), s1]
  exact ih (i + 1) k (by omega) (by omega) (by omega)
theorem LexTokens (x y : List S37) (hN : x.length ≤ 2932031007402) (hs : ∀ t ∈ x, t.f2.size ≤ 140737488351232) : ∃ k, skerrylaw01_LexTokens.f k x y = some true := by
 refine ⟨4 * x.length + 200000, ?_⟩
 obtain ⟨K, hK⟩ : ∃ K, 4 * x.length + 200000 = K := ⟨_, rfl⟩
 rw [hK]
 unfold skerrylaw01_LexTokens.f
 rw [sane_k K (by omega), Option.bind_some]
 exact law_loop x y hN hs x.length 0 K (by omega) (by omega) (by omega)
end Go.Proofs.YtdaccmjfefknoaaGreatDoor.Pure
