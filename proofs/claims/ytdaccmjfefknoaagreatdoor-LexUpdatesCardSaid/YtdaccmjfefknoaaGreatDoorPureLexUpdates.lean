/- LexUpdates: Change and Update are as specified. -/
import Derived.Test.YtdaccmjfefknoaaGreatDoorPZax7
import Derived.Test.YtdaccmjfefknoaaGreatDoorPZax10
set_option linter.unusedVariables false
set_option linter.unusedSimpArgs false
namespace Go.Proofs.YtdaccmjfefknoaaGreatDoor.Pure
open Go.RowKit Go.Proofs.YtdaccmjfefknoaaGreatDoor.PZa Go.Proofs.YtdaccmjfefknoaaGreatDoorW.PrintWords Go.Proofs.YtdaccmjfefknoaaGreatDoorW.PrintLast

theorem sane_true : skerrylaw01_sane.f 60 = some true := by decide +kernel
theorem sane_at : ∀ k, skerrylaw01_sane.f (60 + k) = some true
  | 0 => sane_true
  | k + 1 => skerrylaw01_sane.mono _ _ (sane_at k)
theorem sane_k (k : Nat) (h : 60 ≤ k) : skerrylaw01_sane.f k = some true := by
  obtain ⟨j, rfl⟩ : ∃ j, k = 60 + j := ⟨k - 60, by omega⟩
  exact sane_at j
theorem wide (n : Int) (h0 : -4000000000000000 ≤ n) (h1 : n ≤ 4000000000000000) : wrap64 n = n := by unfold wrap64; omega
theorem change_f (k : Nat) (a0 : ByteArray) (x y : Int) (z : ByteArray) (h0 : a0.size ≤ 1000000000000000) (hz : z.size ≤ 1000000000000000) : lex_Change.f (k + 1) a0 x y z = if updSplices a0.size x y = true then some (updChanged a0 x y z, 0) else some (⟨#[]⟩, 1) := by
  unfold lex_Change.f
  by_cases h : updSplices a0.size x y = true
  · rw [if_pos h]
    obtain ⟨h1, h2, h3, h4⟩ := of_decide_eq_true h
    have hs : ∀ a b, (a0.extract a b).size ≤ a0.size := fun a b => by rw [ByteArray.size_extract]; omega
    rw [if_neg (by omega), if_neg (by omega), if_neg (by omega), wide _ (by omega) (by omega), decide_eq_false (by omega)]
    rw [lex_Change.j0]
    rw [if_neg (by simp), if_pos h1, if_pos h3, wide _ (by omega) (by omega)]
    rw [if_pos (by have := hs 0 x.toNat; omega), if_pos (by omega), if_pos (by omega), if_pos (by rw [ByteArray.size_append]; have := hs 0 x.toNat; have := hs (x + y).toNat a0.size; omega)]
    rfl
  · rw [if_neg h]
    have h' := of_decide_eq_false (by simpa using h : updSplices a0.size x y = false)
    by_cases h1 : x < 0
    · rw [if_pos h1]; rw [lex_Change.j0, if_pos rfl]
    · rw [if_neg h1]
      by_cases h2 : y < 0
      · rw [if_pos h2]; rw [lex_Change.j0, if_pos rfl]
      · rw [if_neg h2]
        by_cases h3 : x > (a0.size : Int)
        · rw [if_pos h3]; rw [lex_Change.j0, if_pos rfl]
        · rw [if_neg h3, wide _ (by omega) (by omega), decide_eq_true (by omega)]
          rw [lex_Change.j0, if_pos rfl]
theorem rchange_f (k : Nat) (a0 : ByteArray) (x y : Int) (z : ByteArray) (h0 : a0.size ≤ 1000000000000000) (hz : z.size ≤ 1000000000000000) : skerryref01_Change.f (k + 1) a0 x y z = if updSplices a0.size x y = true then some (updChanged a0 x y z, 0) else some (⟨#[]⟩, 1) := by
  unfold skerryref01_Change.f
  by_cases h : updSplices a0.size x y = true
  · rw [if_pos h]
    obtain ⟨h1, h2, h3, h4⟩ := of_decide_eq_true h
    have hs : ∀ a b, (a0.extract a b).size ≤ a0.size := fun a b => by rw [ByteArray.size_extract]; omega
    rw [if_neg (by omega), if_neg (by omega), if_neg (by omega), wide _ (by omega) (by omega), decide_eq_false (by omega)]
    rw [skerryref01_Change.j0]
    rw [if_neg (by simp), if_pos h1, if_pos h3, wide _ (by omega) (by omega)]
    rw [if_pos (by have := hs 0 x.toNat; omega), if_pos (by omega), if_pos (by omega), if_pos (by rw [ByteArray.size_append]; have := hs 0 x.toNat; have := hs (x + y).toNat a0.size; omega)]
    rfl
  · rw [if_neg h]
    have h' := of_decide_eq_false (by simpa using h : updSplices a0.size x y = false)
    by_cases h1 : x < 0
    · rw [if_pos h1]; rw [skerryref01_Change.j0, if_pos rfl]
    · rw [if_neg h1]
      by_cases h3 : x > (a0.size : Int)
      · rw [if_pos h3]; rw [skerryref01_Change.j0, if_pos rfl]
      · rw [if_neg h3]
        by_cases h2 : y < 0
        · rw [if_pos h2]; rw [skerryref01_Change.j0, if_pos rfl]
        · rw [if_neg h2, wide _ (by omega) (by omega), decide_eq_true (by omega)]
          rw [skerryref01_Change.j0, if_pos rfl]
theorem update_some (a0 : ByteArray) (l1 : List S50) (x y : Int) (z : ByteArray) (hz : z.size ≤ 140737488351232) : ∃ r1 r2 r3 r4 r5, lex_Update.f a0 l1 x y z = some (r1, r2, r3, r4, r5) ∧ r1.length ≤ 20000 := by
  unfold lex_Update.f
  by_cases h1 : Lx.outE a0 = 0 ∧ updSame (cells50 a0) l1 = true
  · rw [if_pos h1]
    by_cases h2 : updSplices a0.size x y = true
    · rw [if_pos h2, if_pos hz]
      by_cases h3 : Lx.outE (updChanged a0 x y z) = 0
      · rw [if_pos h3]
        exact ⟨_, _, _, _, _, rfl, cells_len _⟩
      · rw [if_neg h3]
        exact ⟨_, _, _, _, _, rfl, by simp⟩
    · rw [if_neg h2]
      exact ⟨_, _, _, _, _, rfl, by simp⟩
  · rw [if_neg h1]
    exact ⟨_, _, _, _, _, rfl, by simp⟩
theorem updates_f (k : Nat) (hk : 100000 < k) (a0 : ByteArray) (l1 : List S50) (x y : Int) (z : ByteArray) (h0 : a0.size ≤ 140737488351232) (hz : z.size ≤ 140737488351232) : skerrylaw01_updates.f k a0 l1 x y z = some true := by
  obtain ⟨r1, r2, r3, r4, r5, h, hl⟩ := update_some a0 l1 x y z hz
  obtain ⟨b, hb, hb'⟩ := rsame_all r1 r1 (by omega) k (by omega)
  have hbt : b = true := hb'.2 rfl
  subst hbt
  unfold skerrylaw01_updates.f skerryref01_Update.f
  rw [if_pos (by omega), h]
  simp only [Option.bind_some, if_true, beq_self_eq_true, Bool.and_self, hb]
theorem LexUpdates (a0 : ByteArray) (l1 : List S50) (x y : Int) (z : ByteArray) (h0 : a0.size ≤ 140737488351232) (hz : z.size ≤ 140737488351232) : ∃ k, skerrylaw01_LexUpdates.f k a0 l1 x y z = some true := by
  obtain ⟨K, hKb⟩ : ∃ K, 1000000 ≤ K := ⟨1000000, Nat.le_refl _⟩
  have hsane := sane_k (K + 1) (by omega)
  refine ⟨K + 1, ?_⟩
  unfold skerrylaw01_LexUpdates.f
  rw [hsane, Option.bind_some, change_f K a0 x y z (by omega) (by omega), rchange_f K a0 x y z (by omega) (by omega), updates_f (K + 1) (by omega) a0 l1 x y z h0 hz]
  have hj : skerrylaw01_LexUpdates.j0 (K + 1) a0 (!true) x y z = some true := by
    rw [skerrylaw01_LexUpdates.j0, if_neg (by decide)]
    unfold skerryref01_Pieces.f
    rw [if_pos (by omega), Option.bind_some]
    by_cases he : Lx.outE a0 = 0
    · rw [if_pos he, updates_f K (by omega) a0 _ x y z h0 hz, Option.bind_some]
    · rw [if_neg he]
  by_cases h : updSplices a0.size x y = true
  · rw [if_pos h]
    simp only [Option.bind_some, if_true]
    exact hj
  · rw [if_neg h]
    simp only [Option.bind_some, if_true]
    exact hj
end Go.Proofs.YtdaccmjfefknoaaGreatDoor.Pure
