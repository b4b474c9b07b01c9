/- FragPrefix in plain Lean. -/
import Derived.Test.YtipnlgmeonepfaaGreatDoorPFax12
import Derived.Test.YtipnlgmeonepfaaGreatDoorFrD
set_option linter.unusedVariables false
set_option linter.unusedSimpArgs false
namespace Go.Proofs.YtipnlgmeonepfaaGreatDoor.Pure
open Go.RowKit Go.Proofs.YtipnlgmeonepfaaGreatDoor.PFa Go.Proofs.YtipnlgmeonepfaaGreatDoorW.PrintWords Go.Proofs.YtipnlgmeonepfaaGreatDoorW.PrintLast
/-- An error of Read that is a token's: it is the machine's. -/
theorem read_bad {l : List Tk} {ws : List ByteArray} {out : List Fg} {at_ e : Int} (h : readOut l ws = (out, at_, e)) (he : e = 14 ∨ e = 6 ∨ e = 20) :
  wordsB ws = true ∧ l.length ≤ 6000 ∧ ∃ i : Nat, at_ = i ∧ i < l.length ∧ mach (actTab (openers ++ ws)) l (l.length + 1) 0 [] [] = .bad i e := by
 unfold readOut at h
 split at h
 ·rename_i hw
  split at h
  ·rename_i hl
   refine ⟨hw, hl, ?_⟩
   cases hm : mach (actTab (openers ++ ws)) l (l.length + 1) 0 [] [] with
   | bad i er =>
    rw [hm] at h
    dsimp only at h
    simp only [Prod.mk.injEq] at h
    obtain ⟨_, rfl, rfl⟩ := h
    exact ⟨i, rfl, mach_lt _ _ _ _ hm, rfl⟩
   | go i t p =>
    rw [hm] at h
    cases p with
    | nil =>
     simp only [Prod.mk.injEq] at h
     omega
    | cons q r =>
     simp only [Prod.mk.injEq] at h
     omega
  ·simp only [Prod.mk.injEq] at h
   omega
 ·simp only [Prod.mk.injEq] at h
  omega
theorem read_prefix {l more : List Tk} {ws : List ByteArray} {out : List Fg} {i : Nat} {e : Int} (h : readOut l ws = (out, (i : Int), e)) (he : e = 14 ∨ e = 6 ∨ e = 20) (h2 : i + 2 < l.length) (h3 : i + 3 + more.length ≤ 6000) :
  readOut (l.take (i + 3) ++ more) ws = ([], (i : Int), e) := by
 obtain ⟨hw, hl, i', hi', hlt, hm⟩ := read_bad h he
 obtain rfl : i' = i := by omega
 have hlen : (l.take (i' + 3) ++ more).length = i' + 3 + more.length := by
  rw [List.length_append, List.length_take]
  omega
 have ha : Agree l (l.take (i' + 3) ++ more) (i' + 3) := by
  intro j hj
  refine ⟨by omega, by rw [hlen]; omega, ?_⟩
  show l.getD (j : Int).toNat _ = (l.take (i' + 3) ++ more).getD (j : Int).toNat _
  rw [Int.toNat_natCast, List.getD_eq_getElem?_getD, List.getD_eq_getElem?_getD, List.getElem?_append_left (by rw [List.length_take]; omega), List.getElem?_take, if_pos hj]
 have := mach_prefix ha (by omega) _ 0 [] [] ((l.take (i' + 3) ++ more).length + 1) (by rw [hlen]; omega) hm
 unfold readOut
 rw [if_pos hw, if_pos (by rw [hlen]; exact h3), this]
theorem FragPrefix (l : List Tk) (ws : List ByteArray) (more : List Tk) (hN : more.length ≤ 2932031007402) : ∃ k, skerrylaw02_FragPrefix.f k l ws more = some true := by
 refine ⟨100, ?_⟩
 have hs : skerrylaw02_sane.f = some true := rfl
 have hj : ∀ x7 x9 x10, skerrylaw02_FragPrefix.j0 100 l ws more x7 x9 x10 true = some x7 := fun _ _ _ => by
  rw [skerrylaw02_FragPrefix.j0, if_pos rfl]
 obtain ⟨⟨out, at_, e⟩, hr⟩ : ∃ r, readOut l ws = r := ⟨_, rfl⟩
 have hf : fragment_Read.f l ws = some (out, at_, e) := congrArg some hr
 have key : (e = 14 ∨ e = 6 ∨ e = 20) → (if (wrap64 (at_ + 2)) ≥ (l.length : Int) then (skerrylaw02_FragPrefix.j0 100 l ws more true at_ e true) else (skerrylaw02_FragPrefix.j0 100 l ws more true at_ e (decide ((wrap64 ((wrap64 (at_ + 3)) + (more.length : Int))) > 6000)))) = some true := by
  intro he
  obtain ⟨hw, hl, i, rfl, hlt, hm⟩ := read_bad hr he
  have s2 : wrap64 ((i : Int) + 2) = (i : Int) + 2 := by unfold wrap64; omega
  have s3 : wrap64 ((i : Int) + 3) = (i : Int) + 3 := by unfold wrap64; omega
  have s4 : wrap64 ((i : Int) + 3 + (more.length : Int)) = (i : Int) + 3 + (more.length : Int) := by unfold wrap64; omega
  rw [s2, s3, s4]
  by_cases h2 : (i : Int) + 2 ≥ (l.length : Int)
  ·rw [if_pos h2, hj]
  ·rw [if_neg h2]
   by_cases h3 : (i : Int) + 3 + (more.length : Int) > 6000
   ·rw [decide_eq_true h3, hj]
   ·rw [decide_eq_false h3, skerrylaw02_FragPrefix.j0, if_neg (by decide), s3]
    have hp := read_prefix (more := more) hr he (by omega) (by omega)
    have ht : ((i : Int) + 3).toNat = i + 3 := by omega
    have hf2 : fragment_Read.f (([] : List Tk) ++ l.take ((i : Int) + 3).toNat ++ more) ws = some ([], (i : Int), e) := by
     rw [ht]
     exact congrArg some hp
    simp only [Option.bind_some]
    rw [if_pos (show (0 : Int) ≤ (i : Int) + 3 by omega), if_pos (show (i : Int) + 3 ≤ (l.length : Int) by omega), if_pos (by rw [List.length_take]; simp only [List.length_nil]; omega), if_pos (by rw [List.length_append, List.length_take]; simp only [List.length_nil]; omega), hf2]
    simp only [Option.bind_some, if_true, beq_self_eq_true]
 unfold skerrylaw02_FragPrefix.f
 rw [hs, hf]
 simp only [Option.bind_some]
 by_cases h14 : e = 14
 ·rw [if_pos h14]
  exact key (.inl h14)
 ·rw [if_neg h14]
  by_cases h6 : e = 6
  ·rw [if_pos h6]
   exact key (.inr (.inl h6))
  ·rw [if_neg h6]
   by_cases h20 : e = 20
   ·rw [if_pos h20]
    exact key (.inr (.inr h20))
   ·rw [if_neg h20]
    exact hj _ _ _
end Go.Proofs.YtipnlgmeonepfaaGreatDoor.Pure
