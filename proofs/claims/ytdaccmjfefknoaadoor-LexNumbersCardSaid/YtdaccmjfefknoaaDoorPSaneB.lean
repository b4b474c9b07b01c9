/- The examples that each law asks first hold. -/
import Derived.Test.YtdaccmjfefknoaaDoorPLbx8
set_option linter.unusedVariables false
set_option linter.unusedSimpArgs false
namespace Go.Proofs.YtdaccmjfefknoaaDoor.Pure
open Go.RowKit Go.Proofs.YtdaccmjfefknoaaDoor.PLb Go.Proofs.YtdaccmjfefknoaaDoorW.PrintWords Go.Proofs.YtdaccmjfefknoaaDoorW.PrintLast
theorem sane_true : skerrylaw01_sane.f 60 = some true := by decide +kernel
theorem sane_at : ∀ k, skerrylaw01_sane.f (60 + k) = some true
  | 0 => sane_true
  | k + 1 => skerrylaw01_sane.mono _ _ (sane_at k)
theorem sane_k (k : Nat) (h : 60 ≤ k) : skerrylaw01_sane.f k = some true := by
  obtain ⟨j, rfl⟩ : ∃ j, k = 60 + j := ⟨k - 60, by omega⟩
  exact sane_at j
end Go.Proofs.YtdaccmjfefknoaaDoor.Pure
