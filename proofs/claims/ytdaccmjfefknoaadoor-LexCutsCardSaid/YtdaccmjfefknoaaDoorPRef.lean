/- What the printed reference hands back, out of the plain pieces: Pieces and Scan are the program's. -/
import Derived.Test.YtdaccmjfefknoaaDoorPScanB
import Derived.Test.YtdaccmjfefknoaaDoorPLbx9
set_option linter.unusedVariables false
set_option linter.unusedSimpArgs false
namespace Go.Proofs.YtdaccmjfefknoaaDoor.Pure
open Go.RowKit Go.Proofs.YtdaccmjfefknoaaDoor.PLb Go.Proofs.YtdaccmjfefknoaaDoorW.PrintWords Go.Proofs.YtdaccmjfefknoaaDoorW.PrintLast

theorem rpieces_f (a0 : ByteArray) (h : a0.size ≤ 9223372036854775807) : skerryref01_Pieces.f a0 = lex_Pieces.f a0 := by
  unfold skerryref01_Pieces.f
  rw [if_pos h, pieces_f]
  rfl
theorem rscan_f (a0 : ByteArray) (h : a0.size ≤ 9223372036854775807) (k : Nat) (hk : 60000 < k) : skerryref01_Scan.f a0 = lex_Scan.f k a0 := by
  unfold skerryref01_Scan.f
  rw [if_pos h]
  cases hp : Lx.pieces a0.data.toList with
  | error e =>
    obtain ⟨h1, h2, h3, h4⟩ := out_err hp
    rw [scan_err hp, h1, h2, h3]
    rfl
  | ok l =>
    obtain ⟨h1, h2, h3⟩ := out_ok hp
    rw [scan_ok hp k (by omega), h1, h2, h3]
    rfl
end Go.Proofs.YtdaccmjfefknoaaDoor.Pure
