/-
  DERIVED. GIVEN WITH THE SEED: THE CARDS: each row of YtdaccmjfefknoaaDoorRows.lean that lists a variable, with what it lists TIED to the program's text (the seventh form; the later family's looks); each row that meets fmt, with fmt's text TOLD by the authors' own Lean function (tested against real Go, not proved from fmt's source: count such statements apart). THE CARD IS WHAT COUNTS. Prove the row's statement (the work); the ties are given (YtdaccmjfefknoaaDoorTie.lean); close each card by the builder's one call (the guide's Derived/Test/ToyasCard.lean, 'card_holds'). Laid BY PROGRAM, IN A SANDBOX (cutbox-door.mjs). By AI agents, Wed Nov 11 2026. No macro, syntax, notation, axiom, sorry.
-/
import Derived.Test.YtdaccmjfefknoaaDoorRows
import GoSem.ClaimSeven
namespace Go.Proofs.YtdaccmjfefknoaaDoor
namespace Rows

/-- THE TIED CARD OF 'skerrylaw01.LexCuts'. -/
def lexCutsCard : Claim7 := { stood := { row := lexCutsRow, standIns := [], harness := (true, "b2bcccaa61d0905247d502f60e37bf5704b1911ad2d887d9cf47f18844e04b30"), looks := true }, kinds := [], alts := [], laidByText := true, laidKinds := [.data, .data, .data, .sentinel, .sentinel], laidTests := true, laidLooks := .later }
def LexCutsCardSaid : Prop := Claim7.holds Tryd.pinned (.plain (OpenSpec.ofChange lexCutsSpec)) lexCutsCard

/-- THE TIED CARD OF 'skerrylaw01.LexWhole'. -/
def lexWholeCard : Claim7 := { stood := { row := lexWholeRow, standIns := [], harness := (true, "b2bcccaa61d0905247d502f60e37bf5704b1911ad2d887d9cf47f18844e04b30"), looks := true }, kinds := [], alts := [], laidByText := true, laidKinds := [.data, .data, .data, .sentinel, .sentinel], laidTests := true, laidLooks := .later }
def LexWholeCardSaid : Prop := Claim7.holds Tryd.pinned (.plain (OpenSpec.ofChange lexWholeSpec)) lexWholeCard

/-- THE TIED CARD OF 'skerrylaw01.LexGaps'. -/
def lexGapsCard : Claim7 := { stood := { row := lexGapsRow, standIns := [], harness := (true, "b2bcccaa61d0905247d502f60e37bf5704b1911ad2d887d9cf47f18844e04b30"), looks := true }, kinds := [], alts := [], laidByText := true, laidKinds := [.data, .data, .data, .sentinel, .sentinel], laidTests := true, laidLooks := .later }
def LexGapsCardSaid : Prop := Claim7.holds Tryd.pinned (.plain (OpenSpec.ofChange lexGapsSpec)) lexGapsCard

/-- THE TIED CARD OF 'skerrylaw01.LexLocal'. -/
def lexLocalCard : Claim7 := { stood := { row := lexLocalRow, standIns := [], harness := (true, "b2bcccaa61d0905247d502f60e37bf5704b1911ad2d887d9cf47f18844e04b30"), looks := true }, kinds := [], alts := [], laidByText := true, laidKinds := [.data, .data, .data, .sentinel, .sentinel], laidTests := true, laidLooks := .later }
def LexLocalCardSaid : Prop := Claim7.holds Tryd.pinned (.plain (OpenSpec.ofChange lexLocalSpec)) lexLocalCard

/-- THE TIED CARD OF 'skerrylaw01.LexLongest'. -/
def lexLongestCard : Claim7 := { stood := { row := lexLongestRow, standIns := [], harness := (true, "b2bcccaa61d0905247d502f60e37bf5704b1911ad2d887d9cf47f18844e04b30"), looks := true }, kinds := [], alts := [], laidByText := true, laidKinds := [.data, .data, .data, .sentinel, .sentinel], laidTests := true, laidLooks := .later }
def LexLongestCardSaid : Prop := Claim7.holds Tryd.pinned (.plain (OpenSpec.ofChange lexLongestSpec)) lexLongestCard

/-- THE TIED CARD OF 'skerrylaw01.LexUndone'. -/
def lexUndoneCard : Claim7 := { stood := { row := lexUndoneRow, standIns := [], harness := (true, "b2bcccaa61d0905247d502f60e37bf5704b1911ad2d887d9cf47f18844e04b30"), looks := true }, kinds := [], alts := [], laidByText := true, laidKinds := [.data, .data, .data, .sentinel, .sentinel], laidTests := true, laidLooks := .later }
def LexUndoneCardSaid : Prop := Claim7.holds Tryd.pinned (.plain (OpenSpec.ofChange lexUndoneSpec)) lexUndoneCard

/-- THE TIED CARD OF 'skerrylaw01.LexKinds'. -/
def lexKindsCard : Claim7 := { stood := { row := lexKindsRow, standIns := [], harness := (true, "b2bcccaa61d0905247d502f60e37bf5704b1911ad2d887d9cf47f18844e04b30"), looks := true }, kinds := [], alts := [], laidByText := true, laidKinds := [.data, .data, .data, .sentinel, .sentinel], laidTests := true, laidLooks := .later }
def LexKindsCardSaid : Prop := Claim7.holds Tryd.pinned (.plain (OpenSpec.ofChange lexKindsSpec)) lexKindsCard

/-- THE TIED CARD OF 'skerrylaw01.LexNumbers'. -/
def lexNumbersCard : Claim7 := { stood := { row := lexNumbersRow, standIns := [], harness := (true, "b2bcccaa61d0905247d502f60e37bf5704b1911ad2d887d9cf47f18844e04b30"), looks := true }, kinds := [], alts := [], laidByText := true, laidKinds := [.data, .data, .data, .sentinel, .sentinel], laidTests := true, laidLooks := .later }
def LexNumbersCardSaid : Prop := Claim7.holds Tryd.pinned (.plain (OpenSpec.ofChange lexNumbersSpec)) lexNumbersCard

/-- THE TIED CARD OF 'skerrylaw01.LexAgain'. -/
def lexAgainCard : Claim7 := { stood := { row := lexAgainRow, standIns := [], harness := (true, "b2bcccaa61d0905247d502f60e37bf5704b1911ad2d887d9cf47f18844e04b30"), looks := true }, kinds := [], alts := [], laidByText := true, laidKinds := [.data, .data, .data, .sentinel, .sentinel], laidTests := true, laidLooks := .later }
def LexAgainCardSaid : Prop := Claim7.holds Tryd.pinned (.plain (OpenSpec.ofChange lexAgainSpec)) lexAgainCard

/-- THE SECOND FORM's CARD OF 'skerrylaw01.LexCuts'. -/
def lexCutsUptoCard : Claim7 := { stood := { row := lexCutsUptoRow, standIns := [], harness := (true, "b2bcccaa61d0905247d502f60e37bf5704b1911ad2d887d9cf47f18844e04b30"), looks := true }, kinds := [], alts := [], laidByText := true, laidKinds := [.data, .data, .data, .sentinel, .sentinel], laidTests := true, laidLooks := .later }
def LexCutsUptoCardSaid : Prop := Claim7.holds Tryd.pinned (.plain (OpenSpec.upto lexCutsSpec)) lexCutsUptoCard

/-- THE SECOND FORM's CARD OF 'skerrylaw01.LexWhole'. -/
def lexWholeUptoCard : Claim7 := { stood := { row := lexWholeUptoRow, standIns := [], harness := (true, "b2bcccaa61d0905247d502f60e37bf5704b1911ad2d887d9cf47f18844e04b30"), looks := true }, kinds := [], alts := [], laidByText := true, laidKinds := [.data, .data, .data, .sentinel, .sentinel], laidTests := true, laidLooks := .later }
def LexWholeUptoCardSaid : Prop := Claim7.holds Tryd.pinned (.plain (OpenSpec.upto lexWholeSpec)) lexWholeUptoCard

/-- THE SECOND FORM's CARD OF 'skerrylaw01.LexGaps'. -/
def lexGapsUptoCard : Claim7 := { stood := { row := lexGapsUptoRow, standIns := [], harness := (true, "b2bcccaa61d0905247d502f60e37bf5704b1911ad2d887d9cf47f18844e04b30"), looks := true }, kinds := [], alts := [], laidByText := true, laidKinds := [.data, .data, .data, .sentinel, .sentinel], laidTests := true, laidLooks := .later }
def LexGapsUptoCardSaid : Prop := Claim7.holds Tryd.pinned (.plain (OpenSpec.upto lexGapsSpec)) lexGapsUptoCard

/-- THE SECOND FORM's CARD OF 'skerrylaw01.LexLocal'. -/
def lexLocalUptoCard : Claim7 := { stood := { row := lexLocalUptoRow, standIns := [], harness := (true, "b2bcccaa61d0905247d502f60e37bf5704b1911ad2d887d9cf47f18844e04b30"), looks := true }, kinds := [], alts := [], laidByText := true, laidKinds := [.data, .data, .data, .sentinel, .sentinel], laidTests := true, laidLooks := .later }
def LexLocalUptoCardSaid : Prop := Claim7.holds Tryd.pinned (.plain (OpenSpec.upto lexLocalSpec)) lexLocalUptoCard

/-- THE SECOND FORM's CARD OF 'skerrylaw01.LexLongest'. -/
def lexLongestUptoCard : Claim7 := { stood := { row := lexLongestUptoRow, standIns := [], harness := (true, "b2bcccaa61d0905247d502f60e37bf5704b1911ad2d887d9cf47f18844e04b30"), looks := true }, kinds := [], alts := [], laidByText := true, laidKinds := [.data, .data, .data, .sentinel, .sentinel], laidTests := true, laidLooks := .later }
def LexLongestUptoCardSaid : Prop := Claim7.holds Tryd.pinned (.plain (OpenSpec.upto lexLongestSpec)) lexLongestUptoCard

/-- THE SECOND FORM's CARD OF 'skerrylaw01.LexUndone'. -/
def lexUndoneUptoCard : Claim7 := { stood := { row := lexUndoneUptoRow, standIns := [], harness := (true, "b2bcccaa61d0905247d502f60e37bf5704b1911ad2d887d9cf47f18844e04b30"), looks := true }, kinds := [], alts := [], laidByText := true, laidKinds := [.data, .data, .data, .sentinel, .sentinel], laidTests := true, laidLooks := .later }
def LexUndoneUptoCardSaid : Prop := Claim7.holds Tryd.pinned (.plain (OpenSpec.upto lexUndoneSpec)) lexUndoneUptoCard

/-- THE SECOND FORM's CARD OF 'skerrylaw01.LexKinds'. -/
def lexKindsUptoCard : Claim7 := { stood := { row := lexKindsUptoRow, standIns := [], harness := (true, "b2bcccaa61d0905247d502f60e37bf5704b1911ad2d887d9cf47f18844e04b30"), looks := true }, kinds := [], alts := [], laidByText := true, laidKinds := [.data, .data, .data, .sentinel, .sentinel], laidTests := true, laidLooks := .later }
def LexKindsUptoCardSaid : Prop := Claim7.holds Tryd.pinned (.plain (OpenSpec.upto lexKindsSpec)) lexKindsUptoCard

/-- THE SECOND FORM's CARD OF 'skerrylaw01.LexNumbers'. -/
def lexNumbersUptoCard : Claim7 := { stood := { row := lexNumbersUptoRow, standIns := [], harness := (true, "b2bcccaa61d0905247d502f60e37bf5704b1911ad2d887d9cf47f18844e04b30"), looks := true }, kinds := [], alts := [], laidByText := true, laidKinds := [.data, .data, .data, .sentinel, .sentinel], laidTests := true, laidLooks := .later }
def LexNumbersUptoCardSaid : Prop := Claim7.holds Tryd.pinned (.plain (OpenSpec.upto lexNumbersSpec)) lexNumbersUptoCard

/-- THE SECOND FORM's CARD OF 'skerrylaw01.LexAgain'. -/
def lexAgainUptoCard : Claim7 := { stood := { row := lexAgainUptoRow, standIns := [], harness := (true, "b2bcccaa61d0905247d502f60e37bf5704b1911ad2d887d9cf47f18844e04b30"), looks := true }, kinds := [], alts := [], laidByText := true, laidKinds := [.data, .data, .data, .sentinel, .sentinel], laidTests := true, laidLooks := .later }
def LexAgainUptoCardSaid : Prop := Claim7.holds Tryd.pinned (.plain (OpenSpec.upto lexAgainSpec)) lexAgainUptoCard
end Rows
end Go.Proofs.YtdaccmjfefknoaaDoor
