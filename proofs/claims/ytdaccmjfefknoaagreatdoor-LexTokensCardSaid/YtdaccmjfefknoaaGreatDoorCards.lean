/-
  DERIVED. GIVEN WITH THE SEED: THE CARDS: each row of YtdaccmjfefknoaaGreatDoorRows.lean that lists a variable, with what it lists TIED to the program's text (the seventh form; the later family's looks); each row that meets fmt, with fmt's text TOLD by the authors' own Lean function (tested against real Go, not proved from fmt's source: count such statements apart). THE CARD IS WHAT COUNTS. Prove the row's statement (the work); the ties are given (YtdaccmjfefknoaaGreatDoorTie.lean); close each card by the builder's one call (the guide's Derived/Test/ToyasCard.lean, 'card_holds'). Laid BY PROGRAM, IN A SANDBOX (cutbox-door.mjs). By AI agents, Wed Nov 11 2026. No macro, syntax, notation, axiom, sorry.
-/
import Derived.Test.YtdaccmjfefknoaaGreatDoorRows
import GoSem.ClaimSeven
namespace Go.Proofs.YtdaccmjfefknoaaGreatDoor
namespace Rows

/-- THE TIED CARD OF 'skerrylaw01.LexUpdates'. -/
def lexUpdatesCard : Claim7 := { stood := { row := lexUpdatesRow, standIns := [], harness := (true, "92981c10af6726cd1252a5f6097727e8a035bfa0b37b4044041b1e979ced2b1f"), looks := true }, kinds := [], alts := [], laidByText := true, laidKinds := [.data, .data, .data, .sentinel, .sentinel], laidTests := true, laidLooks := .later }
def LexUpdatesCardSaid : Prop := Claim7.holds Tryz.pinned (.plain (OpenSpec.ofChange lexUpdatesSpec)) lexUpdatesCard

/-- THE TIED CARD OF 'skerrylaw01.LexTokens'. -/
def lexTokensCard : Claim7 := { stood := { row := lexTokensRow, standIns := [], harness := (true, "92981c10af6726cd1252a5f6097727e8a035bfa0b37b4044041b1e979ced2b1f"), looks := true }, kinds := [], alts := [], laidByText := true, laidKinds := [.data, .data, .data, .sentinel, .sentinel], laidTests := true, laidLooks := .later }
def LexTokensCardSaid : Prop := Claim7.holds Tryz.pinned (.plain (OpenSpec.ofChange lexTokensSpec)) lexTokensCard

/-- THE SECOND FORM's CARD OF 'skerrylaw01.LexUpdates'. -/
def lexUpdatesUptoCard : Claim7 := { stood := { row := lexUpdatesUptoRow, standIns := [], harness := (true, "92981c10af6726cd1252a5f6097727e8a035bfa0b37b4044041b1e979ced2b1f"), looks := true }, kinds := [], alts := [], laidByText := true, laidKinds := [.data, .data, .data, .sentinel, .sentinel], laidTests := true, laidLooks := .later }
def LexUpdatesUptoCardSaid : Prop := Claim7.holds Tryz.pinned (.plain (OpenSpec.upto lexUpdatesSpec)) lexUpdatesUptoCard

/-- THE SECOND FORM's CARD OF 'skerrylaw01.LexTokens'. -/
def lexTokensUptoCard : Claim7 := { stood := { row := lexTokensUptoRow, standIns := [], harness := (true, "92981c10af6726cd1252a5f6097727e8a035bfa0b37b4044041b1e979ced2b1f"), looks := true }, kinds := [], alts := [], laidByText := true, laidKinds := [.data, .data, .data, .sentinel, .sentinel], laidTests := true, laidLooks := .later }
def LexTokensUptoCardSaid : Prop := Claim7.holds Tryz.pinned (.plain (OpenSpec.upto lexTokensSpec)) lexTokensUptoCard
end Rows
end Go.Proofs.YtdaccmjfefknoaaGreatDoor
