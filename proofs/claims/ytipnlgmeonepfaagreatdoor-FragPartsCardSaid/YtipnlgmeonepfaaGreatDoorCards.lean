/-
  DERIVED. GIVEN WITH THE SEED: THE CARDS: each row of YtipnlgmeonepfaaGreatDoorRows.lean that lists a variable, with what it lists TIED to the program's text (the seventh form; the later family's looks); each row that meets fmt, with fmt's text TOLD by the authors' own Lean function (tested against real Go, not proved from fmt's source: count such statements apart). THE CARD IS WHAT COUNTS. Prove the row's statement (the work); the ties are given (YtipnlgmeonepfaaGreatDoorTie.lean); close each card by the builder's one call (the guide's Derived/Test/ToyasCard.lean, 'card_holds'). Laid BY PROGRAM, IN A SANDBOX (cutbox-door.mjs). By AI agents, Wed Nov 11 2026. No macro, syntax, notation, axiom, sorry.
-/
import Derived.Test.YtipnlgmeonepfaaGreatDoorRows
import GoSem.ClaimSeven
namespace Go.Proofs.YtipnlgmeonepfaaGreatDoor
namespace Rows

/-- THE TIED CARD OF 'skerrylaw02.FragReads'. -/
def fragReadsCard : Claim7 := { stood := { row := fragReadsRow, standIns := [], harness := (true, "c0a0b517da387174ee80b0e243ab451f7cd4a9172eb6fa8d75b9c56bc07f6b08"), looks := true }, kinds := [], alts := [], laidByText := true, laidKinds := [.data, .data, .data, .sentinel, .sentinel], laidTests := true, laidLooks := .later }
def FragReadsCardSaid : Prop := Claim7.holds Tryz.pinned (.plain (OpenSpec.ofChange fragReadsSpec)) fragReadsCard

/-- THE TIED CARD OF 'skerrylaw02.FragPrefix'. -/
def fragPrefixCard : Claim7 := { stood := { row := fragPrefixRow, standIns := [], harness := (true, "c0a0b517da387174ee80b0e243ab451f7cd4a9172eb6fa8d75b9c56bc07f6b08"), looks := true }, kinds := [], alts := [], laidByText := true, laidKinds := [.data, .data, .data, .sentinel, .sentinel], laidTests := true, laidLooks := .later }
def FragPrefixCardSaid : Prop := Claim7.holds Tryz.pinned (.plain (OpenSpec.ofChange fragPrefixSpec)) fragPrefixCard

/-- THE TIED CARD OF 'skerrylaw02.FragMarks'. -/
def fragMarksCard : Claim7 := { stood := { row := fragMarksRow, standIns := [], harness := (true, "c0a0b517da387174ee80b0e243ab451f7cd4a9172eb6fa8d75b9c56bc07f6b08"), looks := true }, kinds := [], alts := [], laidByText := true, laidKinds := [.data, .data, .data, .sentinel, .sentinel], laidTests := true, laidLooks := .later }
def FragMarksCardSaid : Prop := Claim7.holds Tryz.pinned (.plain (OpenSpec.ofChange fragMarksSpec)) fragMarksCard

/-- THE TIED CARD OF 'skerrylaw02.FragBack'. -/
def fragBackCard : Claim7 := { stood := { row := fragBackRow, standIns := [], harness := (true, "c0a0b517da387174ee80b0e243ab451f7cd4a9172eb6fa8d75b9c56bc07f6b08"), looks := true }, kinds := [], alts := [], laidByText := true, laidKinds := [.data, .data, .data, .sentinel, .sentinel], laidTests := true, laidLooks := .later }
def FragBackCardSaid : Prop := Claim7.holds Tryz.pinned (.plain (OpenSpec.ofChange fragBackSpec)) fragBackCard

/-- THE TIED CARD OF 'skerrylaw02.FragMatched'. -/
def fragMatchedCard : Claim7 := { stood := { row := fragMatchedRow, standIns := [], harness := (true, "c0a0b517da387174ee80b0e243ab451f7cd4a9172eb6fa8d75b9c56bc07f6b08"), looks := true }, kinds := [], alts := [], laidByText := true, laidKinds := [.data, .data, .data, .sentinel, .sentinel], laidTests := true, laidLooks := .later }
def FragMatchedCardSaid : Prop := Claim7.holds Tryz.pinned (.plain (OpenSpec.ofChange fragMatchedSpec)) fragMatchedCard

/-- THE TIED CARD OF 'skerrylaw02.FragParts'. -/
def fragPartsCard : Claim7 := { stood := { row := fragPartsRow, standIns := [], harness := (true, "c0a0b517da387174ee80b0e243ab451f7cd4a9172eb6fa8d75b9c56bc07f6b08"), looks := true }, kinds := [], alts := [], laidByText := true, laidKinds := [.data, .data, .data, .sentinel, .sentinel], laidTests := true, laidLooks := .later }
def FragPartsCardSaid : Prop := Claim7.holds Tryz.pinned (.plain (OpenSpec.ofChange fragPartsSpec)) fragPartsCard

/-- THE TIED CARD OF 'skerrylaw02.FragWords'. -/
def fragWordsCard : Claim7 := { stood := { row := fragWordsRow, standIns := [], harness := (true, "c0a0b517da387174ee80b0e243ab451f7cd4a9172eb6fa8d75b9c56bc07f6b08"), looks := true }, kinds := [], alts := [], laidByText := true, laidKinds := [.data, .data, .data, .sentinel, .sentinel], laidTests := true, laidLooks := .later }
def FragWordsCardSaid : Prop := Claim7.holds Tryz.pinned (.plain (OpenSpec.ofChange fragWordsSpec)) fragWordsCard

/-- THE TIED CARD OF 'skerrylaw02.FragLists'. -/
def fragListsCard : Claim7 := { stood := { row := fragListsRow, standIns := [], harness := (true, "c0a0b517da387174ee80b0e243ab451f7cd4a9172eb6fa8d75b9c56bc07f6b08"), looks := true }, kinds := [], alts := [], laidByText := true, laidKinds := [.data, .data, .data, .sentinel, .sentinel], laidTests := true, laidLooks := .later }
def FragListsCardSaid : Prop := Claim7.holds Tryz.pinned (.plain (OpenSpec.ofChange fragListsSpec)) fragListsCard

/-- THE TIED CARD OF 'skerrylaw02.FragFlats'. -/
def fragFlatsCard : Claim7 := { stood := { row := fragFlatsRow, standIns := [], harness := (true, "c0a0b517da387174ee80b0e243ab451f7cd4a9172eb6fa8d75b9c56bc07f6b08"), looks := true }, kinds := [], alts := [], laidByText := true, laidKinds := [.data, .data, .data, .sentinel, .sentinel], laidTests := true, laidLooks := .later }
def FragFlatsCardSaid : Prop := Claim7.holds Tryz.pinned (.plain (OpenSpec.ofChange fragFlatsSpec)) fragFlatsCard

/-- THE TIED CARD OF 'skerrylaw02.FragPaths'. -/
def fragPathsCard : Claim7 := { stood := { row := fragPathsRow, standIns := [], harness := (true, "c0a0b517da387174ee80b0e243ab451f7cd4a9172eb6fa8d75b9c56bc07f6b08"), looks := true }, kinds := [], alts := [], laidByText := true, laidKinds := [.data, .data, .data, .sentinel, .sentinel], laidTests := true, laidLooks := .later }
def FragPathsCardSaid : Prop := Claim7.holds Tryz.pinned (.plain (OpenSpec.ofChange fragPathsSpec)) fragPathsCard

/-- THE TIED CARD OF 'skerrylaw02.FragPieces'. -/
def fragPiecesCard : Claim7 := { stood := { row := fragPiecesRow, standIns := [], harness := (true, "c0a0b517da387174ee80b0e243ab451f7cd4a9172eb6fa8d75b9c56bc07f6b08"), looks := true }, kinds := [], alts := [], laidByText := true, laidKinds := [.data, .data, .data, .sentinel, .sentinel], laidTests := true, laidLooks := .later }
def FragPiecesCardSaid : Prop := Claim7.holds Tryz.pinned (.plain (OpenSpec.ofChange fragPiecesSpec)) fragPiecesCard

/-- THE SECOND FORM's CARD OF 'skerrylaw02.FragReads'. -/
def fragReadsUptoCard : Claim7 := { stood := { row := fragReadsUptoRow, standIns := [], harness := (true, "c0a0b517da387174ee80b0e243ab451f7cd4a9172eb6fa8d75b9c56bc07f6b08"), looks := true }, kinds := [], alts := [], laidByText := true, laidKinds := [.data, .data, .data, .sentinel, .sentinel], laidTests := true, laidLooks := .later }
def FragReadsUptoCardSaid : Prop := Claim7.holds Tryz.pinned (.plain (OpenSpec.upto fragReadsSpec)) fragReadsUptoCard

/-- THE SECOND FORM's CARD OF 'skerrylaw02.FragPrefix'. -/
def fragPrefixUptoCard : Claim7 := { stood := { row := fragPrefixUptoRow, standIns := [], harness := (true, "c0a0b517da387174ee80b0e243ab451f7cd4a9172eb6fa8d75b9c56bc07f6b08"), looks := true }, kinds := [], alts := [], laidByText := true, laidKinds := [.data, .data, .data, .sentinel, .sentinel], laidTests := true, laidLooks := .later }
def FragPrefixUptoCardSaid : Prop := Claim7.holds Tryz.pinned (.plain (OpenSpec.upto fragPrefixSpec)) fragPrefixUptoCard

/-- THE SECOND FORM's CARD OF 'skerrylaw02.FragMarks'. -/
def fragMarksUptoCard : Claim7 := { stood := { row := fragMarksUptoRow, standIns := [], harness := (true, "c0a0b517da387174ee80b0e243ab451f7cd4a9172eb6fa8d75b9c56bc07f6b08"), looks := true }, kinds := [], alts := [], laidByText := true, laidKinds := [.data, .data, .data, .sentinel, .sentinel], laidTests := true, laidLooks := .later }
def FragMarksUptoCardSaid : Prop := Claim7.holds Tryz.pinned (.plain (OpenSpec.upto fragMarksSpec)) fragMarksUptoCard

/-- THE SECOND FORM's CARD OF 'skerrylaw02.FragBack'. -/
def fragBackUptoCard : Claim7 := { stood := { row := fragBackUptoRow, standIns := [], harness := (true, "c0a0b517da387174ee80b0e243ab451f7cd4a9172eb6fa8d75b9c56bc07f6b08"), looks := true }, kinds := [], alts := [], laidByText := true, laidKinds := [.data, .data, .data, .sentinel, .sentinel], laidTests := true, laidLooks := .later }
def FragBackUptoCardSaid : Prop := Claim7.holds Tryz.pinned (.plain (OpenSpec.upto fragBackSpec)) fragBackUptoCard

/-- THE SECOND FORM's CARD OF 'skerrylaw02.FragMatched'. -/
def fragMatchedUptoCard : Claim7 := { stood := { row := fragMatchedUptoRow, standIns := [], harness := (true, "c0a0b517da387174ee80b0e243ab451f7cd4a9172eb6fa8d75b9c56bc07f6b08"), looks := true }, kinds := [], alts := [], laidByText := true, laidKinds := [.data, .data, .data, .sentinel, .sentinel], laidTests := true, laidLooks := .later }
def FragMatchedUptoCardSaid : Prop := Claim7.holds Tryz.pinned (.plain (OpenSpec.upto fragMatchedSpec)) fragMatchedUptoCard

/-- THE SECOND FORM's CARD OF 'skerrylaw02.FragParts'. -/
def fragPartsUptoCard : Claim7 := { stood := { row := fragPartsUptoRow, standIns := [], harness := (true, "c0a0b517da387174ee80b0e243ab451f7cd4a9172eb6fa8d75b9c56bc07f6b08"), looks := true }, kinds := [], alts := [], laidByText := true, laidKinds := [.data, .data, .data, .sentinel, .sentinel], laidTests := true, laidLooks := .later }
def FragPartsUptoCardSaid : Prop := Claim7.holds Tryz.pinned (.plain (OpenSpec.upto fragPartsSpec)) fragPartsUptoCard

/-- THE SECOND FORM's CARD OF 'skerrylaw02.FragWords'. -/
def fragWordsUptoCard : Claim7 := { stood := { row := fragWordsUptoRow, standIns := [], harness := (true, "c0a0b517da387174ee80b0e243ab451f7cd4a9172eb6fa8d75b9c56bc07f6b08"), looks := true }, kinds := [], alts := [], laidByText := true, laidKinds := [.data, .data, .data, .sentinel, .sentinel], laidTests := true, laidLooks := .later }
def FragWordsUptoCardSaid : Prop := Claim7.holds Tryz.pinned (.plain (OpenSpec.upto fragWordsSpec)) fragWordsUptoCard

/-- THE SECOND FORM's CARD OF 'skerrylaw02.FragLists'. -/
def fragListsUptoCard : Claim7 := { stood := { row := fragListsUptoRow, standIns := [], harness := (true, "c0a0b517da387174ee80b0e243ab451f7cd4a9172eb6fa8d75b9c56bc07f6b08"), looks := true }, kinds := [], alts := [], laidByText := true, laidKinds := [.data, .data, .data, .sentinel, .sentinel], laidTests := true, laidLooks := .later }
def FragListsUptoCardSaid : Prop := Claim7.holds Tryz.pinned (.plain (OpenSpec.upto fragListsSpec)) fragListsUptoCard

/-- THE SECOND FORM's CARD OF 'skerrylaw02.FragFlats'. -/
def fragFlatsUptoCard : Claim7 := { stood := { row := fragFlatsUptoRow, standIns := [], harness := (true, "c0a0b517da387174ee80b0e243ab451f7cd4a9172eb6fa8d75b9c56bc07f6b08"), looks := true }, kinds := [], alts := [], laidByText := true, laidKinds := [.data, .data, .data, .sentinel, .sentinel], laidTests := true, laidLooks := .later }
def FragFlatsUptoCardSaid : Prop := Claim7.holds Tryz.pinned (.plain (OpenSpec.upto fragFlatsSpec)) fragFlatsUptoCard

/-- THE SECOND FORM's CARD OF 'skerrylaw02.FragPaths'. -/
def fragPathsUptoCard : Claim7 := { stood := { row := fragPathsUptoRow, standIns := [], harness := (true, "c0a0b517da387174ee80b0e243ab451f7cd4a9172eb6fa8d75b9c56bc07f6b08"), looks := true }, kinds := [], alts := [], laidByText := true, laidKinds := [.data, .data, .data, .sentinel, .sentinel], laidTests := true, laidLooks := .later }
def FragPathsUptoCardSaid : Prop := Claim7.holds Tryz.pinned (.plain (OpenSpec.upto fragPathsSpec)) fragPathsUptoCard

/-- THE SECOND FORM's CARD OF 'skerrylaw02.FragPieces'. -/
def fragPiecesUptoCard : Claim7 := { stood := { row := fragPiecesUptoRow, standIns := [], harness := (true, "c0a0b517da387174ee80b0e243ab451f7cd4a9172eb6fa8d75b9c56bc07f6b08"), looks := true }, kinds := [], alts := [], laidByText := true, laidKinds := [.data, .data, .data, .sentinel, .sentinel], laidTests := true, laidLooks := .later }
def FragPiecesUptoCardSaid : Prop := Claim7.holds Tryz.pinned (.plain (OpenSpec.upto fragPiecesSpec)) fragPiecesUptoCard
end Rows
end Go.Proofs.YtipnlgmeonepfaaGreatDoor
