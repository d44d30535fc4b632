/-
  DERIVED. GIVEN WITH THE SEED: THE CARDS: each row of YtkniiinpkchjoaaDoorRows.lean that lists a variable, with what it lists TIED to the program's text (the seventh form; the later family's looks); each row that meets fmt, with fmt's text TOLD by the authors' own Lean function (tested against real Go, not proved from fmt's source: count such statements apart). THE CARD IS WHAT COUNTS. Prove the row's statement (the work); the ties are given (YtkniiinpkchjoaaDoorTie.lean); close each card by the builder's one call (the guide's Derived/Test/ToyasCard.lean, 'card_holds'). Laid BY PROGRAM, IN A SANDBOX (cutbox-door.mjs). By AI agents, Wed Nov 11 2026. No macro, syntax, notation, axiom, sorry.
-/
import Derived.Test.YtkniiinpkchjoaaDoorRows
import GoSem.ClaimSeven
namespace Go.Proofs.YtkniiinpkchjoaaDoor
namespace Rows

/-- THE TIED CARD OF 'spinneylaw02.CharClasses'. -/
def charClassesCard : Claim7 := { stood := { row := charClassesRow, standIns := [], harness := (true, "9df3dd1c8c4b9ccdeb784058959a56219a962d651c6ad9da9afa8e1da23f4eae"), looks := true }, kinds := [], alts := [], laidByText := true, laidKinds := [.data, .data, .data, .data, .sentinel, .sentinel, .pinned], laidTests := true, laidLooks := .later }
def CharClassesCardSaid : Prop := Claim7.holds Tryd.pinned (.plain (OpenSpec.ofChange charClassesSpec)) charClassesCard

/-- THE TIED CARD OF 'spinneylaw02.CharBack'. -/
def charBackCard : Claim7 := { stood := { row := charBackRow, standIns := [], harness := (true, "9df3dd1c8c4b9ccdeb784058959a56219a962d651c6ad9da9afa8e1da23f4eae"), looks := true }, kinds := [], alts := [], laidByText := true, laidKinds := [.data, .data, .data, .data, .sentinel, .sentinel, .pinned], laidTests := true, laidLooks := .later }
def CharBackCardSaid : Prop := Claim7.holds Tryd.pinned (.plain (OpenSpec.ofChange charBackSpec)) charBackCard

/-- THE TIED CARD OF 'spinneylaw02.CharParts'. -/
def charPartsCard : Claim7 := { stood := { row := charPartsRow, standIns := [], harness := (true, "9df3dd1c8c4b9ccdeb784058959a56219a962d651c6ad9da9afa8e1da23f4eae"), looks := true }, kinds := [], alts := [], laidByText := true, laidKinds := [.data, .data, .data, .data, .sentinel, .sentinel, .pinned], laidTests := true, laidLooks := .later }
def CharPartsCardSaid : Prop := Claim7.holds Tryd.pinned (.plain (OpenSpec.ofChange charPartsSpec)) charPartsCard

/-- THE TIED CARD OF 'spinneylaw02.CharQuotes'. -/
def charQuotesCard : Claim7 := { stood := { row := charQuotesRow, standIns := [], harness := (true, "9df3dd1c8c4b9ccdeb784058959a56219a962d651c6ad9da9afa8e1da23f4eae"), looks := true }, kinds := [], alts := [], laidByText := true, laidKinds := [.data, .data, .data, .data, .sentinel, .sentinel, .pinned], laidTests := true, laidLooks := .later }
def CharQuotesCardSaid : Prop := Claim7.holds Tryd.pinned (.plain (OpenSpec.ofChange charQuotesSpec)) charQuotesCard

/-- THE TIED CARD OF 'spinneylaw02.CharAgain'. -/
def charAgainCard : Claim7 := { stood := { row := charAgainRow, standIns := [], harness := (true, "9df3dd1c8c4b9ccdeb784058959a56219a962d651c6ad9da9afa8e1da23f4eae"), looks := true }, kinds := [], alts := [], laidByText := true, laidKinds := [.data, .data, .data, .data, .sentinel, .sentinel, .pinned], laidTests := true, laidLooks := .later }
def CharAgainCardSaid : Prop := Claim7.holds Tryd.pinned (.plain (OpenSpec.ofChange charAgainSpec)) charAgainCard

/-- THE TIED CARD OF 'spinneylaw02.CharChecks'. -/
def charChecksCard : Claim7 := { stood := { row := charChecksRow, standIns := [], harness := (true, "9df3dd1c8c4b9ccdeb784058959a56219a962d651c6ad9da9afa8e1da23f4eae"), looks := true }, kinds := [], alts := [], laidByText := true, laidKinds := [.data, .data, .data, .data, .sentinel, .sentinel, .pinned], laidTests := true, laidLooks := .later }
def CharChecksCardSaid : Prop := Claim7.holds Tryd.pinned (.plain (OpenSpec.ofChange charChecksSpec)) charChecksCard

/-- THE TIED CARD OF 'spinneylaw02.CharWrites'. -/
def charWritesCard : Claim7 := { stood := { row := charWritesRow, standIns := [], harness := (true, "9df3dd1c8c4b9ccdeb784058959a56219a962d651c6ad9da9afa8e1da23f4eae"), looks := true }, kinds := [], alts := [], laidByText := true, laidKinds := [.data, .data, .data, .data, .sentinel, .sentinel, .pinned], laidTests := true, laidLooks := .later }
def CharWritesCardSaid : Prop := Claim7.holds Tryd.pinned (.plain (OpenSpec.ofChange charWritesSpec)) charWritesCard

/-- THE TIED CARD OF 'spinneylaw02.CharReads'. -/
def charReadsCard : Claim7 := { stood := { row := charReadsRow, standIns := [], harness := (true, "9df3dd1c8c4b9ccdeb784058959a56219a962d651c6ad9da9afa8e1da23f4eae"), looks := true }, kinds := [], alts := [], laidByText := true, laidKinds := [.data, .data, .data, .data, .sentinel, .sentinel, .pinned], laidTests := true, laidLooks := .later }
def CharReadsCardSaid : Prop := Claim7.holds Tryd.pinned (.plain (OpenSpec.ofChange charReadsSpec)) charReadsCard

/-- THE SECOND FORM's CARD OF 'spinneylaw02.CharClasses'. -/
def charClassesUptoCard : Claim7 := { stood := { row := charClassesUptoRow, standIns := [], harness := (true, "9df3dd1c8c4b9ccdeb784058959a56219a962d651c6ad9da9afa8e1da23f4eae"), looks := true }, kinds := [], alts := [], laidByText := true, laidKinds := [.data, .data, .data, .data, .sentinel, .sentinel, .pinned], laidTests := true, laidLooks := .later }
def CharClassesUptoCardSaid : Prop := Claim7.holds Tryd.pinned (.plain (OpenSpec.upto charClassesSpec)) charClassesUptoCard

/-- THE SECOND FORM's CARD OF 'spinneylaw02.CharBack'. -/
def charBackUptoCard : Claim7 := { stood := { row := charBackUptoRow, standIns := [], harness := (true, "9df3dd1c8c4b9ccdeb784058959a56219a962d651c6ad9da9afa8e1da23f4eae"), looks := true }, kinds := [], alts := [], laidByText := true, laidKinds := [.data, .data, .data, .data, .sentinel, .sentinel, .pinned], laidTests := true, laidLooks := .later }
def CharBackUptoCardSaid : Prop := Claim7.holds Tryd.pinned (.plain (OpenSpec.upto charBackSpec)) charBackUptoCard

/-- THE SECOND FORM's CARD OF 'spinneylaw02.CharParts'. -/
def charPartsUptoCard : Claim7 := { stood := { row := charPartsUptoRow, standIns := [], harness := (true, "9df3dd1c8c4b9ccdeb784058959a56219a962d651c6ad9da9afa8e1da23f4eae"), looks := true }, kinds := [], alts := [], laidByText := true, laidKinds := [.data, .data, .data, .data, .sentinel, .sentinel, .pinned], laidTests := true, laidLooks := .later }
def CharPartsUptoCardSaid : Prop := Claim7.holds Tryd.pinned (.plain (OpenSpec.upto charPartsSpec)) charPartsUptoCard

/-- THE SECOND FORM's CARD OF 'spinneylaw02.CharQuotes'. -/
def charQuotesUptoCard : Claim7 := { stood := { row := charQuotesUptoRow, standIns := [], harness := (true, "9df3dd1c8c4b9ccdeb784058959a56219a962d651c6ad9da9afa8e1da23f4eae"), looks := true }, kinds := [], alts := [], laidByText := true, laidKinds := [.data, .data, .data, .data, .sentinel, .sentinel, .pinned], laidTests := true, laidLooks := .later }
def CharQuotesUptoCardSaid : Prop := Claim7.holds Tryd.pinned (.plain (OpenSpec.upto charQuotesSpec)) charQuotesUptoCard

/-- THE SECOND FORM's CARD OF 'spinneylaw02.CharAgain'. -/
def charAgainUptoCard : Claim7 := { stood := { row := charAgainUptoRow, standIns := [], harness := (true, "9df3dd1c8c4b9ccdeb784058959a56219a962d651c6ad9da9afa8e1da23f4eae"), looks := true }, kinds := [], alts := [], laidByText := true, laidKinds := [.data, .data, .data, .data, .sentinel, .sentinel, .pinned], laidTests := true, laidLooks := .later }
def CharAgainUptoCardSaid : Prop := Claim7.holds Tryd.pinned (.plain (OpenSpec.upto charAgainSpec)) charAgainUptoCard

/-- THE SECOND FORM's CARD OF 'spinneylaw02.CharChecks'. -/
def charChecksUptoCard : Claim7 := { stood := { row := charChecksUptoRow, standIns := [], harness := (true, "9df3dd1c8c4b9ccdeb784058959a56219a962d651c6ad9da9afa8e1da23f4eae"), looks := true }, kinds := [], alts := [], laidByText := true, laidKinds := [.data, .data, .data, .data, .sentinel, .sentinel, .pinned], laidTests := true, laidLooks := .later }
def CharChecksUptoCardSaid : Prop := Claim7.holds Tryd.pinned (.plain (OpenSpec.upto charChecksSpec)) charChecksUptoCard

/-- THE SECOND FORM's CARD OF 'spinneylaw02.CharWrites'. -/
def charWritesUptoCard : Claim7 := { stood := { row := charWritesUptoRow, standIns := [], harness := (true, "9df3dd1c8c4b9ccdeb784058959a56219a962d651c6ad9da9afa8e1da23f4eae"), looks := true }, kinds := [], alts := [], laidByText := true, laidKinds := [.data, .data, .data, .data, .sentinel, .sentinel, .pinned], laidTests := true, laidLooks := .later }
def CharWritesUptoCardSaid : Prop := Claim7.holds Tryd.pinned (.plain (OpenSpec.upto charWritesSpec)) charWritesUptoCard

/-- THE SECOND FORM's CARD OF 'spinneylaw02.CharReads'. -/
def charReadsUptoCard : Claim7 := { stood := { row := charReadsUptoRow, standIns := [], harness := (true, "9df3dd1c8c4b9ccdeb784058959a56219a962d651c6ad9da9afa8e1da23f4eae"), looks := true }, kinds := [], alts := [], laidByText := true, laidKinds := [.data, .data, .data, .data, .sentinel, .sentinel, .pinned], laidTests := true, laidLooks := .later }
def CharReadsUptoCardSaid : Prop := Claim7.holds Tryd.pinned (.plain (OpenSpec.upto charReadsSpec)) charReadsUptoCard
end Rows
end Go.Proofs.YtkniiinpkchjoaaDoor
