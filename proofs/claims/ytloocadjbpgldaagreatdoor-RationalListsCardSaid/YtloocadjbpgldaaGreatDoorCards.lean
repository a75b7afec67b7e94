/-
  DERIVED. GIVEN WITH THE SEED: THE CARDS: each row of YtloocadjbpgldaaGreatDoorRows.lean that lists a variable, with what it lists TIED to the program's text (the seventh form; the later family's looks); each row that meets fmt, with fmt's text TOLD by the authors' own Lean function (tested against real Go, not proved from fmt's source: count such statements apart). THE CARD IS WHAT COUNTS. Prove the row's statement (the work); the ties are given (YtloocadjbpgldaaGreatDoorTie.lean); close each card by the builder's one call (the guide's Derived/Test/ToyasCard.lean, 'card_holds'). Laid BY PROGRAM, IN A SANDBOX (cutbox-door.mjs). By AI agents, Wed Nov 11 2026. No macro, syntax, notation, axiom, sorry.
-/
import Derived.Test.YtloocadjbpgldaaGreatDoorRows
import GoSem.ClaimSeven
namespace Go.Proofs.YtloocadjbpgldaaGreatDoor
namespace Rows

/-- THE TIED CARD OF 'dowellaw02.RationalMakes'. -/
def rationalMakesCard : Claim7 := { stood := { row := rationalMakesRow, standIns := [], harness := (true, "3ac97589c067cb0ee8c83c50a29fbd37c56d9360bf7efb5c4cee01f4970e3d2a"), looks := true }, kinds := [], alts := [], laidByText := true, laidKinds := [.data, .data, .data, .sentinel, .sentinel], laidTests := true, laidLooks := .later }
def RationalMakesCardSaid : Prop := Claim7.holds Tryz.pinned (.plain (OpenSpec.ofChange rationalMakesSpec)) rationalMakesCard

/-- THE TIED CARD OF 'dowellaw02.RationalParses'. -/
def rationalParsesCard : Claim7 := { stood := { row := rationalParsesRow, standIns := [], harness := (true, "3ac97589c067cb0ee8c83c50a29fbd37c56d9360bf7efb5c4cee01f4970e3d2a"), looks := true }, kinds := [], alts := [], laidByText := true, laidKinds := [.data, .data, .data, .data, .sentinel, .sentinel, .pinned], laidTests := true, laidLooks := .later }
def RationalParsesCardSaid : Prop := Claim7.holds Tryz.pinned (.plain (OpenSpec.ofChange rationalParsesSpec)) rationalParsesCard

/-- THE TIED CARD OF 'dowellaw02.RationalReads'. -/
def rationalReadsCard : Claim7 := { stood := { row := rationalReadsRow, standIns := [], harness := (true, "3ac97589c067cb0ee8c83c50a29fbd37c56d9360bf7efb5c4cee01f4970e3d2a"), looks := true }, kinds := [], alts := [], laidByText := true, laidKinds := [.data, .data, .data, .data, .sentinel, .sentinel, .pinned], laidTests := true, laidLooks := .later }
def RationalReadsCardSaid : Prop := Claim7.holds Tryz.pinned (.plain (OpenSpec.ofChange rationalReadsSpec)) rationalReadsCard

/-- THE TIED CARD OF 'dowellaw02.RationalAdds'. -/
def rationalAddsCard : Claim7 := { stood := { row := rationalAddsRow, standIns := [], harness := (true, "3ac97589c067cb0ee8c83c50a29fbd37c56d9360bf7efb5c4cee01f4970e3d2a"), looks := true }, kinds := [], alts := [], laidByText := true, laidKinds := [.data, .data, .data, .data, .sentinel, .sentinel, .pinned], laidTests := true, laidLooks := .later }
def RationalAddsCardSaid : Prop := Claim7.holds Tryz.pinned (.plain (OpenSpec.ofChange rationalAddsSpec)) rationalAddsCard

/-- THE TIED CARD OF 'dowellaw02.RationalRounds'. -/
def rationalRoundsCard : Claim7 := { stood := { row := rationalRoundsRow, standIns := [], harness := (true, "3ac97589c067cb0ee8c83c50a29fbd37c56d9360bf7efb5c4cee01f4970e3d2a"), looks := true }, kinds := [], alts := [], laidByText := true, laidKinds := [.data, .data, .data, .data, .sentinel, .sentinel, .pinned], laidTests := true, laidLooks := .later }
def RationalRoundsCardSaid : Prop := Claim7.holds Tryz.pinned (.plain (OpenSpec.ofChange rationalRoundsSpec)) rationalRoundsCard

/-- THE TIED CARD OF 'dowellaw02.RationalMuls'. -/
def rationalMulsCard : Claim7 := { stood := { row := rationalMulsRow, standIns := [], harness := (true, "3ac97589c067cb0ee8c83c50a29fbd37c56d9360bf7efb5c4cee01f4970e3d2a"), looks := true }, kinds := [], alts := [], laidByText := true, laidKinds := [.data, .data, .data, .data, .sentinel, .sentinel, .pinned], laidTests := true, laidLooks := .later }
def RationalMulsCardSaid : Prop := Claim7.holds Tryz.pinned (.plain (OpenSpec.ofChange rationalMulsSpec)) rationalMulsCard

/-- THE TIED CARD OF 'dowellaw02.RationalCompares'. -/
def rationalComparesCard : Claim7 := { stood := { row := rationalComparesRow, standIns := [], harness := (true, "3ac97589c067cb0ee8c83c50a29fbd37c56d9360bf7efb5c4cee01f4970e3d2a"), looks := true }, kinds := [], alts := [], laidByText := true, laidKinds := [.data, .data, .data, .data, .sentinel, .sentinel, .pinned], laidTests := true, laidLooks := .later }
def RationalComparesCardSaid : Prop := Claim7.holds Tryz.pinned (.plain (OpenSpec.ofChange rationalComparesSpec)) rationalComparesCard

/-- THE TIED CARD OF 'dowellaw02.RationalInts'. -/
def rationalIntsCard : Claim7 := { stood := { row := rationalIntsRow, standIns := [], harness := (true, "3ac97589c067cb0ee8c83c50a29fbd37c56d9360bf7efb5c4cee01f4970e3d2a"), looks := true }, kinds := [], alts := [], laidByText := true, laidKinds := [.data, .data, .data, .data, .sentinel, .sentinel, .pinned], laidTests := true, laidLooks := .later }
def RationalIntsCardSaid : Prop := Claim7.holds Tryz.pinned (.plain (OpenSpec.ofChange rationalIntsSpec)) rationalIntsCard

/-- THE TIED CARD OF 'dowellaw02.RationalSimplest'. -/
def rationalSimplestCard : Claim7 := { stood := { row := rationalSimplestRow, standIns := [], harness := (true, "3ac97589c067cb0ee8c83c50a29fbd37c56d9360bf7efb5c4cee01f4970e3d2a"), looks := true }, kinds := [], alts := [], laidByText := true, laidKinds := [.data, .data, .data, .data, .sentinel, .sentinel, .pinned], laidTests := true, laidLooks := .later }
def RationalSimplestCardSaid : Prop := Claim7.holds Tryz.pinned (.plain (OpenSpec.ofChange rationalSimplestSpec)) rationalSimplestCard

/-- THE TIED CARD OF 'dowellaw02.RationalField'. -/
def rationalFieldCard : Claim7 := { stood := { row := rationalFieldRow, standIns := [], harness := (true, "3ac97589c067cb0ee8c83c50a29fbd37c56d9360bf7efb5c4cee01f4970e3d2a"), looks := true }, kinds := [], alts := [], laidByText := true, laidKinds := [.data, .data, .data, .data, .sentinel, .sentinel, .pinned], laidTests := true, laidLooks := .later }
def RationalFieldCardSaid : Prop := Claim7.holds Tryz.pinned (.plain (OpenSpec.ofChange rationalFieldSpec)) rationalFieldCard

/-- THE TIED CARD OF 'dowellaw02.RationalLists'. -/
def rationalListsCard : Claim7 := { stood := { row := rationalListsRow, standIns := [], harness := (true, "3ac97589c067cb0ee8c83c50a29fbd37c56d9360bf7efb5c4cee01f4970e3d2a"), looks := true }, kinds := [], alts := [], laidByText := true, laidKinds := [.data, .data, .data, .data, .sentinel, .sentinel, .pinned], laidTests := true, laidLooks := .later }
def RationalListsCardSaid : Prop := Claim7.holds Tryz.pinned (.plain (OpenSpec.ofChange rationalListsSpec)) rationalListsCard

/-- THE TIED CARD OF 'dowellaw02.RationalOrder'. -/
def rationalOrderCard : Claim7 := { stood := { row := rationalOrderRow, standIns := [], harness := (true, "3ac97589c067cb0ee8c83c50a29fbd37c56d9360bf7efb5c4cee01f4970e3d2a"), looks := true }, kinds := [], alts := [], laidByText := true, laidKinds := [.data, .data, .data, .data, .sentinel, .sentinel, .pinned], laidTests := true, laidLooks := .later }
def RationalOrderCardSaid : Prop := Claim7.holds Tryz.pinned (.plain (OpenSpec.ofChange rationalOrderSpec)) rationalOrderCard

/-- THE SECOND FORM's CARD OF 'dowellaw02.RationalMakes'. -/
def rationalMakesUptoCard : Claim7 := { stood := { row := rationalMakesUptoRow, standIns := [], harness := (true, "3ac97589c067cb0ee8c83c50a29fbd37c56d9360bf7efb5c4cee01f4970e3d2a"), looks := true }, kinds := [], alts := [], laidByText := true, laidKinds := [.data, .data, .data, .sentinel, .sentinel], laidTests := true, laidLooks := .later }
def RationalMakesUptoCardSaid : Prop := Claim7.holds Tryz.pinned (.plain (OpenSpec.upto rationalMakesSpec)) rationalMakesUptoCard

/-- THE SECOND FORM's CARD OF 'dowellaw02.RationalParses'. -/
def rationalParsesUptoCard : Claim7 := { stood := { row := rationalParsesUptoRow, standIns := [], harness := (true, "3ac97589c067cb0ee8c83c50a29fbd37c56d9360bf7efb5c4cee01f4970e3d2a"), looks := true }, kinds := [], alts := [], laidByText := true, laidKinds := [.data, .data, .data, .data, .sentinel, .sentinel, .pinned], laidTests := true, laidLooks := .later }
def RationalParsesUptoCardSaid : Prop := Claim7.holds Tryz.pinned (.plain (OpenSpec.upto rationalParsesSpec)) rationalParsesUptoCard

/-- THE SECOND FORM's CARD OF 'dowellaw02.RationalReads'. -/
def rationalReadsUptoCard : Claim7 := { stood := { row := rationalReadsUptoRow, standIns := [], harness := (true, "3ac97589c067cb0ee8c83c50a29fbd37c56d9360bf7efb5c4cee01f4970e3d2a"), looks := true }, kinds := [], alts := [], laidByText := true, laidKinds := [.data, .data, .data, .data, .sentinel, .sentinel, .pinned], laidTests := true, laidLooks := .later }
def RationalReadsUptoCardSaid : Prop := Claim7.holds Tryz.pinned (.plain (OpenSpec.upto rationalReadsSpec)) rationalReadsUptoCard

/-- THE SECOND FORM's CARD OF 'dowellaw02.RationalAdds'. -/
def rationalAddsUptoCard : Claim7 := { stood := { row := rationalAddsUptoRow, standIns := [], harness := (true, "3ac97589c067cb0ee8c83c50a29fbd37c56d9360bf7efb5c4cee01f4970e3d2a"), looks := true }, kinds := [], alts := [], laidByText := true, laidKinds := [.data, .data, .data, .data, .sentinel, .sentinel, .pinned], laidTests := true, laidLooks := .later }
def RationalAddsUptoCardSaid : Prop := Claim7.holds Tryz.pinned (.plain (OpenSpec.upto rationalAddsSpec)) rationalAddsUptoCard

/-- THE SECOND FORM's CARD OF 'dowellaw02.RationalRounds'. -/
def rationalRoundsUptoCard : Claim7 := { stood := { row := rationalRoundsUptoRow, standIns := [], harness := (true, "3ac97589c067cb0ee8c83c50a29fbd37c56d9360bf7efb5c4cee01f4970e3d2a"), looks := true }, kinds := [], alts := [], laidByText := true, laidKinds := [.data, .data, .data, .data, .sentinel, .sentinel, .pinned], laidTests := true, laidLooks := .later }
def RationalRoundsUptoCardSaid : Prop := Claim7.holds Tryz.pinned (.plain (OpenSpec.upto rationalRoundsSpec)) rationalRoundsUptoCard

/-- THE SECOND FORM's CARD OF 'dowellaw02.RationalMuls'. -/
def rationalMulsUptoCard : Claim7 := { stood := { row := rationalMulsUptoRow, standIns := [], harness := (true, "3ac97589c067cb0ee8c83c50a29fbd37c56d9360bf7efb5c4cee01f4970e3d2a"), looks := true }, kinds := [], alts := [], laidByText := true, laidKinds := [.data, .data, .data, .data, .sentinel, .sentinel, .pinned], laidTests := true, laidLooks := .later }
def RationalMulsUptoCardSaid : Prop := Claim7.holds Tryz.pinned (.plain (OpenSpec.upto rationalMulsSpec)) rationalMulsUptoCard

/-- THE SECOND FORM's CARD OF 'dowellaw02.RationalCompares'. -/
def rationalComparesUptoCard : Claim7 := { stood := { row := rationalComparesUptoRow, standIns := [], harness := (true, "3ac97589c067cb0ee8c83c50a29fbd37c56d9360bf7efb5c4cee01f4970e3d2a"), looks := true }, kinds := [], alts := [], laidByText := true, laidKinds := [.data, .data, .data, .data, .sentinel, .sentinel, .pinned], laidTests := true, laidLooks := .later }
def RationalComparesUptoCardSaid : Prop := Claim7.holds Tryz.pinned (.plain (OpenSpec.upto rationalComparesSpec)) rationalComparesUptoCard

/-- THE SECOND FORM's CARD OF 'dowellaw02.RationalInts'. -/
def rationalIntsUptoCard : Claim7 := { stood := { row := rationalIntsUptoRow, standIns := [], harness := (true, "3ac97589c067cb0ee8c83c50a29fbd37c56d9360bf7efb5c4cee01f4970e3d2a"), looks := true }, kinds := [], alts := [], laidByText := true, laidKinds := [.data, .data, .data, .data, .sentinel, .sentinel, .pinned], laidTests := true, laidLooks := .later }
def RationalIntsUptoCardSaid : Prop := Claim7.holds Tryz.pinned (.plain (OpenSpec.upto rationalIntsSpec)) rationalIntsUptoCard

/-- THE SECOND FORM's CARD OF 'dowellaw02.RationalSimplest'. -/
def rationalSimplestUptoCard : Claim7 := { stood := { row := rationalSimplestUptoRow, standIns := [], harness := (true, "3ac97589c067cb0ee8c83c50a29fbd37c56d9360bf7efb5c4cee01f4970e3d2a"), looks := true }, kinds := [], alts := [], laidByText := true, laidKinds := [.data, .data, .data, .data, .sentinel, .sentinel, .pinned], laidTests := true, laidLooks := .later }
def RationalSimplestUptoCardSaid : Prop := Claim7.holds Tryz.pinned (.plain (OpenSpec.upto rationalSimplestSpec)) rationalSimplestUptoCard

/-- THE SECOND FORM's CARD OF 'dowellaw02.RationalField'. -/
def rationalFieldUptoCard : Claim7 := { stood := { row := rationalFieldUptoRow, standIns := [], harness := (true, "3ac97589c067cb0ee8c83c50a29fbd37c56d9360bf7efb5c4cee01f4970e3d2a"), looks := true }, kinds := [], alts := [], laidByText := true, laidKinds := [.data, .data, .data, .data, .sentinel, .sentinel, .pinned], laidTests := true, laidLooks := .later }
def RationalFieldUptoCardSaid : Prop := Claim7.holds Tryz.pinned (.plain (OpenSpec.upto rationalFieldSpec)) rationalFieldUptoCard

/-- THE SECOND FORM's CARD OF 'dowellaw02.RationalLists'. -/
def rationalListsUptoCard : Claim7 := { stood := { row := rationalListsUptoRow, standIns := [], harness := (true, "3ac97589c067cb0ee8c83c50a29fbd37c56d9360bf7efb5c4cee01f4970e3d2a"), looks := true }, kinds := [], alts := [], laidByText := true, laidKinds := [.data, .data, .data, .data, .sentinel, .sentinel, .pinned], laidTests := true, laidLooks := .later }
def RationalListsUptoCardSaid : Prop := Claim7.holds Tryz.pinned (.plain (OpenSpec.upto rationalListsSpec)) rationalListsUptoCard

/-- THE SECOND FORM's CARD OF 'dowellaw02.RationalOrder'. -/
def rationalOrderUptoCard : Claim7 := { stood := { row := rationalOrderUptoRow, standIns := [], harness := (true, "3ac97589c067cb0ee8c83c50a29fbd37c56d9360bf7efb5c4cee01f4970e3d2a"), looks := true }, kinds := [], alts := [], laidByText := true, laidKinds := [.data, .data, .data, .data, .sentinel, .sentinel, .pinned], laidTests := true, laidLooks := .later }
def RationalOrderUptoCardSaid : Prop := Claim7.holds Tryz.pinned (.plain (OpenSpec.upto rationalOrderSpec)) rationalOrderUptoCard
end Rows
end Go.Proofs.YtloocadjbpgldaaGreatDoor
