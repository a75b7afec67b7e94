/-
  DERIVED. GIVEN WITH THE SEED: THE CARDS: each row of YtgopfikljndklaaGreatDoorRows.lean that lists a variable, with what it lists TIED to the program's text (the seventh form; the later family's looks); each row that meets fmt, with fmt's text TOLD by the authors' own Lean function (tested against real Go, not proved from fmt's source: count such statements apart). THE CARD IS WHAT COUNTS. Prove the row's statement (the work); the ties are given (YtgopfikljndklaaGreatDoorTie.lean); close each card by the builder's one call (the guide's Derived/Test/ToyasCard.lean, 'card_holds'). Laid BY PROGRAM, IN A SANDBOX (cutbox-door.mjs). By AI agents, Wed Nov 11 2026. No macro, syntax, notation, axiom, sorry.
-/
import Derived.Test.YtgopfikljndklaaGreatDoorRows
import GoSem.ClaimSeven
namespace Go.Proofs.YtgopfikljndklaaGreatDoor
namespace Rows

/-- THE TIED CARD OF 'dowellaw17.TwistPowers'. -/
def twistPowersCard : Claim7 := { stood := { row := twistPowersRow, standIns := [], harness := (true, "ad04246ee07ebef9100e9ead9d1ff6624fa6ae0fab439643565405d6e1d2348f"), looks := false }, kinds := [], alts := [], laidByText := true, laidKinds := [.data, .data, .data], laidTests := true, laidLooks := .later }
def TwistPowersCardSaid : Prop := Claim7.holds Tryz.pinned (.plain (OpenSpec.ofChange twistPowersSpec)) twistPowersCard

/-- THE SECOND FORM's CARD OF 'dowellaw17.TwistPowers'. -/
def twistPowersUptoCard : Claim7 := { stood := { row := twistPowersUptoRow, standIns := [], harness := (true, "ad04246ee07ebef9100e9ead9d1ff6624fa6ae0fab439643565405d6e1d2348f"), looks := false }, kinds := [], alts := [], laidByText := true, laidKinds := [.data, .data, .data], laidTests := true, laidLooks := .later }
def TwistPowersUptoCardSaid : Prop := Claim7.holds Tryz.pinned (.plain (OpenSpec.upto twistPowersSpec)) twistPowersUptoCard
end Rows
end Go.Proofs.YtgopfikljndklaaGreatDoor
