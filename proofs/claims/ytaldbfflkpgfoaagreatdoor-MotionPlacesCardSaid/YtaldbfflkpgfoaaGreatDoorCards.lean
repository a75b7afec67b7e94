/-
  DERIVED. GIVEN WITH THE SEED: THE CARDS: each row of YtaldbfflkpgfoaaGreatDoorRows.lean that lists a variable, with what it lists TIED to the program's text (the seventh form; the later family's looks); each row that meets fmt, with fmt's text TOLD by the authors' own Lean function (tested against real Go, not proved from fmt's source: count such statements apart). THE CARD IS WHAT COUNTS. Prove the row's statement (the work); the ties are given (YtaldbfflkpgfoaaGreatDoorTie.lean); close each card by the builder's one call (the guide's Derived/Test/ToyasCard.lean, 'card_holds'). Laid BY PROGRAM, IN A SANDBOX (cutbox-door.mjs). By AI agents, Wed Nov 11 2026. No macro, syntax, notation, axiom, sorry.
-/
import Derived.Test.YtaldbfflkpgfoaaGreatDoorRows
import GoSem.ClaimSeven
namespace Go.Proofs.YtaldbfflkpgfoaaGreatDoor
namespace Rows

/-- THE TIED CARD OF 'dowellaw07.MotionChecks'. -/
def motionChecksCard : Claim7 := { stood := { row := motionChecksRow, standIns := [], harness := (true, "569e69ebd477d8e097fc59ba983ce51dfeae44d63e11022775958886654e8821"), looks := true }, kinds := [], alts := [], laidByText := true, laidKinds := [.data, .data, .data, .data, .sentinel, .sentinel, .pinned], laidTests := true, laidLooks := .later }
def MotionChecksCardSaid : Prop := Claim7.holds Tryz.pinned (.plain (OpenSpec.ofChange motionChecksSpec)) motionChecksCard

/-- THE TIED CARD OF 'dowellaw07.MotionPlaces'. -/
def motionPlacesCard : Claim7 := { stood := { row := motionPlacesRow, standIns := [], harness := (true, "569e69ebd477d8e097fc59ba983ce51dfeae44d63e11022775958886654e8821"), looks := true }, kinds := [], alts := [], laidByText := true, laidKinds := [.data, .data, .data, .data, .sentinel, .sentinel, .pinned], laidTests := true, laidLooks := .later }
def MotionPlacesCardSaid : Prop := Claim7.holds Tryz.pinned (.plain (OpenSpec.ofChange motionPlacesSpec)) motionPlacesCard

/-- THE TIED CARD OF 'dowellaw07.MotionRigid'. -/
def motionRigidCard : Claim7 := { stood := { row := motionRigidRow, standIns := [], harness := (true, "569e69ebd477d8e097fc59ba983ce51dfeae44d63e11022775958886654e8821"), looks := true }, kinds := [], alts := [], laidByText := true, laidKinds := [.data, .data, .data, .data, .sentinel, .sentinel, .pinned], laidTests := true, laidLooks := .later }
def MotionRigidCardSaid : Prop := Claim7.holds Tryz.pinned (.plain (OpenSpec.ofChange motionRigidSpec)) motionRigidCard

/-- THE TIED CARD OF 'dowellaw07.MotionJoins'. -/
def motionJoinsCard : Claim7 := { stood := { row := motionJoinsRow, standIns := [], harness := (true, "569e69ebd477d8e097fc59ba983ce51dfeae44d63e11022775958886654e8821"), looks := true }, kinds := [], alts := [], laidByText := true, laidKinds := [.data, .data, .data, .data, .sentinel, .sentinel, .pinned], laidTests := true, laidLooks := .later }
def MotionJoinsCardSaid : Prop := Claim7.holds Tryz.pinned (.plain (OpenSpec.ofChange motionJoinsSpec)) motionJoinsCard

/-- THE TIED CARD OF 'dowellaw07.MotionKeeps'. -/
def motionKeepsCard : Claim7 := { stood := { row := motionKeepsRow, standIns := [], harness := (true, "569e69ebd477d8e097fc59ba983ce51dfeae44d63e11022775958886654e8821"), looks := true }, kinds := [], alts := [], laidByText := true, laidKinds := [.data, .data, .data, .data, .sentinel, .sentinel, .pinned], laidTests := true, laidLooks := .later }
def MotionKeepsCardSaid : Prop := Claim7.holds Tryz.pinned (.plain (OpenSpec.ofChange motionKeepsSpec)) motionKeepsCard

/-- THE TIED CARD OF 'dowellaw07.MotionApplies'. -/
def motionAppliesCard : Claim7 := { stood := { row := motionAppliesRow, standIns := [], harness := (true, "569e69ebd477d8e097fc59ba983ce51dfeae44d63e11022775958886654e8821"), looks := true }, kinds := [], alts := [], laidByText := true, laidKinds := [.data, .data, .data, .data, .sentinel, .sentinel, .pinned], laidTests := true, laidLooks := .later }
def MotionAppliesCardSaid : Prop := Claim7.holds Tryz.pinned (.plain (OpenSpec.ofChange motionAppliesSpec)) motionAppliesCard

/-- THE TIED CARD OF 'dowellaw07.MotionComposes'. -/
def motionComposesCard : Claim7 := { stood := { row := motionComposesRow, standIns := [], harness := (true, "569e69ebd477d8e097fc59ba983ce51dfeae44d63e11022775958886654e8821"), looks := true }, kinds := [], alts := [], laidByText := true, laidKinds := [.data, .data, .data, .data, .sentinel, .sentinel, .pinned], laidTests := true, laidLooks := .later }
def MotionComposesCardSaid : Prop := Claim7.holds Tryz.pinned (.plain (OpenSpec.ofChange motionComposesSpec)) motionComposesCard

/-- THE TIED CARD OF 'dowellaw07.MotionQuarters'. -/
def motionQuartersCard : Claim7 := { stood := { row := motionQuartersRow, standIns := [], harness := (true, "569e69ebd477d8e097fc59ba983ce51dfeae44d63e11022775958886654e8821"), looks := true }, kinds := [], alts := [], laidByText := true, laidKinds := [.data, .data, .data, .data, .sentinel, .sentinel, .pinned], laidTests := true, laidLooks := .later }
def MotionQuartersCardSaid : Prop := Claim7.holds Tryz.pinned (.plain (OpenSpec.ofChange motionQuartersSpec)) motionQuartersCard

/-- THE SECOND FORM's CARD OF 'dowellaw07.MotionChecks'. -/
def motionChecksUptoCard : Claim7 := { stood := { row := motionChecksUptoRow, standIns := [], harness := (true, "569e69ebd477d8e097fc59ba983ce51dfeae44d63e11022775958886654e8821"), looks := true }, kinds := [], alts := [], laidByText := true, laidKinds := [.data, .data, .data, .data, .sentinel, .sentinel, .pinned], laidTests := true, laidLooks := .later }
def MotionChecksUptoCardSaid : Prop := Claim7.holds Tryz.pinned (.plain (OpenSpec.upto motionChecksSpec)) motionChecksUptoCard

/-- THE SECOND FORM's CARD OF 'dowellaw07.MotionPlaces'. -/
def motionPlacesUptoCard : Claim7 := { stood := { row := motionPlacesUptoRow, standIns := [], harness := (true, "569e69ebd477d8e097fc59ba983ce51dfeae44d63e11022775958886654e8821"), looks := true }, kinds := [], alts := [], laidByText := true, laidKinds := [.data, .data, .data, .data, .sentinel, .sentinel, .pinned], laidTests := true, laidLooks := .later }
def MotionPlacesUptoCardSaid : Prop := Claim7.holds Tryz.pinned (.plain (OpenSpec.upto motionPlacesSpec)) motionPlacesUptoCard

/-- THE SECOND FORM's CARD OF 'dowellaw07.MotionRigid'. -/
def motionRigidUptoCard : Claim7 := { stood := { row := motionRigidUptoRow, standIns := [], harness := (true, "569e69ebd477d8e097fc59ba983ce51dfeae44d63e11022775958886654e8821"), looks := true }, kinds := [], alts := [], laidByText := true, laidKinds := [.data, .data, .data, .data, .sentinel, .sentinel, .pinned], laidTests := true, laidLooks := .later }
def MotionRigidUptoCardSaid : Prop := Claim7.holds Tryz.pinned (.plain (OpenSpec.upto motionRigidSpec)) motionRigidUptoCard

/-- THE SECOND FORM's CARD OF 'dowellaw07.MotionJoins'. -/
def motionJoinsUptoCard : Claim7 := { stood := { row := motionJoinsUptoRow, standIns := [], harness := (true, "569e69ebd477d8e097fc59ba983ce51dfeae44d63e11022775958886654e8821"), looks := true }, kinds := [], alts := [], laidByText := true, laidKinds := [.data, .data, .data, .data, .sentinel, .sentinel, .pinned], laidTests := true, laidLooks := .later }
def MotionJoinsUptoCardSaid : Prop := Claim7.holds Tryz.pinned (.plain (OpenSpec.upto motionJoinsSpec)) motionJoinsUptoCard

/-- THE SECOND FORM's CARD OF 'dowellaw07.MotionKeeps'. -/
def motionKeepsUptoCard : Claim7 := { stood := { row := motionKeepsUptoRow, standIns := [], harness := (true, "569e69ebd477d8e097fc59ba983ce51dfeae44d63e11022775958886654e8821"), looks := true }, kinds := [], alts := [], laidByText := true, laidKinds := [.data, .data, .data, .data, .sentinel, .sentinel, .pinned], laidTests := true, laidLooks := .later }
def MotionKeepsUptoCardSaid : Prop := Claim7.holds Tryz.pinned (.plain (OpenSpec.upto motionKeepsSpec)) motionKeepsUptoCard

/-- THE SECOND FORM's CARD OF 'dowellaw07.MotionApplies'. -/
def motionAppliesUptoCard : Claim7 := { stood := { row := motionAppliesUptoRow, standIns := [], harness := (true, "569e69ebd477d8e097fc59ba983ce51dfeae44d63e11022775958886654e8821"), looks := true }, kinds := [], alts := [], laidByText := true, laidKinds := [.data, .data, .data, .data, .sentinel, .sentinel, .pinned], laidTests := true, laidLooks := .later }
def MotionAppliesUptoCardSaid : Prop := Claim7.holds Tryz.pinned (.plain (OpenSpec.upto motionAppliesSpec)) motionAppliesUptoCard

/-- THE SECOND FORM's CARD OF 'dowellaw07.MotionComposes'. -/
def motionComposesUptoCard : Claim7 := { stood := { row := motionComposesUptoRow, standIns := [], harness := (true, "569e69ebd477d8e097fc59ba983ce51dfeae44d63e11022775958886654e8821"), looks := true }, kinds := [], alts := [], laidByText := true, laidKinds := [.data, .data, .data, .data, .sentinel, .sentinel, .pinned], laidTests := true, laidLooks := .later }
def MotionComposesUptoCardSaid : Prop := Claim7.holds Tryz.pinned (.plain (OpenSpec.upto motionComposesSpec)) motionComposesUptoCard

/-- THE SECOND FORM's CARD OF 'dowellaw07.MotionQuarters'. -/
def motionQuartersUptoCard : Claim7 := { stood := { row := motionQuartersUptoRow, standIns := [], harness := (true, "569e69ebd477d8e097fc59ba983ce51dfeae44d63e11022775958886654e8821"), looks := true }, kinds := [], alts := [], laidByText := true, laidKinds := [.data, .data, .data, .data, .sentinel, .sentinel, .pinned], laidTests := true, laidLooks := .later }
def MotionQuartersUptoCardSaid : Prop := Claim7.holds Tryz.pinned (.plain (OpenSpec.upto motionQuartersSpec)) motionQuartersUptoCard
end Rows
end Go.Proofs.YtaldbfflkpgfoaaGreatDoor
