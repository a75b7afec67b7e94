/-
  DERIVED. GIVEN WITH THE SEED: THE CARDS: each row of YtjhflekncldflaaGreatDoorRows.lean that lists a variable, with what it lists TIED to the program's text (the seventh form; the later family's looks); each row that meets fmt, with fmt's text TOLD by the authors' own Lean function (tested against real Go, not proved from fmt's source: count such statements apart). THE CARD IS WHAT COUNTS. Prove the row's statement (the work); the ties are given (YtjhflekncldflaaGreatDoorTie.lean); close each card by the builder's one call (the guide's Derived/Test/ToyasCard.lean, 'card_holds'). Laid BY PROGRAM, IN A SANDBOX (cutbox-door.mjs). By AI agents, Wed Nov 11 2026. No macro, syntax, notation, axiom, sorry.
-/
import Derived.Test.YtjhflekncldflaaGreatDoorRows
import GoSem.ClaimSeven
namespace Go.Proofs.YtjhflekncldflaaGreatDoor
namespace Rows

/-- THE TIED CARD OF 'dowellaw43.AllocationChecks'. -/
def allocationChecksCard : Claim7 := { stood := { row := allocationChecksRow, standIns := [], harness := (true, "72e8cf4315abc1bf368957c80e2a5eb3cf22dc2e05151b13e59caa6ea31a96dc"), looks := true }, kinds := [], alts := [], laidByText := true, laidKinds := [.data, .data, .data, .data, .sentinel, .sentinel, .pinned], laidTests := true, laidLooks := .later }
def AllocationChecksCardSaid : Prop := Claim7.holds Tryz.pinned (.plain (OpenSpec.ofChange allocationChecksSpec)) allocationChecksCard

/-- THE TIED CARD OF 'dowellaw43.AllocationWorsts'. -/
def allocationWorstsCard : Claim7 := { stood := { row := allocationWorstsRow, standIns := [], harness := (true, "72e8cf4315abc1bf368957c80e2a5eb3cf22dc2e05151b13e59caa6ea31a96dc"), looks := true }, kinds := [], alts := [], laidByText := true, laidKinds := [.data, .data, .data, .data, .sentinel, .sentinel, .pinned], laidTests := true, laidLooks := .later }
def AllocationWorstsCardSaid : Prop := Claim7.holds Tryz.pinned (.plain (OpenSpec.ofChange allocationWorstsSpec)) allocationWorstsCard

/-- THE TIED CARD OF 'dowellaw43.AllocationLimits'. -/
def allocationLimitsCard : Claim7 := { stood := { row := allocationLimitsRow, standIns := [], harness := (true, "72e8cf4315abc1bf368957c80e2a5eb3cf22dc2e05151b13e59caa6ea31a96dc"), looks := true }, kinds := [], alts := [], laidByText := true, laidKinds := [.data, .data, .data, .data, .sentinel, .sentinel, .pinned], laidTests := true, laidLooks := .later }
def AllocationLimitsCardSaid : Prop := Claim7.holds Tryz.pinned (.plain (OpenSpec.ofChange allocationLimitsSpec)) allocationLimitsCard

/-- THE TIED CARD OF 'dowellaw43.AllocationBounds'. -/
def allocationBoundsCard : Claim7 := { stood := { row := allocationBoundsRow, standIns := [], harness := (true, "72e8cf4315abc1bf368957c80e2a5eb3cf22dc2e05151b13e59caa6ea31a96dc"), looks := true }, kinds := [], alts := [], laidByText := true, laidKinds := [.data, .data, .data, .data, .sentinel, .sentinel, .pinned], laidTests := true, laidLooks := .later }
def AllocationBoundsCardSaid : Prop := Claim7.holds Tryz.pinned (.plain (OpenSpec.ofChange allocationBoundsSpec)) allocationBoundsCard

/-- THE TIED CARD OF 'dowellaw43.AllocationCheapest'. -/
def allocationCheapestCard : Claim7 := { stood := { row := allocationCheapestRow, standIns := [], harness := (true, "72e8cf4315abc1bf368957c80e2a5eb3cf22dc2e05151b13e59caa6ea31a96dc"), looks := true }, kinds := [], alts := [], laidByText := true, laidKinds := [.data, .data, .data, .data, .sentinel, .sentinel, .pinned], laidTests := true, laidLooks := .later }
def AllocationCheapestCardSaid : Prop := Claim7.holds Tryz.pinned (.plain (OpenSpec.ofChange allocationCheapestSpec)) allocationCheapestCard

/-- THE TIED CARD OF 'dowellaw43.AllocationVerifies'. -/
def allocationVerifiesCard : Claim7 := { stood := { row := allocationVerifiesRow, standIns := [], harness := (true, "72e8cf4315abc1bf368957c80e2a5eb3cf22dc2e05151b13e59caa6ea31a96dc"), looks := true }, kinds := [], alts := [], laidByText := true, laidKinds := [.data, .data, .data, .data, .sentinel, .sentinel, .pinned], laidTests := true, laidLooks := .later }
def AllocationVerifiesCardSaid : Prop := Claim7.holds Tryz.pinned (.plain (OpenSpec.ofChange allocationVerifiesSpec)) allocationVerifiesCard

/-- THE TIED CARD OF 'dowellaw43.AllocationMore'. -/
def allocationMoreCard : Claim7 := { stood := { row := allocationMoreRow, standIns := [], harness := (true, "72e8cf4315abc1bf368957c80e2a5eb3cf22dc2e05151b13e59caa6ea31a96dc"), looks := true }, kinds := [], alts := [], laidByText := true, laidKinds := [.data, .data, .data, .data, .sentinel, .sentinel, .pinned], laidTests := true, laidLooks := .later }
def AllocationMoreCardSaid : Prop := Claim7.holds Tryz.pinned (.plain (OpenSpec.ofChange allocationMoreSpec)) allocationMoreCard

/-- THE TIED CARD OF 'dowellaw43.AllocationCorners'. -/
def allocationCornersCard : Claim7 := { stood := { row := allocationCornersRow, standIns := [], harness := (true, "72e8cf4315abc1bf368957c80e2a5eb3cf22dc2e05151b13e59caa6ea31a96dc"), looks := true }, kinds := [], alts := [], laidByText := true, laidKinds := [.data, .data, .data, .data, .sentinel, .sentinel, .pinned], laidTests := true, laidLooks := .later }
def AllocationCornersCardSaid : Prop := Claim7.holds Tryz.pinned (.plain (OpenSpec.ofChange allocationCornersSpec)) allocationCornersCard

/-- THE SECOND FORM's CARD OF 'dowellaw43.AllocationChecks'. -/
def allocationChecksUptoCard : Claim7 := { stood := { row := allocationChecksUptoRow, standIns := [], harness := (true, "72e8cf4315abc1bf368957c80e2a5eb3cf22dc2e05151b13e59caa6ea31a96dc"), looks := true }, kinds := [], alts := [], laidByText := true, laidKinds := [.data, .data, .data, .data, .sentinel, .sentinel, .pinned], laidTests := true, laidLooks := .later }
def AllocationChecksUptoCardSaid : Prop := Claim7.holds Tryz.pinned (.plain (OpenSpec.upto allocationChecksSpec)) allocationChecksUptoCard

/-- THE SECOND FORM's CARD OF 'dowellaw43.AllocationWorsts'. -/
def allocationWorstsUptoCard : Claim7 := { stood := { row := allocationWorstsUptoRow, standIns := [], harness := (true, "72e8cf4315abc1bf368957c80e2a5eb3cf22dc2e05151b13e59caa6ea31a96dc"), looks := true }, kinds := [], alts := [], laidByText := true, laidKinds := [.data, .data, .data, .data, .sentinel, .sentinel, .pinned], laidTests := true, laidLooks := .later }
def AllocationWorstsUptoCardSaid : Prop := Claim7.holds Tryz.pinned (.plain (OpenSpec.upto allocationWorstsSpec)) allocationWorstsUptoCard

/-- THE SECOND FORM's CARD OF 'dowellaw43.AllocationLimits'. -/
def allocationLimitsUptoCard : Claim7 := { stood := { row := allocationLimitsUptoRow, standIns := [], harness := (true, "72e8cf4315abc1bf368957c80e2a5eb3cf22dc2e05151b13e59caa6ea31a96dc"), looks := true }, kinds := [], alts := [], laidByText := true, laidKinds := [.data, .data, .data, .data, .sentinel, .sentinel, .pinned], laidTests := true, laidLooks := .later }
def AllocationLimitsUptoCardSaid : Prop := Claim7.holds Tryz.pinned (.plain (OpenSpec.upto allocationLimitsSpec)) allocationLimitsUptoCard

/-- THE SECOND FORM's CARD OF 'dowellaw43.AllocationBounds'. -/
def allocationBoundsUptoCard : Claim7 := { stood := { row := allocationBoundsUptoRow, standIns := [], harness := (true, "72e8cf4315abc1bf368957c80e2a5eb3cf22dc2e05151b13e59caa6ea31a96dc"), looks := true }, kinds := [], alts := [], laidByText := true, laidKinds := [.data, .data, .data, .data, .sentinel, .sentinel, .pinned], laidTests := true, laidLooks := .later }
def AllocationBoundsUptoCardSaid : Prop := Claim7.holds Tryz.pinned (.plain (OpenSpec.upto allocationBoundsSpec)) allocationBoundsUptoCard

/-- THE SECOND FORM's CARD OF 'dowellaw43.AllocationCheapest'. -/
def allocationCheapestUptoCard : Claim7 := { stood := { row := allocationCheapestUptoRow, standIns := [], harness := (true, "72e8cf4315abc1bf368957c80e2a5eb3cf22dc2e05151b13e59caa6ea31a96dc"), looks := true }, kinds := [], alts := [], laidByText := true, laidKinds := [.data, .data, .data, .data, .sentinel, .sentinel, .pinned], laidTests := true, laidLooks := .later }
def AllocationCheapestUptoCardSaid : Prop := Claim7.holds Tryz.pinned (.plain (OpenSpec.upto allocationCheapestSpec)) allocationCheapestUptoCard

/-- THE SECOND FORM's CARD OF 'dowellaw43.AllocationVerifies'. -/
def allocationVerifiesUptoCard : Claim7 := { stood := { row := allocationVerifiesUptoRow, standIns := [], harness := (true, "72e8cf4315abc1bf368957c80e2a5eb3cf22dc2e05151b13e59caa6ea31a96dc"), looks := true }, kinds := [], alts := [], laidByText := true, laidKinds := [.data, .data, .data, .data, .sentinel, .sentinel, .pinned], laidTests := true, laidLooks := .later }
def AllocationVerifiesUptoCardSaid : Prop := Claim7.holds Tryz.pinned (.plain (OpenSpec.upto allocationVerifiesSpec)) allocationVerifiesUptoCard

/-- THE SECOND FORM's CARD OF 'dowellaw43.AllocationMore'. -/
def allocationMoreUptoCard : Claim7 := { stood := { row := allocationMoreUptoRow, standIns := [], harness := (true, "72e8cf4315abc1bf368957c80e2a5eb3cf22dc2e05151b13e59caa6ea31a96dc"), looks := true }, kinds := [], alts := [], laidByText := true, laidKinds := [.data, .data, .data, .data, .sentinel, .sentinel, .pinned], laidTests := true, laidLooks := .later }
def AllocationMoreUptoCardSaid : Prop := Claim7.holds Tryz.pinned (.plain (OpenSpec.upto allocationMoreSpec)) allocationMoreUptoCard

/-- THE SECOND FORM's CARD OF 'dowellaw43.AllocationCorners'. -/
def allocationCornersUptoCard : Claim7 := { stood := { row := allocationCornersUptoRow, standIns := [], harness := (true, "72e8cf4315abc1bf368957c80e2a5eb3cf22dc2e05151b13e59caa6ea31a96dc"), looks := true }, kinds := [], alts := [], laidByText := true, laidKinds := [.data, .data, .data, .data, .sentinel, .sentinel, .pinned], laidTests := true, laidLooks := .later }
def AllocationCornersUptoCardSaid : Prop := Claim7.holds Tryz.pinned (.plain (OpenSpec.upto allocationCornersSpec)) allocationCornersUptoCard
end Rows
end Go.Proofs.YtjhflekncldflaaGreatDoor
