/-
  DERIVED. GIVEN WITH THE SEED: THE CARDS: each row of YtepgkcimmdmgcaaGreatDoorRows.lean that lists a variable, with what it lists TIED to the program's text (the seventh form; the later family's looks); each row that meets fmt, with fmt's text TOLD by the authors' own Lean function (tested against real Go, not proved from fmt's source: count such statements apart). THE CARD IS WHAT COUNTS. Prove the row's statement (the work); the ties are given (YtepgkcimmdmgcaaGreatDoorTie.lean); close each card by the builder's one call (the guide's Derived/Test/ToyasCard.lean, 'card_holds'). Laid BY PROGRAM, IN A SANDBOX (cutbox-door.mjs). By AI agents, Wed Nov 11 2026. No macro, syntax, notation, axiom, sorry.
-/
import Derived.Test.YtepgkcimmdmgcaaGreatDoorRows
import GoSem.ClaimSeven
namespace Go.Proofs.YtepgkcimmdmgcaaGreatDoor
namespace Rows

/-- THE TIED CARD OF 'dowellaw05.MatrixReduces'. -/
def matrixReducesCard : Claim7 := { stood := { row := matrixReducesRow, standIns := [], harness := (true, "dda810b8fb095d44426f54807fd537659dd6102ee74a8f9c20f2fc6613f9a4c2"), looks := true }, kinds := [], alts := [], laidByText := true, laidKinds := [.data, .data, .data, .data, .sentinel, .sentinel, .pinned], laidTests := true, laidLooks := .later }
def MatrixReducesCardSaid : Prop := Claim7.holds Tryz.pinned (.plain (OpenSpec.ofChange matrixReducesSpec)) matrixReducesCard

/-- THE TIED CARD OF 'dowellaw05.MatrixIdentity'. -/
def matrixIdentityCard : Claim7 := { stood := { row := matrixIdentityRow, standIns := [], harness := (true, "dda810b8fb095d44426f54807fd537659dd6102ee74a8f9c20f2fc6613f9a4c2"), looks := true }, kinds := [], alts := [], laidByText := true, laidKinds := [.data, .data, .data, .data, .sentinel, .sentinel, .pinned], laidTests := true, laidLooks := .later }
def MatrixIdentityCardSaid : Prop := Claim7.holds Tryz.pinned (.plain (OpenSpec.ofChange matrixIdentitySpec)) matrixIdentityCard

/-- THE TIED CARD OF 'dowellaw05.MatrixSizes'. -/
def matrixSizesCard : Claim7 := { stood := { row := matrixSizesRow, standIns := [], harness := (true, "dda810b8fb095d44426f54807fd537659dd6102ee74a8f9c20f2fc6613f9a4c2"), looks := true }, kinds := [], alts := [], laidByText := true, laidKinds := [.data, .data, .data, .data, .sentinel, .sentinel, .pinned], laidTests := true, laidLooks := .later }
def MatrixSizesCardSaid : Prop := Claim7.holds Tryz.pinned (.plain (OpenSpec.ofChange matrixSizesSpec)) matrixSizesCard

/-- THE TIED CARD OF 'dowellaw05.MatrixRanks'. -/
def matrixRanksCard : Claim7 := { stood := { row := matrixRanksRow, standIns := [], harness := (true, "dda810b8fb095d44426f54807fd537659dd6102ee74a8f9c20f2fc6613f9a4c2"), looks := true }, kinds := [], alts := [], laidByText := true, laidKinds := [.data, .data, .data, .data, .sentinel, .sentinel, .pinned], laidTests := true, laidLooks := .later }
def MatrixRanksCardSaid : Prop := Claim7.holds Tryz.pinned (.plain (OpenSpec.ofChange matrixRanksSpec)) matrixRanksCard

/-- THE TIED CARD OF 'dowellaw05.MatrixSolves'. -/
def matrixSolvesCard : Claim7 := { stood := { row := matrixSolvesRow, standIns := [], harness := (true, "dda810b8fb095d44426f54807fd537659dd6102ee74a8f9c20f2fc6613f9a4c2"), looks := true }, kinds := [], alts := [], laidByText := true, laidKinds := [.data, .data, .data, .data, .sentinel, .sentinel, .pinned], laidTests := true, laidLooks := .later }
def MatrixSolvesCardSaid : Prop := Claim7.holds Tryz.pinned (.plain (OpenSpec.ofChange matrixSolvesSpec)) matrixSolvesCard

/-- THE TIED CARD OF 'dowellaw05.MatrixInverts'. -/
def matrixInvertsCard : Claim7 := { stood := { row := matrixInvertsRow, standIns := [], harness := (true, "dda810b8fb095d44426f54807fd537659dd6102ee74a8f9c20f2fc6613f9a4c2"), looks := true }, kinds := [], alts := [], laidByText := true, laidKinds := [.data, .data, .data, .data, .sentinel, .sentinel, .pinned], laidTests := true, laidLooks := .later }
def MatrixInvertsCardSaid : Prop := Claim7.holds Tryz.pinned (.plain (OpenSpec.ofChange matrixInvertsSpec)) matrixInvertsCard

/-- THE TIED CARD OF 'dowellaw05.MatrixProducts'. -/
def matrixProductsCard : Claim7 := { stood := { row := matrixProductsRow, standIns := [], harness := (true, "dda810b8fb095d44426f54807fd537659dd6102ee74a8f9c20f2fc6613f9a4c2"), looks := true }, kinds := [], alts := [], laidByText := true, laidKinds := [.data, .data, .data, .data, .sentinel, .sentinel, .pinned], laidTests := true, laidLooks := .later }
def MatrixProductsCardSaid : Prop := Claim7.holds Tryz.pinned (.plain (OpenSpec.ofChange matrixProductsSpec)) matrixProductsCard

/-- THE TIED CARD OF 'dowellaw05.MatrixCertain'. -/
def matrixCertainCard : Claim7 := { stood := { row := matrixCertainRow, standIns := [], harness := (true, "dda810b8fb095d44426f54807fd537659dd6102ee74a8f9c20f2fc6613f9a4c2"), looks := true }, kinds := [], alts := [], laidByText := true, laidKinds := [.data, .data, .data, .data, .sentinel, .sentinel, .pinned], laidTests := true, laidLooks := .later }
def MatrixCertainCardSaid : Prop := Claim7.holds Tryz.pinned (.plain (OpenSpec.ofChange matrixCertainSpec)) matrixCertainCard

/-- THE TIED CARD OF 'dowellaw05.MatrixDeterminants'. -/
def matrixDeterminantsCard : Claim7 := { stood := { row := matrixDeterminantsRow, standIns := [], harness := (true, "dda810b8fb095d44426f54807fd537659dd6102ee74a8f9c20f2fc6613f9a4c2"), looks := true }, kinds := [], alts := [], laidByText := true, laidKinds := [.data, .data, .data, .data, .sentinel, .sentinel, .pinned], laidTests := true, laidLooks := .later }
def MatrixDeterminantsCardSaid : Prop := Claim7.holds Tryz.pinned (.plain (OpenSpec.ofChange matrixDeterminantsSpec)) matrixDeterminantsCard

/-- THE SECOND FORM's CARD OF 'dowellaw05.MatrixReduces'. -/
def matrixReducesUptoCard : Claim7 := { stood := { row := matrixReducesUptoRow, standIns := [], harness := (true, "dda810b8fb095d44426f54807fd537659dd6102ee74a8f9c20f2fc6613f9a4c2"), looks := true }, kinds := [], alts := [], laidByText := true, laidKinds := [.data, .data, .data, .data, .sentinel, .sentinel, .pinned], laidTests := true, laidLooks := .later }
def MatrixReducesUptoCardSaid : Prop := Claim7.holds Tryz.pinned (.plain (OpenSpec.upto matrixReducesSpec)) matrixReducesUptoCard

/-- THE SECOND FORM's CARD OF 'dowellaw05.MatrixIdentity'. -/
def matrixIdentityUptoCard : Claim7 := { stood := { row := matrixIdentityUptoRow, standIns := [], harness := (true, "dda810b8fb095d44426f54807fd537659dd6102ee74a8f9c20f2fc6613f9a4c2"), looks := true }, kinds := [], alts := [], laidByText := true, laidKinds := [.data, .data, .data, .data, .sentinel, .sentinel, .pinned], laidTests := true, laidLooks := .later }
def MatrixIdentityUptoCardSaid : Prop := Claim7.holds Tryz.pinned (.plain (OpenSpec.upto matrixIdentitySpec)) matrixIdentityUptoCard

/-- THE SECOND FORM's CARD OF 'dowellaw05.MatrixSizes'. -/
def matrixSizesUptoCard : Claim7 := { stood := { row := matrixSizesUptoRow, standIns := [], harness := (true, "dda810b8fb095d44426f54807fd537659dd6102ee74a8f9c20f2fc6613f9a4c2"), looks := true }, kinds := [], alts := [], laidByText := true, laidKinds := [.data, .data, .data, .data, .sentinel, .sentinel, .pinned], laidTests := true, laidLooks := .later }
def MatrixSizesUptoCardSaid : Prop := Claim7.holds Tryz.pinned (.plain (OpenSpec.upto matrixSizesSpec)) matrixSizesUptoCard

/-- THE SECOND FORM's CARD OF 'dowellaw05.MatrixRanks'. -/
def matrixRanksUptoCard : Claim7 := { stood := { row := matrixRanksUptoRow, standIns := [], harness := (true, "dda810b8fb095d44426f54807fd537659dd6102ee74a8f9c20f2fc6613f9a4c2"), looks := true }, kinds := [], alts := [], laidByText := true, laidKinds := [.data, .data, .data, .data, .sentinel, .sentinel, .pinned], laidTests := true, laidLooks := .later }
def MatrixRanksUptoCardSaid : Prop := Claim7.holds Tryz.pinned (.plain (OpenSpec.upto matrixRanksSpec)) matrixRanksUptoCard

/-- THE SECOND FORM's CARD OF 'dowellaw05.MatrixSolves'. -/
def matrixSolvesUptoCard : Claim7 := { stood := { row := matrixSolvesUptoRow, standIns := [], harness := (true, "dda810b8fb095d44426f54807fd537659dd6102ee74a8f9c20f2fc6613f9a4c2"), looks := true }, kinds := [], alts := [], laidByText := true, laidKinds := [.data, .data, .data, .data, .sentinel, .sentinel, .pinned], laidTests := true, laidLooks := .later }
def MatrixSolvesUptoCardSaid : Prop := Claim7.holds Tryz.pinned (.plain (OpenSpec.upto matrixSolvesSpec)) matrixSolvesUptoCard

/-- THE SECOND FORM's CARD OF 'dowellaw05.MatrixInverts'. -/
def matrixInvertsUptoCard : Claim7 := { stood := { row := matrixInvertsUptoRow, standIns := [], harness := (true, "dda810b8fb095d44426f54807fd537659dd6102ee74a8f9c20f2fc6613f9a4c2"), looks := true }, kinds := [], alts := [], laidByText := true, laidKinds := [.data, .data, .data, .data, .sentinel, .sentinel, .pinned], laidTests := true, laidLooks := .later }
def MatrixInvertsUptoCardSaid : Prop := Claim7.holds Tryz.pinned (.plain (OpenSpec.upto matrixInvertsSpec)) matrixInvertsUptoCard

/-- THE SECOND FORM's CARD OF 'dowellaw05.MatrixProducts'. -/
def matrixProductsUptoCard : Claim7 := { stood := { row := matrixProductsUptoRow, standIns := [], harness := (true, "dda810b8fb095d44426f54807fd537659dd6102ee74a8f9c20f2fc6613f9a4c2"), looks := true }, kinds := [], alts := [], laidByText := true, laidKinds := [.data, .data, .data, .data, .sentinel, .sentinel, .pinned], laidTests := true, laidLooks := .later }
def MatrixProductsUptoCardSaid : Prop := Claim7.holds Tryz.pinned (.plain (OpenSpec.upto matrixProductsSpec)) matrixProductsUptoCard

/-- THE SECOND FORM's CARD OF 'dowellaw05.MatrixCertain'. -/
def matrixCertainUptoCard : Claim7 := { stood := { row := matrixCertainUptoRow, standIns := [], harness := (true, "dda810b8fb095d44426f54807fd537659dd6102ee74a8f9c20f2fc6613f9a4c2"), looks := true }, kinds := [], alts := [], laidByText := true, laidKinds := [.data, .data, .data, .data, .sentinel, .sentinel, .pinned], laidTests := true, laidLooks := .later }
def MatrixCertainUptoCardSaid : Prop := Claim7.holds Tryz.pinned (.plain (OpenSpec.upto matrixCertainSpec)) matrixCertainUptoCard

/-- THE SECOND FORM's CARD OF 'dowellaw05.MatrixDeterminants'. -/
def matrixDeterminantsUptoCard : Claim7 := { stood := { row := matrixDeterminantsUptoRow, standIns := [], harness := (true, "dda810b8fb095d44426f54807fd537659dd6102ee74a8f9c20f2fc6613f9a4c2"), looks := true }, kinds := [], alts := [], laidByText := true, laidKinds := [.data, .data, .data, .data, .sentinel, .sentinel, .pinned], laidTests := true, laidLooks := .later }
def MatrixDeterminantsUptoCardSaid : Prop := Claim7.holds Tryz.pinned (.plain (OpenSpec.upto matrixDeterminantsSpec)) matrixDeterminantsUptoCard
end Rows
end Go.Proofs.YtepgkcimmdmgcaaGreatDoor
