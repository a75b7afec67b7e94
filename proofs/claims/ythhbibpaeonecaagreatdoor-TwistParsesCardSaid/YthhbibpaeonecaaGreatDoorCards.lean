/-
  DERIVED. GIVEN WITH THE SEED: THE CARDS: each row of YthhbibpaeonecaaGreatDoorRows.lean that lists a variable, with what it lists TIED to the program's text (the seventh form; the later family's looks); each row that meets fmt, with fmt's text TOLD by the authors' own Lean function (tested against real Go, not proved from fmt's source: count such statements apart). THE CARD IS WHAT COUNTS. Prove the row's statement (the work); the ties are given (YthhbibpaeonecaaGreatDoorTie.lean); close each card by the builder's one call (the guide's Derived/Test/ToyasCard.lean, 'card_holds'). Laid BY PROGRAM, IN A SANDBOX (cutbox-door.mjs). By AI agents, Wed Nov 11 2026. No macro, syntax, notation, axiom, sorry.
-/
import Derived.Test.YthhbibpaeonecaaGreatDoorRows
import GoSem.ClaimSeven
namespace Go.Proofs.YthhbibpaeonecaaGreatDoor
namespace Rows

/-- THE TIED CARD OF 'dowellaw17.TwistMoves'. -/
def twistMovesCard : Claim7 := { stood := { row := twistMovesRow, standIns := [], harness := (true, "144e33b716fbd9b38834ee2845a024fd9f29545845ca33ba6fc657eabcfddcc7"), looks := true }, kinds := [], alts := [], laidByText := true, laidKinds := [.data, .data, .data, .data, .sentinel, .sentinel, .pinned], laidTests := true, laidLooks := .later }
def TwistMovesCardSaid : Prop := Claim7.holds Tryz.pinned (.plain (OpenSpec.ofChange twistMovesSpec)) twistMovesCard

/-- THE TIED CARD OF 'dowellaw17.TwistKeeps'. -/
def twistKeepsCard : Claim7 := { stood := { row := twistKeepsRow, standIns := [], harness := (true, "144e33b716fbd9b38834ee2845a024fd9f29545845ca33ba6fc657eabcfddcc7"), looks := true }, kinds := [], alts := [], laidByText := true, laidKinds := [.data, .data, .data, .data, .sentinel, .sentinel, .pinned], laidTests := true, laidLooks := .later }
def TwistKeepsCardSaid : Prop := Claim7.holds Tryz.pinned (.plain (OpenSpec.ofChange twistKeepsSpec)) twistKeepsCard

/-- THE TIED CARD OF 'dowellaw17.TwistParses'. -/
def twistParsesCard : Claim7 := { stood := { row := twistParsesRow, standIns := [], harness := (true, "144e33b716fbd9b38834ee2845a024fd9f29545845ca33ba6fc657eabcfddcc7"), looks := true }, kinds := [], alts := [], laidByText := true, laidKinds := [.data, .data, .data, .data, .sentinel, .sentinel, .pinned], laidTests := true, laidLooks := .later }
def TwistParsesCardSaid : Prop := Claim7.holds Tryz.pinned (.plain (OpenSpec.ofChange twistParsesSpec)) twistParsesCard

/-- THE SECOND FORM's CARD OF 'dowellaw17.TwistMoves'. -/
def twistMovesUptoCard : Claim7 := { stood := { row := twistMovesUptoRow, standIns := [], harness := (true, "144e33b716fbd9b38834ee2845a024fd9f29545845ca33ba6fc657eabcfddcc7"), looks := true }, kinds := [], alts := [], laidByText := true, laidKinds := [.data, .data, .data, .data, .sentinel, .sentinel, .pinned], laidTests := true, laidLooks := .later }
def TwistMovesUptoCardSaid : Prop := Claim7.holds Tryz.pinned (.plain (OpenSpec.upto twistMovesSpec)) twistMovesUptoCard

/-- THE SECOND FORM's CARD OF 'dowellaw17.TwistKeeps'. -/
def twistKeepsUptoCard : Claim7 := { stood := { row := twistKeepsUptoRow, standIns := [], harness := (true, "144e33b716fbd9b38834ee2845a024fd9f29545845ca33ba6fc657eabcfddcc7"), looks := true }, kinds := [], alts := [], laidByText := true, laidKinds := [.data, .data, .data, .data, .sentinel, .sentinel, .pinned], laidTests := true, laidLooks := .later }
def TwistKeepsUptoCardSaid : Prop := Claim7.holds Tryz.pinned (.plain (OpenSpec.upto twistKeepsSpec)) twistKeepsUptoCard

/-- THE SECOND FORM's CARD OF 'dowellaw17.TwistParses'. -/
def twistParsesUptoCard : Claim7 := { stood := { row := twistParsesUptoRow, standIns := [], harness := (true, "144e33b716fbd9b38834ee2845a024fd9f29545845ca33ba6fc657eabcfddcc7"), looks := true }, kinds := [], alts := [], laidByText := true, laidKinds := [.data, .data, .data, .data, .sentinel, .sentinel, .pinned], laidTests := true, laidLooks := .later }
def TwistParsesUptoCardSaid : Prop := Claim7.holds Tryz.pinned (.plain (OpenSpec.upto twistParsesSpec)) twistParsesUptoCard
end Rows
end Go.Proofs.YthhbibpaeonecaaGreatDoor
