/-
  DERIVED. GIVEN WITH THE SEED: THE CARDS: each row of YtccjlfagglbnhaaGreatDoorRows.lean that lists a variable, with what it lists TIED to the program's text (the seventh form; the later family's looks); each row that meets fmt, with fmt's text TOLD by the authors' own Lean function (tested against real Go, not proved from fmt's source: count such statements apart). THE CARD IS WHAT COUNTS. Prove the row's statement (the work); the ties are given (YtccjlfagglbnhaaGreatDoorTie.lean); close each card by the builder's one call (the guide's Derived/Test/ToyasCard.lean, 'card_holds'). Laid BY PROGRAM, IN A SANDBOX (cutbox-door.mjs). By AI agents, Wed Nov 11 2026. No macro, syntax, notation, axiom, sorry.
-/
import Derived.Test.YtccjlfagglbnhaaGreatDoorRows
import GoSem.ClaimSeven
namespace Go.Proofs.YtccjlfagglbnhaaGreatDoor
namespace Rows

/-- THE TIED CARD OF 'camshaftlaw13.ArchLevels'. -/
def archLevelsCard : Claim7 := { stood := { row := archLevelsRow, standIns := [], harness := (true, "35c8f11c11a596d1d4f7a378e1d78f5c1df82d08ae47723b48563814694ef0d6"), looks := false }, kinds := [], alts := [], laidByText := true, laidKinds := [.data, .listed, .data, .pinned, .pinned], laidTests := true, laidLooks := .later }
def ArchLevelsCardSaid : Prop := Claim7.holds Tryz.pinned (.plain (OpenSpec.ofChange archLevelsSpec)) archLevelsCard

/-- THE SECOND FORM's CARD OF 'camshaftlaw13.ArchLevels'. -/
def archLevelsUptoCard : Claim7 := { stood := { row := archLevelsUptoRow, standIns := [], harness := (true, "35c8f11c11a596d1d4f7a378e1d78f5c1df82d08ae47723b48563814694ef0d6"), looks := false }, kinds := [], alts := [], laidByText := true, laidKinds := [.data, .listed, .data, .pinned, .pinned], laidTests := true, laidLooks := .later }
def ArchLevelsUptoCardSaid : Prop := Claim7.holds Tryz.pinned (.plain (OpenSpec.upto archLevelsSpec)) archLevelsUptoCard
end Rows
end Go.Proofs.YtccjlfagglbnhaaGreatDoor
