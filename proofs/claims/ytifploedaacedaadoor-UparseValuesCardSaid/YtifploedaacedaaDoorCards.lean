/-
  DERIVED. GIVEN WITH THE SEED: THE CARDS: each row of YtifploedaacedaaDoorRows.lean that lists a variable, with what it lists TIED to the program's text (the seventh form; the later family's looks); each row that meets fmt, with fmt's text TOLD by the authors' own Lean function (tested against real Go, not proved from fmt's source: count such statements apart). THE CARD IS WHAT COUNTS. Prove the row's statement (the work); the ties are given (YtifploedaacedaaDoorTie.lean); close each card by the builder's one call (the guide's Derived/Test/ToyasCard.lean, 'card_holds'). Laid BY PROGRAM, IN A SANDBOX (cutbox-door.mjs). By AI agents, Wed Nov 11 2026. No macro, syntax, notation, axiom, sorry.
-/
import Derived.Test.YtifploedaacedaaDoorRows
import GoSem.ClaimSeven
namespace Go.Proofs.YtifploedaacedaaDoor
namespace Rows

/-- THE TIED CARD OF 'camshaftlaw16.UparseMakes'. -/
def uparseMakesCard : Claim7 := { stood := { row := uparseMakesRow, standIns := [], harness := (true, "c9e2bc1dee1c0bbcd4a19afaf68552777561d7c0bd16630976dda804a353174f"), looks := true }, kinds := [], alts := [], laidByText := true, laidKinds := [.data, .data, .data, .data, .sentinel, .sentinel, .pinned], laidTests := true, laidLooks := .later }
def UparseMakesCardSaid : Prop := Claim7.holds Tryd.pinned (.plain (OpenSpec.ofChange uparseMakesSpec)) uparseMakesCard

/-- THE TIED CARD OF 'camshaftlaw16.UparseValues'. -/
def uparseValuesCard : Claim7 := { stood := { row := uparseValuesRow, standIns := [], harness := (true, "c9e2bc1dee1c0bbcd4a19afaf68552777561d7c0bd16630976dda804a353174f"), looks := true }, kinds := [], alts := [], laidByText := true, laidKinds := [.data, .data, .data, .data, .sentinel, .sentinel, .pinned], laidTests := true, laidLooks := .later }
def UparseValuesCardSaid : Prop := Claim7.holds Tryd.pinned (.plain (OpenSpec.ofChange uparseValuesSpec)) uparseValuesCard

/-- THE TIED CARD OF 'camshaftlaw17.UasmBlank'. -/
def uasmBlankCard : Claim7 := { stood := { row := uasmBlankRow, standIns := [], harness := (true, "c9e2bc1dee1c0bbcd4a19afaf68552777561d7c0bd16630976dda804a353174f"), looks := true }, kinds := [], alts := [], laidByText := true, laidKinds := [.data, .data, .data, .data, .widerDeep, .sentinel, .sentinel, .listed, .data, .pinned], laidTests := true, laidLooks := .later }
def UasmBlankCardSaid : Prop := Claim7.holds Tryd.pinned (.plain (OpenSpec.ofChange uasmBlankSpec)) uasmBlankCard

/-- THE SECOND FORM's CARD OF 'camshaftlaw16.UparseMakes'. -/
def uparseMakesUptoCard : Claim7 := { stood := { row := uparseMakesUptoRow, standIns := [], harness := (true, "c9e2bc1dee1c0bbcd4a19afaf68552777561d7c0bd16630976dda804a353174f"), looks := true }, kinds := [], alts := [], laidByText := true, laidKinds := [.data, .data, .data, .data, .sentinel, .sentinel, .pinned], laidTests := true, laidLooks := .later }
def UparseMakesUptoCardSaid : Prop := Claim7.holds Tryd.pinned (.plain (OpenSpec.upto uparseMakesSpec)) uparseMakesUptoCard

/-- THE SECOND FORM's CARD OF 'camshaftlaw16.UparseValues'. -/
def uparseValuesUptoCard : Claim7 := { stood := { row := uparseValuesUptoRow, standIns := [], harness := (true, "c9e2bc1dee1c0bbcd4a19afaf68552777561d7c0bd16630976dda804a353174f"), looks := true }, kinds := [], alts := [], laidByText := true, laidKinds := [.data, .data, .data, .data, .sentinel, .sentinel, .pinned], laidTests := true, laidLooks := .later }
def UparseValuesUptoCardSaid : Prop := Claim7.holds Tryd.pinned (.plain (OpenSpec.upto uparseValuesSpec)) uparseValuesUptoCard

/-- THE SECOND FORM's CARD OF 'camshaftlaw17.UasmBlank'. -/
def uasmBlankUptoCard : Claim7 := { stood := { row := uasmBlankUptoRow, standIns := [], harness := (true, "c9e2bc1dee1c0bbcd4a19afaf68552777561d7c0bd16630976dda804a353174f"), looks := true }, kinds := [], alts := [], laidByText := true, laidKinds := [.data, .data, .data, .data, .widerDeep, .sentinel, .sentinel, .listed, .data, .pinned], laidTests := true, laidLooks := .later }
def UasmBlankUptoCardSaid : Prop := Claim7.holds Tryd.pinned (.plain (OpenSpec.upto uasmBlankSpec)) uasmBlankUptoCard
end Rows
end Go.Proofs.YtifploedaacedaaDoor
