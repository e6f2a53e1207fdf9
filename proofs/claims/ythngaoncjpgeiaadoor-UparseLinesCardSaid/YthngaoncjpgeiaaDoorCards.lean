/-
  DERIVED. GIVEN WITH THE SEED: THE CARDS: each row of YthngaoncjpgeiaaDoorRows.lean that lists a variable, with what it lists TIED to the program's text (the seventh form; the later family's looks); each row that meets fmt, with fmt's text TOLD by the authors' own Lean function (tested against real Go, not proved from fmt's source: count such statements apart). THE CARD IS WHAT COUNTS. Prove the row's statement (the work); the ties are given (YthngaoncjpgeiaaDoorTie.lean); close each card by the builder's one call (the guide's Derived/Test/ToyasCard.lean, 'card_holds'). Laid BY PROGRAM, IN A SANDBOX (cutbox-door.mjs). By AI agents, Wed Nov 11 2026. No macro, syntax, notation, axiom, sorry.
-/
import Derived.Test.YthngaoncjpgeiaaDoorRows
import GoSem.ClaimSeven
namespace Go.Proofs.YthngaoncjpgeiaaDoor
namespace Rows

/-- THE TIED CARD OF 'camshaftlaw15.UlexIs'. -/
def ulexIsCard : Claim7 := { stood := { row := ulexIsRow, standIns := [], harness := (true, "d9203cce8fe538d0953e4602755e4d9347b0735882329c633d4391b6f9500646"), looks := true }, kinds := [], alts := [], laidByText := true, laidKinds := [.data, .data, .data, .data, .sentinel, .sentinel, .pinned], laidTests := true, laidLooks := .later }
def UlexIsCardSaid : Prop := Claim7.holds Tryd.pinned (.plain (OpenSpec.ofChange ulexIsSpec)) ulexIsCard

/-- THE TIED CARD OF 'camshaftlaw15.UlexLines'. -/
def ulexLinesCard : Claim7 := { stood := { row := ulexLinesRow, standIns := [], harness := (true, "d9203cce8fe538d0953e4602755e4d9347b0735882329c633d4391b6f9500646"), looks := true }, kinds := [], alts := [], laidByText := true, laidKinds := [.data, .data, .data, .data, .sentinel, .sentinel, .pinned], laidTests := true, laidLooks := .later }
def UlexLinesCardSaid : Prop := Claim7.holds Tryd.pinned (.plain (OpenSpec.ofChange ulexLinesSpec)) ulexLinesCard

/-- THE TIED CARD OF 'camshaftlaw15.UlexCovers'. -/
def ulexCoversCard : Claim7 := { stood := { row := ulexCoversRow, standIns := [], harness := (true, "d9203cce8fe538d0953e4602755e4d9347b0735882329c633d4391b6f9500646"), looks := true }, kinds := [], alts := [], laidByText := true, laidKinds := [.data, .data, .data, .data, .sentinel, .sentinel, .pinned], laidTests := true, laidLooks := .later }
def UlexCoversCardSaid : Prop := Claim7.holds Tryd.pinned (.plain (OpenSpec.ofChange ulexCoversSpec)) ulexCoversCard

/-- THE TIED CARD OF 'camshaftlaw15.UlexLong'. -/
def ulexLongCard : Claim7 := { stood := { row := ulexLongRow, standIns := [], harness := (true, "d9203cce8fe538d0953e4602755e4d9347b0735882329c633d4391b6f9500646"), looks := true }, kinds := [], alts := [], laidByText := true, laidKinds := [.data, .data, .data, .data, .sentinel, .sentinel, .pinned], laidTests := true, laidLooks := .later }
def UlexLongCardSaid : Prop := Claim7.holds Tryd.pinned (.plain (OpenSpec.ofChange ulexLongSpec)) ulexLongCard

/-- THE TIED CARD OF 'camshaftlaw15.UlexNumbers'. -/
def ulexNumbersCard : Claim7 := { stood := { row := ulexNumbersRow, standIns := [], harness := (true, "d9203cce8fe538d0953e4602755e4d9347b0735882329c633d4391b6f9500646"), looks := true }, kinds := [], alts := [], laidByText := true, laidKinds := [.data, .data, .data, .data, .sentinel, .sentinel, .pinned], laidTests := true, laidLooks := .later }
def UlexNumbersCardSaid : Prop := Claim7.holds Tryd.pinned (.plain (OpenSpec.ofChange ulexNumbersSpec)) ulexNumbersCard

/-- THE TIED CARD OF 'camshaftlaw15.UlexBlank'. -/
def ulexBlankCard : Claim7 := { stood := { row := ulexBlankRow, standIns := [], harness := (true, "d9203cce8fe538d0953e4602755e4d9347b0735882329c633d4391b6f9500646"), looks := true }, kinds := [], alts := [], laidByText := true, laidKinds := [.data, .data, .data, .data, .sentinel, .sentinel, .pinned], laidTests := true, laidLooks := .later }
def UlexBlankCardSaid : Prop := Claim7.holds Tryd.pinned (.plain (OpenSpec.ofChange ulexBlankSpec)) ulexBlankCard

/-- THE TIED CARD OF 'camshaftlaw16.UparseIs'. -/
def uparseIsCard : Claim7 := { stood := { row := uparseIsRow, standIns := [], harness := (true, "d9203cce8fe538d0953e4602755e4d9347b0735882329c633d4391b6f9500646"), looks := true }, kinds := [], alts := [], laidByText := true, laidKinds := [.data, .data, .data, .data, .sentinel, .sentinel, .pinned], laidTests := true, laidLooks := .later }
def UparseIsCardSaid : Prop := Claim7.holds Tryd.pinned (.plain (OpenSpec.ofChange uparseIsSpec)) uparseIsCard

/-- THE TIED CARD OF 'camshaftlaw16.UparseLines'. -/
def uparseLinesCard : Claim7 := { stood := { row := uparseLinesRow, standIns := [], harness := (true, "d9203cce8fe538d0953e4602755e4d9347b0735882329c633d4391b6f9500646"), looks := true }, kinds := [], alts := [], laidByText := true, laidKinds := [.data, .data, .data, .data, .sentinel, .sentinel, .pinned], laidTests := true, laidLooks := .later }
def UparseLinesCardSaid : Prop := Claim7.holds Tryd.pinned (.plain (OpenSpec.ofChange uparseLinesSpec)) uparseLinesCard

/-- THE TIED CARD OF 'camshaftlaw16.UparseMakes'. -/
def uparseMakesCard : Claim7 := { stood := { row := uparseMakesRow, standIns := [], harness := (true, "d9203cce8fe538d0953e4602755e4d9347b0735882329c633d4391b6f9500646"), looks := true }, kinds := [], alts := [], laidByText := true, laidKinds := [.data, .data, .data, .data, .sentinel, .sentinel, .pinned], laidTests := true, laidLooks := .later }
def UparseMakesCardSaid : Prop := Claim7.holds Tryd.pinned (.plain (OpenSpec.ofChange uparseMakesSpec)) uparseMakesCard

/-- THE TIED CARD OF 'camshaftlaw16.UparseValues'. -/
def uparseValuesCard : Claim7 := { stood := { row := uparseValuesRow, standIns := [], harness := (true, "d9203cce8fe538d0953e4602755e4d9347b0735882329c633d4391b6f9500646"), looks := true }, kinds := [], alts := [], laidByText := true, laidKinds := [.data, .data, .data, .data, .sentinel, .sentinel, .pinned], laidTests := true, laidLooks := .later }
def UparseValuesCardSaid : Prop := Claim7.holds Tryd.pinned (.plain (OpenSpec.ofChange uparseValuesSpec)) uparseValuesCard

/-- THE TIED CARD OF 'camshaftlaw17.UasmBlank'. -/
def uasmBlankCard : Claim7 := { stood := { row := uasmBlankRow, standIns := [], harness := (true, "d9203cce8fe538d0953e4602755e4d9347b0735882329c633d4391b6f9500646"), looks := true }, kinds := [], alts := [], laidByText := true, laidKinds := [.data, .data, .data, .data, .widerDeep, .sentinel, .sentinel, .listed, .data, .pinned], laidTests := true, laidLooks := .later }
def UasmBlankCardSaid : Prop := Claim7.holds Tryd.pinned (.plain (OpenSpec.ofChange uasmBlankSpec)) uasmBlankCard

/-- THE SECOND FORM's CARD OF 'camshaftlaw15.UlexIs'. -/
def ulexIsUptoCard : Claim7 := { stood := { row := ulexIsUptoRow, standIns := [], harness := (true, "d9203cce8fe538d0953e4602755e4d9347b0735882329c633d4391b6f9500646"), looks := true }, kinds := [], alts := [], laidByText := true, laidKinds := [.data, .data, .data, .data, .sentinel, .sentinel, .pinned], laidTests := true, laidLooks := .later }
def UlexIsUptoCardSaid : Prop := Claim7.holds Tryd.pinned (.plain (OpenSpec.upto ulexIsSpec)) ulexIsUptoCard

/-- THE SECOND FORM's CARD OF 'camshaftlaw15.UlexLines'. -/
def ulexLinesUptoCard : Claim7 := { stood := { row := ulexLinesUptoRow, standIns := [], harness := (true, "d9203cce8fe538d0953e4602755e4d9347b0735882329c633d4391b6f9500646"), looks := true }, kinds := [], alts := [], laidByText := true, laidKinds := [.data, .data, .data, .data, .sentinel, .sentinel, .pinned], laidTests := true, laidLooks := .later }
def UlexLinesUptoCardSaid : Prop := Claim7.holds Tryd.pinned (.plain (OpenSpec.upto ulexLinesSpec)) ulexLinesUptoCard

/-- THE SECOND FORM's CARD OF 'camshaftlaw15.UlexCovers'. -/
def ulexCoversUptoCard : Claim7 := { stood := { row := ulexCoversUptoRow, standIns := [], harness := (true, "d9203cce8fe538d0953e4602755e4d9347b0735882329c633d4391b6f9500646"), looks := true }, kinds := [], alts := [], laidByText := true, laidKinds := [.data, .data, .data, .data, .sentinel, .sentinel, .pinned], laidTests := true, laidLooks := .later }
def UlexCoversUptoCardSaid : Prop := Claim7.holds Tryd.pinned (.plain (OpenSpec.upto ulexCoversSpec)) ulexCoversUptoCard

/-- THE SECOND FORM's CARD OF 'camshaftlaw15.UlexLong'. -/
def ulexLongUptoCard : Claim7 := { stood := { row := ulexLongUptoRow, standIns := [], harness := (true, "d9203cce8fe538d0953e4602755e4d9347b0735882329c633d4391b6f9500646"), looks := true }, kinds := [], alts := [], laidByText := true, laidKinds := [.data, .data, .data, .data, .sentinel, .sentinel, .pinned], laidTests := true, laidLooks := .later }
def UlexLongUptoCardSaid : Prop := Claim7.holds Tryd.pinned (.plain (OpenSpec.upto ulexLongSpec)) ulexLongUptoCard

/-- THE SECOND FORM's CARD OF 'camshaftlaw15.UlexNumbers'. -/
def ulexNumbersUptoCard : Claim7 := { stood := { row := ulexNumbersUptoRow, standIns := [], harness := (true, "d9203cce8fe538d0953e4602755e4d9347b0735882329c633d4391b6f9500646"), looks := true }, kinds := [], alts := [], laidByText := true, laidKinds := [.data, .data, .data, .data, .sentinel, .sentinel, .pinned], laidTests := true, laidLooks := .later }
def UlexNumbersUptoCardSaid : Prop := Claim7.holds Tryd.pinned (.plain (OpenSpec.upto ulexNumbersSpec)) ulexNumbersUptoCard

/-- THE SECOND FORM's CARD OF 'camshaftlaw15.UlexBlank'. -/
def ulexBlankUptoCard : Claim7 := { stood := { row := ulexBlankUptoRow, standIns := [], harness := (true, "d9203cce8fe538d0953e4602755e4d9347b0735882329c633d4391b6f9500646"), looks := true }, kinds := [], alts := [], laidByText := true, laidKinds := [.data, .data, .data, .data, .sentinel, .sentinel, .pinned], laidTests := true, laidLooks := .later }
def UlexBlankUptoCardSaid : Prop := Claim7.holds Tryd.pinned (.plain (OpenSpec.upto ulexBlankSpec)) ulexBlankUptoCard

/-- THE SECOND FORM's CARD OF 'camshaftlaw16.UparseIs'. -/
def uparseIsUptoCard : Claim7 := { stood := { row := uparseIsUptoRow, standIns := [], harness := (true, "d9203cce8fe538d0953e4602755e4d9347b0735882329c633d4391b6f9500646"), looks := true }, kinds := [], alts := [], laidByText := true, laidKinds := [.data, .data, .data, .data, .sentinel, .sentinel, .pinned], laidTests := true, laidLooks := .later }
def UparseIsUptoCardSaid : Prop := Claim7.holds Tryd.pinned (.plain (OpenSpec.upto uparseIsSpec)) uparseIsUptoCard

/-- THE SECOND FORM's CARD OF 'camshaftlaw16.UparseLines'. -/
def uparseLinesUptoCard : Claim7 := { stood := { row := uparseLinesUptoRow, standIns := [], harness := (true, "d9203cce8fe538d0953e4602755e4d9347b0735882329c633d4391b6f9500646"), looks := true }, kinds := [], alts := [], laidByText := true, laidKinds := [.data, .data, .data, .data, .sentinel, .sentinel, .pinned], laidTests := true, laidLooks := .later }
def UparseLinesUptoCardSaid : Prop := Claim7.holds Tryd.pinned (.plain (OpenSpec.upto uparseLinesSpec)) uparseLinesUptoCard

/-- THE SECOND FORM's CARD OF 'camshaftlaw16.UparseMakes'. -/
def uparseMakesUptoCard : Claim7 := { stood := { row := uparseMakesUptoRow, standIns := [], harness := (true, "d9203cce8fe538d0953e4602755e4d9347b0735882329c633d4391b6f9500646"), looks := true }, kinds := [], alts := [], laidByText := true, laidKinds := [.data, .data, .data, .data, .sentinel, .sentinel, .pinned], laidTests := true, laidLooks := .later }
def UparseMakesUptoCardSaid : Prop := Claim7.holds Tryd.pinned (.plain (OpenSpec.upto uparseMakesSpec)) uparseMakesUptoCard

/-- THE SECOND FORM's CARD OF 'camshaftlaw16.UparseValues'. -/
def uparseValuesUptoCard : Claim7 := { stood := { row := uparseValuesUptoRow, standIns := [], harness := (true, "d9203cce8fe538d0953e4602755e4d9347b0735882329c633d4391b6f9500646"), looks := true }, kinds := [], alts := [], laidByText := true, laidKinds := [.data, .data, .data, .data, .sentinel, .sentinel, .pinned], laidTests := true, laidLooks := .later }
def UparseValuesUptoCardSaid : Prop := Claim7.holds Tryd.pinned (.plain (OpenSpec.upto uparseValuesSpec)) uparseValuesUptoCard

/-- THE SECOND FORM's CARD OF 'camshaftlaw17.UasmBlank'. -/
def uasmBlankUptoCard : Claim7 := { stood := { row := uasmBlankUptoRow, standIns := [], harness := (true, "d9203cce8fe538d0953e4602755e4d9347b0735882329c633d4391b6f9500646"), looks := true }, kinds := [], alts := [], laidByText := true, laidKinds := [.data, .data, .data, .data, .widerDeep, .sentinel, .sentinel, .listed, .data, .pinned], laidTests := true, laidLooks := .later }
def UasmBlankUptoCardSaid : Prop := Claim7.holds Tryd.pinned (.plain (OpenSpec.upto uasmBlankSpec)) uasmBlankUptoCard
end Rows
end Go.Proofs.YthngaoncjpgeiaaDoor
