/-
  DERIVED. GIVEN WITH THE SEED: THE CARDS: each row of YtfgdoliihmjnoaaDoorRows.lean that lists a variable, with what it lists TIED to the program's text (the seventh form; the later family's looks); each row that meets fmt, with fmt's text TOLD by the authors' own Lean function (tested against real Go, not proved from fmt's source: count such statements apart). THE CARD IS WHAT COUNTS. Prove the row's statement (the work); the ties are given (YtfgdoliihmjnoaaDoorTie.lean); close each card by the builder's one call (the guide's Derived/Test/ToyasCard.lean, 'card_holds'). Laid BY PROGRAM, IN A SANDBOX (cutbox-door.mjs). By AI agents, Wed Nov 11 2026. No macro, syntax, notation, axiom, sorry.
-/
import Derived.Test.YtfgdoliihmjnoaaDoorRows
import GoSem.ClaimSeven
namespace Go.Proofs.YtfgdoliihmjnoaaDoor
namespace Rows

/-- THE TIED CARD OF 'camshaftlaw10.IsaOperands'. -/
def isaOperandsCard : Claim7 := { stood := { row := isaOperandsRow, standIns := [], harness := (true, "1e1e248acc660a677998e05a53df8622417f417e7bf64ebac2106d3cebcb75fa"), looks := true }, kinds := [], alts := [], laidByText := true, laidKinds := [.data, .listed, .data, .pinned, .pinned], laidTests := true, laidLooks := .later }
def IsaOperandsCardSaid : Prop := Claim7.holds Tryd.pinned (.plain (OpenSpec.ofChange isaOperandsSpec)) isaOperandsCard

/-- THE TIED CARD OF 'camshaftlaw10.IsaSizes'. -/
def isaSizesCard : Claim7 := { stood := { row := isaSizesRow, standIns := [], harness := (true, "1e1e248acc660a677998e05a53df8622417f417e7bf64ebac2106d3cebcb75fa"), looks := true }, kinds := [], alts := [], laidByText := true, laidKinds := [.data, .listed, .data, .pinned, .pinned], laidTests := true, laidLooks := .later }
def IsaSizesCardSaid : Prop := Claim7.holds Tryd.pinned (.plain (OpenSpec.ofChange isaSizesSpec)) isaSizesCard

/-- THE TIED CARD OF 'camshaftlaw10.IsaOf'. -/
def isaOfCard : Claim7 := { stood := { row := isaOfRow, standIns := [], harness := (true, "1e1e248acc660a677998e05a53df8622417f417e7bf64ebac2106d3cebcb75fa"), looks := true }, kinds := [], alts := [], laidByText := true, laidKinds := [.data, .listed, .data, .pinned, .pinned], laidTests := true, laidLooks := .later }
def IsaOfCardSaid : Prop := Claim7.holds Tryd.pinned (.plain (OpenSpec.ofChange isaOfSpec)) isaOfCard

/-- THE TIED CARD OF 'camshaftlaw15.UlexIs'. -/
def ulexIsCard : Claim7 := { stood := { row := ulexIsRow, standIns := [], harness := (true, "1e1e248acc660a677998e05a53df8622417f417e7bf64ebac2106d3cebcb75fa"), looks := true }, kinds := [], alts := [], laidByText := true, laidKinds := [.data, .data, .data, .data, .sentinel, .sentinel, .pinned], laidTests := true, laidLooks := .later }
def UlexIsCardSaid : Prop := Claim7.holds Tryd.pinned (.plain (OpenSpec.ofChange ulexIsSpec)) ulexIsCard

/-- THE TIED CARD OF 'camshaftlaw15.UlexLines'. -/
def ulexLinesCard : Claim7 := { stood := { row := ulexLinesRow, standIns := [], harness := (true, "1e1e248acc660a677998e05a53df8622417f417e7bf64ebac2106d3cebcb75fa"), looks := true }, kinds := [], alts := [], laidByText := true, laidKinds := [.data, .data, .data, .data, .sentinel, .sentinel, .pinned], laidTests := true, laidLooks := .later }
def UlexLinesCardSaid : Prop := Claim7.holds Tryd.pinned (.plain (OpenSpec.ofChange ulexLinesSpec)) ulexLinesCard

/-- THE TIED CARD OF 'camshaftlaw15.UlexCovers'. -/
def ulexCoversCard : Claim7 := { stood := { row := ulexCoversRow, standIns := [], harness := (true, "1e1e248acc660a677998e05a53df8622417f417e7bf64ebac2106d3cebcb75fa"), looks := true }, kinds := [], alts := [], laidByText := true, laidKinds := [.data, .data, .data, .data, .sentinel, .sentinel, .pinned], laidTests := true, laidLooks := .later }
def UlexCoversCardSaid : Prop := Claim7.holds Tryd.pinned (.plain (OpenSpec.ofChange ulexCoversSpec)) ulexCoversCard

/-- THE TIED CARD OF 'camshaftlaw15.UlexLong'. -/
def ulexLongCard : Claim7 := { stood := { row := ulexLongRow, standIns := [], harness := (true, "1e1e248acc660a677998e05a53df8622417f417e7bf64ebac2106d3cebcb75fa"), looks := true }, kinds := [], alts := [], laidByText := true, laidKinds := [.data, .data, .data, .data, .sentinel, .sentinel, .pinned], laidTests := true, laidLooks := .later }
def UlexLongCardSaid : Prop := Claim7.holds Tryd.pinned (.plain (OpenSpec.ofChange ulexLongSpec)) ulexLongCard

/-- THE TIED CARD OF 'camshaftlaw15.UlexNumbers'. -/
def ulexNumbersCard : Claim7 := { stood := { row := ulexNumbersRow, standIns := [], harness := (true, "1e1e248acc660a677998e05a53df8622417f417e7bf64ebac2106d3cebcb75fa"), looks := true }, kinds := [], alts := [], laidByText := true, laidKinds := [.data, .data, .data, .data, .sentinel, .sentinel, .pinned], laidTests := true, laidLooks := .later }
def UlexNumbersCardSaid : Prop := Claim7.holds Tryd.pinned (.plain (OpenSpec.ofChange ulexNumbersSpec)) ulexNumbersCard

/-- THE TIED CARD OF 'camshaftlaw15.UlexBlank'. -/
def ulexBlankCard : Claim7 := { stood := { row := ulexBlankRow, standIns := [], harness := (true, "1e1e248acc660a677998e05a53df8622417f417e7bf64ebac2106d3cebcb75fa"), looks := true }, kinds := [], alts := [], laidByText := true, laidKinds := [.data, .data, .data, .data, .sentinel, .sentinel, .pinned], laidTests := true, laidLooks := .later }
def UlexBlankCardSaid : Prop := Claim7.holds Tryd.pinned (.plain (OpenSpec.ofChange ulexBlankSpec)) ulexBlankCard

/-- THE TIED CARD OF 'camshaftlaw10.IsaFinds'. -/
def isaFindsCard : Claim7 := { stood := { row := isaFindsRow, standIns := [], harness := (true, "1e1e248acc660a677998e05a53df8622417f417e7bf64ebac2106d3cebcb75fa"), looks := true }, kinds := [], alts := [], laidByText := true, laidKinds := [.data, .listed, .data, .pinned, .pinned], laidTests := true, laidLooks := .later }
def IsaFindsCardSaid : Prop := Claim7.holds Tryd.pinned (.plain (OpenSpec.ofChange isaFindsSpec)) isaFindsCard

/-- THE TIED CARD OF 'camshaftlaw10.IsaNames'. -/
def isaNamesCard : Claim7 := { stood := { row := isaNamesRow, standIns := [], harness := (true, "1e1e248acc660a677998e05a53df8622417f417e7bf64ebac2106d3cebcb75fa"), looks := true }, kinds := [], alts := [], laidByText := true, laidKinds := [.data, .listed, .data, .pinned, .pinned], laidTests := true, laidLooks := .later }
def IsaNamesCardSaid : Prop := Claim7.holds Tryd.pinned (.plain (OpenSpec.ofChange isaNamesSpec)) isaNamesCard

/-- THE SECOND FORM's CARD OF 'camshaftlaw10.IsaOperands'. -/
def isaOperandsUptoCard : Claim7 := { stood := { row := isaOperandsUptoRow, standIns := [], harness := (true, "1e1e248acc660a677998e05a53df8622417f417e7bf64ebac2106d3cebcb75fa"), looks := true }, kinds := [], alts := [], laidByText := true, laidKinds := [.data, .listed, .data, .pinned, .pinned], laidTests := true, laidLooks := .later }
def IsaOperandsUptoCardSaid : Prop := Claim7.holds Tryd.pinned (.plain (OpenSpec.upto isaOperandsSpec)) isaOperandsUptoCard

/-- THE SECOND FORM's CARD OF 'camshaftlaw10.IsaSizes'. -/
def isaSizesUptoCard : Claim7 := { stood := { row := isaSizesUptoRow, standIns := [], harness := (true, "1e1e248acc660a677998e05a53df8622417f417e7bf64ebac2106d3cebcb75fa"), looks := true }, kinds := [], alts := [], laidByText := true, laidKinds := [.data, .listed, .data, .pinned, .pinned], laidTests := true, laidLooks := .later }
def IsaSizesUptoCardSaid : Prop := Claim7.holds Tryd.pinned (.plain (OpenSpec.upto isaSizesSpec)) isaSizesUptoCard

/-- THE SECOND FORM's CARD OF 'camshaftlaw10.IsaOf'. -/
def isaOfUptoCard : Claim7 := { stood := { row := isaOfUptoRow, standIns := [], harness := (true, "1e1e248acc660a677998e05a53df8622417f417e7bf64ebac2106d3cebcb75fa"), looks := true }, kinds := [], alts := [], laidByText := true, laidKinds := [.data, .listed, .data, .pinned, .pinned], laidTests := true, laidLooks := .later }
def IsaOfUptoCardSaid : Prop := Claim7.holds Tryd.pinned (.plain (OpenSpec.upto isaOfSpec)) isaOfUptoCard

/-- THE SECOND FORM's CARD OF 'camshaftlaw15.UlexIs'. -/
def ulexIsUptoCard : Claim7 := { stood := { row := ulexIsUptoRow, standIns := [], harness := (true, "1e1e248acc660a677998e05a53df8622417f417e7bf64ebac2106d3cebcb75fa"), looks := true }, kinds := [], alts := [], laidByText := true, laidKinds := [.data, .data, .data, .data, .sentinel, .sentinel, .pinned], laidTests := true, laidLooks := .later }
def UlexIsUptoCardSaid : Prop := Claim7.holds Tryd.pinned (.plain (OpenSpec.upto ulexIsSpec)) ulexIsUptoCard

/-- THE SECOND FORM's CARD OF 'camshaftlaw15.UlexLines'. -/
def ulexLinesUptoCard : Claim7 := { stood := { row := ulexLinesUptoRow, standIns := [], harness := (true, "1e1e248acc660a677998e05a53df8622417f417e7bf64ebac2106d3cebcb75fa"), looks := true }, kinds := [], alts := [], laidByText := true, laidKinds := [.data, .data, .data, .data, .sentinel, .sentinel, .pinned], laidTests := true, laidLooks := .later }
def UlexLinesUptoCardSaid : Prop := Claim7.holds Tryd.pinned (.plain (OpenSpec.upto ulexLinesSpec)) ulexLinesUptoCard

/-- THE SECOND FORM's CARD OF 'camshaftlaw15.UlexCovers'. -/
def ulexCoversUptoCard : Claim7 := { stood := { row := ulexCoversUptoRow, standIns := [], harness := (true, "1e1e248acc660a677998e05a53df8622417f417e7bf64ebac2106d3cebcb75fa"), looks := true }, kinds := [], alts := [], laidByText := true, laidKinds := [.data, .data, .data, .data, .sentinel, .sentinel, .pinned], laidTests := true, laidLooks := .later }
def UlexCoversUptoCardSaid : Prop := Claim7.holds Tryd.pinned (.plain (OpenSpec.upto ulexCoversSpec)) ulexCoversUptoCard

/-- THE SECOND FORM's CARD OF 'camshaftlaw15.UlexLong'. -/
def ulexLongUptoCard : Claim7 := { stood := { row := ulexLongUptoRow, standIns := [], harness := (true, "1e1e248acc660a677998e05a53df8622417f417e7bf64ebac2106d3cebcb75fa"), looks := true }, kinds := [], alts := [], laidByText := true, laidKinds := [.data, .data, .data, .data, .sentinel, .sentinel, .pinned], laidTests := true, laidLooks := .later }
def UlexLongUptoCardSaid : Prop := Claim7.holds Tryd.pinned (.plain (OpenSpec.upto ulexLongSpec)) ulexLongUptoCard

/-- THE SECOND FORM's CARD OF 'camshaftlaw15.UlexNumbers'. -/
def ulexNumbersUptoCard : Claim7 := { stood := { row := ulexNumbersUptoRow, standIns := [], harness := (true, "1e1e248acc660a677998e05a53df8622417f417e7bf64ebac2106d3cebcb75fa"), looks := true }, kinds := [], alts := [], laidByText := true, laidKinds := [.data, .data, .data, .data, .sentinel, .sentinel, .pinned], laidTests := true, laidLooks := .later }
def UlexNumbersUptoCardSaid : Prop := Claim7.holds Tryd.pinned (.plain (OpenSpec.upto ulexNumbersSpec)) ulexNumbersUptoCard

/-- THE SECOND FORM's CARD OF 'camshaftlaw15.UlexBlank'. -/
def ulexBlankUptoCard : Claim7 := { stood := { row := ulexBlankUptoRow, standIns := [], harness := (true, "1e1e248acc660a677998e05a53df8622417f417e7bf64ebac2106d3cebcb75fa"), looks := true }, kinds := [], alts := [], laidByText := true, laidKinds := [.data, .data, .data, .data, .sentinel, .sentinel, .pinned], laidTests := true, laidLooks := .later }
def UlexBlankUptoCardSaid : Prop := Claim7.holds Tryd.pinned (.plain (OpenSpec.upto ulexBlankSpec)) ulexBlankUptoCard

/-- THE SECOND FORM's CARD OF 'camshaftlaw10.IsaFinds'. -/
def isaFindsUptoCard : Claim7 := { stood := { row := isaFindsUptoRow, standIns := [], harness := (true, "1e1e248acc660a677998e05a53df8622417f417e7bf64ebac2106d3cebcb75fa"), looks := true }, kinds := [], alts := [], laidByText := true, laidKinds := [.data, .listed, .data, .pinned, .pinned], laidTests := true, laidLooks := .later }
def IsaFindsUptoCardSaid : Prop := Claim7.holds Tryd.pinned (.plain (OpenSpec.upto isaFindsSpec)) isaFindsUptoCard

/-- THE SECOND FORM's CARD OF 'camshaftlaw10.IsaNames'. -/
def isaNamesUptoCard : Claim7 := { stood := { row := isaNamesUptoRow, standIns := [], harness := (true, "1e1e248acc660a677998e05a53df8622417f417e7bf64ebac2106d3cebcb75fa"), looks := true }, kinds := [], alts := [], laidByText := true, laidKinds := [.data, .listed, .data, .pinned, .pinned], laidTests := true, laidLooks := .later }
def IsaNamesUptoCardSaid : Prop := Claim7.holds Tryd.pinned (.plain (OpenSpec.upto isaNamesSpec)) isaNamesUptoCard
end Rows
end Go.Proofs.YtfgdoliihmjnoaaDoor
