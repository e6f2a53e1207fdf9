/-
  DERIVED. GIVEN WITH THE SEED: THE CARDS: each row of YtifploedaacedaaGreatDoorRows.lean that lists a variable, with what it lists TIED to the program's text (the seventh form; the later family's looks); each row that meets fmt, with fmt's text TOLD by the authors' own Lean function (tested against real Go, not proved from fmt's source: count such statements apart). THE CARD IS WHAT COUNTS. Prove the row's statement (the work); the ties are given (YtifploedaacedaaGreatDoorTie.lean); close each card by the builder's one call (the guide's Derived/Test/ToyasCard.lean, 'card_holds'). Laid BY PROGRAM, IN A SANDBOX (cutbox-door.mjs). By AI agents, Wed Nov 11 2026. No macro, syntax, notation, axiom, sorry.
-/
import Derived.Test.YtifploedaacedaaGreatDoorRows
import GoSem.ClaimSeven
namespace Go.Proofs.YtifploedaacedaaGreatDoor
namespace Rows

/-- THE TIED CARD OF 'camshaftlaw17.UasmBuilds'. -/
def uasmBuildsCard : Claim7 := { stood := { row := uasmBuildsRow, standIns := [], harness := (true, "da1f23d6cce7c2e8c503d476b67a27e93900f45ef63ef4c73eb5b416e1a20df6"), looks := true }, kinds := [], alts := [], laidByText := true, laidKinds := [.data, .data, .data, .data, .widerDeep, .sentinel, .sentinel, .listed, .data, .pinned], laidTests := true, laidLooks := .later }
def UasmBuildsCardSaid : Prop := Claim7.holds Tryz.pinned (.plain (OpenSpec.ofChange uasmBuildsSpec)) uasmBuildsCard

/-- THE TIED CARD OF 'camshaftlaw17.UasmReaches'. -/
def uasmReachesCard : Claim7 := { stood := { row := uasmReachesRow, standIns := [], harness := (true, "da1f23d6cce7c2e8c503d476b67a27e93900f45ef63ef4c73eb5b416e1a20df6"), looks := true }, kinds := [], alts := [], laidByText := true, laidKinds := [.data, .data, .data, .data, .widerDeep, .sentinel, .sentinel, .listed, .data, .pinned], laidTests := true, laidLooks := .later }
def UasmReachesCardSaid : Prop := Claim7.holds Tryz.pinned (.plain (OpenSpec.ofChange uasmReachesSpec)) uasmReachesCard

/-- THE TIED CARD OF 'camshaftlaw17.UasmMakes'. -/
def uasmMakesCard : Claim7 := { stood := { row := uasmMakesRow, standIns := [], harness := (true, "da1f23d6cce7c2e8c503d476b67a27e93900f45ef63ef4c73eb5b416e1a20df6"), looks := true }, kinds := [], alts := [], laidByText := true, laidKinds := [.data, .data, .data, .data, .widerDeep, .sentinel, .sentinel, .listed, .data, .pinned], laidTests := true, laidLooks := .later }
def UasmMakesCardSaid : Prop := Claim7.holds Tryz.pinned (.plain (OpenSpec.ofChange uasmMakesSpec)) uasmMakesCard

/-- THE TIED CARD OF 'camshaftlaw17.UasmPlaces'. -/
def uasmPlacesCard : Claim7 := { stood := { row := uasmPlacesRow, standIns := [], harness := (true, "da1f23d6cce7c2e8c503d476b67a27e93900f45ef63ef4c73eb5b416e1a20df6"), looks := true }, kinds := [], alts := [], laidByText := true, laidKinds := [.data, .data, .data, .data, .widerDeep, .sentinel, .sentinel, .listed, .data, .pinned], laidTests := true, laidLooks := .later }
def UasmPlacesCardSaid : Prop := Claim7.holds Tryz.pinned (.plain (OpenSpec.ofChange uasmPlacesSpec)) uasmPlacesCard

/-- THE TIED CARD OF 'camshaftlaw19.UcodeBuilds'. -/
def ucodeBuildsCard : Claim7 := { stood := { row := ucodeBuildsRow, standIns := [], harness := (true, "da1f23d6cce7c2e8c503d476b67a27e93900f45ef63ef4c73eb5b416e1a20df6"), looks := true }, kinds := [], alts := [], laidByText := true, laidKinds := [.data, .data, .data, .data, .widerDeep, .sentinel, .sentinel, .listed, .data, .pinned], laidTests := true, laidLooks := .later }
def UcodeBuildsCardSaid : Prop := Claim7.holds Tryz.pinned (.plain (OpenSpec.ofChange ucodeBuildsSpec)) ucodeBuildsCard

/-- THE TIED CARD OF 'camshaftlaw19.UcodeReaches'. -/
def ucodeReachesCard : Claim7 := { stood := { row := ucodeReachesRow, standIns := [], harness := (true, "da1f23d6cce7c2e8c503d476b67a27e93900f45ef63ef4c73eb5b416e1a20df6"), looks := true }, kinds := [], alts := [], laidByText := true, laidKinds := [.data, .data, .data, .data, .widerDeep, .sentinel, .sentinel, .listed, .data, .pinned], laidTests := true, laidLooks := .later }
def UcodeReachesCardSaid : Prop := Claim7.holds Tryz.pinned (.plain (OpenSpec.ofChange ucodeReachesSpec)) ucodeReachesCard

/-- THE TIED CARD OF 'camshaftlaw19.UcodeKeeps'. -/
def ucodeKeepsCard : Claim7 := { stood := { row := ucodeKeepsRow, standIns := [], harness := (true, "da1f23d6cce7c2e8c503d476b67a27e93900f45ef63ef4c73eb5b416e1a20df6"), looks := true }, kinds := [], alts := [], laidByText := true, laidKinds := [.data, .data, .data, .data, .widerDeep, .sentinel, .sentinel, .listed, .data, .pinned], laidTests := true, laidLooks := .later }
def UcodeKeepsCardSaid : Prop := Claim7.holds Tryz.pinned (.plain (OpenSpec.ofChange ucodeKeepsSpec)) ucodeKeepsCard

/-- THE TIED CARD OF 'camshaftlaw23.UseqRuns'. -/
def useqRunsCard : Claim7 := { stood := { row := useqRunsRow, standIns := [], harness := (true, "da1f23d6cce7c2e8c503d476b67a27e93900f45ef63ef4c73eb5b416e1a20df6"), looks := true }, kinds := [], alts := [], laidByText := true, laidKinds := [.data, .data, .data, .data, .widerDeep, .sentinel, .sentinel, .listed, .data, .pinned], laidTests := true, laidLooks := .later }
def UseqRunsCardSaid : Prop := Claim7.holds Tryz.pinned (.plain (OpenSpec.ofChange useqRunsSpec)) useqRunsCard

/-- THE TIED CARD OF 'camshaftlaw23.UseqTexts'. -/
def useqTextsCard : Claim7 := { stood := { row := useqTextsRow, standIns := [], harness := (true, "da1f23d6cce7c2e8c503d476b67a27e93900f45ef63ef4c73eb5b416e1a20df6"), looks := true }, kinds := [], alts := [], laidByText := true, laidKinds := [.data, .data, .data, .data, .widerDeep, .sentinel, .sentinel, .listed, .data, .pinned], laidTests := true, laidLooks := .later }
def UseqTextsCardSaid : Prop := Claim7.holds Tryz.pinned (.plain (OpenSpec.ofChange useqTextsSpec)) useqTextsCard

/-- THE TIED CARD OF 'camshaftlaw23.UseqCalls'. -/
def useqCallsCard : Claim7 := { stood := { row := useqCallsRow, standIns := [], harness := (true, "da1f23d6cce7c2e8c503d476b67a27e93900f45ef63ef4c73eb5b416e1a20df6"), looks := true }, kinds := [], alts := [], laidByText := true, laidKinds := [.data, .data, .data, .data, .widerDeep, .sentinel, .sentinel, .listed, .data, .pinned], laidTests := true, laidLooks := .later }
def UseqCallsCardSaid : Prop := Claim7.holds Tryz.pinned (.plain (OpenSpec.ofChange useqCallsSpec)) useqCallsCard

/-- THE TIED CARD OF 'camshaftlaw23.UseqShips'. -/
def useqShipsCard : Claim7 := { stood := { row := useqShipsRow, standIns := [], harness := (true, "da1f23d6cce7c2e8c503d476b67a27e93900f45ef63ef4c73eb5b416e1a20df6"), looks := true }, kinds := [], alts := [], laidByText := true, laidKinds := [.data, .data, .data, .data, .widerDeep, .sentinel, .sentinel, .listed, .data, .pinned], laidTests := true, laidLooks := .later }
def UseqShipsCardSaid : Prop := Claim7.holds Tryz.pinned (.plain (OpenSpec.ofChange useqShipsSpec)) useqShipsCard

/-- THE TIED CARD OF 'camshaftlaw23.UseqFresh'. -/
def useqFreshCard : Claim7 := { stood := { row := useqFreshRow, standIns := [], harness := (true, "da1f23d6cce7c2e8c503d476b67a27e93900f45ef63ef4c73eb5b416e1a20df6"), looks := true }, kinds := [], alts := [], laidByText := true, laidKinds := [.data, .data, .data, .data, .widerDeep, .sentinel, .sentinel, .listed, .data, .pinned], laidTests := true, laidLooks := .later }
def UseqFreshCardSaid : Prop := Claim7.holds Tryz.pinned (.plain (OpenSpec.ofChange useqFreshSpec)) useqFreshCard

/-- THE SECOND FORM's CARD OF 'camshaftlaw17.UasmBuilds'. -/
def uasmBuildsUptoCard : Claim7 := { stood := { row := uasmBuildsUptoRow, standIns := [], harness := (true, "da1f23d6cce7c2e8c503d476b67a27e93900f45ef63ef4c73eb5b416e1a20df6"), looks := true }, kinds := [], alts := [], laidByText := true, laidKinds := [.data, .data, .data, .data, .widerDeep, .sentinel, .sentinel, .listed, .data, .pinned], laidTests := true, laidLooks := .later }
def UasmBuildsUptoCardSaid : Prop := Claim7.holds Tryz.pinned (.plain (OpenSpec.upto uasmBuildsSpec)) uasmBuildsUptoCard

/-- THE SECOND FORM's CARD OF 'camshaftlaw17.UasmReaches'. -/
def uasmReachesUptoCard : Claim7 := { stood := { row := uasmReachesUptoRow, standIns := [], harness := (true, "da1f23d6cce7c2e8c503d476b67a27e93900f45ef63ef4c73eb5b416e1a20df6"), looks := true }, kinds := [], alts := [], laidByText := true, laidKinds := [.data, .data, .data, .data, .widerDeep, .sentinel, .sentinel, .listed, .data, .pinned], laidTests := true, laidLooks := .later }
def UasmReachesUptoCardSaid : Prop := Claim7.holds Tryz.pinned (.plain (OpenSpec.upto uasmReachesSpec)) uasmReachesUptoCard

/-- THE SECOND FORM's CARD OF 'camshaftlaw17.UasmMakes'. -/
def uasmMakesUptoCard : Claim7 := { stood := { row := uasmMakesUptoRow, standIns := [], harness := (true, "da1f23d6cce7c2e8c503d476b67a27e93900f45ef63ef4c73eb5b416e1a20df6"), looks := true }, kinds := [], alts := [], laidByText := true, laidKinds := [.data, .data, .data, .data, .widerDeep, .sentinel, .sentinel, .listed, .data, .pinned], laidTests := true, laidLooks := .later }
def UasmMakesUptoCardSaid : Prop := Claim7.holds Tryz.pinned (.plain (OpenSpec.upto uasmMakesSpec)) uasmMakesUptoCard

/-- THE SECOND FORM's CARD OF 'camshaftlaw17.UasmPlaces'. -/
def uasmPlacesUptoCard : Claim7 := { stood := { row := uasmPlacesUptoRow, standIns := [], harness := (true, "da1f23d6cce7c2e8c503d476b67a27e93900f45ef63ef4c73eb5b416e1a20df6"), looks := true }, kinds := [], alts := [], laidByText := true, laidKinds := [.data, .data, .data, .data, .widerDeep, .sentinel, .sentinel, .listed, .data, .pinned], laidTests := true, laidLooks := .later }
def UasmPlacesUptoCardSaid : Prop := Claim7.holds Tryz.pinned (.plain (OpenSpec.upto uasmPlacesSpec)) uasmPlacesUptoCard

/-- THE SECOND FORM's CARD OF 'camshaftlaw19.UcodeBuilds'. -/
def ucodeBuildsUptoCard : Claim7 := { stood := { row := ucodeBuildsUptoRow, standIns := [], harness := (true, "da1f23d6cce7c2e8c503d476b67a27e93900f45ef63ef4c73eb5b416e1a20df6"), looks := true }, kinds := [], alts := [], laidByText := true, laidKinds := [.data, .data, .data, .data, .widerDeep, .sentinel, .sentinel, .listed, .data, .pinned], laidTests := true, laidLooks := .later }
def UcodeBuildsUptoCardSaid : Prop := Claim7.holds Tryz.pinned (.plain (OpenSpec.upto ucodeBuildsSpec)) ucodeBuildsUptoCard

/-- THE SECOND FORM's CARD OF 'camshaftlaw19.UcodeReaches'. -/
def ucodeReachesUptoCard : Claim7 := { stood := { row := ucodeReachesUptoRow, standIns := [], harness := (true, "da1f23d6cce7c2e8c503d476b67a27e93900f45ef63ef4c73eb5b416e1a20df6"), looks := true }, kinds := [], alts := [], laidByText := true, laidKinds := [.data, .data, .data, .data, .widerDeep, .sentinel, .sentinel, .listed, .data, .pinned], laidTests := true, laidLooks := .later }
def UcodeReachesUptoCardSaid : Prop := Claim7.holds Tryz.pinned (.plain (OpenSpec.upto ucodeReachesSpec)) ucodeReachesUptoCard

/-- THE SECOND FORM's CARD OF 'camshaftlaw19.UcodeKeeps'. -/
def ucodeKeepsUptoCard : Claim7 := { stood := { row := ucodeKeepsUptoRow, standIns := [], harness := (true, "da1f23d6cce7c2e8c503d476b67a27e93900f45ef63ef4c73eb5b416e1a20df6"), looks := true }, kinds := [], alts := [], laidByText := true, laidKinds := [.data, .data, .data, .data, .widerDeep, .sentinel, .sentinel, .listed, .data, .pinned], laidTests := true, laidLooks := .later }
def UcodeKeepsUptoCardSaid : Prop := Claim7.holds Tryz.pinned (.plain (OpenSpec.upto ucodeKeepsSpec)) ucodeKeepsUptoCard

/-- THE SECOND FORM's CARD OF 'camshaftlaw23.UseqRuns'. -/
def useqRunsUptoCard : Claim7 := { stood := { row := useqRunsUptoRow, standIns := [], harness := (true, "da1f23d6cce7c2e8c503d476b67a27e93900f45ef63ef4c73eb5b416e1a20df6"), looks := true }, kinds := [], alts := [], laidByText := true, laidKinds := [.data, .data, .data, .data, .widerDeep, .sentinel, .sentinel, .listed, .data, .pinned], laidTests := true, laidLooks := .later }
def UseqRunsUptoCardSaid : Prop := Claim7.holds Tryz.pinned (.plain (OpenSpec.upto useqRunsSpec)) useqRunsUptoCard

/-- THE SECOND FORM's CARD OF 'camshaftlaw23.UseqTexts'. -/
def useqTextsUptoCard : Claim7 := { stood := { row := useqTextsUptoRow, standIns := [], harness := (true, "da1f23d6cce7c2e8c503d476b67a27e93900f45ef63ef4c73eb5b416e1a20df6"), looks := true }, kinds := [], alts := [], laidByText := true, laidKinds := [.data, .data, .data, .data, .widerDeep, .sentinel, .sentinel, .listed, .data, .pinned], laidTests := true, laidLooks := .later }
def UseqTextsUptoCardSaid : Prop := Claim7.holds Tryz.pinned (.plain (OpenSpec.upto useqTextsSpec)) useqTextsUptoCard

/-- THE SECOND FORM's CARD OF 'camshaftlaw23.UseqCalls'. -/
def useqCallsUptoCard : Claim7 := { stood := { row := useqCallsUptoRow, standIns := [], harness := (true, "da1f23d6cce7c2e8c503d476b67a27e93900f45ef63ef4c73eb5b416e1a20df6"), looks := true }, kinds := [], alts := [], laidByText := true, laidKinds := [.data, .data, .data, .data, .widerDeep, .sentinel, .sentinel, .listed, .data, .pinned], laidTests := true, laidLooks := .later }
def UseqCallsUptoCardSaid : Prop := Claim7.holds Tryz.pinned (.plain (OpenSpec.upto useqCallsSpec)) useqCallsUptoCard

/-- THE SECOND FORM's CARD OF 'camshaftlaw23.UseqShips'. -/
def useqShipsUptoCard : Claim7 := { stood := { row := useqShipsUptoRow, standIns := [], harness := (true, "da1f23d6cce7c2e8c503d476b67a27e93900f45ef63ef4c73eb5b416e1a20df6"), looks := true }, kinds := [], alts := [], laidByText := true, laidKinds := [.data, .data, .data, .data, .widerDeep, .sentinel, .sentinel, .listed, .data, .pinned], laidTests := true, laidLooks := .later }
def UseqShipsUptoCardSaid : Prop := Claim7.holds Tryz.pinned (.plain (OpenSpec.upto useqShipsSpec)) useqShipsUptoCard

/-- THE SECOND FORM's CARD OF 'camshaftlaw23.UseqFresh'. -/
def useqFreshUptoCard : Claim7 := { stood := { row := useqFreshUptoRow, standIns := [], harness := (true, "da1f23d6cce7c2e8c503d476b67a27e93900f45ef63ef4c73eb5b416e1a20df6"), looks := true }, kinds := [], alts := [], laidByText := true, laidKinds := [.data, .data, .data, .data, .widerDeep, .sentinel, .sentinel, .listed, .data, .pinned], laidTests := true, laidLooks := .later }
def UseqFreshUptoCardSaid : Prop := Claim7.holds Tryz.pinned (.plain (OpenSpec.upto useqFreshSpec)) useqFreshUptoCard
end Rows
end Go.Proofs.YtifploedaacedaaGreatDoor
