/-
  DERIVED. GIVEN WITH THE SEED: THE CARDS: each row of YtcplfckncandkaaGreatDoorRows.lean that lists a variable, with what it lists TIED to the program's text (the seventh form; the later family's looks); each row that meets fmt, with fmt's text TOLD by the authors' own Lean function (tested against real Go, not proved from fmt's source: count such statements apart). THE CARD IS WHAT COUNTS. Prove the row's statement (the work); the ties are given (YtcplfckncandkaaGreatDoorTie.lean); close each card by the builder's one call (the guide's Derived/Test/ToyasCard.lean, 'card_holds'). Laid BY PROGRAM, IN A SANDBOX (cutbox-door.mjs). By AI agents, Wed Nov 11 2026. No macro, syntax, notation, axiom, sorry.
-/
import Derived.Test.YtcplfckncandkaaGreatDoorRows
import GoSem.ClaimSeven
namespace Go.Proofs.YtcplfckncandkaaGreatDoor
namespace Rows

/-- THE TIED CARD OF 'camshaftlaw23.UseqTexts'. -/
def useqTextsCard : Claim7 := { stood := { row := useqTextsRow, standIns := [], harness := (true, "87ff6205dac9ccfa21fc493e1d02bdbf1890eff2894fcda8dcaa9b3c3a9ad496"), looks := true }, kinds := [], alts := [], laidByText := true, laidKinds := [.data, .data, .data, .data, .widerDeep, .sentinel, .sentinel, .listed, .data, .pinned], laidTests := true, laidLooks := .later }
def UseqTextsCardSaid : Prop := Claim7.holds Tryz.pinned (.plain (OpenSpec.ofChange useqTextsSpec)) useqTextsCard

/-- THE TIED CARD OF 'camshaftlaw23.UseqShips'. -/
def useqShipsCard : Claim7 := { stood := { row := useqShipsRow, standIns := [], harness := (true, "87ff6205dac9ccfa21fc493e1d02bdbf1890eff2894fcda8dcaa9b3c3a9ad496"), looks := true }, kinds := [], alts := [], laidByText := true, laidKinds := [.data, .data, .data, .data, .widerDeep, .sentinel, .sentinel, .listed, .data, .pinned], laidTests := true, laidLooks := .later }
def UseqShipsCardSaid : Prop := Claim7.holds Tryz.pinned (.plain (OpenSpec.ofChange useqShipsSpec)) useqShipsCard

/-- THE TIED CARD OF 'camshaftlaw23.UseqFresh'. -/
def useqFreshCard : Claim7 := { stood := { row := useqFreshRow, standIns := [], harness := (true, "87ff6205dac9ccfa21fc493e1d02bdbf1890eff2894fcda8dcaa9b3c3a9ad496"), looks := true }, kinds := [], alts := [], laidByText := true, laidKinds := [.data, .data, .data, .data, .widerDeep, .sentinel, .sentinel, .listed, .data, .pinned], laidTests := true, laidLooks := .later }
def UseqFreshCardSaid : Prop := Claim7.holds Tryz.pinned (.plain (OpenSpec.ofChange useqFreshSpec)) useqFreshCard

/-- THE SECOND FORM's CARD OF 'camshaftlaw23.UseqTexts'. -/
def useqTextsUptoCard : Claim7 := { stood := { row := useqTextsUptoRow, standIns := [], harness := (true, "87ff6205dac9ccfa21fc493e1d02bdbf1890eff2894fcda8dcaa9b3c3a9ad496"), looks := true }, kinds := [], alts := [], laidByText := true, laidKinds := [.data, .data, .data, .data, .widerDeep, .sentinel, .sentinel, .listed, .data, .pinned], laidTests := true, laidLooks := .later }
def UseqTextsUptoCardSaid : Prop := Claim7.holds Tryz.pinned (.plain (OpenSpec.upto useqTextsSpec)) useqTextsUptoCard

/-- THE SECOND FORM's CARD OF 'camshaftlaw23.UseqShips'. -/
def useqShipsUptoCard : Claim7 := { stood := { row := useqShipsUptoRow, standIns := [], harness := (true, "87ff6205dac9ccfa21fc493e1d02bdbf1890eff2894fcda8dcaa9b3c3a9ad496"), looks := true }, kinds := [], alts := [], laidByText := true, laidKinds := [.data, .data, .data, .data, .widerDeep, .sentinel, .sentinel, .listed, .data, .pinned], laidTests := true, laidLooks := .later }
def UseqShipsUptoCardSaid : Prop := Claim7.holds Tryz.pinned (.plain (OpenSpec.upto useqShipsSpec)) useqShipsUptoCard

/-- THE SECOND FORM's CARD OF 'camshaftlaw23.UseqFresh'. -/
def useqFreshUptoCard : Claim7 := { stood := { row := useqFreshUptoRow, standIns := [], harness := (true, "87ff6205dac9ccfa21fc493e1d02bdbf1890eff2894fcda8dcaa9b3c3a9ad496"), looks := true }, kinds := [], alts := [], laidByText := true, laidKinds := [.data, .data, .data, .data, .widerDeep, .sentinel, .sentinel, .listed, .data, .pinned], laidTests := true, laidLooks := .later }
def UseqFreshUptoCardSaid : Prop := Claim7.holds Tryz.pinned (.plain (OpenSpec.upto useqFreshSpec)) useqFreshUptoCard
end Rows
end Go.Proofs.YtcplfckncandkaaGreatDoor
