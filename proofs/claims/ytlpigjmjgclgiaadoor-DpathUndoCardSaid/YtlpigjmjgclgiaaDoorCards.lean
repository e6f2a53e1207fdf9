/-
  DERIVED. GIVEN WITH THE SEED: THE CARDS: each row of YtlpigjmjgclgiaaDoorRows.lean that lists a variable, with what it lists TIED to the program's text (the seventh form; the later family's looks); each row that meets fmt, with fmt's text TOLD by the authors' own Lean function (tested against real Go, not proved from fmt's source: count such statements apart). THE CARD IS WHAT COUNTS. Prove the row's statement (the work); the ties are given (YtlpigjmjgclgiaaDoorTie.lean); close each card by the builder's one call (the guide's Derived/Test/ToyasCard.lean, 'card_holds'). Laid BY PROGRAM, IN A SANDBOX (cutbox-door.mjs). By AI agents, Wed Nov 11 2026. No macro, syntax, notation, axiom, sorry.
-/
import Derived.Test.YtlpigjmjgclgiaaDoorRows
import GoSem.ClaimSeven
namespace Go.Proofs.YtlpigjmjgclgiaaDoor
namespace Rows

/-- THE TIED CARD OF 'camshaftlaw20.DpathBlocks'. -/
def dpathBlocksCard : Claim7 := { stood := { row := dpathBlocksRow, standIns := [], harness := (true, "1c1048780741a9d674591ee4f52a8f348f0f037f6c88f3e99ec2fb58e19c645c"), looks := false }, kinds := [], alts := [], laidByText := true, laidKinds := [.data], laidTests := true, laidLooks := .later }
def DpathBlocksCardSaid : Prop := Claim7.holds Tryd.pinned (.plain (OpenSpec.ofChange dpathBlocksSpec)) dpathBlocksCard

/-- THE TIED CARD OF 'camshaftlaw20.DpathPicks'. -/
def dpathPicksCard : Claim7 := { stood := { row := dpathPicksRow, standIns := [], harness := (true, "1c1048780741a9d674591ee4f52a8f348f0f037f6c88f3e99ec2fb58e19c645c"), looks := false }, kinds := [], alts := [], laidByText := true, laidKinds := [.data], laidTests := true, laidLooks := .later }
def DpathPicksCardSaid : Prop := Claim7.holds Tryd.pinned (.plain (OpenSpec.ofChange dpathPicksSpec)) dpathPicksCard

/-- THE TIED CARD OF 'camshaftlaw20.DpathUndo'. -/
def dpathUndoCard : Claim7 := { stood := { row := dpathUndoRow, standIns := [], harness := (true, "1c1048780741a9d674591ee4f52a8f348f0f037f6c88f3e99ec2fb58e19c645c"), looks := false }, kinds := [], alts := [], laidByText := true, laidKinds := [.data], laidTests := true, laidLooks := .later }
def DpathUndoCardSaid : Prop := Claim7.holds Tryd.pinned (.plain (OpenSpec.ofChange dpathUndoSpec)) dpathUndoCard

/-- THE SECOND FORM's CARD OF 'camshaftlaw20.DpathBlocks'. -/
def dpathBlocksUptoCard : Claim7 := { stood := { row := dpathBlocksUptoRow, standIns := [], harness := (true, "1c1048780741a9d674591ee4f52a8f348f0f037f6c88f3e99ec2fb58e19c645c"), looks := false }, kinds := [], alts := [], laidByText := true, laidKinds := [.data], laidTests := true, laidLooks := .later }
def DpathBlocksUptoCardSaid : Prop := Claim7.holds Tryd.pinned (.plain (OpenSpec.upto dpathBlocksSpec)) dpathBlocksUptoCard

/-- THE SECOND FORM's CARD OF 'camshaftlaw20.DpathPicks'. -/
def dpathPicksUptoCard : Claim7 := { stood := { row := dpathPicksUptoRow, standIns := [], harness := (true, "1c1048780741a9d674591ee4f52a8f348f0f037f6c88f3e99ec2fb58e19c645c"), looks := false }, kinds := [], alts := [], laidByText := true, laidKinds := [.data], laidTests := true, laidLooks := .later }
def DpathPicksUptoCardSaid : Prop := Claim7.holds Tryd.pinned (.plain (OpenSpec.upto dpathPicksSpec)) dpathPicksUptoCard

/-- THE SECOND FORM's CARD OF 'camshaftlaw20.DpathUndo'. -/
def dpathUndoUptoCard : Claim7 := { stood := { row := dpathUndoUptoRow, standIns := [], harness := (true, "1c1048780741a9d674591ee4f52a8f348f0f037f6c88f3e99ec2fb58e19c645c"), looks := false }, kinds := [], alts := [], laidByText := true, laidKinds := [.data], laidTests := true, laidLooks := .later }
def DpathUndoUptoCardSaid : Prop := Claim7.holds Tryd.pinned (.plain (OpenSpec.upto dpathUndoSpec)) dpathUndoUptoCard
end Rows
end Go.Proofs.YtlpigjmjgclgiaaDoor
