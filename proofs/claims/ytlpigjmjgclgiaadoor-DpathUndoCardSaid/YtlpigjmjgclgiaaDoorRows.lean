/-
  NARROWER THAN 'FOR EVERY INPUT', by the rows' own cells (each row's printed sentence says how): DpathBlocks: laid · DpathPicks: laid · DpathUndo: laid.
  DERIVED. THE GIVEN ROWS OF THIS SEAT. 3 by the template 'for every input the law returns true; each argument reads behind the call as it read before'; 0 by the template 'total and deterministic' (their statements: YtlpigjmjgclgiaaDoorTotals.lean).
  GIVEN WITH THE SEED: the statements are not yours to turn. If you find one false, say at which input.
  Laid BY PROGRAM, IN A SANDBOX (cutbox-rows.mjs): the forced cells as the released guide's own fill.sh prints them over the translation a7887132cfea1f95… (all of the seat's roots in one cut). By AI agents, Wed Nov 11 2026. No macro, syntax, notation, axiom, sorry.
-/
import Derived.Test.YtlpigjmjgclgiaaDoorChecked
import GoSem.Claim
import GoSem.ClaimJoined
import GoSem.ClaimMapViews
import Derived.JoinedTies
import Derived.KernelRfl
namespace Go.Proofs.YtlpigjmjgclgiaaDoor
/- THE CELL 'sum', in the pinned program and in every row, IS THE sha256 OF THE DUMP (.gsa) THAT YtlpigjmjgclgiaaDoorProg.lean LOADS. Nothing in Lean hashes anything: it is a label: what it is worth is what the hold of that sum in a sandbox is worth. -/
noncomputable def Tryd.pinned : Pinned := { name := "ytlpigjmjgclgiaadoor", sum := "a7887132cfea1f95a6a6a2f75fe186a23eaba6b4c94b83491f57270c3947f734", checked := Tryd.checked }
namespace Rows
def none {H : Type} : Left H := { results := [], args := [] }

/- WHAT THE LISTED PACKAGE-LEVEL VARIABLES READ AS WHEN THE CALL BEGINS. Each datum BY PROGRAM (the guide's laid-datum.mjs) off the statement by which the dump's own 'gosem.cut.vars' lays the variable. In a bare row this is a premise. The card (YtlpigjmjgclgiaaDoorCards.lean) ties it to the program's text. -/
def laid_math_bits_deBruijn32tab {H : Type} : DataW H := .agg [.lit (.int .u8 0), .lit (.int .u8 1), .lit (.int .u8 28), .lit (.int .u8 2), .lit (.int .u8 29), .lit (.int .u8 14), .lit (.int .u8 24), .lit (.int .u8 3), .lit (.int .u8 30), .lit (.int .u8 22), .lit (.int .u8 20), .lit (.int .u8 15), .lit (.int .u8 25), .lit (.int .u8 17), .lit (.int .u8 4), .lit (.int .u8 8), .lit (.int .u8 31), .lit (.int .u8 27), .lit (.int .u8 13), .lit (.int .u8 23), .lit (.int .u8 21), .lit (.int .u8 19), .lit (.int .u8 16), .lit (.int .u8 7), .lit (.int .u8 26), .lit (.int .u8 12), .lit (.int .u8 18), .lit (.int .u8 6), .lit (.int .u8 11), .lit (.int .u8 5), .lit (.int .u8 10), .lit (.int .u8 9)]

/-- 'camshaftlaw20.DpathBlocks': WHATEVER THE INPUT: true; the input reads as it did. -/
def dpathBlocksSpec : ChangeSpec := { name := "dpathBlocks", fn := fun _ => fun
  | [d1, d2] => { results := [.lit (.bool true)], args := [d1, d2] }
  | _ => none }
def dpathBlocksRow : OpenClaim := { program := "ytlpigjmjgclgiaadoor", sum := "a7887132cfea1f95a6a6a2f75fe186a23eaba6b4c94b83491f57270c3947f734", func := "camshaft/camshaftlaw20.DpathBlocks", spec := "dpathBlocks", recurses := true, named := ["math/bits.deBruijn32tab"], apart := false, laid := [("math/bits.deBruijn32tab", laid_math_bits_deBruijn32tab)] }
def DpathBlocksSaid : Prop := dpathBlocksRow.holds Tryd.pinned (OpenSpec.ofChange dpathBlocksSpec)

/-- ITS FALSE NEIGHBOUR: 'it returns false'. Refute it at one input. -/
def dpathBlocksWrong : ChangeSpec := { name := "dpathBlocks", fn := fun _ => fun
  | [d1, d2] => { results := [.lit (.bool false)], args := [d1, d2] }
  | _ => none }
def DpathBlocksWrongFalsely : Prop := dpathBlocksRow.holds Tryd.pinned (OpenSpec.ofChange dpathBlocksWrong)

/-- 'camshaftlaw20.DpathPicks': WHATEVER THE INPUT: true; the input reads as it did. -/
def dpathPicksSpec : ChangeSpec := { name := "dpathPicks", fn := fun _ => fun
  | [d] => { results := [.lit (.bool true)], args := [d] }
  | _ => none }
def dpathPicksRow : OpenClaim := { program := "ytlpigjmjgclgiaadoor", sum := "a7887132cfea1f95a6a6a2f75fe186a23eaba6b4c94b83491f57270c3947f734", func := "camshaft/camshaftlaw20.DpathPicks", spec := "dpathPicks", recurses := true, named := ["math/bits.deBruijn32tab"], apart := false, laid := [("math/bits.deBruijn32tab", laid_math_bits_deBruijn32tab)] }
def DpathPicksSaid : Prop := dpathPicksRow.holds Tryd.pinned (OpenSpec.ofChange dpathPicksSpec)

/-- ITS FALSE NEIGHBOUR: 'it returns false'. Refute it at one input. -/
def dpathPicksWrong : ChangeSpec := { name := "dpathPicks", fn := fun _ => fun
  | [d] => { results := [.lit (.bool false)], args := [d] }
  | _ => none }
def DpathPicksWrongFalsely : Prop := dpathPicksRow.holds Tryd.pinned (OpenSpec.ofChange dpathPicksWrong)

/-- 'camshaftlaw20.DpathUndo': WHATEVER THE INPUT: true; the input reads as it did. -/
def dpathUndoSpec : ChangeSpec := { name := "dpathUndo", fn := fun _ => fun
  | [d1, d2] => { results := [.lit (.bool true)], args := [d1, d2] }
  | _ => none }
def dpathUndoRow : OpenClaim := { program := "ytlpigjmjgclgiaadoor", sum := "a7887132cfea1f95a6a6a2f75fe186a23eaba6b4c94b83491f57270c3947f734", func := "camshaft/camshaftlaw20.DpathUndo", spec := "dpathUndo", recurses := true, named := ["math/bits.deBruijn32tab"], apart := false, laid := [("math/bits.deBruijn32tab", laid_math_bits_deBruijn32tab)] }
def DpathUndoSaid : Prop := dpathUndoRow.holds Tryd.pinned (OpenSpec.ofChange dpathUndoSpec)

/-- ITS FALSE NEIGHBOUR: 'it returns false'. Refute it at one input. -/
def dpathUndoWrong : ChangeSpec := { name := "dpathUndo", fn := fun _ => fun
  | [d1, d2] => { results := [.lit (.bool false)], args := [d1, d2] }
  | _ => none }
def DpathUndoWrongFalsely : Prop := dpathUndoRow.holds Tryd.pinned (OpenSpec.ofChange dpathUndoWrong)

/- THE SECOND FORM. 'bulk': how many values and letters a reading holds, each counted each time it is reached (what is shared counts as often as it is met; a slice's spare places count too). A statement '..UptoSaid' is the law's where the arguments, and the package variables that the reading takes, are together of bulk at most 1048576: NARROWER than '..Said'. Prove '..Said' where nothing that the law and all that it calls make is longer than what came in: it says more and counts as full. Else prove '..UptoSaid'. A law counts once. -/
mutual
def uptoBulk {H : Type} : DataW H → Nat
  | .lit (.string bytes) => bytes.length + 1
  | .lit _ => 1
  | .nil => 1
  | .ptr d => uptoBulk d + 1
  | .slice elems spare => uptoBulkAll elems + uptoBulkAll spare + 1
  | .agg parts => uptoBulkAll parts + 1
  | .iface _ d => uptoBulk d + 1
  | .map entries => uptoBulkEntries entries + 1
  | .held _ => 1
def uptoBulkAll {H : Type} : List (DataW H) → Nat
  | [] => 0
  | d :: r => uptoBulk d + uptoBulkAll r
def uptoBulkEntries {H : Type} : List (Lit × DataW H) → Nat
  | [] => 0
  | x :: r => uptoBulkEntry x + uptoBulkEntries r
def uptoBulkEntry {H : Type} : Lit × DataW H → Nat
  | (.string bytes, d) => bytes.length + uptoBulk d + 1
  | (_, d) => uptoBulk d + 1
 end
def uptoSmall : (H : Type) → List (DataW H) → Bool := fun _ ds => decide (uptoBulkAll ds ≤ 1048576)
def OpenSpec.upto (s : _root_.Go.ChangeSpec) : _root_.Go.OpenSpec := { _root_.Go.OpenSpec.ofChange s with cond := some uptoSmall }

/-- 'camshaftlaw20.DpathBlocks', WHERE WHAT IT READS IS OF BULK AT MOST 1048576: true; the input reads as it did. -/
def dpathBlocksUptoRow : OpenClaim := { program := "ytlpigjmjgclgiaadoor", sum := "a7887132cfea1f95a6a6a2f75fe186a23eaba6b4c94b83491f57270c3947f734", func := "camshaft/camshaftlaw20.DpathBlocks", spec := "dpathBlocks", recurses := true, named := ["math/bits.deBruijn32tab"], apart := false, laid := [("math/bits.deBruijn32tab", laid_math_bits_deBruijn32tab)], narrowed := true }
def DpathBlocksUptoSaid : Prop := dpathBlocksUptoRow.holds Tryd.pinned (OpenSpec.upto dpathBlocksSpec)

/-- 'camshaftlaw20.DpathPicks', WHERE WHAT IT READS IS OF BULK AT MOST 1048576: true; the input reads as it did. -/
def dpathPicksUptoRow : OpenClaim := { program := "ytlpigjmjgclgiaadoor", sum := "a7887132cfea1f95a6a6a2f75fe186a23eaba6b4c94b83491f57270c3947f734", func := "camshaft/camshaftlaw20.DpathPicks", spec := "dpathPicks", recurses := true, named := ["math/bits.deBruijn32tab"], apart := false, laid := [("math/bits.deBruijn32tab", laid_math_bits_deBruijn32tab)], narrowed := true }
def DpathPicksUptoSaid : Prop := dpathPicksUptoRow.holds Tryd.pinned (OpenSpec.upto dpathPicksSpec)

/-- 'camshaftlaw20.DpathUndo', WHERE WHAT IT READS IS OF BULK AT MOST 1048576: true; the input reads as it did. -/
def dpathUndoUptoRow : OpenClaim := { program := "ytlpigjmjgclgiaadoor", sum := "a7887132cfea1f95a6a6a2f75fe186a23eaba6b4c94b83491f57270c3947f734", func := "camshaft/camshaftlaw20.DpathUndo", spec := "dpathUndo", recurses := true, named := ["math/bits.deBruijn32tab"], apart := false, laid := [("math/bits.deBruijn32tab", laid_math_bits_deBruijn32tab)], narrowed := true }
def DpathUndoUptoSaid : Prop := dpathUndoUptoRow.holds Tryd.pinned (OpenSpec.upto dpathUndoSpec)

end Rows
end Go.Proofs.YtlpigjmjgclgiaaDoor
