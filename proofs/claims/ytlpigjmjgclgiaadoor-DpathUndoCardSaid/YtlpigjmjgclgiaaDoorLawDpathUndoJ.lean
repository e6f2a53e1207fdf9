/- What the kernel finds of the program for a row, part by part. Printed by lawrow.py. -/
import Derived.Test.YtlpigjmjgclgiaaDoorCards
import Derived.ProofKit
import Derived.JoinedOf
import Derived.RowKit
namespace Go.Proofs.YtlpigjmjgclgiaaDoor.dpathUndo
open Go
set_option maxRecDepth 100000
theorem q0 : (Rows.dpathUndoRow.wf (OpenSpec.ofChange Rows.dpathUndoSpec)) = true := by kernel_rfl
theorem q1 : (laidOutB Tryd.checked.prog) = true := by kernel_rfl
theorem q2 : (mapsRowed Tryd.checked.prog) = true := by kernel_rfl
theorem q3 : (namedTie Tryd.checked.prog Rows.dpathUndoRow.named Rows.dpathUndoSpec.vars) = true := by kernel_rfl
theorem q4 : (Tryd.checked.prog.stops == []) = true := by kernel_rfl
theorem q5 : (Tryd.checked.prog.stopKnobs == []) = true := by kernel_rfl
theorem q6 : (Rows.dpathUndoRow.inPlace == Tryd.checked.prog.inPlace 5) = true := by kernel_rfl
theorem q7 : (Rows.dpathUndoRow.unfollowed == Tryd.checked.prog.unfollowed 5) = true := by kernel_rfl
theorem q8 : (Rows.dpathUndoRow.recurses == Tryd.checked.prog.recurses 5) = true := by kernel_rfl
theorem q9 : (Rows.dpathUndoRow.named == Tryd.checked.prog.varsNamed 5) = true := by kernel_rfl
theorem q10 : (Rows.dpathUndoRow.plainKeys == Tryd.checked.prog.plainKeys) = true := by kernel_rfl
theorem q11 : (Tryd.checked.prog.stopsHeard) = true := by kernel_rfl
theorem q12 : (Tryd.checked.prog.mayEnter) = true := by kernel_rfl
theorem q13 : (Rows.dpathUndoRow.lifted == Tryd.checked.prog.liftsFinal) = true := by kernel_rfl
theorem q14 : (Tryd.checked.prog.make == some Rows.dpathUndoRow.make) = true := by kernel_rfl
theorem joined : joinedFacts Tryd.checked.prog 5 Tryd.f5 Rows.dpathUndoSpec Rows.dpathUndoRow = true := by
  unfold joinedFacts
  rw [q0, q1, q2, q3, q4, q5, q6, q7, q8, q9, q10, q11, q12, q13, q14]
  kernel_rfl
end Go.Proofs.YtlpigjmjgclgiaaDoor.dpathUndo
