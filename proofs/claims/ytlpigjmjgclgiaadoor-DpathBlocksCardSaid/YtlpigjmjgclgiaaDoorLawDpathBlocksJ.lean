/- What the kernel finds of the program for a row, part by part. Printed by lawrow.py. -/
import Derived.Test.YtlpigjmjgclgiaaDoorCards
import Derived.ProofKit
import Derived.JoinedOf
import Derived.RowKit
namespace Go.Proofs.YtlpigjmjgclgiaaDoor.dpathBlocks
open Go
set_option maxRecDepth 100000
theorem q0 : (Rows.dpathBlocksRow.wf (OpenSpec.ofChange Rows.dpathBlocksSpec)) = true := by kernel_rfl
theorem q1 : (laidOutB Tryd.checked.prog) = true := by kernel_rfl
theorem q2 : (mapsRowed Tryd.checked.prog) = true := by kernel_rfl
theorem q3 : (namedTie Tryd.checked.prog Rows.dpathBlocksRow.named Rows.dpathBlocksSpec.vars) = true := by kernel_rfl
theorem q4 : (Tryd.checked.prog.stops == []) = true := by kernel_rfl
theorem q5 : (Tryd.checked.prog.stopKnobs == []) = true := by kernel_rfl
theorem q6 : (Rows.dpathBlocksRow.inPlace == Tryd.checked.prog.inPlace 3) = true := by kernel_rfl
theorem q7 : (Rows.dpathBlocksRow.unfollowed == Tryd.checked.prog.unfollowed 3) = true := by kernel_rfl
theorem q8 : (Rows.dpathBlocksRow.recurses == Tryd.checked.prog.recurses 3) = true := by kernel_rfl
theorem q9 : (Rows.dpathBlocksRow.named == Tryd.checked.prog.varsNamed 3) = true := by kernel_rfl
theorem q10 : (Rows.dpathBlocksRow.plainKeys == Tryd.checked.prog.plainKeys) = true := by kernel_rfl
theorem q11 : (Tryd.checked.prog.stopsHeard) = true := by kernel_rfl
theorem q12 : (Tryd.checked.prog.mayEnter) = true := by kernel_rfl
theorem q13 : (Rows.dpathBlocksRow.lifted == Tryd.checked.prog.liftsFinal) = true := by kernel_rfl
theorem q14 : (Tryd.checked.prog.make == some Rows.dpathBlocksRow.make) = true := by kernel_rfl
theorem joined : joinedFacts Tryd.checked.prog 3 Tryd.f3 Rows.dpathBlocksSpec Rows.dpathBlocksRow = true := by
  unfold joinedFacts
  rw [q0, q1, q2, q3, q4, q5, q6, q7, q8, q9, q10, q11, q12, q13, q14]
  kernel_rfl
end Go.Proofs.YtlpigjmjgclgiaaDoor.dpathBlocks
