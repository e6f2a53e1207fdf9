/- What the kernel finds of the program for a row, part by part. Printed by lawrow.py. -/
import Derived.Test.YtifploedaacedaaGreatDoorCards
import Derived.ProofKit
import Derived.JoinedOf
import Derived.RowKit
namespace Go.Proofs.YtifploedaacedaaGreatDoor.useqCalls
open Go
set_option maxRecDepth 100000
theorem q0 : (Rows.useqCallsRow.wf (OpenSpec.ofChange Rows.useqCallsSpec)) = true := by kernel_rfl
theorem q1 : (laidOutB Tryz.checked.prog) = true := by kernel_rfl
theorem q2 : (mapsRowed Tryz.checked.prog) = true := by kernel_rfl
theorem q3 : (namedTie Tryz.checked.prog Rows.useqCallsRow.named Rows.useqCallsSpec.vars) = true := by kernel_rfl
theorem q4 : (Tryz.checked.prog.stops == []) = true := by kernel_rfl
theorem q5 : (Tryz.checked.prog.stopKnobs == []) = true := by kernel_rfl
theorem q6 : (Rows.useqCallsRow.inPlace == Tryz.checked.prog.inPlace 12) = true := by kernel_rfl
theorem q7 : (Rows.useqCallsRow.unfollowed == Tryz.checked.prog.unfollowed 12) = true := by kernel_rfl
theorem q8 : (Rows.useqCallsRow.recurses == Tryz.checked.prog.recurses 12) = true := by kernel_rfl
theorem q9 : (Rows.useqCallsRow.named == Tryz.checked.prog.varsNamed 12) = true := by kernel_rfl
theorem q10 : (Rows.useqCallsRow.plainKeys == Tryz.checked.prog.plainKeys) = true := by kernel_rfl
theorem q11 : (Tryz.checked.prog.stopsHeard) = true := by kernel_rfl
theorem q12 : (Tryz.checked.prog.mayEnter) = true := by kernel_rfl
theorem q13 : (Rows.useqCallsRow.lifted == Tryz.checked.prog.liftsFinal) = true := by kernel_rfl
theorem q14 : (Tryz.checked.prog.make == some Rows.useqCallsRow.make) = true := by kernel_rfl
theorem joined : joinedFacts Tryz.checked.prog 12 Tryz.f12 Rows.useqCallsSpec Rows.useqCallsRow = true := by
  unfold joinedFacts
  rw [q0, q1, q2, q3, q4, q5, q6, q7, q8, q9, q10, q11, q12, q13, q14]
  kernel_rfl
end Go.Proofs.YtifploedaacedaaGreatDoor.useqCalls
