/- What the kernel finds of the program for a row, part by part. Printed by lawrow.py. -/
import Derived.Test.YtccjlfagglbnhaaGreatDoorCards
import Derived.ProofKit
import Derived.JoinedOf
import Derived.RowKit
namespace Go.Proofs.YtccjlfagglbnhaaGreatDoor.archLevels
open Go
set_option maxRecDepth 100000
theorem q0 : (Rows.archLevelsRow.wf (OpenSpec.ofChange Rows.archLevelsSpec)) = true := by kernel_rfl
theorem q1 : (laidOutB Tryz.checked.prog) = true := by kernel_rfl
theorem q2 : (mapsRowed Tryz.checked.prog) = true := by kernel_rfl
theorem q3 : (namedTie Tryz.checked.prog Rows.archLevelsRow.named Rows.archLevelsSpec.vars) = true := by kernel_rfl
theorem q4 : (Tryz.checked.prog.stops == []) = true := by kernel_rfl
theorem q5 : (Tryz.checked.prog.stopKnobs == []) = true := by kernel_rfl
theorem q6 : (Rows.archLevelsRow.inPlace == Tryz.checked.prog.inPlace 3) = true := by kernel_rfl
theorem q7 : (Rows.archLevelsRow.unfollowed == Tryz.checked.prog.unfollowed 3) = true := by kernel_rfl
theorem q8 : (Rows.archLevelsRow.recurses == Tryz.checked.prog.recurses 3) = true := by kernel_rfl
theorem q9 : (Rows.archLevelsRow.named == Tryz.checked.prog.varsNamed 3) = true := by kernel_rfl
theorem q10 : (Rows.archLevelsRow.plainKeys == Tryz.checked.prog.plainKeys) = true := by kernel_rfl
theorem q11 : (Tryz.checked.prog.stopsHeard) = true := by kernel_rfl
theorem q12 : (Tryz.checked.prog.mayEnter) = true := by kernel_rfl
theorem q13 : (Rows.archLevelsRow.lifted == Tryz.checked.prog.liftsFinal) = true := by kernel_rfl
theorem q14 : (Tryz.checked.prog.make == some Rows.archLevelsRow.make) = true := by kernel_rfl
theorem joined : joinedFacts Tryz.checked.prog 3 Tryz.f3 Rows.archLevelsSpec Rows.archLevelsRow = true := by
  unfold joinedFacts
  rw [q0, q1, q2, q3, q4, q5, q6, q7, q8, q9, q10, q11, q12, q13, q14]
  kernel_rfl
end Go.Proofs.YtccjlfagglbnhaaGreatDoor.archLevels
