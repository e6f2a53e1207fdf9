/- What the kernel finds of the program for a row, part by part. Printed by lawrow.py. -/
import Derived.Test.YtifploedaacedaaGreatDoorCards
import Derived.ProofKit
import Derived.JoinedOf
import Derived.RowKit
namespace Go.Proofs.YtifploedaacedaaGreatDoor.ucodeBuilds
open Go
set_option maxRecDepth 100000
theorem q0 : (Rows.ucodeBuildsRow.wf (OpenSpec.ofChange Rows.ucodeBuildsSpec)) = true := by kernel_rfl
theorem q1 : (laidOutB Tryz.checked.prog) = true := by kernel_rfl
theorem q2 : (mapsRowed Tryz.checked.prog) = true := by kernel_rfl
theorem q3 : (namedTie Tryz.checked.prog Rows.ucodeBuildsRow.named Rows.ucodeBuildsSpec.vars) = true := by kernel_rfl
theorem q4 : (Tryz.checked.prog.stops == []) = true := by kernel_rfl
theorem q5 : (Tryz.checked.prog.stopKnobs == []) = true := by kernel_rfl
theorem q6 : (Rows.ucodeBuildsRow.inPlace == Tryz.checked.prog.inPlace 7) = true := by kernel_rfl
theorem q7 : (Rows.ucodeBuildsRow.unfollowed == Tryz.checked.prog.unfollowed 7) = true := by kernel_rfl
theorem q8 : (Rows.ucodeBuildsRow.recurses == Tryz.checked.prog.recurses 7) = true := by kernel_rfl
theorem q9 : (Rows.ucodeBuildsRow.named == Tryz.checked.prog.varsNamed 7) = true := by kernel_rfl
theorem q10 : (Rows.ucodeBuildsRow.plainKeys == Tryz.checked.prog.plainKeys) = true := by kernel_rfl
theorem q11 : (Tryz.checked.prog.stopsHeard) = true := by kernel_rfl
theorem q12 : (Tryz.checked.prog.mayEnter) = true := by kernel_rfl
theorem q13 : (Rows.ucodeBuildsRow.lifted == Tryz.checked.prog.liftsFinal) = true := by kernel_rfl
theorem q14 : (Tryz.checked.prog.make == some Rows.ucodeBuildsRow.make) = true := by kernel_rfl
theorem joined : joinedFacts Tryz.checked.prog 7 Tryz.f7 Rows.ucodeBuildsSpec Rows.ucodeBuildsRow = true := by
  unfold joinedFacts
  rw [q0, q1, q2, q3, q4, q5, q6, q7, q8, q9, q10, q11, q12, q13, q14]
  kernel_rfl
end Go.Proofs.YtifploedaacedaaGreatDoor.ucodeBuilds
