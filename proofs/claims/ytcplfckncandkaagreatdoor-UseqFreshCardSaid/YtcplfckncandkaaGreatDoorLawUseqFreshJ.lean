/- What the kernel finds of the program for a row, part by part. Printed by lawrow.py. -/
import Derived.Test.YtcplfckncandkaaGreatDoorCards
import Derived.ProofKit
import Derived.JoinedOf
import Derived.RowKit
namespace Go.Proofs.YtcplfckncandkaaGreatDoor.useqFresh
open Go
set_option maxRecDepth 100000
theorem q0 : (Rows.useqFreshRow.wf (OpenSpec.ofChange Rows.useqFreshSpec)) = true := by kernel_rfl
theorem q1 : (laidOutB Tryz.checked.prog) = true := by kernel_rfl
theorem q2 : (mapsRowed Tryz.checked.prog) = true := by kernel_rfl
theorem q3 : (namedTie Tryz.checked.prog Rows.useqFreshRow.named Rows.useqFreshSpec.vars) = true := by kernel_rfl
theorem q4 : (Tryz.checked.prog.stops == []) = true := by kernel_rfl
theorem q5 : (Tryz.checked.prog.stopKnobs == []) = true := by kernel_rfl
theorem q6 : (Rows.useqFreshRow.inPlace == Tryz.checked.prog.inPlace 5) = true := by kernel_rfl
theorem q7 : (Rows.useqFreshRow.unfollowed == Tryz.checked.prog.unfollowed 5) = true := by kernel_rfl
theorem q8 : (Rows.useqFreshRow.recurses == Tryz.checked.prog.recurses 5) = true := by kernel_rfl
theorem q9 : (Rows.useqFreshRow.named == Tryz.checked.prog.varsNamed 5) = true := by kernel_rfl
theorem q10 : (Rows.useqFreshRow.plainKeys == Tryz.checked.prog.plainKeys) = true := by kernel_rfl
theorem q11 : (Tryz.checked.prog.stopsHeard) = true := by kernel_rfl
theorem q12 : (Tryz.checked.prog.mayEnter) = true := by kernel_rfl
theorem q13 : (Rows.useqFreshRow.lifted == Tryz.checked.prog.liftsFinal) = true := by kernel_rfl
theorem q14 : (Tryz.checked.prog.make == some Rows.useqFreshRow.make) = true := by kernel_rfl
theorem joined : joinedFacts Tryz.checked.prog 5 Tryz.f5 Rows.useqFreshSpec Rows.useqFreshRow = true := by
  unfold joinedFacts
  rw [q0, q1, q2, q3, q4, q5, q6, q7, q8, q9, q10, q11, q12, q13, q14]
  kernel_rfl
end Go.Proofs.YtcplfckncandkaaGreatDoor.useqFresh
