/- What the kernel finds of the program for a row, part by part. Printed by lawrow.py. -/
import Derived.Test.YtcplfckncandkaaGreatDoorCards
import Derived.ProofKit
import Derived.JoinedOf
import Derived.RowKit
namespace Go.Proofs.YtcplfckncandkaaGreatDoor.useqShips
open Go
set_option maxRecDepth 100000
theorem q0 : (Rows.useqShipsRow.wf (OpenSpec.ofChange Rows.useqShipsSpec)) = true := by kernel_rfl
theorem q1 : (laidOutB Tryz.checked.prog) = true := by kernel_rfl
theorem q2 : (mapsRowed Tryz.checked.prog) = true := by kernel_rfl
theorem q3 : (namedTie Tryz.checked.prog Rows.useqShipsRow.named Rows.useqShipsSpec.vars) = true := by kernel_rfl
theorem q4 : (Tryz.checked.prog.stops == []) = true := by kernel_rfl
theorem q5 : (Tryz.checked.prog.stopKnobs == []) = true := by kernel_rfl
theorem q6 : (Rows.useqShipsRow.inPlace == Tryz.checked.prog.inPlace 4) = true := by kernel_rfl
theorem q7 : (Rows.useqShipsRow.unfollowed == Tryz.checked.prog.unfollowed 4) = true := by kernel_rfl
theorem q8 : (Rows.useqShipsRow.recurses == Tryz.checked.prog.recurses 4) = true := by kernel_rfl
theorem q9 : (Rows.useqShipsRow.named == Tryz.checked.prog.varsNamed 4) = true := by kernel_rfl
theorem q10 : (Rows.useqShipsRow.plainKeys == Tryz.checked.prog.plainKeys) = true := by kernel_rfl
theorem q11 : (Tryz.checked.prog.stopsHeard) = true := by kernel_rfl
theorem q12 : (Tryz.checked.prog.mayEnter) = true := by kernel_rfl
theorem q13 : (Rows.useqShipsRow.lifted == Tryz.checked.prog.liftsFinal) = true := by kernel_rfl
theorem q14 : (Tryz.checked.prog.make == some Rows.useqShipsRow.make) = true := by kernel_rfl
theorem joined : joinedFacts Tryz.checked.prog 4 Tryz.f4 Rows.useqShipsSpec Rows.useqShipsRow = true := by
  unfold joinedFacts
  rw [q0, q1, q2, q3, q4, q5, q6, q7, q8, q9, q10, q11, q12, q13, q14]
  kernel_rfl
end Go.Proofs.YtcplfckncandkaaGreatDoor.useqShips
