/- The law's own first question. -/
import Derived.Test.YthngaoncjpgeiaaGreatDoorStart
set_option linter.unusedVariables false
set_option maxRecDepth 1000000
namespace Go.Proofs.YthngaoncjpgeiaaGreatDoorE
open Go Go.E Go.Proofs
theorem alive_run (ob : AObj) : okP (st0.new ob).next (runF Tryz.prog Lk0 2000 16 [] ⟨(st0.new ob).mem, (st0.new ob).next, (st0.new ob).next, []⟩) = true := by kernel_rfl
theorem alive17 [Sym] (ob : AObj) : ∃ N, (st0.new ob).next ≤ N ∧ cc 16 [] (st0.new ob) = some (.bool true, (st0.new ob).adv N) :=
  pure_closed (st := st0.new ob) (f := 16) (args := []) (n := 2000) Lk0_ok (by kernel_rfl) (by kernel_rfl) (by kernel_rfl) (alive_run ob)
end Go.Proofs.YthngaoncjpgeiaaGreatDoorE
