/- Closed runs of IsaOf. Printed by gen_con.py. -/
import Derived.Test.YtfgdoliihmjnoaaDoorELkO
set_option linter.unusedSimpArgs false
set_option linter.unusedVariables false
namespace Go.Proofs.YtfgdoliihmjnoaaDoorE
open Go Go.E Go.Proofs
set_option maxRecDepth 100000
theorem of32 : okC (.int .i64 (.ofNat 32)) := ⟨by kernel_rfl, by kernel_rfl, by kernel_rfl⟩
theorem of33 : okC (.int .i64 (.ofNat 33)) := ⟨by kernel_rfl, by kernel_rfl, by kernel_rfl⟩
theorem of34 : okC (.int .i64 (.ofNat 34)) := ⟨by kernel_rfl, by kernel_rfl, by kernel_rfl⟩
theorem of35 : okC (.int .i64 (.ofNat 35)) := ⟨by kernel_rfl, by kernel_rfl, by kernel_rfl⟩
theorem of36 : okC (.int .i64 (.ofNat 36)) := ⟨by kernel_rfl, by kernel_rfl, by kernel_rfl⟩
theorem of37 : okC (.int .i64 (.ofNat 37)) := ⟨by kernel_rfl, by kernel_rfl, by kernel_rfl⟩
theorem of38 : okC (.int .i64 (.ofNat 38)) := ⟨by kernel_rfl, by kernel_rfl, by kernel_rfl⟩
theorem of39 : okC (.int .i64 (.ofNat 39)) := ⟨by kernel_rfl, by kernel_rfl, by kernel_rfl⟩
theorem of40 : okC (.int .i64 (.ofNat 40)) := ⟨by kernel_rfl, by kernel_rfl, by kernel_rfl⟩
theorem of41 : okC (.int .i64 (.ofNat 41)) := ⟨by kernel_rfl, by kernel_rfl, by kernel_rfl⟩
theorem of42 : okC (.int .i64 (.ofNat 42)) := ⟨by kernel_rfl, by kernel_rfl, by kernel_rfl⟩
theorem of43 : okC (.int .i64 (.ofNat 43)) := ⟨by kernel_rfl, by kernel_rfl, by kernel_rfl⟩
theorem of44 : okC (.int .i64 (.ofNat 44)) := ⟨by kernel_rfl, by kernel_rfl, by kernel_rfl⟩
theorem of45 : okC (.int .i64 (.ofNat 45)) := ⟨by kernel_rfl, by kernel_rfl, by kernel_rfl⟩
theorem of46 : okC (.int .i64 (.ofNat 46)) := ⟨by kernel_rfl, by kernel_rfl, by kernel_rfl⟩
theorem of47 : okC (.int .i64 (.ofNat 47)) := ⟨by kernel_rfl, by kernel_rfl, by kernel_rfl⟩
theorem of48 : okC (.int .i64 (.ofNat 48)) := ⟨by kernel_rfl, by kernel_rfl, by kernel_rfl⟩
theorem of49 : okC (.int .i64 (.ofNat 49)) := ⟨by kernel_rfl, by kernel_rfl, by kernel_rfl⟩
theorem of50 : okC (.int .i64 (.ofNat 50)) := ⟨by kernel_rfl, by kernel_rfl, by kernel_rfl⟩
theorem of51 : okC (.int .i64 (.ofNat 51)) := ⟨by kernel_rfl, by kernel_rfl, by kernel_rfl⟩
theorem of52 : okC (.int .i64 (.ofNat 52)) := ⟨by kernel_rfl, by kernel_rfl, by kernel_rfl⟩
theorem of53 : okC (.int .i64 (.ofNat 53)) := ⟨by kernel_rfl, by kernel_rfl, by kernel_rfl⟩
theorem of54 : okC (.int .i64 (.ofNat 54)) := ⟨by kernel_rfl, by kernel_rfl, by kernel_rfl⟩
theorem of55 : okC (.int .i64 (.ofNat 55)) := ⟨by kernel_rfl, by kernel_rfl, by kernel_rfl⟩
theorem of56 : okC (.int .i64 (.ofNat 56)) := ⟨by kernel_rfl, by kernel_rfl, by kernel_rfl⟩
theorem of57 : okC (.int .i64 (.ofNat 57)) := ⟨by kernel_rfl, by kernel_rfl, by kernel_rfl⟩
theorem of58 : okC (.int .i64 (.ofNat 58)) := ⟨by kernel_rfl, by kernel_rfl, by kernel_rfl⟩
theorem of59 : okC (.int .i64 (.ofNat 59)) := ⟨by kernel_rfl, by kernel_rfl, by kernel_rfl⟩
theorem of60 : okC (.int .i64 (.ofNat 60)) := ⟨by kernel_rfl, by kernel_rfl, by kernel_rfl⟩
theorem of61 : okC (.int .i64 (.ofNat 61)) := ⟨by kernel_rfl, by kernel_rfl, by kernel_rfl⟩
theorem of62 : okC (.int .i64 (.ofNat 62)) := ⟨by kernel_rfl, by kernel_rfl, by kernel_rfl⟩
theorem of63 : okC (.int .i64 (.ofNat 63)) := ⟨by kernel_rfl, by kernel_rfl, by kernel_rfl⟩
end Go.Proofs.YtfgdoliihmjnoaaDoorE
