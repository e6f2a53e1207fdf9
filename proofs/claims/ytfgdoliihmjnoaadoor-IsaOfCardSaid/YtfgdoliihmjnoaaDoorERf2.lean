/- Closed runs of IsaOf. Printed by gen_con.py. -/
import Derived.Test.YtfgdoliihmjnoaaDoorELkO
set_option linter.unusedSimpArgs false
set_option linter.unusedVariables false
namespace Go.Proofs.YtfgdoliihmjnoaaDoorE
open Go Go.E Go.Proofs
set_option maxRecDepth 100000
theorem of64 : okC (.int .i64 (.ofNat 64)) := ⟨by kernel_rfl, by kernel_rfl, by kernel_rfl⟩
theorem of65 : okC (.int .i64 (.ofNat 65)) := ⟨by kernel_rfl, by kernel_rfl, by kernel_rfl⟩
theorem of66 : okC (.int .i64 (.ofNat 66)) := ⟨by kernel_rfl, by kernel_rfl, by kernel_rfl⟩
theorem of67 : okC (.int .i64 (.ofNat 67)) := ⟨by kernel_rfl, by kernel_rfl, by kernel_rfl⟩
theorem of68 : okC (.int .i64 (.ofNat 68)) := ⟨by kernel_rfl, by kernel_rfl, by kernel_rfl⟩
theorem of69 : okC (.int .i64 (.ofNat 69)) := ⟨by kernel_rfl, by kernel_rfl, by kernel_rfl⟩
theorem of70 : okC (.int .i64 (.ofNat 70)) := ⟨by kernel_rfl, by kernel_rfl, by kernel_rfl⟩
theorem of71 : okC (.int .i64 (.ofNat 71)) := ⟨by kernel_rfl, by kernel_rfl, by kernel_rfl⟩
theorem of72 : okC (.int .i64 (.ofNat 72)) := ⟨by kernel_rfl, by kernel_rfl, by kernel_rfl⟩
theorem of73 : okC (.int .i64 (.ofNat 73)) := ⟨by kernel_rfl, by kernel_rfl, by kernel_rfl⟩
theorem of74 : okC (.int .i64 (.ofNat 74)) := ⟨by kernel_rfl, by kernel_rfl, by kernel_rfl⟩
theorem of75 : okC (.int .i64 (.ofNat 75)) := ⟨by kernel_rfl, by kernel_rfl, by kernel_rfl⟩
theorem of76 : okC (.int .i64 (.ofNat 76)) := ⟨by kernel_rfl, by kernel_rfl, by kernel_rfl⟩
theorem of77 : okC (.int .i64 (.ofNat 77)) := ⟨by kernel_rfl, by kernel_rfl, by kernel_rfl⟩
theorem of78 : okC (.int .i64 (.ofNat 78)) := ⟨by kernel_rfl, by kernel_rfl, by kernel_rfl⟩
theorem of79 : okC (.int .i64 (.ofNat 79)) := ⟨by kernel_rfl, by kernel_rfl, by kernel_rfl⟩
theorem of80 : okC (.int .i64 (.ofNat 80)) := ⟨by kernel_rfl, by kernel_rfl, by kernel_rfl⟩
theorem of81 : okC (.int .i64 (.ofNat 81)) := ⟨by kernel_rfl, by kernel_rfl, by kernel_rfl⟩
theorem of82 : okC (.int .i64 (.ofNat 82)) := ⟨by kernel_rfl, by kernel_rfl, by kernel_rfl⟩
theorem of83 : okC (.int .i64 (.ofNat 83)) := ⟨by kernel_rfl, by kernel_rfl, by kernel_rfl⟩
theorem of84 : okC (.int .i64 (.ofNat 84)) := ⟨by kernel_rfl, by kernel_rfl, by kernel_rfl⟩
theorem of85 : okC (.int .i64 (.ofNat 85)) := ⟨by kernel_rfl, by kernel_rfl, by kernel_rfl⟩
theorem of86 : okC (.int .i64 (.ofNat 86)) := ⟨by kernel_rfl, by kernel_rfl, by kernel_rfl⟩
theorem of87 : okC (.int .i64 (.ofNat 87)) := ⟨by kernel_rfl, by kernel_rfl, by kernel_rfl⟩
theorem of88 : okC (.int .i64 (.ofNat 88)) := ⟨by kernel_rfl, by kernel_rfl, by kernel_rfl⟩
theorem of89 : okC (.int .i64 (.ofNat 89)) := ⟨by kernel_rfl, by kernel_rfl, by kernel_rfl⟩
theorem of90 : okC (.int .i64 (.ofNat 90)) := ⟨by kernel_rfl, by kernel_rfl, by kernel_rfl⟩
theorem of91 : okC (.int .i64 (.ofNat 91)) := ⟨by kernel_rfl, by kernel_rfl, by kernel_rfl⟩
theorem of92 : okC (.int .i64 (.ofNat 92)) := ⟨by kernel_rfl, by kernel_rfl, by kernel_rfl⟩
theorem of93 : okC (.int .i64 (.ofNat 93)) := ⟨by kernel_rfl, by kernel_rfl, by kernel_rfl⟩
theorem of94 : okC (.int .i64 (.ofNat 94)) := ⟨by kernel_rfl, by kernel_rfl, by kernel_rfl⟩
theorem of95 : okC (.int .i64 (.ofNat 95)) := ⟨by kernel_rfl, by kernel_rfl, by kernel_rfl⟩
end Go.Proofs.YtfgdoliihmjnoaaDoorE
