/- Closed runs of IsaOf. Printed by gen_con.py. -/
import Derived.Test.YtfgdoliihmjnoaaDoorELkO
set_option linter.unusedSimpArgs false
set_option linter.unusedVariables false
namespace Go.Proofs.YtfgdoliihmjnoaaDoorE
open Go Go.E Go.Proofs
set_option maxRecDepth 100000
theorem of128 : okC (.int .i64 (.ofNat 128)) := ⟨by kernel_rfl, by kernel_rfl, by kernel_rfl⟩
theorem of129 : okC (.int .i64 (.ofNat 129)) := ⟨by kernel_rfl, by kernel_rfl, by kernel_rfl⟩
theorem of130 : okC (.int .i64 (.ofNat 130)) := ⟨by kernel_rfl, by kernel_rfl, by kernel_rfl⟩
theorem of131 : okC (.int .i64 (.ofNat 131)) := ⟨by kernel_rfl, by kernel_rfl, by kernel_rfl⟩
theorem of132 : okC (.int .i64 (.ofNat 132)) := ⟨by kernel_rfl, by kernel_rfl, by kernel_rfl⟩
theorem of133 : okC (.int .i64 (.ofNat 133)) := ⟨by kernel_rfl, by kernel_rfl, by kernel_rfl⟩
theorem of134 : okC (.int .i64 (.ofNat 134)) := ⟨by kernel_rfl, by kernel_rfl, by kernel_rfl⟩
theorem of135 : okC (.int .i64 (.ofNat 135)) := ⟨by kernel_rfl, by kernel_rfl, by kernel_rfl⟩
theorem of136 : okC (.int .i64 (.ofNat 136)) := ⟨by kernel_rfl, by kernel_rfl, by kernel_rfl⟩
theorem of137 : okC (.int .i64 (.ofNat 137)) := ⟨by kernel_rfl, by kernel_rfl, by kernel_rfl⟩
theorem of138 : okC (.int .i64 (.ofNat 138)) := ⟨by kernel_rfl, by kernel_rfl, by kernel_rfl⟩
theorem of139 : okC (.int .i64 (.ofNat 139)) := ⟨by kernel_rfl, by kernel_rfl, by kernel_rfl⟩
theorem of140 : okC (.int .i64 (.ofNat 140)) := ⟨by kernel_rfl, by kernel_rfl, by kernel_rfl⟩
theorem of141 : okC (.int .i64 (.ofNat 141)) := ⟨by kernel_rfl, by kernel_rfl, by kernel_rfl⟩
theorem of142 : okC (.int .i64 (.ofNat 142)) := ⟨by kernel_rfl, by kernel_rfl, by kernel_rfl⟩
theorem of143 : okC (.int .i64 (.ofNat 143)) := ⟨by kernel_rfl, by kernel_rfl, by kernel_rfl⟩
theorem of144 : okC (.int .i64 (.ofNat 144)) := ⟨by kernel_rfl, by kernel_rfl, by kernel_rfl⟩
theorem of145 : okC (.int .i64 (.ofNat 145)) := ⟨by kernel_rfl, by kernel_rfl, by kernel_rfl⟩
theorem of146 : okC (.int .i64 (.ofNat 146)) := ⟨by kernel_rfl, by kernel_rfl, by kernel_rfl⟩
theorem of147 : okC (.int .i64 (.ofNat 147)) := ⟨by kernel_rfl, by kernel_rfl, by kernel_rfl⟩
theorem of148 : okC (.int .i64 (.ofNat 148)) := ⟨by kernel_rfl, by kernel_rfl, by kernel_rfl⟩
theorem of149 : okC (.int .i64 (.ofNat 149)) := ⟨by kernel_rfl, by kernel_rfl, by kernel_rfl⟩
theorem of150 : okC (.int .i64 (.ofNat 150)) := ⟨by kernel_rfl, by kernel_rfl, by kernel_rfl⟩
theorem of151 : okC (.int .i64 (.ofNat 151)) := ⟨by kernel_rfl, by kernel_rfl, by kernel_rfl⟩
theorem of152 : okC (.int .i64 (.ofNat 152)) := ⟨by kernel_rfl, by kernel_rfl, by kernel_rfl⟩
theorem of153 : okC (.int .i64 (.ofNat 153)) := ⟨by kernel_rfl, by kernel_rfl, by kernel_rfl⟩
theorem of154 : okC (.int .i64 (.ofNat 154)) := ⟨by kernel_rfl, by kernel_rfl, by kernel_rfl⟩
theorem of155 : okC (.int .i64 (.ofNat 155)) := ⟨by kernel_rfl, by kernel_rfl, by kernel_rfl⟩
theorem of156 : okC (.int .i64 (.ofNat 156)) := ⟨by kernel_rfl, by kernel_rfl, by kernel_rfl⟩
theorem of157 : okC (.int .i64 (.ofNat 157)) := ⟨by kernel_rfl, by kernel_rfl, by kernel_rfl⟩
theorem of158 : okC (.int .i64 (.ofNat 158)) := ⟨by kernel_rfl, by kernel_rfl, by kernel_rfl⟩
theorem of159 : okC (.int .i64 (.ofNat 159)) := ⟨by kernel_rfl, by kernel_rfl, by kernel_rfl⟩
end Go.Proofs.YtfgdoliihmjnoaaDoorE
