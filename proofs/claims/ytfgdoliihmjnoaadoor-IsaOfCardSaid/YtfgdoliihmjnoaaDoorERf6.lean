/- Closed runs of IsaOf. Printed by gen_con.py. -/
import Derived.Test.YtfgdoliihmjnoaaDoorELkO
set_option linter.unusedSimpArgs false
set_option linter.unusedVariables false
namespace Go.Proofs.YtfgdoliihmjnoaaDoorE
open Go Go.E Go.Proofs
set_option maxRecDepth 100000
theorem of192 : okC (.int .i64 (.ofNat 192)) := ⟨by kernel_rfl, by kernel_rfl, by kernel_rfl⟩
theorem of193 : okC (.int .i64 (.ofNat 193)) := ⟨by kernel_rfl, by kernel_rfl, by kernel_rfl⟩
theorem of194 : okC (.int .i64 (.ofNat 194)) := ⟨by kernel_rfl, by kernel_rfl, by kernel_rfl⟩
theorem of195 : okC (.int .i64 (.ofNat 195)) := ⟨by kernel_rfl, by kernel_rfl, by kernel_rfl⟩
theorem of196 : okC (.int .i64 (.ofNat 196)) := ⟨by kernel_rfl, by kernel_rfl, by kernel_rfl⟩
theorem of197 : okC (.int .i64 (.ofNat 197)) := ⟨by kernel_rfl, by kernel_rfl, by kernel_rfl⟩
theorem of198 : okC (.int .i64 (.ofNat 198)) := ⟨by kernel_rfl, by kernel_rfl, by kernel_rfl⟩
theorem of199 : okC (.int .i64 (.ofNat 199)) := ⟨by kernel_rfl, by kernel_rfl, by kernel_rfl⟩
theorem of200 : okC (.int .i64 (.ofNat 200)) := ⟨by kernel_rfl, by kernel_rfl, by kernel_rfl⟩
theorem of201 : okC (.int .i64 (.ofNat 201)) := ⟨by kernel_rfl, by kernel_rfl, by kernel_rfl⟩
theorem of202 : okC (.int .i64 (.ofNat 202)) := ⟨by kernel_rfl, by kernel_rfl, by kernel_rfl⟩
theorem of203 : okC (.int .i64 (.ofNat 203)) := ⟨by kernel_rfl, by kernel_rfl, by kernel_rfl⟩
theorem of204 : okC (.int .i64 (.ofNat 204)) := ⟨by kernel_rfl, by kernel_rfl, by kernel_rfl⟩
theorem of205 : okC (.int .i64 (.ofNat 205)) := ⟨by kernel_rfl, by kernel_rfl, by kernel_rfl⟩
theorem of206 : okC (.int .i64 (.ofNat 206)) := ⟨by kernel_rfl, by kernel_rfl, by kernel_rfl⟩
theorem of207 : okC (.int .i64 (.ofNat 207)) := ⟨by kernel_rfl, by kernel_rfl, by kernel_rfl⟩
theorem of208 : okC (.int .i64 (.ofNat 208)) := ⟨by kernel_rfl, by kernel_rfl, by kernel_rfl⟩
theorem of209 : okC (.int .i64 (.ofNat 209)) := ⟨by kernel_rfl, by kernel_rfl, by kernel_rfl⟩
theorem of210 : okC (.int .i64 (.ofNat 210)) := ⟨by kernel_rfl, by kernel_rfl, by kernel_rfl⟩
theorem of211 : okC (.int .i64 (.ofNat 211)) := ⟨by kernel_rfl, by kernel_rfl, by kernel_rfl⟩
theorem of212 : okC (.int .i64 (.ofNat 212)) := ⟨by kernel_rfl, by kernel_rfl, by kernel_rfl⟩
theorem of213 : okC (.int .i64 (.ofNat 213)) := ⟨by kernel_rfl, by kernel_rfl, by kernel_rfl⟩
theorem of214 : okC (.int .i64 (.ofNat 214)) := ⟨by kernel_rfl, by kernel_rfl, by kernel_rfl⟩
theorem of215 : okC (.int .i64 (.ofNat 215)) := ⟨by kernel_rfl, by kernel_rfl, by kernel_rfl⟩
theorem of216 : okC (.int .i64 (.ofNat 216)) := ⟨by kernel_rfl, by kernel_rfl, by kernel_rfl⟩
theorem of217 : okC (.int .i64 (.ofNat 217)) := ⟨by kernel_rfl, by kernel_rfl, by kernel_rfl⟩
theorem of218 : okC (.int .i64 (.ofNat 218)) := ⟨by kernel_rfl, by kernel_rfl, by kernel_rfl⟩
theorem of219 : okC (.int .i64 (.ofNat 219)) := ⟨by kernel_rfl, by kernel_rfl, by kernel_rfl⟩
theorem of220 : okC (.int .i64 (.ofNat 220)) := ⟨by kernel_rfl, by kernel_rfl, by kernel_rfl⟩
theorem of221 : okC (.int .i64 (.ofNat 221)) := ⟨by kernel_rfl, by kernel_rfl, by kernel_rfl⟩
theorem of222 : okC (.int .i64 (.ofNat 222)) := ⟨by kernel_rfl, by kernel_rfl, by kernel_rfl⟩
theorem of223 : okC (.int .i64 (.ofNat 223)) := ⟨by kernel_rfl, by kernel_rfl, by kernel_rfl⟩
end Go.Proofs.YtfgdoliihmjnoaaDoorE
