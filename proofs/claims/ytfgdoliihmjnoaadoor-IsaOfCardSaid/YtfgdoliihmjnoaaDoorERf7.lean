/- Closed runs of IsaOf. Printed by gen_con.py. -/
import Derived.Test.YtfgdoliihmjnoaaDoorELkO
set_option linter.unusedSimpArgs false
set_option linter.unusedVariables false
namespace Go.Proofs.YtfgdoliihmjnoaaDoorE
open Go Go.E Go.Proofs
set_option maxRecDepth 100000
theorem of224 : okC (.int .i64 (.ofNat 224)) := ⟨by kernel_rfl, by kernel_rfl, by kernel_rfl⟩
theorem of225 : okC (.int .i64 (.ofNat 225)) := ⟨by kernel_rfl, by kernel_rfl, by kernel_rfl⟩
theorem of226 : okC (.int .i64 (.ofNat 226)) := ⟨by kernel_rfl, by kernel_rfl, by kernel_rfl⟩
theorem of227 : okC (.int .i64 (.ofNat 227)) := ⟨by kernel_rfl, by kernel_rfl, by kernel_rfl⟩
theorem of228 : okC (.int .i64 (.ofNat 228)) := ⟨by kernel_rfl, by kernel_rfl, by kernel_rfl⟩
theorem of229 : okC (.int .i64 (.ofNat 229)) := ⟨by kernel_rfl, by kernel_rfl, by kernel_rfl⟩
theorem of230 : okC (.int .i64 (.ofNat 230)) := ⟨by kernel_rfl, by kernel_rfl, by kernel_rfl⟩
theorem of231 : okC (.int .i64 (.ofNat 231)) := ⟨by kernel_rfl, by kernel_rfl, by kernel_rfl⟩
theorem of232 : okC (.int .i64 (.ofNat 232)) := ⟨by kernel_rfl, by kernel_rfl, by kernel_rfl⟩
theorem of233 : okC (.int .i64 (.ofNat 233)) := ⟨by kernel_rfl, by kernel_rfl, by kernel_rfl⟩
theorem of234 : okC (.int .i64 (.ofNat 234)) := ⟨by kernel_rfl, by kernel_rfl, by kernel_rfl⟩
theorem of235 : okC (.int .i64 (.ofNat 235)) := ⟨by kernel_rfl, by kernel_rfl, by kernel_rfl⟩
theorem of236 : okC (.int .i64 (.ofNat 236)) := ⟨by kernel_rfl, by kernel_rfl, by kernel_rfl⟩
theorem of237 : okC (.int .i64 (.ofNat 237)) := ⟨by kernel_rfl, by kernel_rfl, by kernel_rfl⟩
theorem of238 : okC (.int .i64 (.ofNat 238)) := ⟨by kernel_rfl, by kernel_rfl, by kernel_rfl⟩
theorem of239 : okC (.int .i64 (.ofNat 239)) := ⟨by kernel_rfl, by kernel_rfl, by kernel_rfl⟩
theorem of240 : okC (.int .i64 (.ofNat 240)) := ⟨by kernel_rfl, by kernel_rfl, by kernel_rfl⟩
theorem of241 : okC (.int .i64 (.ofNat 241)) := ⟨by kernel_rfl, by kernel_rfl, by kernel_rfl⟩
theorem of242 : okC (.int .i64 (.ofNat 242)) := ⟨by kernel_rfl, by kernel_rfl, by kernel_rfl⟩
theorem of243 : okC (.int .i64 (.ofNat 243)) := ⟨by kernel_rfl, by kernel_rfl, by kernel_rfl⟩
theorem of244 : okC (.int .i64 (.ofNat 244)) := ⟨by kernel_rfl, by kernel_rfl, by kernel_rfl⟩
theorem of245 : okC (.int .i64 (.ofNat 245)) := ⟨by kernel_rfl, by kernel_rfl, by kernel_rfl⟩
theorem of246 : okC (.int .i64 (.ofNat 246)) := ⟨by kernel_rfl, by kernel_rfl, by kernel_rfl⟩
theorem of247 : okC (.int .i64 (.ofNat 247)) := ⟨by kernel_rfl, by kernel_rfl, by kernel_rfl⟩
theorem of248 : okC (.int .i64 (.ofNat 248)) := ⟨by kernel_rfl, by kernel_rfl, by kernel_rfl⟩
theorem of249 : okC (.int .i64 (.ofNat 249)) := ⟨by kernel_rfl, by kernel_rfl, by kernel_rfl⟩
theorem of250 : okC (.int .i64 (.ofNat 250)) := ⟨by kernel_rfl, by kernel_rfl, by kernel_rfl⟩
theorem of251 : okC (.int .i64 (.ofNat 251)) := ⟨by kernel_rfl, by kernel_rfl, by kernel_rfl⟩
theorem of252 : okC (.int .i64 (.ofNat 252)) := ⟨by kernel_rfl, by kernel_rfl, by kernel_rfl⟩
theorem of253 : okC (.int .i64 (.ofNat 253)) := ⟨by kernel_rfl, by kernel_rfl, by kernel_rfl⟩
theorem of254 : okC (.int .i64 (.ofNat 254)) := ⟨by kernel_rfl, by kernel_rfl, by kernel_rfl⟩
theorem of255 : okC (.int .i64 (.ofNat 255)) := ⟨by kernel_rfl, by kernel_rfl, by kernel_rfl⟩
end Go.Proofs.YtfgdoliihmjnoaaDoorE
