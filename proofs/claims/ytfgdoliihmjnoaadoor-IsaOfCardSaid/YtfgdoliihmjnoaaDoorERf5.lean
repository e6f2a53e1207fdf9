/- Closed runs of IsaOf. Printed by gen_con.py. -/
import Derived.Test.YtfgdoliihmjnoaaDoorELkO
set_option linter.unusedSimpArgs false
set_option linter.unusedVariables false
namespace Go.Proofs.YtfgdoliihmjnoaaDoorE
open Go Go.E Go.Proofs
set_option maxRecDepth 100000
theorem of160 : okC (.int .i64 (.ofNat 160)) := ⟨by kernel_rfl, by kernel_rfl, by kernel_rfl⟩
theorem of161 : okC (.int .i64 (.ofNat 161)) := ⟨by kernel_rfl, by kernel_rfl, by kernel_rfl⟩
theorem of162 : okC (.int .i64 (.ofNat 162)) := ⟨by kernel_rfl, by kernel_rfl, by kernel_rfl⟩
theorem of163 : okC (.int .i64 (.ofNat 163)) := ⟨by kernel_rfl, by kernel_rfl, by kernel_rfl⟩
theorem of164 : okC (.int .i64 (.ofNat 164)) := ⟨by kernel_rfl, by kernel_rfl, by kernel_rfl⟩
theorem of165 : okC (.int .i64 (.ofNat 165)) := ⟨by kernel_rfl, by kernel_rfl, by kernel_rfl⟩
theorem of166 : okC (.int .i64 (.ofNat 166)) := ⟨by kernel_rfl, by kernel_rfl, by kernel_rfl⟩
theorem of167 : okC (.int .i64 (.ofNat 167)) := ⟨by kernel_rfl, by kernel_rfl, by kernel_rfl⟩
theorem of168 : okC (.int .i64 (.ofNat 168)) := ⟨by kernel_rfl, by kernel_rfl, by kernel_rfl⟩
theorem of169 : okC (.int .i64 (.ofNat 169)) := ⟨by kernel_rfl, by kernel_rfl, by kernel_rfl⟩
theorem of170 : okC (.int .i64 (.ofNat 170)) := ⟨by kernel_rfl, by kernel_rfl, by kernel_rfl⟩
theorem of171 : okC (.int .i64 (.ofNat 171)) := ⟨by kernel_rfl, by kernel_rfl, by kernel_rfl⟩
theorem of172 : okC (.int .i64 (.ofNat 172)) := ⟨by kernel_rfl, by kernel_rfl, by kernel_rfl⟩
theorem of173 : okC (.int .i64 (.ofNat 173)) := ⟨by kernel_rfl, by kernel_rfl, by kernel_rfl⟩
theorem of174 : okC (.int .i64 (.ofNat 174)) := ⟨by kernel_rfl, by kernel_rfl, by kernel_rfl⟩
theorem of175 : okC (.int .i64 (.ofNat 175)) := ⟨by kernel_rfl, by kernel_rfl, by kernel_rfl⟩
theorem of176 : okC (.int .i64 (.ofNat 176)) := ⟨by kernel_rfl, by kernel_rfl, by kernel_rfl⟩
theorem of177 : okC (.int .i64 (.ofNat 177)) := ⟨by kernel_rfl, by kernel_rfl, by kernel_rfl⟩
theorem of178 : okC (.int .i64 (.ofNat 178)) := ⟨by kernel_rfl, by kernel_rfl, by kernel_rfl⟩
theorem of179 : okC (.int .i64 (.ofNat 179)) := ⟨by kernel_rfl, by kernel_rfl, by kernel_rfl⟩
theorem of180 : okC (.int .i64 (.ofNat 180)) := ⟨by kernel_rfl, by kernel_rfl, by kernel_rfl⟩
theorem of181 : okC (.int .i64 (.ofNat 181)) := ⟨by kernel_rfl, by kernel_rfl, by kernel_rfl⟩
theorem of182 : okC (.int .i64 (.ofNat 182)) := ⟨by kernel_rfl, by kernel_rfl, by kernel_rfl⟩
theorem of183 : okC (.int .i64 (.ofNat 183)) := ⟨by kernel_rfl, by kernel_rfl, by kernel_rfl⟩
theorem of184 : okC (.int .i64 (.ofNat 184)) := ⟨by kernel_rfl, by kernel_rfl, by kernel_rfl⟩
theorem of185 : okC (.int .i64 (.ofNat 185)) := ⟨by kernel_rfl, by kernel_rfl, by kernel_rfl⟩
theorem of186 : okC (.int .i64 (.ofNat 186)) := ⟨by kernel_rfl, by kernel_rfl, by kernel_rfl⟩
theorem of187 : okC (.int .i64 (.ofNat 187)) := ⟨by kernel_rfl, by kernel_rfl, by kernel_rfl⟩
theorem of188 : okC (.int .i64 (.ofNat 188)) := ⟨by kernel_rfl, by kernel_rfl, by kernel_rfl⟩
theorem of189 : okC (.int .i64 (.ofNat 189)) := ⟨by kernel_rfl, by kernel_rfl, by kernel_rfl⟩
theorem of190 : okC (.int .i64 (.ofNat 190)) := ⟨by kernel_rfl, by kernel_rfl, by kernel_rfl⟩
theorem of191 : okC (.int .i64 (.ofNat 191)) := ⟨by kernel_rfl, by kernel_rfl, by kernel_rfl⟩
end Go.Proofs.YtfgdoliihmjnoaaDoorE
