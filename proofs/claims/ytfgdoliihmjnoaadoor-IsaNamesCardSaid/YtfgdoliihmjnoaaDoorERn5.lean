/- Closed runs of IsaNames. Printed by gen_con.py. -/
import Derived.Test.YtfgdoliihmjnoaaDoorELkN
set_option linter.unusedSimpArgs false
set_option linter.unusedVariables false
namespace Go.Proofs.YtfgdoliihmjnoaaDoorE
open Go Go.E Go.Proofs
set_option maxRecDepth 100000
theorem nm160 : okTrue (runF Tryd.prog LkN 700 13 [.int .i64 (.ofNat 160)] st0) = true := by kernel_rfl
theorem nm161 : okTrue (runF Tryd.prog LkN 700 13 [.int .i64 (.ofNat 161)] st0) = true := by kernel_rfl
theorem nm162 : okTrue (runF Tryd.prog LkN 700 13 [.int .i64 (.ofNat 162)] st0) = true := by kernel_rfl
theorem nm163 : okTrue (runF Tryd.prog LkN 700 13 [.int .i64 (.ofNat 163)] st0) = true := by kernel_rfl
theorem nm164 : okTrue (runF Tryd.prog LkN 700 13 [.int .i64 (.ofNat 164)] st0) = true := by kernel_rfl
theorem nm165 : okTrue (runF Tryd.prog LkN 700 13 [.int .i64 (.ofNat 165)] st0) = true := by kernel_rfl
theorem nm166 : okTrue (runF Tryd.prog LkN 700 13 [.int .i64 (.ofNat 166)] st0) = true := by kernel_rfl
theorem nm167 : okTrue (runF Tryd.prog LkN 700 13 [.int .i64 (.ofNat 167)] st0) = true := by kernel_rfl
theorem nm168 : okTrue (runF Tryd.prog LkN 700 13 [.int .i64 (.ofNat 168)] st0) = true := by kernel_rfl
theorem nm169 : okTrue (runF Tryd.prog LkN 700 13 [.int .i64 (.ofNat 169)] st0) = true := by kernel_rfl
theorem nm170 : okTrue (runF Tryd.prog LkN 700 13 [.int .i64 (.ofNat 170)] st0) = true := by kernel_rfl
theorem nm171 : okTrue (runF Tryd.prog LkN 700 13 [.int .i64 (.ofNat 171)] st0) = true := by kernel_rfl
theorem nm172 : okTrue (runF Tryd.prog LkN 700 13 [.int .i64 (.ofNat 172)] st0) = true := by kernel_rfl
theorem nm173 : okTrue (runF Tryd.prog LkN 700 13 [.int .i64 (.ofNat 173)] st0) = true := by kernel_rfl
theorem nm174 : okTrue (runF Tryd.prog LkN 700 13 [.int .i64 (.ofNat 174)] st0) = true := by kernel_rfl
theorem nm175 : okTrue (runF Tryd.prog LkN 700 13 [.int .i64 (.ofNat 175)] st0) = true := by kernel_rfl
theorem nm176 : okTrue (runF Tryd.prog LkN 700 13 [.int .i64 (.ofNat 176)] st0) = true := by kernel_rfl
theorem nm177 : okTrue (runF Tryd.prog LkN 700 13 [.int .i64 (.ofNat 177)] st0) = true := by kernel_rfl
theorem nm178 : okTrue (runF Tryd.prog LkN 700 13 [.int .i64 (.ofNat 178)] st0) = true := by kernel_rfl
theorem nm179 : okTrue (runF Tryd.prog LkN 700 13 [.int .i64 (.ofNat 179)] st0) = true := by kernel_rfl
theorem nm180 : okTrue (runF Tryd.prog LkN 700 13 [.int .i64 (.ofNat 180)] st0) = true := by kernel_rfl
theorem nm181 : okTrue (runF Tryd.prog LkN 700 13 [.int .i64 (.ofNat 181)] st0) = true := by kernel_rfl
theorem nm182 : okTrue (runF Tryd.prog LkN 700 13 [.int .i64 (.ofNat 182)] st0) = true := by kernel_rfl
theorem nm183 : okTrue (runF Tryd.prog LkN 700 13 [.int .i64 (.ofNat 183)] st0) = true := by kernel_rfl
theorem nm184 : okTrue (runF Tryd.prog LkN 700 13 [.int .i64 (.ofNat 184)] st0) = true := by kernel_rfl
theorem nm185 : okTrue (runF Tryd.prog LkN 700 13 [.int .i64 (.ofNat 185)] st0) = true := by kernel_rfl
theorem nm186 : okTrue (runF Tryd.prog LkN 700 13 [.int .i64 (.ofNat 186)] st0) = true := by kernel_rfl
theorem nm187 : okTrue (runF Tryd.prog LkN 700 13 [.int .i64 (.ofNat 187)] st0) = true := by kernel_rfl
theorem nm188 : okTrue (runF Tryd.prog LkN 700 13 [.int .i64 (.ofNat 188)] st0) = true := by kernel_rfl
theorem nm189 : okTrue (runF Tryd.prog LkN 700 13 [.int .i64 (.ofNat 189)] st0) = true := by kernel_rfl
theorem nm190 : okTrue (runF Tryd.prog LkN 700 13 [.int .i64 (.ofNat 190)] st0) = true := by kernel_rfl
theorem nm191 : okTrue (runF Tryd.prog LkN 700 13 [.int .i64 (.ofNat 191)] st0) = true := by kernel_rfl
end Go.Proofs.YtfgdoliihmjnoaaDoorE
