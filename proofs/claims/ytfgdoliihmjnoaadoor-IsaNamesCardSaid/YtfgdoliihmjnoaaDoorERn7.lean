/- Closed runs of IsaNames. Printed by gen_con.py. -/
import Derived.Test.YtfgdoliihmjnoaaDoorELkN
set_option linter.unusedSimpArgs false
set_option linter.unusedVariables false
namespace Go.Proofs.YtfgdoliihmjnoaaDoorE
open Go Go.E Go.Proofs
set_option maxRecDepth 100000
theorem nm224 : okTrue (runF Tryd.prog LkN 700 13 [.int .i64 (.ofNat 224)] st0) = true := by kernel_rfl
theorem nm225 : okTrue (runF Tryd.prog LkN 700 13 [.int .i64 (.ofNat 225)] st0) = true := by kernel_rfl
theorem nm226 : okTrue (runF Tryd.prog LkN 700 13 [.int .i64 (.ofNat 226)] st0) = true := by kernel_rfl
theorem nm227 : okTrue (runF Tryd.prog LkN 700 13 [.int .i64 (.ofNat 227)] st0) = true := by kernel_rfl
theorem nm228 : okTrue (runF Tryd.prog LkN 700 13 [.int .i64 (.ofNat 228)] st0) = true := by kernel_rfl
theorem nm229 : okTrue (runF Tryd.prog LkN 700 13 [.int .i64 (.ofNat 229)] st0) = true := by kernel_rfl
theorem nm230 : okTrue (runF Tryd.prog LkN 700 13 [.int .i64 (.ofNat 230)] st0) = true := by kernel_rfl
theorem nm231 : okTrue (runF Tryd.prog LkN 700 13 [.int .i64 (.ofNat 231)] st0) = true := by kernel_rfl
theorem nm232 : okTrue (runF Tryd.prog LkN 700 13 [.int .i64 (.ofNat 232)] st0) = true := by kernel_rfl
theorem nm233 : okTrue (runF Tryd.prog LkN 700 13 [.int .i64 (.ofNat 233)] st0) = true := by kernel_rfl
theorem nm234 : okTrue (runF Tryd.prog LkN 700 13 [.int .i64 (.ofNat 234)] st0) = true := by kernel_rfl
theorem nm235 : okTrue (runF Tryd.prog LkN 700 13 [.int .i64 (.ofNat 235)] st0) = true := by kernel_rfl
theorem nm236 : okTrue (runF Tryd.prog LkN 700 13 [.int .i64 (.ofNat 236)] st0) = true := by kernel_rfl
theorem nm237 : okTrue (runF Tryd.prog LkN 700 13 [.int .i64 (.ofNat 237)] st0) = true := by kernel_rfl
theorem nm238 : okTrue (runF Tryd.prog LkN 700 13 [.int .i64 (.ofNat 238)] st0) = true := by kernel_rfl
theorem nm239 : okTrue (runF Tryd.prog LkN 700 13 [.int .i64 (.ofNat 239)] st0) = true := by kernel_rfl
theorem nm240 : okTrue (runF Tryd.prog LkN 700 13 [.int .i64 (.ofNat 240)] st0) = true := by kernel_rfl
theorem nm241 : okTrue (runF Tryd.prog LkN 700 13 [.int .i64 (.ofNat 241)] st0) = true := by kernel_rfl
theorem nm242 : okTrue (runF Tryd.prog LkN 700 13 [.int .i64 (.ofNat 242)] st0) = true := by kernel_rfl
theorem nm243 : okTrue (runF Tryd.prog LkN 700 13 [.int .i64 (.ofNat 243)] st0) = true := by kernel_rfl
theorem nm244 : okTrue (runF Tryd.prog LkN 700 13 [.int .i64 (.ofNat 244)] st0) = true := by kernel_rfl
theorem nm245 : okTrue (runF Tryd.prog LkN 700 13 [.int .i64 (.ofNat 245)] st0) = true := by kernel_rfl
theorem nm246 : okTrue (runF Tryd.prog LkN 700 13 [.int .i64 (.ofNat 246)] st0) = true := by kernel_rfl
theorem nm247 : okTrue (runF Tryd.prog LkN 700 13 [.int .i64 (.ofNat 247)] st0) = true := by kernel_rfl
theorem nm248 : okTrue (runF Tryd.prog LkN 700 13 [.int .i64 (.ofNat 248)] st0) = true := by kernel_rfl
theorem nm249 : okTrue (runF Tryd.prog LkN 700 13 [.int .i64 (.ofNat 249)] st0) = true := by kernel_rfl
theorem nm250 : okTrue (runF Tryd.prog LkN 700 13 [.int .i64 (.ofNat 250)] st0) = true := by kernel_rfl
theorem nm251 : okTrue (runF Tryd.prog LkN 700 13 [.int .i64 (.ofNat 251)] st0) = true := by kernel_rfl
theorem nm252 : okTrue (runF Tryd.prog LkN 700 13 [.int .i64 (.ofNat 252)] st0) = true := by kernel_rfl
theorem nm253 : okTrue (runF Tryd.prog LkN 700 13 [.int .i64 (.ofNat 253)] st0) = true := by kernel_rfl
theorem nm254 : okTrue (runF Tryd.prog LkN 700 13 [.int .i64 (.ofNat 254)] st0) = true := by kernel_rfl
theorem nm255 : okTrue (runF Tryd.prog LkN 700 13 [.int .i64 (.ofNat 255)] st0) = true := by kernel_rfl
end Go.Proofs.YtfgdoliihmjnoaaDoorE
