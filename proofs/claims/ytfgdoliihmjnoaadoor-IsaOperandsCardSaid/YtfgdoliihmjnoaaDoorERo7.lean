/- Closed runs of a law in the evaluator. Printed by gen_runs.py. -/
import Derived.Test.YtfgdoliihmjnoaaDoorESt
namespace Go.Proofs.YtfgdoliihmjnoaaDoorE
open Go Go.E Go.Proofs
set_option maxRecDepth 100000
theorem op224 : okTrue (runF Tryd.prog Lk0 400 3 [.int .i64 (.ofNat 224)] st0) = true := by kernel_rfl
theorem op225 : okTrue (runF Tryd.prog Lk0 400 3 [.int .i64 (.ofNat 225)] st0) = true := by kernel_rfl
theorem op226 : okTrue (runF Tryd.prog Lk0 400 3 [.int .i64 (.ofNat 226)] st0) = true := by kernel_rfl
theorem op227 : okTrue (runF Tryd.prog Lk0 400 3 [.int .i64 (.ofNat 227)] st0) = true := by kernel_rfl
theorem op228 : okTrue (runF Tryd.prog Lk0 400 3 [.int .i64 (.ofNat 228)] st0) = true := by kernel_rfl
theorem op229 : okTrue (runF Tryd.prog Lk0 400 3 [.int .i64 (.ofNat 229)] st0) = true := by kernel_rfl
theorem op230 : okTrue (runF Tryd.prog Lk0 400 3 [.int .i64 (.ofNat 230)] st0) = true := by kernel_rfl
theorem op231 : okTrue (runF Tryd.prog Lk0 400 3 [.int .i64 (.ofNat 231)] st0) = true := by kernel_rfl
theorem op232 : okTrue (runF Tryd.prog Lk0 400 3 [.int .i64 (.ofNat 232)] st0) = true := by kernel_rfl
theorem op233 : okTrue (runF Tryd.prog Lk0 400 3 [.int .i64 (.ofNat 233)] st0) = true := by kernel_rfl
theorem op234 : okTrue (runF Tryd.prog Lk0 400 3 [.int .i64 (.ofNat 234)] st0) = true := by kernel_rfl
theorem op235 : okTrue (runF Tryd.prog Lk0 400 3 [.int .i64 (.ofNat 235)] st0) = true := by kernel_rfl
theorem op236 : okTrue (runF Tryd.prog Lk0 400 3 [.int .i64 (.ofNat 236)] st0) = true := by kernel_rfl
theorem op237 : okTrue (runF Tryd.prog Lk0 400 3 [.int .i64 (.ofNat 237)] st0) = true := by kernel_rfl
theorem op238 : okTrue (runF Tryd.prog Lk0 400 3 [.int .i64 (.ofNat 238)] st0) = true := by kernel_rfl
theorem op239 : okTrue (runF Tryd.prog Lk0 400 3 [.int .i64 (.ofNat 239)] st0) = true := by kernel_rfl
theorem op240 : okTrue (runF Tryd.prog Lk0 400 3 [.int .i64 (.ofNat 240)] st0) = true := by kernel_rfl
theorem op241 : okTrue (runF Tryd.prog Lk0 400 3 [.int .i64 (.ofNat 241)] st0) = true := by kernel_rfl
theorem op242 : okTrue (runF Tryd.prog Lk0 400 3 [.int .i64 (.ofNat 242)] st0) = true := by kernel_rfl
theorem op243 : okTrue (runF Tryd.prog Lk0 400 3 [.int .i64 (.ofNat 243)] st0) = true := by kernel_rfl
theorem op244 : okTrue (runF Tryd.prog Lk0 400 3 [.int .i64 (.ofNat 244)] st0) = true := by kernel_rfl
theorem op245 : okTrue (runF Tryd.prog Lk0 400 3 [.int .i64 (.ofNat 245)] st0) = true := by kernel_rfl
theorem op246 : okTrue (runF Tryd.prog Lk0 400 3 [.int .i64 (.ofNat 246)] st0) = true := by kernel_rfl
theorem op247 : okTrue (runF Tryd.prog Lk0 400 3 [.int .i64 (.ofNat 247)] st0) = true := by kernel_rfl
theorem op248 : okTrue (runF Tryd.prog Lk0 400 3 [.int .i64 (.ofNat 248)] st0) = true := by kernel_rfl
theorem op249 : okTrue (runF Tryd.prog Lk0 400 3 [.int .i64 (.ofNat 249)] st0) = true := by kernel_rfl
theorem op250 : okTrue (runF Tryd.prog Lk0 400 3 [.int .i64 (.ofNat 250)] st0) = true := by kernel_rfl
theorem op251 : okTrue (runF Tryd.prog Lk0 400 3 [.int .i64 (.ofNat 251)] st0) = true := by kernel_rfl
theorem op252 : okTrue (runF Tryd.prog Lk0 400 3 [.int .i64 (.ofNat 252)] st0) = true := by kernel_rfl
theorem op253 : okTrue (runF Tryd.prog Lk0 400 3 [.int .i64 (.ofNat 253)] st0) = true := by kernel_rfl
theorem op254 : okTrue (runF Tryd.prog Lk0 400 3 [.int .i64 (.ofNat 254)] st0) = true := by kernel_rfl
theorem op255 : okTrue (runF Tryd.prog Lk0 400 3 [.int .i64 (.ofNat 255)] st0) = true := by kernel_rfl
end Go.Proofs.YtfgdoliihmjnoaaDoorE
