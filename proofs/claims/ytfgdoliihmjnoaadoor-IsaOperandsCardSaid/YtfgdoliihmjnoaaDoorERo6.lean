/- Closed runs of a law in the evaluator. Printed by gen_runs.py. -/
import Derived.Test.YtfgdoliihmjnoaaDoorESt
namespace Go.Proofs.YtfgdoliihmjnoaaDoorE
open Go Go.E Go.Proofs
set_option maxRecDepth 100000
theorem op192 : okTrue (runF Tryd.prog Lk0 400 3 [.int .i64 (.ofNat 192)] st0) = true := by kernel_rfl
theorem op193 : okTrue (runF Tryd.prog Lk0 400 3 [.int .i64 (.ofNat 193)] st0) = true := by kernel_rfl
theorem op194 : okTrue (runF Tryd.prog Lk0 400 3 [.int .i64 (.ofNat 194)] st0) = true := by kernel_rfl
theorem op195 : okTrue (runF Tryd.prog Lk0 400 3 [.int .i64 (.ofNat 195)] st0) = true := by kernel_rfl
theorem op196 : okTrue (runF Tryd.prog Lk0 400 3 [.int .i64 (.ofNat 196)] st0) = true := by kernel_rfl
theorem op197 : okTrue (runF Tryd.prog Lk0 400 3 [.int .i64 (.ofNat 197)] st0) = true := by kernel_rfl
theorem op198 : okTrue (runF Tryd.prog Lk0 400 3 [.int .i64 (.ofNat 198)] st0) = true := by kernel_rfl
theorem op199 : okTrue (runF Tryd.prog Lk0 400 3 [.int .i64 (.ofNat 199)] st0) = true := by kernel_rfl
theorem op200 : okTrue (runF Tryd.prog Lk0 400 3 [.int .i64 (.ofNat 200)] st0) = true := by kernel_rfl
theorem op201 : okTrue (runF Tryd.prog Lk0 400 3 [.int .i64 (.ofNat 201)] st0) = true := by kernel_rfl
theorem op202 : okTrue (runF Tryd.prog Lk0 400 3 [.int .i64 (.ofNat 202)] st0) = true := by kernel_rfl
theorem op203 : okTrue (runF Tryd.prog Lk0 400 3 [.int .i64 (.ofNat 203)] st0) = true := by kernel_rfl
theorem op204 : okTrue (runF Tryd.prog Lk0 400 3 [.int .i64 (.ofNat 204)] st0) = true := by kernel_rfl
theorem op205 : okTrue (runF Tryd.prog Lk0 400 3 [.int .i64 (.ofNat 205)] st0) = true := by kernel_rfl
theorem op206 : okTrue (runF Tryd.prog Lk0 400 3 [.int .i64 (.ofNat 206)] st0) = true := by kernel_rfl
theorem op207 : okTrue (runF Tryd.prog Lk0 400 3 [.int .i64 (.ofNat 207)] st0) = true := by kernel_rfl
theorem op208 : okTrue (runF Tryd.prog Lk0 400 3 [.int .i64 (.ofNat 208)] st0) = true := by kernel_rfl
theorem op209 : okTrue (runF Tryd.prog Lk0 400 3 [.int .i64 (.ofNat 209)] st0) = true := by kernel_rfl
theorem op210 : okTrue (runF Tryd.prog Lk0 400 3 [.int .i64 (.ofNat 210)] st0) = true := by kernel_rfl
theorem op211 : okTrue (runF Tryd.prog Lk0 400 3 [.int .i64 (.ofNat 211)] st0) = true := by kernel_rfl
theorem op212 : okTrue (runF Tryd.prog Lk0 400 3 [.int .i64 (.ofNat 212)] st0) = true := by kernel_rfl
theorem op213 : okTrue (runF Tryd.prog Lk0 400 3 [.int .i64 (.ofNat 213)] st0) = true := by kernel_rfl
theorem op214 : okTrue (runF Tryd.prog Lk0 400 3 [.int .i64 (.ofNat 214)] st0) = true := by kernel_rfl
theorem op215 : okTrue (runF Tryd.prog Lk0 400 3 [.int .i64 (.ofNat 215)] st0) = true := by kernel_rfl
theorem op216 : okTrue (runF Tryd.prog Lk0 400 3 [.int .i64 (.ofNat 216)] st0) = true := by kernel_rfl
theorem op217 : okTrue (runF Tryd.prog Lk0 400 3 [.int .i64 (.ofNat 217)] st0) = true := by kernel_rfl
theorem op218 : okTrue (runF Tryd.prog Lk0 400 3 [.int .i64 (.ofNat 218)] st0) = true := by kernel_rfl
theorem op219 : okTrue (runF Tryd.prog Lk0 400 3 [.int .i64 (.ofNat 219)] st0) = true := by kernel_rfl
theorem op220 : okTrue (runF Tryd.prog Lk0 400 3 [.int .i64 (.ofNat 220)] st0) = true := by kernel_rfl
theorem op221 : okTrue (runF Tryd.prog Lk0 400 3 [.int .i64 (.ofNat 221)] st0) = true := by kernel_rfl
theorem op222 : okTrue (runF Tryd.prog Lk0 400 3 [.int .i64 (.ofNat 222)] st0) = true := by kernel_rfl
theorem op223 : okTrue (runF Tryd.prog Lk0 400 3 [.int .i64 (.ofNat 223)] st0) = true := by kernel_rfl
end Go.Proofs.YtfgdoliihmjnoaaDoorE
