/- Closed runs of a law in the evaluator. Printed by gen_runs.py. -/
import Derived.Test.YtfgdoliihmjnoaaDoorESt
namespace Go.Proofs.YtfgdoliihmjnoaaDoorE
open Go Go.E Go.Proofs
set_option maxRecDepth 100000
theorem sz0 : okTrue (runF Tryd.prog Lk0 400 4 [.int .i64 (.ofNat 0)] st0) = true := by kernel_rfl
theorem sz1 : okTrue (runF Tryd.prog Lk0 400 4 [.int .i64 (.ofNat 1)] st0) = true := by kernel_rfl
theorem sz2 : okTrue (runF Tryd.prog Lk0 400 4 [.int .i64 (.ofNat 2)] st0) = true := by kernel_rfl
theorem sz3 : okTrue (runF Tryd.prog Lk0 400 4 [.int .i64 (.ofNat 3)] st0) = true := by kernel_rfl
theorem sz4 : okTrue (runF Tryd.prog Lk0 400 4 [.int .i64 (.ofNat 4)] st0) = true := by kernel_rfl
theorem sz5 : okTrue (runF Tryd.prog Lk0 400 4 [.int .i64 (.ofNat 5)] st0) = true := by kernel_rfl
theorem sz6 : okTrue (runF Tryd.prog Lk0 400 4 [.int .i64 (.ofNat 6)] st0) = true := by kernel_rfl
theorem sz7 : okTrue (runF Tryd.prog Lk0 400 4 [.int .i64 (.ofNat 7)] st0) = true := by kernel_rfl
theorem sz8 : okTrue (runF Tryd.prog Lk0 400 4 [.int .i64 (.ofNat 8)] st0) = true := by kernel_rfl
theorem sz9 : okTrue (runF Tryd.prog Lk0 400 4 [.int .i64 (.ofNat 9)] st0) = true := by kernel_rfl
theorem sz10 : okTrue (runF Tryd.prog Lk0 400 4 [.int .i64 (.ofNat 10)] st0) = true := by kernel_rfl
theorem sz11 : okTrue (runF Tryd.prog Lk0 400 4 [.int .i64 (.ofNat 11)] st0) = true := by kernel_rfl
end Go.Proofs.YtfgdoliihmjnoaaDoorE
