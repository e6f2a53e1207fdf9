/- Closed runs of a law in the evaluator. Printed by gen_runs.py. -/
import Derived.Test.YtfgdoliihmjnoaaDoorESt
namespace Go.Proofs.YtfgdoliihmjnoaaDoorE
open Go Go.E Go.Proofs
set_option maxRecDepth 100000
theorem sz12 : okTrue (runF Tryd.prog Lk0 400 4 [.int .i64 (.ofNat 12)] st0) = true := by kernel_rfl
theorem sz13 : okTrue (runF Tryd.prog Lk0 400 4 [.int .i64 (.ofNat 13)] st0) = true := by kernel_rfl
theorem sz14 : okTrue (runF Tryd.prog Lk0 400 4 [.int .i64 (.ofNat 14)] st0) = true := by kernel_rfl
theorem sz15 : okTrue (runF Tryd.prog Lk0 400 4 [.int .i64 (.ofNat 15)] st0) = true := by kernel_rfl
theorem sz16 : okTrue (runF Tryd.prog Lk0 400 4 [.int .i64 (.ofNat 16)] st0) = true := by kernel_rfl
theorem sz17 : okTrue (runF Tryd.prog Lk0 400 4 [.int .i64 (.ofNat 17)] st0) = true := by kernel_rfl
theorem sz18 : okTrue (runF Tryd.prog Lk0 400 4 [.int .i64 (.ofNat 18)] st0) = true := by kernel_rfl
theorem sz19 : okTrue (runF Tryd.prog Lk0 400 4 [.int .i64 (.ofNat 19)] st0) = true := by kernel_rfl
theorem sz20 : okTrue (runF Tryd.prog Lk0 400 4 [.int .i64 (.ofNat 20)] st0) = true := by kernel_rfl
theorem sz21 : okTrue (runF Tryd.prog Lk0 400 4 [.int .i64 (.ofNat 21)] st0) = true := by kernel_rfl
theorem sz22 : okTrue (runF Tryd.prog Lk0 400 4 [.int .i64 (.ofNat 22)] st0) = true := by kernel_rfl
theorem sz23 : okTrue (runF Tryd.prog Lk0 400 4 [.int .i64 (.ofNat 23)] st0) = true := by kernel_rfl
end Go.Proofs.YtfgdoliihmjnoaaDoorE
