/- Closed runs of a law in the evaluator. Printed by gen_runs.py. -/
import Derived.Test.YtfgdoliihmjnoaaDoorESt
namespace Go.Proofs.YtfgdoliihmjnoaaDoorE
open Go Go.E Go.Proofs
set_option maxRecDepth 100000
theorem op0 : okTrue (runF Tryd.prog Lk0 400 3 [.int .i64 (.ofNat 0)] st0) = true := by kernel_rfl
theorem op1 : okTrue (runF Tryd.prog Lk0 400 3 [.int .i64 (.ofNat 1)] st0) = true := by kernel_rfl
theorem op2 : okTrue (runF Tryd.prog Lk0 400 3 [.int .i64 (.ofNat 2)] st0) = true := by kernel_rfl
theorem op3 : okTrue (runF Tryd.prog Lk0 400 3 [.int .i64 (.ofNat 3)] st0) = true := by kernel_rfl
theorem op4 : okTrue (runF Tryd.prog Lk0 400 3 [.int .i64 (.ofNat 4)] st0) = true := by kernel_rfl
theorem op5 : okTrue (runF Tryd.prog Lk0 400 3 [.int .i64 (.ofNat 5)] st0) = true := by kernel_rfl
theorem op6 : okTrue (runF Tryd.prog Lk0 400 3 [.int .i64 (.ofNat 6)] st0) = true := by kernel_rfl
theorem op7 : okTrue (runF Tryd.prog Lk0 400 3 [.int .i64 (.ofNat 7)] st0) = true := by kernel_rfl
theorem op8 : okTrue (runF Tryd.prog Lk0 400 3 [.int .i64 (.ofNat 8)] st0) = true := by kernel_rfl
theorem op9 : okTrue (runF Tryd.prog Lk0 400 3 [.int .i64 (.ofNat 9)] st0) = true := by kernel_rfl
theorem op10 : okTrue (runF Tryd.prog Lk0 400 3 [.int .i64 (.ofNat 10)] st0) = true := by kernel_rfl
theorem op11 : okTrue (runF Tryd.prog Lk0 400 3 [.int .i64 (.ofNat 11)] st0) = true := by kernel_rfl
theorem op12 : okTrue (runF Tryd.prog Lk0 400 3 [.int .i64 (.ofNat 12)] st0) = true := by kernel_rfl
theorem op13 : okTrue (runF Tryd.prog Lk0 400 3 [.int .i64 (.ofNat 13)] st0) = true := by kernel_rfl
theorem op14 : okTrue (runF Tryd.prog Lk0 400 3 [.int .i64 (.ofNat 14)] st0) = true := by kernel_rfl
theorem op15 : okTrue (runF Tryd.prog Lk0 400 3 [.int .i64 (.ofNat 15)] st0) = true := by kernel_rfl
theorem op16 : okTrue (runF Tryd.prog Lk0 400 3 [.int .i64 (.ofNat 16)] st0) = true := by kernel_rfl
theorem op17 : okTrue (runF Tryd.prog Lk0 400 3 [.int .i64 (.ofNat 17)] st0) = true := by kernel_rfl
theorem op18 : okTrue (runF Tryd.prog Lk0 400 3 [.int .i64 (.ofNat 18)] st0) = true := by kernel_rfl
theorem op19 : okTrue (runF Tryd.prog Lk0 400 3 [.int .i64 (.ofNat 19)] st0) = true := by kernel_rfl
theorem op20 : okTrue (runF Tryd.prog Lk0 400 3 [.int .i64 (.ofNat 20)] st0) = true := by kernel_rfl
theorem op21 : okTrue (runF Tryd.prog Lk0 400 3 [.int .i64 (.ofNat 21)] st0) = true := by kernel_rfl
theorem op22 : okTrue (runF Tryd.prog Lk0 400 3 [.int .i64 (.ofNat 22)] st0) = true := by kernel_rfl
theorem op23 : okTrue (runF Tryd.prog Lk0 400 3 [.int .i64 (.ofNat 23)] st0) = true := by kernel_rfl
theorem op24 : okTrue (runF Tryd.prog Lk0 400 3 [.int .i64 (.ofNat 24)] st0) = true := by kernel_rfl
theorem op25 : okTrue (runF Tryd.prog Lk0 400 3 [.int .i64 (.ofNat 25)] st0) = true := by kernel_rfl
theorem op26 : okTrue (runF Tryd.prog Lk0 400 3 [.int .i64 (.ofNat 26)] st0) = true := by kernel_rfl
theorem op27 : okTrue (runF Tryd.prog Lk0 400 3 [.int .i64 (.ofNat 27)] st0) = true := by kernel_rfl
theorem op28 : okTrue (runF Tryd.prog Lk0 400 3 [.int .i64 (.ofNat 28)] st0) = true := by kernel_rfl
theorem op29 : okTrue (runF Tryd.prog Lk0 400 3 [.int .i64 (.ofNat 29)] st0) = true := by kernel_rfl
theorem op30 : okTrue (runF Tryd.prog Lk0 400 3 [.int .i64 (.ofNat 30)] st0) = true := by kernel_rfl
theorem op31 : okTrue (runF Tryd.prog Lk0 400 3 [.int .i64 (.ofNat 31)] st0) = true := by kernel_rfl
end Go.Proofs.YtfgdoliihmjnoaaDoorE
