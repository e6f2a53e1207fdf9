/- Closed runs of a law in the evaluator. Printed by gen_runs.py. -/
import Derived.Test.YtfgdoliihmjnoaaDoorESt
namespace Go.Proofs.YtfgdoliihmjnoaaDoorE
open Go Go.E Go.Proofs
set_option maxRecDepth 100000
theorem op32 : okTrue (runF Tryd.prog Lk0 400 3 [.int .i64 (.ofNat 32)] st0) = true := by kernel_rfl
theorem op33 : okTrue (runF Tryd.prog Lk0 400 3 [.int .i64 (.ofNat 33)] st0) = true := by kernel_rfl
theorem op34 : okTrue (runF Tryd.prog Lk0 400 3 [.int .i64 (.ofNat 34)] st0) = true := by kernel_rfl
theorem op35 : okTrue (runF Tryd.prog Lk0 400 3 [.int .i64 (.ofNat 35)] st0) = true := by kernel_rfl
theorem op36 : okTrue (runF Tryd.prog Lk0 400 3 [.int .i64 (.ofNat 36)] st0) = true := by kernel_rfl
theorem op37 : okTrue (runF Tryd.prog Lk0 400 3 [.int .i64 (.ofNat 37)] st0) = true := by kernel_rfl
theorem op38 : okTrue (runF Tryd.prog Lk0 400 3 [.int .i64 (.ofNat 38)] st0) = true := by kernel_rfl
theorem op39 : okTrue (runF Tryd.prog Lk0 400 3 [.int .i64 (.ofNat 39)] st0) = true := by kernel_rfl
theorem op40 : okTrue (runF Tryd.prog Lk0 400 3 [.int .i64 (.ofNat 40)] st0) = true := by kernel_rfl
theorem op41 : okTrue (runF Tryd.prog Lk0 400 3 [.int .i64 (.ofNat 41)] st0) = true := by kernel_rfl
theorem op42 : okTrue (runF Tryd.prog Lk0 400 3 [.int .i64 (.ofNat 42)] st0) = true := by kernel_rfl
theorem op43 : okTrue (runF Tryd.prog Lk0 400 3 [.int .i64 (.ofNat 43)] st0) = true := by kernel_rfl
theorem op44 : okTrue (runF Tryd.prog Lk0 400 3 [.int .i64 (.ofNat 44)] st0) = true := by kernel_rfl
theorem op45 : okTrue (runF Tryd.prog Lk0 400 3 [.int .i64 (.ofNat 45)] st0) = true := by kernel_rfl
theorem op46 : okTrue (runF Tryd.prog Lk0 400 3 [.int .i64 (.ofNat 46)] st0) = true := by kernel_rfl
theorem op47 : okTrue (runF Tryd.prog Lk0 400 3 [.int .i64 (.ofNat 47)] st0) = true := by kernel_rfl
theorem op48 : okTrue (runF Tryd.prog Lk0 400 3 [.int .i64 (.ofNat 48)] st0) = true := by kernel_rfl
theorem op49 : okTrue (runF Tryd.prog Lk0 400 3 [.int .i64 (.ofNat 49)] st0) = true := by kernel_rfl
theorem op50 : okTrue (runF Tryd.prog Lk0 400 3 [.int .i64 (.ofNat 50)] st0) = true := by kernel_rfl
theorem op51 : okTrue (runF Tryd.prog Lk0 400 3 [.int .i64 (.ofNat 51)] st0) = true := by kernel_rfl
theorem op52 : okTrue (runF Tryd.prog Lk0 400 3 [.int .i64 (.ofNat 52)] st0) = true := by kernel_rfl
theorem op53 : okTrue (runF Tryd.prog Lk0 400 3 [.int .i64 (.ofNat 53)] st0) = true := by kernel_rfl
theorem op54 : okTrue (runF Tryd.prog Lk0 400 3 [.int .i64 (.ofNat 54)] st0) = true := by kernel_rfl
theorem op55 : okTrue (runF Tryd.prog Lk0 400 3 [.int .i64 (.ofNat 55)] st0) = true := by kernel_rfl
theorem op56 : okTrue (runF Tryd.prog Lk0 400 3 [.int .i64 (.ofNat 56)] st0) = true := by kernel_rfl
theorem op57 : okTrue (runF Tryd.prog Lk0 400 3 [.int .i64 (.ofNat 57)] st0) = true := by kernel_rfl
theorem op58 : okTrue (runF Tryd.prog Lk0 400 3 [.int .i64 (.ofNat 58)] st0) = true := by kernel_rfl
theorem op59 : okTrue (runF Tryd.prog Lk0 400 3 [.int .i64 (.ofNat 59)] st0) = true := by kernel_rfl
theorem op60 : okTrue (runF Tryd.prog Lk0 400 3 [.int .i64 (.ofNat 60)] st0) = true := by kernel_rfl
theorem op61 : okTrue (runF Tryd.prog Lk0 400 3 [.int .i64 (.ofNat 61)] st0) = true := by kernel_rfl
theorem op62 : okTrue (runF Tryd.prog Lk0 400 3 [.int .i64 (.ofNat 62)] st0) = true := by kernel_rfl
theorem op63 : okTrue (runF Tryd.prog Lk0 400 3 [.int .i64 (.ofNat 63)] st0) = true := by kernel_rfl
end Go.Proofs.YtfgdoliihmjnoaaDoorE
