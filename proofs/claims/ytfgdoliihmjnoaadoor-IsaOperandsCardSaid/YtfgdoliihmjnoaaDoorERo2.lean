/- Closed runs of a law in the evaluator. Printed by gen_runs.py. -/
import Derived.Test.YtfgdoliihmjnoaaDoorESt
namespace Go.Proofs.YtfgdoliihmjnoaaDoorE
open Go Go.E Go.Proofs
set_option maxRecDepth 100000
theorem op64 : okTrue (runF Tryd.prog Lk0 400 3 [.int .i64 (.ofNat 64)] st0) = true := by kernel_rfl
theorem op65 : okTrue (runF Tryd.prog Lk0 400 3 [.int .i64 (.ofNat 65)] st0) = true := by kernel_rfl
theorem op66 : okTrue (runF Tryd.prog Lk0 400 3 [.int .i64 (.ofNat 66)] st0) = true := by kernel_rfl
theorem op67 : okTrue (runF Tryd.prog Lk0 400 3 [.int .i64 (.ofNat 67)] st0) = true := by kernel_rfl
theorem op68 : okTrue (runF Tryd.prog Lk0 400 3 [.int .i64 (.ofNat 68)] st0) = true := by kernel_rfl
theorem op69 : okTrue (runF Tryd.prog Lk0 400 3 [.int .i64 (.ofNat 69)] st0) = true := by kernel_rfl
theorem op70 : okTrue (runF Tryd.prog Lk0 400 3 [.int .i64 (.ofNat 70)] st0) = true := by kernel_rfl
theorem op71 : okTrue (runF Tryd.prog Lk0 400 3 [.int .i64 (.ofNat 71)] st0) = true := by kernel_rfl
theorem op72 : okTrue (runF Tryd.prog Lk0 400 3 [.int .i64 (.ofNat 72)] st0) = true := by kernel_rfl
theorem op73 : okTrue (runF Tryd.prog Lk0 400 3 [.int .i64 (.ofNat 73)] st0) = true := by kernel_rfl
theorem op74 : okTrue (runF Tryd.prog Lk0 400 3 [.int .i64 (.ofNat 74)] st0) = true := by kernel_rfl
theorem op75 : okTrue (runF Tryd.prog Lk0 400 3 [.int .i64 (.ofNat 75)] st0) = true := by kernel_rfl
theorem op76 : okTrue (runF Tryd.prog Lk0 400 3 [.int .i64 (.ofNat 76)] st0) = true := by kernel_rfl
theorem op77 : okTrue (runF Tryd.prog Lk0 400 3 [.int .i64 (.ofNat 77)] st0) = true := by kernel_rfl
theorem op78 : okTrue (runF Tryd.prog Lk0 400 3 [.int .i64 (.ofNat 78)] st0) = true := by kernel_rfl
theorem op79 : okTrue (runF Tryd.prog Lk0 400 3 [.int .i64 (.ofNat 79)] st0) = true := by kernel_rfl
theorem op80 : okTrue (runF Tryd.prog Lk0 400 3 [.int .i64 (.ofNat 80)] st0) = true := by kernel_rfl
theorem op81 : okTrue (runF Tryd.prog Lk0 400 3 [.int .i64 (.ofNat 81)] st0) = true := by kernel_rfl
theorem op82 : okTrue (runF Tryd.prog Lk0 400 3 [.int .i64 (.ofNat 82)] st0) = true := by kernel_rfl
theorem op83 : okTrue (runF Tryd.prog Lk0 400 3 [.int .i64 (.ofNat 83)] st0) = true := by kernel_rfl
theorem op84 : okTrue (runF Tryd.prog Lk0 400 3 [.int .i64 (.ofNat 84)] st0) = true := by kernel_rfl
theorem op85 : okTrue (runF Tryd.prog Lk0 400 3 [.int .i64 (.ofNat 85)] st0) = true := by kernel_rfl
theorem op86 : okTrue (runF Tryd.prog Lk0 400 3 [.int .i64 (.ofNat 86)] st0) = true := by kernel_rfl
theorem op87 : okTrue (runF Tryd.prog Lk0 400 3 [.int .i64 (.ofNat 87)] st0) = true := by kernel_rfl
theorem op88 : okTrue (runF Tryd.prog Lk0 400 3 [.int .i64 (.ofNat 88)] st0) = true := by kernel_rfl
theorem op89 : okTrue (runF Tryd.prog Lk0 400 3 [.int .i64 (.ofNat 89)] st0) = true := by kernel_rfl
theorem op90 : okTrue (runF Tryd.prog Lk0 400 3 [.int .i64 (.ofNat 90)] st0) = true := by kernel_rfl
theorem op91 : okTrue (runF Tryd.prog Lk0 400 3 [.int .i64 (.ofNat 91)] st0) = true := by kernel_rfl
theorem op92 : okTrue (runF Tryd.prog Lk0 400 3 [.int .i64 (.ofNat 92)] st0) = true := by kernel_rfl
theorem op93 : okTrue (runF Tryd.prog Lk0 400 3 [.int .i64 (.ofNat 93)] st0) = true := by kernel_rfl
theorem op94 : okTrue (runF Tryd.prog Lk0 400 3 [.int .i64 (.ofNat 94)] st0) = true := by kernel_rfl
theorem op95 : okTrue (runF Tryd.prog Lk0 400 3 [.int .i64 (.ofNat 95)] st0) = true := by kernel_rfl
end Go.Proofs.YtfgdoliihmjnoaaDoorE
