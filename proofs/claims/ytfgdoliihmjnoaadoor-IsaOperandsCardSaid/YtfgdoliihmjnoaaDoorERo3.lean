/- Closed runs of a law in the evaluator. Printed by gen_runs.py. -/
import Derived.Test.YtfgdoliihmjnoaaDoorESt
namespace Go.Proofs.YtfgdoliihmjnoaaDoorE
open Go Go.E Go.Proofs
set_option maxRecDepth 100000
theorem op96 : okTrue (runF Tryd.prog Lk0 400 3 [.int .i64 (.ofNat 96)] st0) = true := by kernel_rfl
theorem op97 : okTrue (runF Tryd.prog Lk0 400 3 [.int .i64 (.ofNat 97)] st0) = true := by kernel_rfl
theorem op98 : okTrue (runF Tryd.prog Lk0 400 3 [.int .i64 (.ofNat 98)] st0) = true := by kernel_rfl
theorem op99 : okTrue (runF Tryd.prog Lk0 400 3 [.int .i64 (.ofNat 99)] st0) = true := by kernel_rfl
theorem op100 : okTrue (runF Tryd.prog Lk0 400 3 [.int .i64 (.ofNat 100)] st0) = true := by kernel_rfl
theorem op101 : okTrue (runF Tryd.prog Lk0 400 3 [.int .i64 (.ofNat 101)] st0) = true := by kernel_rfl
theorem op102 : okTrue (runF Tryd.prog Lk0 400 3 [.int .i64 (.ofNat 102)] st0) = true := by kernel_rfl
theorem op103 : okTrue (runF Tryd.prog Lk0 400 3 [.int .i64 (.ofNat 103)] st0) = true := by kernel_rfl
theorem op104 : okTrue (runF Tryd.prog Lk0 400 3 [.int .i64 (.ofNat 104)] st0) = true := by kernel_rfl
theorem op105 : okTrue (runF Tryd.prog Lk0 400 3 [.int .i64 (.ofNat 105)] st0) = true := by kernel_rfl
theorem op106 : okTrue (runF Tryd.prog Lk0 400 3 [.int .i64 (.ofNat 106)] st0) = true := by kernel_rfl
theorem op107 : okTrue (runF Tryd.prog Lk0 400 3 [.int .i64 (.ofNat 107)] st0) = true := by kernel_rfl
theorem op108 : okTrue (runF Tryd.prog Lk0 400 3 [.int .i64 (.ofNat 108)] st0) = true := by kernel_rfl
theorem op109 : okTrue (runF Tryd.prog Lk0 400 3 [.int .i64 (.ofNat 109)] st0) = true := by kernel_rfl
theorem op110 : okTrue (runF Tryd.prog Lk0 400 3 [.int .i64 (.ofNat 110)] st0) = true := by kernel_rfl
theorem op111 : okTrue (runF Tryd.prog Lk0 400 3 [.int .i64 (.ofNat 111)] st0) = true := by kernel_rfl
theorem op112 : okTrue (runF Tryd.prog Lk0 400 3 [.int .i64 (.ofNat 112)] st0) = true := by kernel_rfl
theorem op113 : okTrue (runF Tryd.prog Lk0 400 3 [.int .i64 (.ofNat 113)] st0) = true := by kernel_rfl
theorem op114 : okTrue (runF Tryd.prog Lk0 400 3 [.int .i64 (.ofNat 114)] st0) = true := by kernel_rfl
theorem op115 : okTrue (runF Tryd.prog Lk0 400 3 [.int .i64 (.ofNat 115)] st0) = true := by kernel_rfl
theorem op116 : okTrue (runF Tryd.prog Lk0 400 3 [.int .i64 (.ofNat 116)] st0) = true := by kernel_rfl
theorem op117 : okTrue (runF Tryd.prog Lk0 400 3 [.int .i64 (.ofNat 117)] st0) = true := by kernel_rfl
theorem op118 : okTrue (runF Tryd.prog Lk0 400 3 [.int .i64 (.ofNat 118)] st0) = true := by kernel_rfl
theorem op119 : okTrue (runF Tryd.prog Lk0 400 3 [.int .i64 (.ofNat 119)] st0) = true := by kernel_rfl
theorem op120 : okTrue (runF Tryd.prog Lk0 400 3 [.int .i64 (.ofNat 120)] st0) = true := by kernel_rfl
theorem op121 : okTrue (runF Tryd.prog Lk0 400 3 [.int .i64 (.ofNat 121)] st0) = true := by kernel_rfl
theorem op122 : okTrue (runF Tryd.prog Lk0 400 3 [.int .i64 (.ofNat 122)] st0) = true := by kernel_rfl
theorem op123 : okTrue (runF Tryd.prog Lk0 400 3 [.int .i64 (.ofNat 123)] st0) = true := by kernel_rfl
theorem op124 : okTrue (runF Tryd.prog Lk0 400 3 [.int .i64 (.ofNat 124)] st0) = true := by kernel_rfl
theorem op125 : okTrue (runF Tryd.prog Lk0 400 3 [.int .i64 (.ofNat 125)] st0) = true := by kernel_rfl
theorem op126 : okTrue (runF Tryd.prog Lk0 400 3 [.int .i64 (.ofNat 126)] st0) = true := by kernel_rfl
theorem op127 : okTrue (runF Tryd.prog Lk0 400 3 [.int .i64 (.ofNat 127)] st0) = true := by kernel_rfl
end Go.Proofs.YtfgdoliihmjnoaaDoorE
