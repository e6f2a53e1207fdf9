/- Closed runs of a law in the evaluator. Printed by gen_runs.py. -/
import Derived.Test.YtfgdoliihmjnoaaDoorESt
namespace Go.Proofs.YtfgdoliihmjnoaaDoorE
open Go Go.E Go.Proofs
set_option maxRecDepth 100000
theorem op128 : okTrue (runF Tryd.prog Lk0 400 3 [.int .i64 (.ofNat 128)] st0) = true := by kernel_rfl
theorem op129 : okTrue (runF Tryd.prog Lk0 400 3 [.int .i64 (.ofNat 129)] st0) = true := by kernel_rfl
theorem op130 : okTrue (runF Tryd.prog Lk0 400 3 [.int .i64 (.ofNat 130)] st0) = true := by kernel_rfl
theorem op131 : okTrue (runF Tryd.prog Lk0 400 3 [.int .i64 (.ofNat 131)] st0) = true := by kernel_rfl
theorem op132 : okTrue (runF Tryd.prog Lk0 400 3 [.int .i64 (.ofNat 132)] st0) = true := by kernel_rfl
theorem op133 : okTrue (runF Tryd.prog Lk0 400 3 [.int .i64 (.ofNat 133)] st0) = true := by kernel_rfl
theorem op134 : okTrue (runF Tryd.prog Lk0 400 3 [.int .i64 (.ofNat 134)] st0) = true := by kernel_rfl
theorem op135 : okTrue (runF Tryd.prog Lk0 400 3 [.int .i64 (.ofNat 135)] st0) = true := by kernel_rfl
theorem op136 : okTrue (runF Tryd.prog Lk0 400 3 [.int .i64 (.ofNat 136)] st0) = true := by kernel_rfl
theorem op137 : okTrue (runF Tryd.prog Lk0 400 3 [.int .i64 (.ofNat 137)] st0) = true := by kernel_rfl
theorem op138 : okTrue (runF Tryd.prog Lk0 400 3 [.int .i64 (.ofNat 138)] st0) = true := by kernel_rfl
theorem op139 : okTrue (runF Tryd.prog Lk0 400 3 [.int .i64 (.ofNat 139)] st0) = true := by kernel_rfl
theorem op140 : okTrue (runF Tryd.prog Lk0 400 3 [.int .i64 (.ofNat 140)] st0) = true := by kernel_rfl
theorem op141 : okTrue (runF Tryd.prog Lk0 400 3 [.int .i64 (.ofNat 141)] st0) = true := by kernel_rfl
theorem op142 : okTrue (runF Tryd.prog Lk0 400 3 [.int .i64 (.ofNat 142)] st0) = true := by kernel_rfl
theorem op143 : okTrue (runF Tryd.prog Lk0 400 3 [.int .i64 (.ofNat 143)] st0) = true := by kernel_rfl
theorem op144 : okTrue (runF Tryd.prog Lk0 400 3 [.int .i64 (.ofNat 144)] st0) = true := by kernel_rfl
theorem op145 : okTrue (runF Tryd.prog Lk0 400 3 [.int .i64 (.ofNat 145)] st0) = true := by kernel_rfl
theorem op146 : okTrue (runF Tryd.prog Lk0 400 3 [.int .i64 (.ofNat 146)] st0) = true := by kernel_rfl
theorem op147 : okTrue (runF Tryd.prog Lk0 400 3 [.int .i64 (.ofNat 147)] st0) = true := by kernel_rfl
theorem op148 : okTrue (runF Tryd.prog Lk0 400 3 [.int .i64 (.ofNat 148)] st0) = true := by kernel_rfl
theorem op149 : okTrue (runF Tryd.prog Lk0 400 3 [.int .i64 (.ofNat 149)] st0) = true := by kernel_rfl
theorem op150 : okTrue (runF Tryd.prog Lk0 400 3 [.int .i64 (.ofNat 150)] st0) = true := by kernel_rfl
theorem op151 : okTrue (runF Tryd.prog Lk0 400 3 [.int .i64 (.ofNat 151)] st0) = true := by kernel_rfl
theorem op152 : okTrue (runF Tryd.prog Lk0 400 3 [.int .i64 (.ofNat 152)] st0) = true := by kernel_rfl
theorem op153 : okTrue (runF Tryd.prog Lk0 400 3 [.int .i64 (.ofNat 153)] st0) = true := by kernel_rfl
theorem op154 : okTrue (runF Tryd.prog Lk0 400 3 [.int .i64 (.ofNat 154)] st0) = true := by kernel_rfl
theorem op155 : okTrue (runF Tryd.prog Lk0 400 3 [.int .i64 (.ofNat 155)] st0) = true := by kernel_rfl
theorem op156 : okTrue (runF Tryd.prog Lk0 400 3 [.int .i64 (.ofNat 156)] st0) = true := by kernel_rfl
theorem op157 : okTrue (runF Tryd.prog Lk0 400 3 [.int .i64 (.ofNat 157)] st0) = true := by kernel_rfl
theorem op158 : okTrue (runF Tryd.prog Lk0 400 3 [.int .i64 (.ofNat 158)] st0) = true := by kernel_rfl
theorem op159 : okTrue (runF Tryd.prog Lk0 400 3 [.int .i64 (.ofNat 159)] st0) = true := by kernel_rfl
end Go.Proofs.YtfgdoliihmjnoaaDoorE
