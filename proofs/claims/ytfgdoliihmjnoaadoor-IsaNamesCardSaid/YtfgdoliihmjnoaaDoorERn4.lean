/- Closed runs of IsaNames. Printed by gen_con.py. -/
import Derived.Test.YtfgdoliihmjnoaaDoorELkN
set_option linter.unusedSimpArgs false
set_option linter.unusedVariables false
namespace Go.Proofs.YtfgdoliihmjnoaaDoorE
open Go Go.E Go.Proofs
set_option maxRecDepth 100000
theorem nm128 : okTrue (runF Tryd.prog LkN 700 13 [.int .i64 (.ofNat 128)] st0) = true := by kernel_rfl
theorem nm129 : okTrue (runF Tryd.prog LkN 700 13 [.int .i64 (.ofNat 129)] st0) = true := by kernel_rfl
theorem nm130 : okTrue (runF Tryd.prog LkN 700 13 [.int .i64 (.ofNat 130)] st0) = true := by kernel_rfl
theorem nm131 : okTrue (runF Tryd.prog LkN 700 13 [.int .i64 (.ofNat 131)] st0) = true := by kernel_rfl
theorem nm132 : okTrue (runF Tryd.prog LkN 700 13 [.int .i64 (.ofNat 132)] st0) = true := by kernel_rfl
theorem nm133 : okTrue (runF Tryd.prog LkN 700 13 [.int .i64 (.ofNat 133)] st0) = true := by kernel_rfl
theorem nm134 : okTrue (runF Tryd.prog LkN 700 13 [.int .i64 (.ofNat 134)] st0) = true := by kernel_rfl
theorem nm135 : okTrue (runF Tryd.prog LkN 700 13 [.int .i64 (.ofNat 135)] st0) = true := by kernel_rfl
theorem nm136 : okTrue (runF Tryd.prog LkN 700 13 [.int .i64 (.ofNat 136)] st0) = true := by kernel_rfl
theorem nm137 : okTrue (runF Tryd.prog LkN 700 13 [.int .i64 (.ofNat 137)] st0) = true := by kernel_rfl
theorem nm138 : okTrue (runF Tryd.prog LkN 700 13 [.int .i64 (.ofNat 138)] st0) = true := by kernel_rfl
theorem nm139 : okTrue (runF Tryd.prog LkN 700 13 [.int .i64 (.ofNat 139)] st0) = true := by kernel_rfl
theorem nm140 : okTrue (runF Tryd.prog LkN 700 13 [.int .i64 (.ofNat 140)] st0) = true := by kernel_rfl
theorem nm141 : okTrue (runF Tryd.prog LkN 700 13 [.int .i64 (.ofNat 141)] st0) = true := by kernel_rfl
theorem nm142 : okTrue (runF Tryd.prog LkN 700 13 [.int .i64 (.ofNat 142)] st0) = true := by kernel_rfl
theorem nm143 : okTrue (runF Tryd.prog LkN 700 13 [.int .i64 (.ofNat 143)] st0) = true := by kernel_rfl
theorem nm144 : okTrue (runF Tryd.prog LkN 700 13 [.int .i64 (.ofNat 144)] st0) = true := by kernel_rfl
theorem nm145 : okTrue (runF Tryd.prog LkN 700 13 [.int .i64 (.ofNat 145)] st0) = true := by kernel_rfl
theorem nm146 : okTrue (runF Tryd.prog LkN 700 13 [.int .i64 (.ofNat 146)] st0) = true := by kernel_rfl
theorem nm147 : okTrue (runF Tryd.prog LkN 700 13 [.int .i64 (.ofNat 147)] st0) = true := by kernel_rfl
theorem nm148 : okTrue (runF Tryd.prog LkN 700 13 [.int .i64 (.ofNat 148)] st0) = true := by kernel_rfl
theorem nm149 : okTrue (runF Tryd.prog LkN 700 13 [.int .i64 (.ofNat 149)] st0) = true := by kernel_rfl
theorem nm150 : okTrue (runF Tryd.prog LkN 700 13 [.int .i64 (.ofNat 150)] st0) = true := by kernel_rfl
theorem nm151 : okTrue (runF Tryd.prog LkN 700 13 [.int .i64 (.ofNat 151)] st0) = true := by kernel_rfl
theorem nm152 : okTrue (runF Tryd.prog LkN 700 13 [.int .i64 (.ofNat 152)] st0) = true := by kernel_rfl
theorem nm153 : okTrue (runF Tryd.prog LkN 700 13 [.int .i64 (.ofNat 153)] st0) = true := by kernel_rfl
theorem nm154 : okTrue (runF Tryd.prog LkN 700 13 [.int .i64 (.ofNat 154)] st0) = true := by kernel_rfl
theorem nm155 : okTrue (runF Tryd.prog LkN 700 13 [.int .i64 (.ofNat 155)] st0) = true := by kernel_rfl
theorem nm156 : okTrue (runF Tryd.prog LkN 700 13 [.int .i64 (.ofNat 156)] st0) = true := by kernel_rfl
theorem nm157 : okTrue (runF Tryd.prog LkN 700 13 [.int .i64 (.ofNat 157)] st0) = true := by kernel_rfl
theorem nm158 : okTrue (runF Tryd.prog LkN 700 13 [.int .i64 (.ofNat 158)] st0) = true := by kernel_rfl
theorem nm159 : okTrue (runF Tryd.prog LkN 700 13 [.int .i64 (.ofNat 159)] st0) = true := by kernel_rfl
end Go.Proofs.YtfgdoliihmjnoaaDoorE
