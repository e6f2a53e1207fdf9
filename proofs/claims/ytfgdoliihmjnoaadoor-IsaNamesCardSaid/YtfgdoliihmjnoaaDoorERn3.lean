/- Closed runs of IsaNames. Printed by gen_con.py. -/
import Derived.Test.YtfgdoliihmjnoaaDoorELkN
set_option linter.unusedSimpArgs false
set_option linter.unusedVariables false
namespace Go.Proofs.YtfgdoliihmjnoaaDoorE
open Go Go.E Go.Proofs
set_option maxRecDepth 100000
theorem nm96 : okTrue (runF Tryd.prog LkN 700 13 [.int .i64 (.ofNat 96)] st0) = true := by kernel_rfl
theorem nm97 : okTrue (runF Tryd.prog LkN 700 13 [.int .i64 (.ofNat 97)] st0) = true := by kernel_rfl
theorem nm98 : okTrue (runF Tryd.prog LkN 700 13 [.int .i64 (.ofNat 98)] st0) = true := by kernel_rfl
theorem nm99 : okTrue (runF Tryd.prog LkN 700 13 [.int .i64 (.ofNat 99)] st0) = true := by kernel_rfl
theorem nm100 : okTrue (runF Tryd.prog LkN 700 13 [.int .i64 (.ofNat 100)] st0) = true := by kernel_rfl
theorem nm101 : okTrue (runF Tryd.prog LkN 700 13 [.int .i64 (.ofNat 101)] st0) = true := by kernel_rfl
theorem nm102 : okTrue (runF Tryd.prog LkN 700 13 [.int .i64 (.ofNat 102)] st0) = true := by kernel_rfl
theorem nm103 : okTrue (runF Tryd.prog LkN 700 13 [.int .i64 (.ofNat 103)] st0) = true := by kernel_rfl
theorem nm104 : okTrue (runF Tryd.prog LkN 700 13 [.int .i64 (.ofNat 104)] st0) = true := by kernel_rfl
theorem nm105 : okTrue (runF Tryd.prog LkN 700 13 [.int .i64 (.ofNat 105)] st0) = true := by kernel_rfl
theorem nm106 : okTrue (runF Tryd.prog LkN 700 13 [.int .i64 (.ofNat 106)] st0) = true := by kernel_rfl
theorem nm107 : okTrue (runF Tryd.prog LkN 700 13 [.int .i64 (.ofNat 107)] st0) = true := by kernel_rfl
theorem nm108 : okTrue (runF Tryd.prog LkN 700 13 [.int .i64 (.ofNat 108)] st0) = true := by kernel_rfl
theorem nm109 : okTrue (runF Tryd.prog LkN 700 13 [.int .i64 (.ofNat 109)] st0) = true := by kernel_rfl
theorem nm110 : okTrue (runF Tryd.prog LkN 700 13 [.int .i64 (.ofNat 110)] st0) = true := by kernel_rfl
theorem nm111 : okTrue (runF Tryd.prog LkN 700 13 [.int .i64 (.ofNat 111)] st0) = true := by kernel_rfl
theorem nm112 : okTrue (runF Tryd.prog LkN 700 13 [.int .i64 (.ofNat 112)] st0) = true := by kernel_rfl
theorem nm113 : okTrue (runF Tryd.prog LkN 700 13 [.int .i64 (.ofNat 113)] st0) = true := by kernel_rfl
theorem nm114 : okTrue (runF Tryd.prog LkN 700 13 [.int .i64 (.ofNat 114)] st0) = true := by kernel_rfl
theorem nm115 : okTrue (runF Tryd.prog LkN 700 13 [.int .i64 (.ofNat 115)] st0) = true := by kernel_rfl
theorem nm116 : okTrue (runF Tryd.prog LkN 700 13 [.int .i64 (.ofNat 116)] st0) = true := by kernel_rfl
theorem nm117 : okTrue (runF Tryd.prog LkN 700 13 [.int .i64 (.ofNat 117)] st0) = true := by kernel_rfl
theorem nm118 : okTrue (runF Tryd.prog LkN 700 13 [.int .i64 (.ofNat 118)] st0) = true := by kernel_rfl
theorem nm119 : okTrue (runF Tryd.prog LkN 700 13 [.int .i64 (.ofNat 119)] st0) = true := by kernel_rfl
theorem nm120 : okTrue (runF Tryd.prog LkN 700 13 [.int .i64 (.ofNat 120)] st0) = true := by kernel_rfl
theorem nm121 : okTrue (runF Tryd.prog LkN 700 13 [.int .i64 (.ofNat 121)] st0) = true := by kernel_rfl
theorem nm122 : okTrue (runF Tryd.prog LkN 700 13 [.int .i64 (.ofNat 122)] st0) = true := by kernel_rfl
theorem nm123 : okTrue (runF Tryd.prog LkN 700 13 [.int .i64 (.ofNat 123)] st0) = true := by kernel_rfl
theorem nm124 : okTrue (runF Tryd.prog LkN 700 13 [.int .i64 (.ofNat 124)] st0) = true := by kernel_rfl
theorem nm125 : okTrue (runF Tryd.prog LkN 700 13 [.int .i64 (.ofNat 125)] st0) = true := by kernel_rfl
theorem nm126 : okTrue (runF Tryd.prog LkN 700 13 [.int .i64 (.ofNat 126)] st0) = true := by kernel_rfl
theorem nm127 : okTrue (runF Tryd.prog LkN 700 13 [.int .i64 (.ofNat 127)] st0) = true := by kernel_rfl
end Go.Proofs.YtfgdoliihmjnoaaDoorE
