/- Closed runs of IsaNames. Printed by gen_con.py. -/
import Derived.Test.YtfgdoliihmjnoaaDoorELkN
set_option linter.unusedSimpArgs false
set_option linter.unusedVariables false
namespace Go.Proofs.YtfgdoliihmjnoaaDoorE
open Go Go.E Go.Proofs
set_option maxRecDepth 100000
theorem nm64 : okTrue (runF Tryd.prog LkN 700 13 [.int .i64 (.ofNat 64)] st0) = true := by kernel_rfl
theorem nm65 : okTrue (runF Tryd.prog LkN 700 13 [.int .i64 (.ofNat 65)] st0) = true := by kernel_rfl
theorem nm66 : okTrue (runF Tryd.prog LkN 700 13 [.int .i64 (.ofNat 66)] st0) = true := by kernel_rfl
theorem nm67 : okTrue (runF Tryd.prog LkN 700 13 [.int .i64 (.ofNat 67)] st0) = true := by kernel_rfl
theorem nm68 : okTrue (runF Tryd.prog LkN 700 13 [.int .i64 (.ofNat 68)] st0) = true := by kernel_rfl
theorem nm69 : okTrue (runF Tryd.prog LkN 700 13 [.int .i64 (.ofNat 69)] st0) = true := by kernel_rfl
theorem nm70 : okTrue (runF Tryd.prog LkN 700 13 [.int .i64 (.ofNat 70)] st0) = true := by kernel_rfl
theorem nm71 : okTrue (runF Tryd.prog LkN 700 13 [.int .i64 (.ofNat 71)] st0) = true := by kernel_rfl
theorem nm72 : okTrue (runF Tryd.prog LkN 700 13 [.int .i64 (.ofNat 72)] st0) = true := by kernel_rfl
theorem nm73 : okTrue (runF Tryd.prog LkN 700 13 [.int .i64 (.ofNat 73)] st0) = true := by kernel_rfl
theorem nm74 : okTrue (runF Tryd.prog LkN 700 13 [.int .i64 (.ofNat 74)] st0) = true := by kernel_rfl
theorem nm75 : okTrue (runF Tryd.prog LkN 700 13 [.int .i64 (.ofNat 75)] st0) = true := by kernel_rfl
theorem nm76 : okTrue (runF Tryd.prog LkN 700 13 [.int .i64 (.ofNat 76)] st0) = true := by kernel_rfl
theorem nm77 : okTrue (runF Tryd.prog LkN 700 13 [.int .i64 (.ofNat 77)] st0) = true := by kernel_rfl
theorem nm78 : okTrue (runF Tryd.prog LkN 700 13 [.int .i64 (.ofNat 78)] st0) = true := by kernel_rfl
theorem nm79 : okTrue (runF Tryd.prog LkN 700 13 [.int .i64 (.ofNat 79)] st0) = true := by kernel_rfl
theorem nm80 : okTrue (runF Tryd.prog LkN 700 13 [.int .i64 (.ofNat 80)] st0) = true := by kernel_rfl
theorem nm81 : okTrue (runF Tryd.prog LkN 700 13 [.int .i64 (.ofNat 81)] st0) = true := by kernel_rfl
theorem nm82 : okTrue (runF Tryd.prog LkN 700 13 [.int .i64 (.ofNat 82)] st0) = true := by kernel_rfl
theorem nm83 : okTrue (runF Tryd.prog LkN 700 13 [.int .i64 (.ofNat 83)] st0) = true := by kernel_rfl
theorem nm84 : okTrue (runF Tryd.prog LkN 700 13 [.int .i64 (.ofNat 84)] st0) = true := by kernel_rfl
theorem nm85 : okTrue (runF Tryd.prog LkN 700 13 [.int .i64 (.ofNat 85)] st0) = true := by kernel_rfl
theorem nm86 : okTrue (runF Tryd.prog LkN 700 13 [.int .i64 (.ofNat 86)] st0) = true := by kernel_rfl
theorem nm87 : okTrue (runF Tryd.prog LkN 700 13 [.int .i64 (.ofNat 87)] st0) = true := by kernel_rfl
theorem nm88 : okTrue (runF Tryd.prog LkN 700 13 [.int .i64 (.ofNat 88)] st0) = true := by kernel_rfl
theorem nm89 : okTrue (runF Tryd.prog LkN 700 13 [.int .i64 (.ofNat 89)] st0) = true := by kernel_rfl
theorem nm90 : okTrue (runF Tryd.prog LkN 700 13 [.int .i64 (.ofNat 90)] st0) = true := by kernel_rfl
theorem nm91 : okTrue (runF Tryd.prog LkN 700 13 [.int .i64 (.ofNat 91)] st0) = true := by kernel_rfl
theorem nm92 : okTrue (runF Tryd.prog LkN 700 13 [.int .i64 (.ofNat 92)] st0) = true := by kernel_rfl
theorem nm93 : okTrue (runF Tryd.prog LkN 700 13 [.int .i64 (.ofNat 93)] st0) = true := by kernel_rfl
theorem nm94 : okTrue (runF Tryd.prog LkN 700 13 [.int .i64 (.ofNat 94)] st0) = true := by kernel_rfl
theorem nm95 : okTrue (runF Tryd.prog LkN 700 13 [.int .i64 (.ofNat 95)] st0) = true := by kernel_rfl
end Go.Proofs.YtfgdoliihmjnoaaDoorE
