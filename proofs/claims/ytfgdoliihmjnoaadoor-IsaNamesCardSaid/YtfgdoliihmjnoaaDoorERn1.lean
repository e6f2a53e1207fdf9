/- Closed runs of IsaNames. Printed by gen_con.py. -/
import Derived.Test.YtfgdoliihmjnoaaDoorELkN
set_option linter.unusedSimpArgs false
set_option linter.unusedVariables false
namespace Go.Proofs.YtfgdoliihmjnoaaDoorE
open Go Go.E Go.Proofs
set_option maxRecDepth 100000
theorem nm32 : okTrue (runF Tryd.prog LkN 700 13 [.int .i64 (.ofNat 32)] st0) = true := by kernel_rfl
theorem nm33 : okTrue (runF Tryd.prog LkN 700 13 [.int .i64 (.ofNat 33)] st0) = true := by kernel_rfl
theorem nm34 : okTrue (runF Tryd.prog LkN 700 13 [.int .i64 (.ofNat 34)] st0) = true := by kernel_rfl
theorem nm35 : okTrue (runF Tryd.prog LkN 700 13 [.int .i64 (.ofNat 35)] st0) = true := by kernel_rfl
theorem nm36 : okTrue (runF Tryd.prog LkN 700 13 [.int .i64 (.ofNat 36)] st0) = true := by kernel_rfl
theorem nm37 : okTrue (runF Tryd.prog LkN 700 13 [.int .i64 (.ofNat 37)] st0) = true := by kernel_rfl
theorem nm38 : okTrue (runF Tryd.prog LkN 700 13 [.int .i64 (.ofNat 38)] st0) = true := by kernel_rfl
theorem nm39 : okTrue (runF Tryd.prog LkN 700 13 [.int .i64 (.ofNat 39)] st0) = true := by kernel_rfl
theorem nm40 : okTrue (runF Tryd.prog LkN 700 13 [.int .i64 (.ofNat 40)] st0) = true := by kernel_rfl
theorem nm41 : okTrue (runF Tryd.prog LkN 700 13 [.int .i64 (.ofNat 41)] st0) = true := by kernel_rfl
theorem nm42 : okTrue (runF Tryd.prog LkN 700 13 [.int .i64 (.ofNat 42)] st0) = true := by kernel_rfl
theorem nm43 : okTrue (runF Tryd.prog LkN 700 13 [.int .i64 (.ofNat 43)] st0) = true := by kernel_rfl
theorem nm44 : okTrue (runF Tryd.prog LkN 700 13 [.int .i64 (.ofNat 44)] st0) = true := by kernel_rfl
theorem nm45 : okTrue (runF Tryd.prog LkN 700 13 [.int .i64 (.ofNat 45)] st0) = true := by kernel_rfl
theorem nm46 : okTrue (runF Tryd.prog LkN 700 13 [.int .i64 (.ofNat 46)] st0) = true := by kernel_rfl
theorem nm47 : okTrue (runF Tryd.prog LkN 700 13 [.int .i64 (.ofNat 47)] st0) = true := by kernel_rfl
theorem nm48 : okTrue (runF Tryd.prog LkN 700 13 [.int .i64 (.ofNat 48)] st0) = true := by kernel_rfl
theorem nm49 : okTrue (runF Tryd.prog LkN 700 13 [.int .i64 (.ofNat 49)] st0) = true := by kernel_rfl
theorem nm50 : okTrue (runF Tryd.prog LkN 700 13 [.int .i64 (.ofNat 50)] st0) = true := by kernel_rfl
theorem nm51 : okTrue (runF Tryd.prog LkN 700 13 [.int .i64 (.ofNat 51)] st0) = true := by kernel_rfl
theorem nm52 : okTrue (runF Tryd.prog LkN 700 13 [.int .i64 (.ofNat 52)] st0) = true := by kernel_rfl
theorem nm53 : okTrue (runF Tryd.prog LkN 700 13 [.int .i64 (.ofNat 53)] st0) = true := by kernel_rfl
theorem nm54 : okTrue (runF Tryd.prog LkN 700 13 [.int .i64 (.ofNat 54)] st0) = true := by kernel_rfl
theorem nm55 : okTrue (runF Tryd.prog LkN 700 13 [.int .i64 (.ofNat 55)] st0) = true := by kernel_rfl
theorem nm56 : okTrue (runF Tryd.prog LkN 700 13 [.int .i64 (.ofNat 56)] st0) = true := by kernel_rfl
theorem nm57 : okTrue (runF Tryd.prog LkN 700 13 [.int .i64 (.ofNat 57)] st0) = true := by kernel_rfl
theorem nm58 : okTrue (runF Tryd.prog LkN 700 13 [.int .i64 (.ofNat 58)] st0) = true := by kernel_rfl
theorem nm59 : okTrue (runF Tryd.prog LkN 700 13 [.int .i64 (.ofNat 59)] st0) = true := by kernel_rfl
theorem nm60 : okTrue (runF Tryd.prog LkN 700 13 [.int .i64 (.ofNat 60)] st0) = true := by kernel_rfl
theorem nm61 : okTrue (runF Tryd.prog LkN 700 13 [.int .i64 (.ofNat 61)] st0) = true := by kernel_rfl
theorem nm62 : okTrue (runF Tryd.prog LkN 700 13 [.int .i64 (.ofNat 62)] st0) = true := by kernel_rfl
theorem nm63 : okTrue (runF Tryd.prog LkN 700 13 [.int .i64 (.ofNat 63)] st0) = true := by kernel_rfl
end Go.Proofs.YtfgdoliihmjnoaaDoorE
