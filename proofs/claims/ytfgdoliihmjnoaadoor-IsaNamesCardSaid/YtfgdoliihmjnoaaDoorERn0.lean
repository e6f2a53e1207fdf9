/- Closed runs of IsaNames. Printed by gen_con.py. -/
import Derived.Test.YtfgdoliihmjnoaaDoorELkN
set_option linter.unusedSimpArgs false
set_option linter.unusedVariables false
namespace Go.Proofs.YtfgdoliihmjnoaaDoorE
open Go Go.E Go.Proofs
set_option maxRecDepth 100000
theorem nm0 : okTrue (runF Tryd.prog LkN 700 13 [.int .i64 (.ofNat 0)] st0) = true := by kernel_rfl
theorem nm1 : okTrue (runF Tryd.prog LkN 700 13 [.int .i64 (.ofNat 1)] st0) = true := by kernel_rfl
theorem nm2 : okTrue (runF Tryd.prog LkN 700 13 [.int .i64 (.ofNat 2)] st0) = true := by kernel_rfl
theorem nm3 : okTrue (runF Tryd.prog LkN 700 13 [.int .i64 (.ofNat 3)] st0) = true := by kernel_rfl
theorem nm4 : okTrue (runF Tryd.prog LkN 700 13 [.int .i64 (.ofNat 4)] st0) = true := by kernel_rfl
theorem nm5 : okTrue (runF Tryd.prog LkN 700 13 [.int .i64 (.ofNat 5)] st0) = true := by kernel_rfl
theorem nm6 : okTrue (runF Tryd.prog LkN 700 13 [.int .i64 (.ofNat 6)] st0) = true := by kernel_rfl
theorem nm7 : okTrue (runF Tryd.prog LkN 700 13 [.int .i64 (.ofNat 7)] st0) = true := by kernel_rfl
theorem nm8 : okTrue (runF Tryd.prog LkN 700 13 [.int .i64 (.ofNat 8)] st0) = true := by kernel_rfl
theorem nm9 : okTrue (runF Tryd.prog LkN 700 13 [.int .i64 (.ofNat 9)] st0) = true := by kernel_rfl
theorem nm10 : okTrue (runF Tryd.prog LkN 700 13 [.int .i64 (.ofNat 10)] st0) = true := by kernel_rfl
theorem nm11 : okTrue (runF Tryd.prog LkN 700 13 [.int .i64 (.ofNat 11)] st0) = true := by kernel_rfl
theorem nm12 : okTrue (runF Tryd.prog LkN 700 13 [.int .i64 (.ofNat 12)] st0) = true := by kernel_rfl
theorem nm13 : okTrue (runF Tryd.prog LkN 700 13 [.int .i64 (.ofNat 13)] st0) = true := by kernel_rfl
theorem nm14 : okTrue (runF Tryd.prog LkN 700 13 [.int .i64 (.ofNat 14)] st0) = true := by kernel_rfl
theorem nm15 : okTrue (runF Tryd.prog LkN 700 13 [.int .i64 (.ofNat 15)] st0) = true := by kernel_rfl
theorem nm16 : okTrue (runF Tryd.prog LkN 700 13 [.int .i64 (.ofNat 16)] st0) = true := by kernel_rfl
theorem nm17 : okTrue (runF Tryd.prog LkN 700 13 [.int .i64 (.ofNat 17)] st0) = true := by kernel_rfl
theorem nm18 : okTrue (runF Tryd.prog LkN 700 13 [.int .i64 (.ofNat 18)] st0) = true := by kernel_rfl
theorem nm19 : okTrue (runF Tryd.prog LkN 700 13 [.int .i64 (.ofNat 19)] st0) = true := by kernel_rfl
theorem nm20 : okTrue (runF Tryd.prog LkN 700 13 [.int .i64 (.ofNat 20)] st0) = true := by kernel_rfl
theorem nm21 : okTrue (runF Tryd.prog LkN 700 13 [.int .i64 (.ofNat 21)] st0) = true := by kernel_rfl
theorem nm22 : okTrue (runF Tryd.prog LkN 700 13 [.int .i64 (.ofNat 22)] st0) = true := by kernel_rfl
theorem nm23 : okTrue (runF Tryd.prog LkN 700 13 [.int .i64 (.ofNat 23)] st0) = true := by kernel_rfl
theorem nm24 : okTrue (runF Tryd.prog LkN 700 13 [.int .i64 (.ofNat 24)] st0) = true := by kernel_rfl
theorem nm25 : okTrue (runF Tryd.prog LkN 700 13 [.int .i64 (.ofNat 25)] st0) = true := by kernel_rfl
theorem nm26 : okTrue (runF Tryd.prog LkN 700 13 [.int .i64 (.ofNat 26)] st0) = true := by kernel_rfl
theorem nm27 : okTrue (runF Tryd.prog LkN 700 13 [.int .i64 (.ofNat 27)] st0) = true := by kernel_rfl
theorem nm28 : okTrue (runF Tryd.prog LkN 700 13 [.int .i64 (.ofNat 28)] st0) = true := by kernel_rfl
theorem nm29 : okTrue (runF Tryd.prog LkN 700 13 [.int .i64 (.ofNat 29)] st0) = true := by kernel_rfl
theorem nm30 : okTrue (runF Tryd.prog LkN 700 13 [.int .i64 (.ofNat 30)] st0) = true := by kernel_rfl
theorem nm31 : okTrue (runF Tryd.prog LkN 700 13 [.int .i64 (.ofNat 31)] st0) = true := by kernel_rfl
end Go.Proofs.YtfgdoliihmjnoaaDoorE
