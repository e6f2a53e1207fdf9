/- Closed runs of IsaNames. Printed by gen_con.py. -/
import Derived.Test.YtfgdoliihmjnoaaDoorELkN
set_option linter.unusedSimpArgs false
set_option linter.unusedVariables false
namespace Go.Proofs.YtfgdoliihmjnoaaDoorE
open Go Go.E Go.Proofs
set_option maxRecDepth 100000
theorem nm192 : okTrue (runF Tryd.prog LkN 700 13 [.int .i64 (.ofNat 192)] st0) = true := by kernel_rfl
theorem nm193 : okTrue (runF Tryd.prog LkN 700 13 [.int .i64 (.ofNat 193)] st0) = true := by kernel_rfl
theorem nm194 : okTrue (runF Tryd.prog LkN 700 13 [.int .i64 (.ofNat 194)] st0) = true := by kernel_rfl
theorem nm195 : okTrue (runF Tryd.prog LkN 700 13 [.int .i64 (.ofNat 195)] st0) = true := by kernel_rfl
theorem nm196 : okTrue (runF Tryd.prog LkN 700 13 [.int .i64 (.ofNat 196)] st0) = true := by kernel_rfl
theorem nm197 : okTrue (runF Tryd.prog LkN 700 13 [.int .i64 (.ofNat 197)] st0) = true := by kernel_rfl
theorem nm198 : okTrue (runF Tryd.prog LkN 700 13 [.int .i64 (.ofNat 198)] st0) = true := by kernel_rfl
theorem nm199 : okTrue (runF Tryd.prog LkN 700 13 [.int .i64 (.ofNat 199)] st0) = true := by kernel_rfl
theorem nm200 : okTrue (runF Tryd.prog LkN 700 13 [.int .i64 (.ofNat 200)] st0) = true := by kernel_rfl
theorem nm201 : okTrue (runF Tryd.prog LkN 700 13 [.int .i64 (.ofNat 201)] st0) = true := by kernel_rfl
theorem nm202 : okTrue (runF Tryd.prog LkN 700 13 [.int .i64 (.ofNat 202)] st0) = true := by kernel_rfl
theorem nm203 : okTrue (runF Tryd.prog LkN 700 13 [.int .i64 (.ofNat 203)] st0) = true := by kernel_rfl
theorem nm204 : okTrue (runF Tryd.prog LkN 700 13 [.int .i64 (.ofNat 204)] st0) = true := by kernel_rfl
theorem nm205 : okTrue (runF Tryd.prog LkN 700 13 [.int .i64 (.ofNat 205)] st0) = true := by kernel_rfl
theorem nm206 : okTrue (runF Tryd.prog LkN 700 13 [.int .i64 (.ofNat 206)] st0) = true := by kernel_rfl
theorem nm207 : okTrue (runF Tryd.prog LkN 700 13 [.int .i64 (.ofNat 207)] st0) = true := by kernel_rfl
theorem nm208 : okTrue (runF Tryd.prog LkN 700 13 [.int .i64 (.ofNat 208)] st0) = true := by kernel_rfl
theorem nm209 : okTrue (runF Tryd.prog LkN 700 13 [.int .i64 (.ofNat 209)] st0) = true := by kernel_rfl
theorem nm210 : okTrue (runF Tryd.prog LkN 700 13 [.int .i64 (.ofNat 210)] st0) = true := by kernel_rfl
theorem nm211 : okTrue (runF Tryd.prog LkN 700 13 [.int .i64 (.ofNat 211)] st0) = true := by kernel_rfl
theorem nm212 : okTrue (runF Tryd.prog LkN 700 13 [.int .i64 (.ofNat 212)] st0) = true := by kernel_rfl
theorem nm213 : okTrue (runF Tryd.prog LkN 700 13 [.int .i64 (.ofNat 213)] st0) = true := by kernel_rfl
theorem nm214 : okTrue (runF Tryd.prog LkN 700 13 [.int .i64 (.ofNat 214)] st0) = true := by kernel_rfl
theorem nm215 : okTrue (runF Tryd.prog LkN 700 13 [.int .i64 (.ofNat 215)] st0) = true := by kernel_rfl
theorem nm216 : okTrue (runF Tryd.prog LkN 700 13 [.int .i64 (.ofNat 216)] st0) = true := by kernel_rfl
theorem nm217 : okTrue (runF Tryd.prog LkN 700 13 [.int .i64 (.ofNat 217)] st0) = true := by kernel_rfl
theorem nm218 : okTrue (runF Tryd.prog LkN 700 13 [.int .i64 (.ofNat 218)] st0) = true := by kernel_rfl
theorem nm219 : okTrue (runF Tryd.prog LkN 700 13 [.int .i64 (.ofNat 219)] st0) = true := by kernel_rfl
theorem nm220 : okTrue (runF Tryd.prog LkN 700 13 [.int .i64 (.ofNat 220)] st0) = true := by kernel_rfl
theorem nm221 : okTrue (runF Tryd.prog LkN 700 13 [.int .i64 (.ofNat 221)] st0) = true := by kernel_rfl
theorem nm222 : okTrue (runF Tryd.prog LkN 700 13 [.int .i64 (.ofNat 222)] st0) = true := by kernel_rfl
theorem nm223 : okTrue (runF Tryd.prog LkN 700 13 [.int .i64 (.ofNat 223)] st0) = true := by kernel_rfl
end Go.Proofs.YtfgdoliihmjnoaaDoorE
