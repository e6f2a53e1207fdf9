/- Closed runs of IsaFinds. Printed by gen_con.py. -/
import Derived.Test.YtfgdoliihmjnoaaDoorELkF
set_option linter.unusedSimpArgs false
set_option linter.unusedVariables false
namespace Go.Proofs.YtfgdoliihmjnoaaDoorE
open Go Go.E Go.Proofs
set_option maxRecDepth 100000
theorem fnd5 : okTrue (runF Tryd.prog LkF 900 12 [.string ⟨⟨[82, 83, 66]⟩⟩] st0) = true := by kernel_rfl
theorem fnd11 : okTrue (runF Tryd.prog LkF 900 12 [.string ⟨⟨[66, 76, 69, 81]⟩⟩] st0) = true := by kernel_rfl
theorem fnd17 : okTrue (runF Tryd.prog LkF 900 12 [.string ⟨⟨[66, 76, 69, 81, 85]⟩⟩] st0) = true := by kernel_rfl
theorem fnd23 : okTrue (runF Tryd.prog LkF 900 12 [.string ⟨⟨[67, 77, 80, 67, 51]⟩⟩] st0) = true := by kernel_rfl
theorem fnd29 : okTrue (runF Tryd.prog LkF 900 12 [.string ⟨⟨[67, 86, 84, 87, 66]⟩⟩] st0) = true := by kernel_rfl
theorem fnd35 : okTrue (runF Tryd.prog LkF 900 12 [.string ⟨⟨[65, 68, 68, 66, 51]⟩⟩] st0) = true := by kernel_rfl
theorem fnd41 : okTrue (runF Tryd.prog LkF 900 12 [.string ⟨⟨[68, 73, 86, 66, 51]⟩⟩] st0) = true := by kernel_rfl
theorem fnd47 : okTrue (runF Tryd.prog LkF 900 12 [.string ⟨⟨[88, 79, 82, 66, 51]⟩⟩] st0) = true := by kernel_rfl
theorem fnd53 : okTrue (runF Tryd.prog LkF 900 12 [.string ⟨⟨[67, 76, 82, 66]⟩⟩] st0) = true := by kernel_rfl
theorem fnd59 : okTrue (runF Tryd.prog LkF 900 12 [.string ⟨⟨[77, 79, 86, 90, 66, 76]⟩⟩] st0) = true := by kernel_rfl
theorem fnd65 : okTrue (runF Tryd.prog LkF 900 12 [.string ⟨⟨[65, 68, 68, 87, 51]⟩⟩] st0) = true := by kernel_rfl
theorem fnd71 : okTrue (runF Tryd.prog LkF 900 12 [.string ⟨⟨[68, 73, 86, 87, 51]⟩⟩] st0) = true := by kernel_rfl
theorem fnd77 : okTrue (runF Tryd.prog LkF 900 12 [.string ⟨⟨[88, 79, 82, 87, 51]⟩⟩] st0) = true := by kernel_rfl
theorem fnd83 : okTrue (runF Tryd.prog LkF 900 12 [.string ⟨⟨[67, 76, 82, 87]⟩⟩] st0) = true := by kernel_rfl
theorem fnd89 : okTrue (runF Tryd.prog LkF 900 12 [.string ⟨⟨[80, 79, 80, 82]⟩⟩] st0) = true := by kernel_rfl
theorem fnd95 : okTrue (runF Tryd.prog LkF 900 12 [.string ⟨⟨[65, 68, 68, 76, 51]⟩⟩] st0) = true := by kernel_rfl
theorem fnd101 : okTrue (runF Tryd.prog LkF 900 12 [.string ⟨⟨[68, 73, 86, 76, 51]⟩⟩] st0) = true := by kernel_rfl
theorem fnd107 : okTrue (runF Tryd.prog LkF 900 12 [.string ⟨⟨[88, 79, 82, 76, 51]⟩⟩] st0) = true := by kernel_rfl
theorem fnd113 : okTrue (runF Tryd.prog LkF 900 12 [.string ⟨⟨[67, 76, 82, 76]⟩⟩] st0) = true := by kernel_rfl
theorem fnd119 : okTrue (runF Tryd.prog LkF 900 12 [.string ⟨⟨[77, 84, 80, 82]⟩⟩] st0) = true := by kernel_rfl
theorem fnd125 : okTrue (runF Tryd.prog LkF 900 12 [.string ⟨⟨[66, 66, 83]⟩⟩] st0) = true := by kernel_rfl
theorem fnd131 : okTrue (runF Tryd.prog LkF 900 12 [.string ⟨⟨[73, 78, 83, 86]⟩⟩] st0) = true := by kernel_rfl
theorem fnd137 : okTrue (runF Tryd.prog LkF 900 12 [.string ⟨⟨[67, 86, 84, 76, 87]⟩⟩] st0) = true := by kernel_rfl
end Go.Proofs.YtfgdoliihmjnoaaDoorE
