/- Closed runs of IsaFinds. Printed by gen_con.py. -/
import Derived.Test.YtfgdoliihmjnoaaDoorELkF
set_option linter.unusedSimpArgs false
set_option linter.unusedVariables false
namespace Go.Proofs.YtfgdoliihmjnoaaDoorE
open Go Go.E Go.Proofs
set_option maxRecDepth 100000
theorem fnd3 : okTrue (runF Tryd.prog LkF 900 12 [.string ⟨⟨[66, 80, 84]⟩⟩] st0) = true := by kernel_rfl
theorem fnd9 : okTrue (runF Tryd.prog LkF 900 12 [.string ⟨⟨[66, 69, 81, 76]⟩⟩] st0) = true := by kernel_rfl
theorem fnd15 : okTrue (runF Tryd.prog LkF 900 12 [.string ⟨⟨[66, 76, 83, 83]⟩⟩] st0) = true := by kernel_rfl
theorem fnd21 : okTrue (runF Tryd.prog LkF 900 12 [.string ⟨⟨[66, 67, 83]⟩⟩] st0) = true := by kernel_rfl
theorem fnd27 : okTrue (runF Tryd.prog LkF 900 12 [.string ⟨⟨[66, 82, 87]⟩⟩] st0) = true := by kernel_rfl
theorem fnd33 : okTrue (runF Tryd.prog LkF 900 12 [.string ⟨⟨[65, 83, 72, 76]⟩⟩] st0) = true := by kernel_rfl
theorem fnd39 : okTrue (runF Tryd.prog LkF 900 12 [.string ⟨⟨[77, 85, 76, 66, 51]⟩⟩] st0) = true := by kernel_rfl
theorem fnd45 : okTrue (runF Tryd.prog LkF 900 12 [.string ⟨⟨[66, 73, 67, 66, 51]⟩⟩] st0) = true := by kernel_rfl
theorem fnd51 : okTrue (runF Tryd.prog LkF 900 12 [.string ⟨⟨[77, 67, 79, 77, 66]⟩⟩] st0) = true := by kernel_rfl
theorem fnd57 : okTrue (runF Tryd.prog LkF 900 12 [.string ⟨⟨[67, 86, 84, 66, 76]⟩⟩] st0) = true := by kernel_rfl
theorem fnd63 : okTrue (runF Tryd.prog LkF 900 12 [.string ⟨⟨[80, 85, 83, 72, 65, 66]⟩⟩] st0) = true := by kernel_rfl
theorem fnd69 : okTrue (runF Tryd.prog LkF 900 12 [.string ⟨⟨[77, 85, 76, 87, 51]⟩⟩] st0) = true := by kernel_rfl
theorem fnd75 : okTrue (runF Tryd.prog LkF 900 12 [.string ⟨⟨[66, 73, 67, 87, 51]⟩⟩] st0) = true := by kernel_rfl
theorem fnd81 : okTrue (runF Tryd.prog LkF 900 12 [.string ⟨⟨[77, 67, 79, 77, 87]⟩⟩] st0) = true := by kernel_rfl
theorem fnd87 : okTrue (runF Tryd.prog LkF 900 12 [.string ⟨⟨[66, 73, 83, 80, 83, 87]⟩⟩] st0) = true := by kernel_rfl
theorem fnd93 : okTrue (runF Tryd.prog LkF 900 12 [.string ⟨⟨[80, 85, 83, 72, 65, 87]⟩⟩] st0) = true := by kernel_rfl
theorem fnd99 : okTrue (runF Tryd.prog LkF 900 12 [.string ⟨⟨[77, 85, 76, 76, 51]⟩⟩] st0) = true := by kernel_rfl
theorem fnd105 : okTrue (runF Tryd.prog LkF 900 12 [.string ⟨⟨[66, 73, 67, 76, 51]⟩⟩] st0) = true := by kernel_rfl
theorem fnd111 : okTrue (runF Tryd.prog LkF 900 12 [.string ⟨⟨[77, 67, 79, 77, 76]⟩⟩] st0) = true := by kernel_rfl
theorem fnd117 : okTrue (runF Tryd.prog LkF 900 12 [.string ⟨⟨[65, 68, 87, 67]⟩⟩] st0) = true := by kernel_rfl
theorem fnd123 : okTrue (runF Tryd.prog LkF 900 12 [.string ⟨⟨[77, 79, 86, 65, 76]⟩⟩] st0) = true := by kernel_rfl
theorem fnd129 : okTrue (runF Tryd.prog LkF 900 12 [.string ⟨⟨[69, 88, 84, 86]⟩⟩] st0) = true := by kernel_rfl
theorem fnd135 : okTrue (runF Tryd.prog LkF 900 12 [.string ⟨⟨[83, 79, 66, 71, 84, 82]⟩⟩] st0) = true := by kernel_rfl
end Go.Proofs.YtfgdoliihmjnoaaDoorE
