/- Closed runs of IsaFinds. Printed by gen_con.py. -/
import Derived.Test.YtfgdoliihmjnoaaDoorELkF
set_option linter.unusedSimpArgs false
set_option linter.unusedVariables false
namespace Go.Proofs.YtfgdoliihmjnoaaDoorE
open Go Go.E Go.Proofs
set_option maxRecDepth 100000
theorem fnd0 : okTrue (runF Tryd.prog LkF 900 12 [.string ⟨⟨[72, 65, 76, 84]⟩⟩] st0) = true := by kernel_rfl
theorem fnd6 : okTrue (runF Tryd.prog LkF 900 12 [.string ⟨⟨[66, 83, 66, 66]⟩⟩] st0) = true := by kernel_rfl
theorem fnd12 : okTrue (runF Tryd.prog LkF 900 12 [.string ⟨⟨[74, 83, 66]⟩⟩] st0) = true := by kernel_rfl
theorem fnd18 : okTrue (runF Tryd.prog LkF 900 12 [.string ⟨⟨[66, 86, 67]⟩⟩] st0) = true := by kernel_rfl
theorem fnd24 : okTrue (runF Tryd.prog LkF 900 12 [.string ⟨⟨[77, 79, 86, 67, 53]⟩⟩] st0) = true := by kernel_rfl
theorem fnd30 : okTrue (runF Tryd.prog LkF 900 12 [.string ⟨⟨[76, 79, 67, 67]⟩⟩] st0) = true := by kernel_rfl
theorem fnd36 : okTrue (runF Tryd.prog LkF 900 12 [.string ⟨⟨[83, 85, 66, 66, 50]⟩⟩] st0) = true := by kernel_rfl
theorem fnd42 : okTrue (runF Tryd.prog LkF 900 12 [.string ⟨⟨[66, 73, 83, 66, 50]⟩⟩] st0) = true := by kernel_rfl
theorem fnd48 : okTrue (runF Tryd.prog LkF 900 12 [.string ⟨⟨[77, 78, 69, 71, 66]⟩⟩] st0) = true := by kernel_rfl
theorem fnd54 : okTrue (runF Tryd.prog LkF 900 12 [.string ⟨⟨[84, 83, 84, 66]⟩⟩] st0) = true := by kernel_rfl
theorem fnd60 : okTrue (runF Tryd.prog LkF 900 12 [.string ⟨⟨[77, 79, 86, 90, 66, 87]⟩⟩] st0) = true := by kernel_rfl
theorem fnd66 : okTrue (runF Tryd.prog LkF 900 12 [.string ⟨⟨[83, 85, 66, 87, 50]⟩⟩] st0) = true := by kernel_rfl
theorem fnd72 : okTrue (runF Tryd.prog LkF 900 12 [.string ⟨⟨[66, 73, 83, 87, 50]⟩⟩] st0) = true := by kernel_rfl
theorem fnd78 : okTrue (runF Tryd.prog LkF 900 12 [.string ⟨⟨[77, 78, 69, 71, 87]⟩⟩] st0) = true := by kernel_rfl
theorem fnd84 : okTrue (runF Tryd.prog LkF 900 12 [.string ⟨⟨[84, 83, 84, 87]⟩⟩] st0) = true := by kernel_rfl
theorem fnd90 : okTrue (runF Tryd.prog LkF 900 12 [.string ⟨⟨[80, 85, 83, 72, 82]⟩⟩] st0) = true := by kernel_rfl
theorem fnd96 : okTrue (runF Tryd.prog LkF 900 12 [.string ⟨⟨[83, 85, 66, 76, 50]⟩⟩] st0) = true := by kernel_rfl
theorem fnd102 : okTrue (runF Tryd.prog LkF 900 12 [.string ⟨⟨[66, 73, 83, 76, 50]⟩⟩] st0) = true := by kernel_rfl
theorem fnd108 : okTrue (runF Tryd.prog LkF 900 12 [.string ⟨⟨[77, 78, 69, 71, 76]⟩⟩] st0) = true := by kernel_rfl
theorem fnd114 : okTrue (runF Tryd.prog LkF 900 12 [.string ⟨⟨[84, 83, 84, 76]⟩⟩] st0) = true := by kernel_rfl
theorem fnd120 : okTrue (runF Tryd.prog LkF 900 12 [.string ⟨⟨[77, 70, 80, 82]⟩⟩] st0) = true := by kernel_rfl
theorem fnd126 : okTrue (runF Tryd.prog LkF 900 12 [.string ⟨⟨[66, 66, 67]⟩⟩] st0) = true := by kernel_rfl
theorem fnd132 : okTrue (runF Tryd.prog LkF 900 12 [.string ⟨⟨[65, 79, 66, 76, 83, 83]⟩⟩] st0) = true := by kernel_rfl
theorem fnd138 : okTrue (runF Tryd.prog LkF 900 12 [.string ⟨⟨[67, 65, 76, 76, 83]⟩⟩] st0) = true := by kernel_rfl
end Go.Proofs.YtfgdoliihmjnoaaDoorE
