/- Closed runs of IsaFinds. Printed by gen_con.py. -/
import Derived.Test.YtfgdoliihmjnoaaDoorELkF
set_option linter.unusedSimpArgs false
set_option linter.unusedVariables false
namespace Go.Proofs.YtfgdoliihmjnoaaDoorE
open Go Go.E Go.Proofs
set_option maxRecDepth 100000
theorem fnd2 : okTrue (runF Tryd.prog LkF 900 12 [.string ⟨⟨[82, 69, 73]⟩⟩] st0) = true := by kernel_rfl
theorem fnd8 : okTrue (runF Tryd.prog LkF 900 12 [.string ⟨⟨[66, 78, 69, 81]⟩⟩] st0) = true := by kernel_rfl
theorem fnd14 : okTrue (runF Tryd.prog LkF 900 12 [.string ⟨⟨[66, 71, 69, 81]⟩⟩] st0) = true := by kernel_rfl
theorem fnd20 : okTrue (runF Tryd.prog LkF 900 12 [.string ⟨⟨[66, 67, 67]⟩⟩] st0) = true := by kernel_rfl
theorem fnd26 : okTrue (runF Tryd.prog LkF 900 12 [.string ⟨⟨[66, 83, 66, 87]⟩⟩] st0) = true := by kernel_rfl
theorem fnd32 : okTrue (runF Tryd.prog LkF 900 12 [.string ⟨⟨[77, 79, 86, 90, 87, 76]⟩⟩] st0) = true := by kernel_rfl
theorem fnd38 : okTrue (runF Tryd.prog LkF 900 12 [.string ⟨⟨[77, 85, 76, 66, 50]⟩⟩] st0) = true := by kernel_rfl
theorem fnd44 : okTrue (runF Tryd.prog LkF 900 12 [.string ⟨⟨[66, 73, 67, 66, 50]⟩⟩] st0) = true := by kernel_rfl
theorem fnd50 : okTrue (runF Tryd.prog LkF 900 12 [.string ⟨⟨[67, 77, 80, 66]⟩⟩] st0) = true := by kernel_rfl
theorem fnd56 : okTrue (runF Tryd.prog LkF 900 12 [.string ⟨⟨[68, 69, 67, 66]⟩⟩] st0) = true := by kernel_rfl
theorem fnd62 : okTrue (runF Tryd.prog LkF 900 12 [.string ⟨⟨[77, 79, 86, 65, 66]⟩⟩] st0) = true := by kernel_rfl
theorem fnd68 : okTrue (runF Tryd.prog LkF 900 12 [.string ⟨⟨[77, 85, 76, 87, 50]⟩⟩] st0) = true := by kernel_rfl
theorem fnd74 : okTrue (runF Tryd.prog LkF 900 12 [.string ⟨⟨[66, 73, 67, 87, 50]⟩⟩] st0) = true := by kernel_rfl
theorem fnd80 : okTrue (runF Tryd.prog LkF 900 12 [.string ⟨⟨[67, 77, 80, 87]⟩⟩] st0) = true := by kernel_rfl
theorem fnd86 : okTrue (runF Tryd.prog LkF 900 12 [.string ⟨⟨[68, 69, 67, 87]⟩⟩] st0) = true := by kernel_rfl
theorem fnd92 : okTrue (runF Tryd.prog LkF 900 12 [.string ⟨⟨[77, 79, 86, 65, 87]⟩⟩] st0) = true := by kernel_rfl
theorem fnd98 : okTrue (runF Tryd.prog LkF 900 12 [.string ⟨⟨[77, 85, 76, 76, 50]⟩⟩] st0) = true := by kernel_rfl
theorem fnd104 : okTrue (runF Tryd.prog LkF 900 12 [.string ⟨⟨[66, 73, 67, 76, 50]⟩⟩] st0) = true := by kernel_rfl
theorem fnd110 : okTrue (runF Tryd.prog LkF 900 12 [.string ⟨⟨[67, 77, 80, 76]⟩⟩] st0) = true := by kernel_rfl
theorem fnd116 : okTrue (runF Tryd.prog LkF 900 12 [.string ⟨⟨[68, 69, 67, 76]⟩⟩] st0) = true := by kernel_rfl
theorem fnd122 : okTrue (runF Tryd.prog LkF 900 12 [.string ⟨⟨[80, 85, 83, 72, 76]⟩⟩] st0) = true := by kernel_rfl
theorem fnd128 : okTrue (runF Tryd.prog LkF 900 12 [.string ⟨⟨[66, 76, 66, 67]⟩⟩] st0) = true := by kernel_rfl
theorem fnd134 : okTrue (runF Tryd.prog LkF 900 12 [.string ⟨⟨[83, 79, 66, 71, 69, 81]⟩⟩] st0) = true := by kernel_rfl
end Go.Proofs.YtfgdoliihmjnoaaDoorE
