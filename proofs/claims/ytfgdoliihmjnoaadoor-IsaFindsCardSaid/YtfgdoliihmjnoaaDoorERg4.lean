/- Closed runs of IsaFinds. Printed by gen_con.py. -/
import Derived.Test.YtfgdoliihmjnoaaDoorELkF
set_option linter.unusedSimpArgs false
set_option linter.unusedVariables false
namespace Go.Proofs.YtfgdoliihmjnoaaDoorE
open Go Go.E Go.Proofs
set_option maxRecDepth 100000
theorem fnd4 : okTrue (runF Tryd.prog LkF 900 12 [.string ⟨⟨[82, 69, 84]⟩⟩] st0) = true := by kernel_rfl
theorem fnd10 : okTrue (runF Tryd.prog LkF 900 12 [.string ⟨⟨[66, 71, 84, 82]⟩⟩] st0) = true := by kernel_rfl
theorem fnd16 : okTrue (runF Tryd.prog LkF 900 12 [.string ⟨⟨[66, 71, 84, 82, 85]⟩⟩] st0) = true := by kernel_rfl
theorem fnd22 : okTrue (runF Tryd.prog LkF 900 12 [.string ⟨⟨[77, 79, 86, 67, 51]⟩⟩] st0) = true := by kernel_rfl
theorem fnd28 : okTrue (runF Tryd.prog LkF 900 12 [.string ⟨⟨[67, 86, 84, 87, 76]⟩⟩] st0) = true := by kernel_rfl
theorem fnd34 : okTrue (runF Tryd.prog LkF 900 12 [.string ⟨⟨[65, 68, 68, 66, 50]⟩⟩] st0) = true := by kernel_rfl
theorem fnd40 : okTrue (runF Tryd.prog LkF 900 12 [.string ⟨⟨[68, 73, 86, 66, 50]⟩⟩] st0) = true := by kernel_rfl
theorem fnd46 : okTrue (runF Tryd.prog LkF 900 12 [.string ⟨⟨[88, 79, 82, 66, 50]⟩⟩] st0) = true := by kernel_rfl
theorem fnd52 : okTrue (runF Tryd.prog LkF 900 12 [.string ⟨⟨[66, 73, 84, 66]⟩⟩] st0) = true := by kernel_rfl
theorem fnd58 : okTrue (runF Tryd.prog LkF 900 12 [.string ⟨⟨[67, 86, 84, 66, 87]⟩⟩] st0) = true := by kernel_rfl
theorem fnd64 : okTrue (runF Tryd.prog LkF 900 12 [.string ⟨⟨[65, 68, 68, 87, 50]⟩⟩] st0) = true := by kernel_rfl
theorem fnd70 : okTrue (runF Tryd.prog LkF 900 12 [.string ⟨⟨[68, 73, 86, 87, 50]⟩⟩] st0) = true := by kernel_rfl
theorem fnd76 : okTrue (runF Tryd.prog LkF 900 12 [.string ⟨⟨[88, 79, 82, 87, 50]⟩⟩] st0) = true := by kernel_rfl
theorem fnd82 : okTrue (runF Tryd.prog LkF 900 12 [.string ⟨⟨[66, 73, 84, 87]⟩⟩] st0) = true := by kernel_rfl
theorem fnd88 : okTrue (runF Tryd.prog LkF 900 12 [.string ⟨⟨[66, 73, 67, 80, 83, 87]⟩⟩] st0) = true := by kernel_rfl
theorem fnd94 : okTrue (runF Tryd.prog LkF 900 12 [.string ⟨⟨[65, 68, 68, 76, 50]⟩⟩] st0) = true := by kernel_rfl
theorem fnd100 : okTrue (runF Tryd.prog LkF 900 12 [.string ⟨⟨[68, 73, 86, 76, 50]⟩⟩] st0) = true := by kernel_rfl
theorem fnd106 : okTrue (runF Tryd.prog LkF 900 12 [.string ⟨⟨[88, 79, 82, 76, 50]⟩⟩] st0) = true := by kernel_rfl
theorem fnd112 : okTrue (runF Tryd.prog LkF 900 12 [.string ⟨⟨[66, 73, 84, 76]⟩⟩] st0) = true := by kernel_rfl
theorem fnd118 : okTrue (runF Tryd.prog LkF 900 12 [.string ⟨⟨[83, 66, 87, 67]⟩⟩] st0) = true := by kernel_rfl
theorem fnd124 : okTrue (runF Tryd.prog LkF 900 12 [.string ⟨⟨[80, 85, 83, 72, 65, 76]⟩⟩] st0) = true := by kernel_rfl
theorem fnd130 : okTrue (runF Tryd.prog LkF 900 12 [.string ⟨⟨[69, 88, 84, 90, 86]⟩⟩] st0) = true := by kernel_rfl
theorem fnd136 : okTrue (runF Tryd.prog LkF 900 12 [.string ⟨⟨[67, 86, 84, 76, 66]⟩⟩] st0) = true := by kernel_rfl
end Go.Proofs.YtfgdoliihmjnoaaDoorE
