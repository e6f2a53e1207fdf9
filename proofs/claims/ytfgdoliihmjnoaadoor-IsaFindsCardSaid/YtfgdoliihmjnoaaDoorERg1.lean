/- Closed runs of IsaFinds. Printed by gen_con.py. -/
import Derived.Test.YtfgdoliihmjnoaaDoorELkF
set_option linter.unusedSimpArgs false
set_option linter.unusedVariables false
namespace Go.Proofs.YtfgdoliihmjnoaaDoorE
open Go Go.E Go.Proofs
set_option maxRecDepth 100000
theorem fnd1 : okTrue (runF Tryd.prog LkF 900 12 [.string ⟨⟨[78, 79, 80]⟩⟩] st0) = true := by kernel_rfl
theorem fnd7 : okTrue (runF Tryd.prog LkF 900 12 [.string ⟨⟨[66, 82, 66]⟩⟩] st0) = true := by kernel_rfl
theorem fnd13 : okTrue (runF Tryd.prog LkF 900 12 [.string ⟨⟨[74, 77, 80]⟩⟩] st0) = true := by kernel_rfl
theorem fnd19 : okTrue (runF Tryd.prog LkF 900 12 [.string ⟨⟨[66, 86, 83]⟩⟩] st0) = true := by kernel_rfl
theorem fnd25 : okTrue (runF Tryd.prog LkF 900 12 [.string ⟨⟨[67, 77, 80, 67, 53]⟩⟩] st0) = true := by kernel_rfl
theorem fnd31 : okTrue (runF Tryd.prog LkF 900 12 [.string ⟨⟨[83, 75, 80, 67]⟩⟩] st0) = true := by kernel_rfl
theorem fnd37 : okTrue (runF Tryd.prog LkF 900 12 [.string ⟨⟨[83, 85, 66, 66, 51]⟩⟩] st0) = true := by kernel_rfl
theorem fnd43 : okTrue (runF Tryd.prog LkF 900 12 [.string ⟨⟨[66, 73, 83, 66, 51]⟩⟩] st0) = true := by kernel_rfl
theorem fnd49 : okTrue (runF Tryd.prog LkF 900 12 [.string ⟨⟨[77, 79, 86, 66]⟩⟩] st0) = true := by kernel_rfl
theorem fnd55 : okTrue (runF Tryd.prog LkF 900 12 [.string ⟨⟨[73, 78, 67, 66]⟩⟩] st0) = true := by kernel_rfl
theorem fnd61 : okTrue (runF Tryd.prog LkF 900 12 [.string ⟨⟨[82, 79, 84, 76]⟩⟩] st0) = true := by kernel_rfl
theorem fnd67 : okTrue (runF Tryd.prog LkF 900 12 [.string ⟨⟨[83, 85, 66, 87, 51]⟩⟩] st0) = true := by kernel_rfl
theorem fnd73 : okTrue (runF Tryd.prog LkF 900 12 [.string ⟨⟨[66, 73, 83, 87, 51]⟩⟩] st0) = true := by kernel_rfl
theorem fnd79 : okTrue (runF Tryd.prog LkF 900 12 [.string ⟨⟨[77, 79, 86, 87]⟩⟩] st0) = true := by kernel_rfl
theorem fnd85 : okTrue (runF Tryd.prog LkF 900 12 [.string ⟨⟨[73, 78, 67, 87]⟩⟩] st0) = true := by kernel_rfl
theorem fnd91 : okTrue (runF Tryd.prog LkF 900 12 [.string ⟨⟨[67, 72, 77, 75]⟩⟩] st0) = true := by kernel_rfl
theorem fnd97 : okTrue (runF Tryd.prog LkF 900 12 [.string ⟨⟨[83, 85, 66, 76, 51]⟩⟩] st0) = true := by kernel_rfl
theorem fnd103 : okTrue (runF Tryd.prog LkF 900 12 [.string ⟨⟨[66, 73, 83, 76, 51]⟩⟩] st0) = true := by kernel_rfl
theorem fnd109 : okTrue (runF Tryd.prog LkF 900 12 [.string ⟨⟨[77, 79, 86, 76]⟩⟩] st0) = true := by kernel_rfl
theorem fnd115 : okTrue (runF Tryd.prog LkF 900 12 [.string ⟨⟨[73, 78, 67, 76]⟩⟩] st0) = true := by kernel_rfl
theorem fnd121 : okTrue (runF Tryd.prog LkF 900 12 [.string ⟨⟨[77, 79, 86, 80, 83, 76]⟩⟩] st0) = true := by kernel_rfl
theorem fnd127 : okTrue (runF Tryd.prog LkF 900 12 [.string ⟨⟨[66, 76, 66, 83]⟩⟩] st0) = true := by kernel_rfl
theorem fnd133 : okTrue (runF Tryd.prog LkF 900 12 [.string ⟨⟨[65, 79, 66, 76, 69, 81]⟩⟩] st0) = true := by kernel_rfl
end Go.Proofs.YtfgdoliihmjnoaaDoorE
