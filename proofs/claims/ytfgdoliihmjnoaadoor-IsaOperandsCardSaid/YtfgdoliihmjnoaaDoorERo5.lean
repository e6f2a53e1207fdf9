/- Closed runs of a law in the evaluator. Printed by gen_runs.py. -/
import Derived.Test.YtfgdoliihmjnoaaDoorESt
namespace Go.Proofs.YtfgdoliihmjnoaaDoorE
open Go Go.E Go.Proofs
set_option maxRecDepth 100000
theorem op160 : okTrue (runF Tryd.prog Lk0 400 3 [.int .i64 (.ofNat 160)] st0) = true := by kernel_rfl
theorem op161 : okTrue (runF Tryd.prog Lk0 400 3 [.int .i64 (.ofNat 161)] st0) = true := by kernel_rfl
theorem op162 : okTrue (runF Tryd.prog Lk0 400 3 [.int .i64 (.ofNat 162)] st0) = true := by kernel_rfl
theorem op163 : okTrue (runF Tryd.prog Lk0 400 3 [.int .i64 (.ofNat 163)] st0) = true := by kernel_rfl
theorem op164 : okTrue (runF Tryd.prog Lk0 400 3 [.int .i64 (.ofNat 164)] st0) = true := by kernel_rfl
theorem op165 : okTrue (runF Tryd.prog Lk0 400 3 [.int .i64 (.ofNat 165)] st0) = true := by kernel_rfl
theorem op166 : okTrue (runF Tryd.prog Lk0 400 3 [.int .i64 (.ofNat 166)] st0) = true := by kernel_rfl
theorem op167 : okTrue (runF Tryd.prog Lk0 400 3 [.int .i64 (.ofNat 167)] st0) = true := by kernel_rfl
theorem op168 : okTrue (runF Tryd.prog Lk0 400 3 [.int .i64 (.ofNat 168)] st0) = true := by kernel_rfl
theorem op169 : okTrue (runF Tryd.prog Lk0 400 3 [.int .i64 (.ofNat 169)] st0) = true := by kernel_rfl
theorem op170 : okTrue (runF Tryd.prog Lk0 400 3 [.int .i64 (.ofNat 170)] st0) = true := by kernel_rfl
theorem op171 : okTrue (runF Tryd.prog Lk0 400 3 [.int .i64 (.ofNat 171)] st0) = true := by kernel_rfl
theorem op172 : okTrue (runF Tryd.prog Lk0 400 3 [.int .i64 (.ofNat 172)] st0) = true := by kernel_rfl
theorem op173 : okTrue (runF Tryd.prog Lk0 400 3 [.int .i64 (.ofNat 173)] st0) = true := by kernel_rfl
theorem op174 : okTrue (runF Tryd.prog Lk0 400 3 [.int .i64 (.ofNat 174)] st0) = true := by kernel_rfl
theorem op175 : okTrue (runF Tryd.prog Lk0 400 3 [.int .i64 (.ofNat 175)] st0) = true := by kernel_rfl
theorem op176 : okTrue (runF Tryd.prog Lk0 400 3 [.int .i64 (.ofNat 176)] st0) = true := by kernel_rfl
theorem op177 : okTrue (runF Tryd.prog Lk0 400 3 [.int .i64 (.ofNat 177)] st0) = true := by kernel_rfl
theorem op178 : okTrue (runF Tryd.prog Lk0 400 3 [.int .i64 (.ofNat 178)] st0) = true := by kernel_rfl
theorem op179 : okTrue (runF Tryd.prog Lk0 400 3 [.int .i64 (.ofNat 179)] st0) = true := by kernel_rfl
theorem op180 : okTrue (runF Tryd.prog Lk0 400 3 [.int .i64 (.ofNat 180)] st0) = true := by kernel_rfl
theorem op181 : okTrue (runF Tryd.prog Lk0 400 3 [.int .i64 (.ofNat 181)] st0) = true := by kernel_rfl
theorem op182 : okTrue (runF Tryd.prog Lk0 400 3 [.int .i64 (.ofNat 182)] st0) = true := by kernel_rfl
theorem op183 : okTrue (runF Tryd.prog Lk0 400 3 [.int .i64 (.ofNat 183)] st0) = true := by kernel_rfl
theorem op184 : okTrue (runF Tryd.prog Lk0 400 3 [.int .i64 (.ofNat 184)] st0) = true := by kernel_rfl
theorem op185 : okTrue (runF Tryd.prog Lk0 400 3 [.int .i64 (.ofNat 185)] st0) = true := by kernel_rfl
theorem op186 : okTrue (runF Tryd.prog Lk0 400 3 [.int .i64 (.ofNat 186)] st0) = true := by kernel_rfl
theorem op187 : okTrue (runF Tryd.prog Lk0 400 3 [.int .i64 (.ofNat 187)] st0) = true := by kernel_rfl
theorem op188 : okTrue (runF Tryd.prog Lk0 400 3 [.int .i64 (.ofNat 188)] st0) = true := by kernel_rfl
theorem op189 : okTrue (runF Tryd.prog Lk0 400 3 [.int .i64 (.ofNat 189)] st0) = true := by kernel_rfl
theorem op190 : okTrue (runF Tryd.prog Lk0 400 3 [.int .i64 (.ofNat 190)] st0) = true := by kernel_rfl
theorem op191 : okTrue (runF Tryd.prog Lk0 400 3 [.int .i64 (.ofNat 191)] st0) = true := by kernel_rfl
end Go.Proofs.YtfgdoliihmjnoaaDoorE
