/- Closed runs of IsaOf. Printed by gen_con.py. -/
import Derived.Test.YtfgdoliihmjnoaaDoorELkO
set_option linter.unusedSimpArgs false
set_option linter.unusedVariables false
namespace Go.Proofs.YtfgdoliihmjnoaaDoorE
open Go Go.E Go.Proofs
set_option maxRecDepth 100000
theorem ofneg (n : Nat) : okC (.int .i64 (.negSucc n)) := ⟨by kernel_rfl, by kernel_rfl, by kernel_rfl⟩
theorem ofbig (n : Nat) : okC (.int .i64 (.ofNat (n + 256))) := ⟨by kernel_rfl, by kernel_rfl, by kernel_rfl⟩
theorem of0 : okC (.int .i64 (.ofNat 0)) := ⟨by kernel_rfl, by kernel_rfl, by kernel_rfl⟩
theorem of1 : okC (.int .i64 (.ofNat 1)) := ⟨by kernel_rfl, by kernel_rfl, by kernel_rfl⟩
theorem of2 : okC (.int .i64 (.ofNat 2)) := ⟨by kernel_rfl, by kernel_rfl, by kernel_rfl⟩
theorem of3 : okC (.int .i64 (.ofNat 3)) := ⟨by kernel_rfl, by kernel_rfl, by kernel_rfl⟩
theorem of4 : okC (.int .i64 (.ofNat 4)) := ⟨by kernel_rfl, by kernel_rfl, by kernel_rfl⟩
theorem of5 : okC (.int .i64 (.ofNat 5)) := ⟨by kernel_rfl, by kernel_rfl, by kernel_rfl⟩
theorem of6 : okC (.int .i64 (.ofNat 6)) := ⟨by kernel_rfl, by kernel_rfl, by kernel_rfl⟩
theorem of7 : okC (.int .i64 (.ofNat 7)) := ⟨by kernel_rfl, by kernel_rfl, by kernel_rfl⟩
theorem of8 : okC (.int .i64 (.ofNat 8)) := ⟨by kernel_rfl, by kernel_rfl, by kernel_rfl⟩
theorem of9 : okC (.int .i64 (.ofNat 9)) := ⟨by kernel_rfl, by kernel_rfl, by kernel_rfl⟩
theorem of10 : okC (.int .i64 (.ofNat 10)) := ⟨by kernel_rfl, by kernel_rfl, by kernel_rfl⟩
theorem of11 : okC (.int .i64 (.ofNat 11)) := ⟨by kernel_rfl, by kernel_rfl, by kernel_rfl⟩
theorem of12 : okC (.int .i64 (.ofNat 12)) := ⟨by kernel_rfl, by kernel_rfl, by kernel_rfl⟩
theorem of13 : okC (.int .i64 (.ofNat 13)) := ⟨by kernel_rfl, by kernel_rfl, by kernel_rfl⟩
theorem of14 : okC (.int .i64 (.ofNat 14)) := ⟨by kernel_rfl, by kernel_rfl, by kernel_rfl⟩
theorem of15 : okC (.int .i64 (.ofNat 15)) := ⟨by kernel_rfl, by kernel_rfl, by kernel_rfl⟩
theorem of16 : okC (.int .i64 (.ofNat 16)) := ⟨by kernel_rfl, by kernel_rfl, by kernel_rfl⟩
theorem of17 : okC (.int .i64 (.ofNat 17)) := ⟨by kernel_rfl, by kernel_rfl, by kernel_rfl⟩
theorem of18 : okC (.int .i64 (.ofNat 18)) := ⟨by kernel_rfl, by kernel_rfl, by kernel_rfl⟩
theorem of19 : okC (.int .i64 (.ofNat 19)) := ⟨by kernel_rfl, by kernel_rfl, by kernel_rfl⟩
theorem of20 : okC (.int .i64 (.ofNat 20)) := ⟨by kernel_rfl, by kernel_rfl, by kernel_rfl⟩
theorem of21 : okC (.int .i64 (.ofNat 21)) := ⟨by kernel_rfl, by kernel_rfl, by kernel_rfl⟩
theorem of22 : okC (.int .i64 (.ofNat 22)) := ⟨by kernel_rfl, by kernel_rfl, by kernel_rfl⟩
theorem of23 : okC (.int .i64 (.ofNat 23)) := ⟨by kernel_rfl, by kernel_rfl, by kernel_rfl⟩
theorem of24 : okC (.int .i64 (.ofNat 24)) := ⟨by kernel_rfl, by kernel_rfl, by kernel_rfl⟩
theorem of25 : okC (.int .i64 (.ofNat 25)) := ⟨by kernel_rfl, by kernel_rfl, by kernel_rfl⟩
theorem of26 : okC (.int .i64 (.ofNat 26)) := ⟨by kernel_rfl, by kernel_rfl, by kernel_rfl⟩
theorem of27 : okC (.int .i64 (.ofNat 27)) := ⟨by kernel_rfl, by kernel_rfl, by kernel_rfl⟩
theorem of28 : okC (.int .i64 (.ofNat 28)) := ⟨by kernel_rfl, by kernel_rfl, by kernel_rfl⟩
theorem of29 : okC (.int .i64 (.ofNat 29)) := ⟨by kernel_rfl, by kernel_rfl, by kernel_rfl⟩
theorem of30 : okC (.int .i64 (.ofNat 30)) := ⟨by kernel_rfl, by kernel_rfl, by kernel_rfl⟩
theorem of31 : okC (.int .i64 (.ofNat 31)) := ⟨by kernel_rfl, by kernel_rfl, by kernel_rfl⟩
end Go.Proofs.YtfgdoliihmjnoaaDoorE
