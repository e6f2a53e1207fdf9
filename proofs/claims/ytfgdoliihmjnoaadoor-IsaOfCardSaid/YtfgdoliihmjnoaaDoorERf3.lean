/- Closed runs of IsaOf. Printed by gen_con.py. -/
import Derived.Test.YtfgdoliihmjnoaaDoorELkO
set_option linter.unusedSimpArgs false
set_option linter.unusedVariables false
namespace Go.Proofs.YtfgdoliihmjnoaaDoorE
open Go Go.E Go.Proofs
set_option maxRecDepth 100000
theorem of96 : okC (.int .i64 (.ofNat 96)) := ⟨by kernel_rfl, by kernel_rfl, by kernel_rfl⟩
theorem of97 : okC (.int .i64 (.ofNat 97)) := ⟨by kernel_rfl, by kernel_rfl, by kernel_rfl⟩
theorem of98 : okC (.int .i64 (.ofNat 98)) := ⟨by kernel_rfl, by kernel_rfl, by kernel_rfl⟩
theorem of99 : okC (.int .i64 (.ofNat 99)) := ⟨by kernel_rfl, by kernel_rfl, by kernel_rfl⟩
theorem of100 : okC (.int .i64 (.ofNat 100)) := ⟨by kernel_rfl, by kernel_rfl, by kernel_rfl⟩
theorem of101 : okC (.int .i64 (.ofNat 101)) := ⟨by kernel_rfl, by kernel_rfl, by kernel_rfl⟩
theorem of102 : okC (.int .i64 (.ofNat 102)) := ⟨by kernel_rfl, by kernel_rfl, by kernel_rfl⟩
theorem of103 : okC (.int .i64 (.ofNat 103)) := ⟨by kernel_rfl, by kernel_rfl, by kernel_rfl⟩
theorem of104 : okC (.int .i64 (.ofNat 104)) := ⟨by kernel_rfl, by kernel_rfl, by kernel_rfl⟩
theorem of105 : okC (.int .i64 (.ofNat 105)) := ⟨by kernel_rfl, by kernel_rfl, by kernel_rfl⟩
theorem of106 : okC (.int .i64 (.ofNat 106)) := ⟨by kernel_rfl, by kernel_rfl, by kernel_rfl⟩
theorem of107 : okC (.int .i64 (.ofNat 107)) := ⟨by kernel_rfl, by kernel_rfl, by kernel_rfl⟩
theorem of108 : okC (.int .i64 (.ofNat 108)) := ⟨by kernel_rfl, by kernel_rfl, by kernel_rfl⟩
theorem of109 : okC (.int .i64 (.ofNat 109)) := ⟨by kernel_rfl, by kernel_rfl, by kernel_rfl⟩
theorem of110 : okC (.int .i64 (.ofNat 110)) := ⟨by kernel_rfl, by kernel_rfl, by kernel_rfl⟩
theorem of111 : okC (.int .i64 (.ofNat 111)) := ⟨by kernel_rfl, by kernel_rfl, by kernel_rfl⟩
theorem of112 : okC (.int .i64 (.ofNat 112)) := ⟨by kernel_rfl, by kernel_rfl, by kernel_rfl⟩
theorem of113 : okC (.int .i64 (.ofNat 113)) := ⟨by kernel_rfl, by kernel_rfl, by kernel_rfl⟩
theorem of114 : okC (.int .i64 (.ofNat 114)) := ⟨by kernel_rfl, by kernel_rfl, by kernel_rfl⟩
theorem of115 : okC (.int .i64 (.ofNat 115)) := ⟨by kernel_rfl, by kernel_rfl, by kernel_rfl⟩
theorem of116 : okC (.int .i64 (.ofNat 116)) := ⟨by kernel_rfl, by kernel_rfl, by kernel_rfl⟩
theorem of117 : okC (.int .i64 (.ofNat 117)) := ⟨by kernel_rfl, by kernel_rfl, by kernel_rfl⟩
theorem of118 : okC (.int .i64 (.ofNat 118)) := ⟨by kernel_rfl, by kernel_rfl, by kernel_rfl⟩
theorem of119 : okC (.int .i64 (.ofNat 119)) := ⟨by kernel_rfl, by kernel_rfl, by kernel_rfl⟩
theorem of120 : okC (.int .i64 (.ofNat 120)) := ⟨by kernel_rfl, by kernel_rfl, by kernel_rfl⟩
theorem of121 : okC (.int .i64 (.ofNat 121)) := ⟨by kernel_rfl, by kernel_rfl, by kernel_rfl⟩
theorem of122 : okC (.int .i64 (.ofNat 122)) := ⟨by kernel_rfl, by kernel_rfl, by kernel_rfl⟩
theorem of123 : okC (.int .i64 (.ofNat 123)) := ⟨by kernel_rfl, by kernel_rfl, by kernel_rfl⟩
theorem of124 : okC (.int .i64 (.ofNat 124)) := ⟨by kernel_rfl, by kernel_rfl, by kernel_rfl⟩
theorem of125 : okC (.int .i64 (.ofNat 125)) := ⟨by kernel_rfl, by kernel_rfl, by kernel_rfl⟩
theorem of126 : okC (.int .i64 (.ofNat 126)) := ⟨by kernel_rfl, by kernel_rfl, by kernel_rfl⟩
theorem of127 : okC (.int .i64 (.ofNat 127)) := ⟨by kernel_rfl, by kernel_rfl, by kernel_rfl⟩
end Go.Proofs.YtfgdoliihmjnoaaDoorE
