/- Closed runs. Printed by gen_con.py. -/
import Derived.Test.YtfgdoliihmjnoaaDoorECd
set_option linter.unusedSimpArgs false
set_option linter.unusedVariables false
namespace Go.Proofs.YtfgdoliihmjnoaaDoorE
open Go Go.E Go.Proofs
set_option maxRecDepth 100000
theorem k_d128 : conAns cd128 (runF Tryd.prog Lk0 400 15 [.int .i64 (.ofNat 128)] (Go.E.start cd128.tabs cd128.A)) = some (cd128.v, cd128.B, [], cd128.objs.map fun x => some x.2) := by kernel_rfl
theorem f_d128 [Sym] : ConFact Tryd.prog 15 [.int .i64 (.ofNat 128)] cd128 := con_of_runF Lk0_ok noCon fn15 k_d128 rfl globIn (tabLt (by decide))
theorem k_d129 : conAns cd129 (runF Tryd.prog Lk0 400 15 [.int .i64 (.ofNat 129)] (Go.E.start cd129.tabs cd129.A)) = some (cd129.v, cd129.B, [], cd129.objs.map fun x => some x.2) := by kernel_rfl
theorem f_d129 [Sym] : ConFact Tryd.prog 15 [.int .i64 (.ofNat 129)] cd129 := con_of_runF Lk0_ok noCon fn15 k_d129 rfl globIn (tabLt (by decide))
theorem k_d130 : conAns cd130 (runF Tryd.prog Lk0 400 15 [.int .i64 (.ofNat 130)] (Go.E.start cd130.tabs cd130.A)) = some (cd130.v, cd130.B, [], cd130.objs.map fun x => some x.2) := by kernel_rfl
theorem f_d130 [Sym] : ConFact Tryd.prog 15 [.int .i64 (.ofNat 130)] cd130 := con_of_runF Lk0_ok noCon fn15 k_d130 rfl globIn (tabLt (by decide))
theorem k_d131 : conAns cd131 (runF Tryd.prog Lk0 400 15 [.int .i64 (.ofNat 131)] (Go.E.start cd131.tabs cd131.A)) = some (cd131.v, cd131.B, [], cd131.objs.map fun x => some x.2) := by kernel_rfl
theorem f_d131 [Sym] : ConFact Tryd.prog 15 [.int .i64 (.ofNat 131)] cd131 := con_of_runF Lk0_ok noCon fn15 k_d131 rfl globIn (tabLt (by decide))
theorem k_d132 : conAns cd132 (runF Tryd.prog Lk0 400 15 [.int .i64 (.ofNat 132)] (Go.E.start cd132.tabs cd132.A)) = some (cd132.v, cd132.B, [], cd132.objs.map fun x => some x.2) := by kernel_rfl
theorem f_d132 [Sym] : ConFact Tryd.prog 15 [.int .i64 (.ofNat 132)] cd132 := con_of_runF Lk0_ok noCon fn15 k_d132 rfl globIn (tabLt (by decide))
theorem k_d133 : conAns cd133 (runF Tryd.prog Lk0 400 15 [.int .i64 (.ofNat 133)] (Go.E.start cd133.tabs cd133.A)) = some (cd133.v, cd133.B, [], cd133.objs.map fun x => some x.2) := by kernel_rfl
theorem f_d133 [Sym] : ConFact Tryd.prog 15 [.int .i64 (.ofNat 133)] cd133 := con_of_runF Lk0_ok noCon fn15 k_d133 rfl globIn (tabLt (by decide))
theorem k_d134 : conAns cd134 (runF Tryd.prog Lk0 400 15 [.int .i64 (.ofNat 134)] (Go.E.start cd134.tabs cd134.A)) = some (cd134.v, cd134.B, [], cd134.objs.map fun x => some x.2) := by kernel_rfl
theorem f_d134 [Sym] : ConFact Tryd.prog 15 [.int .i64 (.ofNat 134)] cd134 := con_of_runF Lk0_ok noCon fn15 k_d134 rfl globIn (tabLt (by decide))
theorem k_d135 : conAns cd135 (runF Tryd.prog Lk0 400 15 [.int .i64 (.ofNat 135)] (Go.E.start cd135.tabs cd135.A)) = some (cd135.v, cd135.B, [], cd135.objs.map fun x => some x.2) := by kernel_rfl
theorem f_d135 [Sym] : ConFact Tryd.prog 15 [.int .i64 (.ofNat 135)] cd135 := con_of_runF Lk0_ok noCon fn15 k_d135 rfl globIn (tabLt (by decide))
theorem k_d136 : conAns cd136 (runF Tryd.prog Lk0 400 15 [.int .i64 (.ofNat 136)] (Go.E.start cd136.tabs cd136.A)) = some (cd136.v, cd136.B, [], cd136.objs.map fun x => some x.2) := by kernel_rfl
theorem f_d136 [Sym] : ConFact Tryd.prog 15 [.int .i64 (.ofNat 136)] cd136 := con_of_runF Lk0_ok noCon fn15 k_d136 rfl globIn (tabLt (by decide))
theorem k_d137 : conAns cd137 (runF Tryd.prog Lk0 400 15 [.int .i64 (.ofNat 137)] (Go.E.start cd137.tabs cd137.A)) = some (cd137.v, cd137.B, [], cd137.objs.map fun x => some x.2) := by kernel_rfl
theorem f_d137 [Sym] : ConFact Tryd.prog 15 [.int .i64 (.ofNat 137)] cd137 := con_of_runF Lk0_ok noCon fn15 k_d137 rfl globIn (tabLt (by decide))
theorem k_d138 : conAns cd138 (runF Tryd.prog Lk0 400 15 [.int .i64 (.ofNat 138)] (Go.E.start cd138.tabs cd138.A)) = some (cd138.v, cd138.B, [], cd138.objs.map fun x => some x.2) := by kernel_rfl
theorem f_d138 [Sym] : ConFact Tryd.prog 15 [.int .i64 (.ofNat 138)] cd138 := con_of_runF Lk0_ok noCon fn15 k_d138 rfl globIn (tabLt (by decide))
theorem k_d139 : conAns cd139 (runF Tryd.prog Lk0 400 15 [.int .i64 (.ofNat 139)] (Go.E.start cd139.tabs cd139.A)) = some (cd139.v, cd139.B, [], cd139.objs.map fun x => some x.2) := by kernel_rfl
theorem f_d139 [Sym] : ConFact Tryd.prog 15 [.int .i64 (.ofNat 139)] cd139 := con_of_runF Lk0_ok noCon fn15 k_d139 rfl globIn (tabLt (by decide))
theorem k_d140 : conAns cd140 (runF Tryd.prog Lk0 400 15 [.int .i64 (.ofNat 140)] (Go.E.start cd140.tabs cd140.A)) = some (cd140.v, cd140.B, [], cd140.objs.map fun x => some x.2) := by kernel_rfl
theorem f_d140 [Sym] : ConFact Tryd.prog 15 [.int .i64 (.ofNat 140)] cd140 := con_of_runF Lk0_ok noCon fn15 k_d140 rfl globIn (tabLt (by decide))
theorem k_d141 : conAns cd141 (runF Tryd.prog Lk0 400 15 [.int .i64 (.ofNat 141)] (Go.E.start cd141.tabs cd141.A)) = some (cd141.v, cd141.B, [], cd141.objs.map fun x => some x.2) := by kernel_rfl
theorem f_d141 [Sym] : ConFact Tryd.prog 15 [.int .i64 (.ofNat 141)] cd141 := con_of_runF Lk0_ok noCon fn15 k_d141 rfl globIn (tabLt (by decide))
theorem k_d142 : conAns cd142 (runF Tryd.prog Lk0 400 15 [.int .i64 (.ofNat 142)] (Go.E.start cd142.tabs cd142.A)) = some (cd142.v, cd142.B, [], cd142.objs.map fun x => some x.2) := by kernel_rfl
theorem f_d142 [Sym] : ConFact Tryd.prog 15 [.int .i64 (.ofNat 142)] cd142 := con_of_runF Lk0_ok noCon fn15 k_d142 rfl globIn (tabLt (by decide))
theorem k_d143 : conAns cd143 (runF Tryd.prog Lk0 400 15 [.int .i64 (.ofNat 143)] (Go.E.start cd143.tabs cd143.A)) = some (cd143.v, cd143.B, [], cd143.objs.map fun x => some x.2) := by kernel_rfl
theorem f_d143 [Sym] : ConFact Tryd.prog 15 [.int .i64 (.ofNat 143)] cd143 := con_of_runF Lk0_ok noCon fn15 k_d143 rfl globIn (tabLt (by decide))
theorem k_d144 : conAns cd144 (runF Tryd.prog Lk0 400 15 [.int .i64 (.ofNat 144)] (Go.E.start cd144.tabs cd144.A)) = some (cd144.v, cd144.B, [], cd144.objs.map fun x => some x.2) := by kernel_rfl
theorem f_d144 [Sym] : ConFact Tryd.prog 15 [.int .i64 (.ofNat 144)] cd144 := con_of_runF Lk0_ok noCon fn15 k_d144 rfl globIn (tabLt (by decide))
theorem k_d145 : conAns cd145 (runF Tryd.prog Lk0 400 15 [.int .i64 (.ofNat 145)] (Go.E.start cd145.tabs cd145.A)) = some (cd145.v, cd145.B, [], cd145.objs.map fun x => some x.2) := by kernel_rfl
theorem f_d145 [Sym] : ConFact Tryd.prog 15 [.int .i64 (.ofNat 145)] cd145 := con_of_runF Lk0_ok noCon fn15 k_d145 rfl globIn (tabLt (by decide))
theorem k_d146 : conAns cd146 (runF Tryd.prog Lk0 400 15 [.int .i64 (.ofNat 146)] (Go.E.start cd146.tabs cd146.A)) = some (cd146.v, cd146.B, [], cd146.objs.map fun x => some x.2) := by kernel_rfl
theorem f_d146 [Sym] : ConFact Tryd.prog 15 [.int .i64 (.ofNat 146)] cd146 := con_of_runF Lk0_ok noCon fn15 k_d146 rfl globIn (tabLt (by decide))
theorem k_d147 : conAns cd147 (runF Tryd.prog Lk0 400 15 [.int .i64 (.ofNat 147)] (Go.E.start cd147.tabs cd147.A)) = some (cd147.v, cd147.B, [], cd147.objs.map fun x => some x.2) := by kernel_rfl
theorem f_d147 [Sym] : ConFact Tryd.prog 15 [.int .i64 (.ofNat 147)] cd147 := con_of_runF Lk0_ok noCon fn15 k_d147 rfl globIn (tabLt (by decide))
theorem k_d148 : conAns cd148 (runF Tryd.prog Lk0 400 15 [.int .i64 (.ofNat 148)] (Go.E.start cd148.tabs cd148.A)) = some (cd148.v, cd148.B, [], cd148.objs.map fun x => some x.2) := by kernel_rfl
theorem f_d148 [Sym] : ConFact Tryd.prog 15 [.int .i64 (.ofNat 148)] cd148 := con_of_runF Lk0_ok noCon fn15 k_d148 rfl globIn (tabLt (by decide))
theorem k_d149 : conAns cd149 (runF Tryd.prog Lk0 400 15 [.int .i64 (.ofNat 149)] (Go.E.start cd149.tabs cd149.A)) = some (cd149.v, cd149.B, [], cd149.objs.map fun x => some x.2) := by kernel_rfl
theorem f_d149 [Sym] : ConFact Tryd.prog 15 [.int .i64 (.ofNat 149)] cd149 := con_of_runF Lk0_ok noCon fn15 k_d149 rfl globIn (tabLt (by decide))
theorem k_d150 : conAns cd150 (runF Tryd.prog Lk0 400 15 [.int .i64 (.ofNat 150)] (Go.E.start cd150.tabs cd150.A)) = some (cd150.v, cd150.B, [], cd150.objs.map fun x => some x.2) := by kernel_rfl
theorem f_d150 [Sym] : ConFact Tryd.prog 15 [.int .i64 (.ofNat 150)] cd150 := con_of_runF Lk0_ok noCon fn15 k_d150 rfl globIn (tabLt (by decide))
theorem k_d151 : conAns cd151 (runF Tryd.prog Lk0 400 15 [.int .i64 (.ofNat 151)] (Go.E.start cd151.tabs cd151.A)) = some (cd151.v, cd151.B, [], cd151.objs.map fun x => some x.2) := by kernel_rfl
theorem f_d151 [Sym] : ConFact Tryd.prog 15 [.int .i64 (.ofNat 151)] cd151 := con_of_runF Lk0_ok noCon fn15 k_d151 rfl globIn (tabLt (by decide))
theorem k_d152 : conAns cd152 (runF Tryd.prog Lk0 400 15 [.int .i64 (.ofNat 152)] (Go.E.start cd152.tabs cd152.A)) = some (cd152.v, cd152.B, [], cd152.objs.map fun x => some x.2) := by kernel_rfl
theorem f_d152 [Sym] : ConFact Tryd.prog 15 [.int .i64 (.ofNat 152)] cd152 := con_of_runF Lk0_ok noCon fn15 k_d152 rfl globIn (tabLt (by decide))
theorem k_d153 : conAns cd153 (runF Tryd.prog Lk0 400 15 [.int .i64 (.ofNat 153)] (Go.E.start cd153.tabs cd153.A)) = some (cd153.v, cd153.B, [], cd153.objs.map fun x => some x.2) := by kernel_rfl
theorem f_d153 [Sym] : ConFact Tryd.prog 15 [.int .i64 (.ofNat 153)] cd153 := con_of_runF Lk0_ok noCon fn15 k_d153 rfl globIn (tabLt (by decide))
theorem k_d154 : conAns cd154 (runF Tryd.prog Lk0 400 15 [.int .i64 (.ofNat 154)] (Go.E.start cd154.tabs cd154.A)) = some (cd154.v, cd154.B, [], cd154.objs.map fun x => some x.2) := by kernel_rfl
theorem f_d154 [Sym] : ConFact Tryd.prog 15 [.int .i64 (.ofNat 154)] cd154 := con_of_runF Lk0_ok noCon fn15 k_d154 rfl globIn (tabLt (by decide))
theorem k_d155 : conAns cd155 (runF Tryd.prog Lk0 400 15 [.int .i64 (.ofNat 155)] (Go.E.start cd155.tabs cd155.A)) = some (cd155.v, cd155.B, [], cd155.objs.map fun x => some x.2) := by kernel_rfl
theorem f_d155 [Sym] : ConFact Tryd.prog 15 [.int .i64 (.ofNat 155)] cd155 := con_of_runF Lk0_ok noCon fn15 k_d155 rfl globIn (tabLt (by decide))
theorem k_d156 : conAns cd156 (runF Tryd.prog Lk0 400 15 [.int .i64 (.ofNat 156)] (Go.E.start cd156.tabs cd156.A)) = some (cd156.v, cd156.B, [], cd156.objs.map fun x => some x.2) := by kernel_rfl
theorem f_d156 [Sym] : ConFact Tryd.prog 15 [.int .i64 (.ofNat 156)] cd156 := con_of_runF Lk0_ok noCon fn15 k_d156 rfl globIn (tabLt (by decide))
theorem k_d157 : conAns cd157 (runF Tryd.prog Lk0 400 15 [.int .i64 (.ofNat 157)] (Go.E.start cd157.tabs cd157.A)) = some (cd157.v, cd157.B, [], cd157.objs.map fun x => some x.2) := by kernel_rfl
theorem f_d157 [Sym] : ConFact Tryd.prog 15 [.int .i64 (.ofNat 157)] cd157 := con_of_runF Lk0_ok noCon fn15 k_d157 rfl globIn (tabLt (by decide))
theorem k_d158 : conAns cd158 (runF Tryd.prog Lk0 400 15 [.int .i64 (.ofNat 158)] (Go.E.start cd158.tabs cd158.A)) = some (cd158.v, cd158.B, [], cd158.objs.map fun x => some x.2) := by kernel_rfl
theorem f_d158 [Sym] : ConFact Tryd.prog 15 [.int .i64 (.ofNat 158)] cd158 := con_of_runF Lk0_ok noCon fn15 k_d158 rfl globIn (tabLt (by decide))
theorem k_d159 : conAns cd159 (runF Tryd.prog Lk0 400 15 [.int .i64 (.ofNat 159)] (Go.E.start cd159.tabs cd159.A)) = some (cd159.v, cd159.B, [], cd159.objs.map fun x => some x.2) := by kernel_rfl
theorem f_d159 [Sym] : ConFact Tryd.prog 15 [.int .i64 (.ofNat 159)] cd159 := con_of_runF Lk0_ok noCon fn15 k_d159 rfl globIn (tabLt (by decide))
theorem k_d160 : conAns cd160 (runF Tryd.prog Lk0 400 15 [.int .i64 (.ofNat 160)] (Go.E.start cd160.tabs cd160.A)) = some (cd160.v, cd160.B, [], cd160.objs.map fun x => some x.2) := by kernel_rfl
theorem f_d160 [Sym] : ConFact Tryd.prog 15 [.int .i64 (.ofNat 160)] cd160 := con_of_runF Lk0_ok noCon fn15 k_d160 rfl globIn (tabLt (by decide))
theorem k_d161 : conAns cd161 (runF Tryd.prog Lk0 400 15 [.int .i64 (.ofNat 161)] (Go.E.start cd161.tabs cd161.A)) = some (cd161.v, cd161.B, [], cd161.objs.map fun x => some x.2) := by kernel_rfl
theorem f_d161 [Sym] : ConFact Tryd.prog 15 [.int .i64 (.ofNat 161)] cd161 := con_of_runF Lk0_ok noCon fn15 k_d161 rfl globIn (tabLt (by decide))
theorem k_d162 : conAns cd162 (runF Tryd.prog Lk0 400 15 [.int .i64 (.ofNat 162)] (Go.E.start cd162.tabs cd162.A)) = some (cd162.v, cd162.B, [], cd162.objs.map fun x => some x.2) := by kernel_rfl
theorem f_d162 [Sym] : ConFact Tryd.prog 15 [.int .i64 (.ofNat 162)] cd162 := con_of_runF Lk0_ok noCon fn15 k_d162 rfl globIn (tabLt (by decide))
theorem k_d163 : conAns cd163 (runF Tryd.prog Lk0 400 15 [.int .i64 (.ofNat 163)] (Go.E.start cd163.tabs cd163.A)) = some (cd163.v, cd163.B, [], cd163.objs.map fun x => some x.2) := by kernel_rfl
theorem f_d163 [Sym] : ConFact Tryd.prog 15 [.int .i64 (.ofNat 163)] cd163 := con_of_runF Lk0_ok noCon fn15 k_d163 rfl globIn (tabLt (by decide))
theorem k_d164 : conAns cd164 (runF Tryd.prog Lk0 400 15 [.int .i64 (.ofNat 164)] (Go.E.start cd164.tabs cd164.A)) = some (cd164.v, cd164.B, [], cd164.objs.map fun x => some x.2) := by kernel_rfl
theorem f_d164 [Sym] : ConFact Tryd.prog 15 [.int .i64 (.ofNat 164)] cd164 := con_of_runF Lk0_ok noCon fn15 k_d164 rfl globIn (tabLt (by decide))
theorem k_d165 : conAns cd165 (runF Tryd.prog Lk0 400 15 [.int .i64 (.ofNat 165)] (Go.E.start cd165.tabs cd165.A)) = some (cd165.v, cd165.B, [], cd165.objs.map fun x => some x.2) := by kernel_rfl
theorem f_d165 [Sym] : ConFact Tryd.prog 15 [.int .i64 (.ofNat 165)] cd165 := con_of_runF Lk0_ok noCon fn15 k_d165 rfl globIn (tabLt (by decide))
theorem k_d166 : conAns cd166 (runF Tryd.prog Lk0 400 15 [.int .i64 (.ofNat 166)] (Go.E.start cd166.tabs cd166.A)) = some (cd166.v, cd166.B, [], cd166.objs.map fun x => some x.2) := by kernel_rfl
theorem f_d166 [Sym] : ConFact Tryd.prog 15 [.int .i64 (.ofNat 166)] cd166 := con_of_runF Lk0_ok noCon fn15 k_d166 rfl globIn (tabLt (by decide))
theorem k_d167 : conAns cd167 (runF Tryd.prog Lk0 400 15 [.int .i64 (.ofNat 167)] (Go.E.start cd167.tabs cd167.A)) = some (cd167.v, cd167.B, [], cd167.objs.map fun x => some x.2) := by kernel_rfl
theorem f_d167 [Sym] : ConFact Tryd.prog 15 [.int .i64 (.ofNat 167)] cd167 := con_of_runF Lk0_ok noCon fn15 k_d167 rfl globIn (tabLt (by decide))
theorem k_d168 : conAns cd168 (runF Tryd.prog Lk0 400 15 [.int .i64 (.ofNat 168)] (Go.E.start cd168.tabs cd168.A)) = some (cd168.v, cd168.B, [], cd168.objs.map fun x => some x.2) := by kernel_rfl
theorem f_d168 [Sym] : ConFact Tryd.prog 15 [.int .i64 (.ofNat 168)] cd168 := con_of_runF Lk0_ok noCon fn15 k_d168 rfl globIn (tabLt (by decide))
theorem k_d169 : conAns cd169 (runF Tryd.prog Lk0 400 15 [.int .i64 (.ofNat 169)] (Go.E.start cd169.tabs cd169.A)) = some (cd169.v, cd169.B, [], cd169.objs.map fun x => some x.2) := by kernel_rfl
theorem f_d169 [Sym] : ConFact Tryd.prog 15 [.int .i64 (.ofNat 169)] cd169 := con_of_runF Lk0_ok noCon fn15 k_d169 rfl globIn (tabLt (by decide))
theorem k_d170 : conAns cd170 (runF Tryd.prog Lk0 400 15 [.int .i64 (.ofNat 170)] (Go.E.start cd170.tabs cd170.A)) = some (cd170.v, cd170.B, [], cd170.objs.map fun x => some x.2) := by kernel_rfl
theorem f_d170 [Sym] : ConFact Tryd.prog 15 [.int .i64 (.ofNat 170)] cd170 := con_of_runF Lk0_ok noCon fn15 k_d170 rfl globIn (tabLt (by decide))
theorem k_d171 : conAns cd171 (runF Tryd.prog Lk0 400 15 [.int .i64 (.ofNat 171)] (Go.E.start cd171.tabs cd171.A)) = some (cd171.v, cd171.B, [], cd171.objs.map fun x => some x.2) := by kernel_rfl
theorem f_d171 [Sym] : ConFact Tryd.prog 15 [.int .i64 (.ofNat 171)] cd171 := con_of_runF Lk0_ok noCon fn15 k_d171 rfl globIn (tabLt (by decide))
theorem k_d172 : conAns cd172 (runF Tryd.prog Lk0 400 15 [.int .i64 (.ofNat 172)] (Go.E.start cd172.tabs cd172.A)) = some (cd172.v, cd172.B, [], cd172.objs.map fun x => some x.2) := by kernel_rfl
theorem f_d172 [Sym] : ConFact Tryd.prog 15 [.int .i64 (.ofNat 172)] cd172 := con_of_runF Lk0_ok noCon fn15 k_d172 rfl globIn (tabLt (by decide))
theorem k_d173 : conAns cd173 (runF Tryd.prog Lk0 400 15 [.int .i64 (.ofNat 173)] (Go.E.start cd173.tabs cd173.A)) = some (cd173.v, cd173.B, [], cd173.objs.map fun x => some x.2) := by kernel_rfl
theorem f_d173 [Sym] : ConFact Tryd.prog 15 [.int .i64 (.ofNat 173)] cd173 := con_of_runF Lk0_ok noCon fn15 k_d173 rfl globIn (tabLt (by decide))
theorem k_d174 : conAns cd174 (runF Tryd.prog Lk0 400 15 [.int .i64 (.ofNat 174)] (Go.E.start cd174.tabs cd174.A)) = some (cd174.v, cd174.B, [], cd174.objs.map fun x => some x.2) := by kernel_rfl
theorem f_d174 [Sym] : ConFact Tryd.prog 15 [.int .i64 (.ofNat 174)] cd174 := con_of_runF Lk0_ok noCon fn15 k_d174 rfl globIn (tabLt (by decide))
theorem k_d175 : conAns cd175 (runF Tryd.prog Lk0 400 15 [.int .i64 (.ofNat 175)] (Go.E.start cd175.tabs cd175.A)) = some (cd175.v, cd175.B, [], cd175.objs.map fun x => some x.2) := by kernel_rfl
theorem f_d175 [Sym] : ConFact Tryd.prog 15 [.int .i64 (.ofNat 175)] cd175 := con_of_runF Lk0_ok noCon fn15 k_d175 rfl globIn (tabLt (by decide))
theorem k_d176 : conAns cd176 (runF Tryd.prog Lk0 400 15 [.int .i64 (.ofNat 176)] (Go.E.start cd176.tabs cd176.A)) = some (cd176.v, cd176.B, [], cd176.objs.map fun x => some x.2) := by kernel_rfl
theorem f_d176 [Sym] : ConFact Tryd.prog 15 [.int .i64 (.ofNat 176)] cd176 := con_of_runF Lk0_ok noCon fn15 k_d176 rfl globIn (tabLt (by decide))
theorem k_d177 : conAns cd177 (runF Tryd.prog Lk0 400 15 [.int .i64 (.ofNat 177)] (Go.E.start cd177.tabs cd177.A)) = some (cd177.v, cd177.B, [], cd177.objs.map fun x => some x.2) := by kernel_rfl
theorem f_d177 [Sym] : ConFact Tryd.prog 15 [.int .i64 (.ofNat 177)] cd177 := con_of_runF Lk0_ok noCon fn15 k_d177 rfl globIn (tabLt (by decide))
theorem k_d178 : conAns cd178 (runF Tryd.prog Lk0 400 15 [.int .i64 (.ofNat 178)] (Go.E.start cd178.tabs cd178.A)) = some (cd178.v, cd178.B, [], cd178.objs.map fun x => some x.2) := by kernel_rfl
theorem f_d178 [Sym] : ConFact Tryd.prog 15 [.int .i64 (.ofNat 178)] cd178 := con_of_runF Lk0_ok noCon fn15 k_d178 rfl globIn (tabLt (by decide))
theorem k_d179 : conAns cd179 (runF Tryd.prog Lk0 400 15 [.int .i64 (.ofNat 179)] (Go.E.start cd179.tabs cd179.A)) = some (cd179.v, cd179.B, [], cd179.objs.map fun x => some x.2) := by kernel_rfl
theorem f_d179 [Sym] : ConFact Tryd.prog 15 [.int .i64 (.ofNat 179)] cd179 := con_of_runF Lk0_ok noCon fn15 k_d179 rfl globIn (tabLt (by decide))
theorem k_d180 : conAns cd180 (runF Tryd.prog Lk0 400 15 [.int .i64 (.ofNat 180)] (Go.E.start cd180.tabs cd180.A)) = some (cd180.v, cd180.B, [], cd180.objs.map fun x => some x.2) := by kernel_rfl
theorem f_d180 [Sym] : ConFact Tryd.prog 15 [.int .i64 (.ofNat 180)] cd180 := con_of_runF Lk0_ok noCon fn15 k_d180 rfl globIn (tabLt (by decide))
theorem k_d181 : conAns cd181 (runF Tryd.prog Lk0 400 15 [.int .i64 (.ofNat 181)] (Go.E.start cd181.tabs cd181.A)) = some (cd181.v, cd181.B, [], cd181.objs.map fun x => some x.2) := by kernel_rfl
theorem f_d181 [Sym] : ConFact Tryd.prog 15 [.int .i64 (.ofNat 181)] cd181 := con_of_runF Lk0_ok noCon fn15 k_d181 rfl globIn (tabLt (by decide))
theorem k_d182 : conAns cd182 (runF Tryd.prog Lk0 400 15 [.int .i64 (.ofNat 182)] (Go.E.start cd182.tabs cd182.A)) = some (cd182.v, cd182.B, [], cd182.objs.map fun x => some x.2) := by kernel_rfl
theorem f_d182 [Sym] : ConFact Tryd.prog 15 [.int .i64 (.ofNat 182)] cd182 := con_of_runF Lk0_ok noCon fn15 k_d182 rfl globIn (tabLt (by decide))
theorem k_d183 : conAns cd183 (runF Tryd.prog Lk0 400 15 [.int .i64 (.ofNat 183)] (Go.E.start cd183.tabs cd183.A)) = some (cd183.v, cd183.B, [], cd183.objs.map fun x => some x.2) := by kernel_rfl
theorem f_d183 [Sym] : ConFact Tryd.prog 15 [.int .i64 (.ofNat 183)] cd183 := con_of_runF Lk0_ok noCon fn15 k_d183 rfl globIn (tabLt (by decide))
theorem k_d184 : conAns cd184 (runF Tryd.prog Lk0 400 15 [.int .i64 (.ofNat 184)] (Go.E.start cd184.tabs cd184.A)) = some (cd184.v, cd184.B, [], cd184.objs.map fun x => some x.2) := by kernel_rfl
theorem f_d184 [Sym] : ConFact Tryd.prog 15 [.int .i64 (.ofNat 184)] cd184 := con_of_runF Lk0_ok noCon fn15 k_d184 rfl globIn (tabLt (by decide))
theorem k_d185 : conAns cd185 (runF Tryd.prog Lk0 400 15 [.int .i64 (.ofNat 185)] (Go.E.start cd185.tabs cd185.A)) = some (cd185.v, cd185.B, [], cd185.objs.map fun x => some x.2) := by kernel_rfl
theorem f_d185 [Sym] : ConFact Tryd.prog 15 [.int .i64 (.ofNat 185)] cd185 := con_of_runF Lk0_ok noCon fn15 k_d185 rfl globIn (tabLt (by decide))
theorem k_d186 : conAns cd186 (runF Tryd.prog Lk0 400 15 [.int .i64 (.ofNat 186)] (Go.E.start cd186.tabs cd186.A)) = some (cd186.v, cd186.B, [], cd186.objs.map fun x => some x.2) := by kernel_rfl
theorem f_d186 [Sym] : ConFact Tryd.prog 15 [.int .i64 (.ofNat 186)] cd186 := con_of_runF Lk0_ok noCon fn15 k_d186 rfl globIn (tabLt (by decide))
theorem k_d187 : conAns cd187 (runF Tryd.prog Lk0 400 15 [.int .i64 (.ofNat 187)] (Go.E.start cd187.tabs cd187.A)) = some (cd187.v, cd187.B, [], cd187.objs.map fun x => some x.2) := by kernel_rfl
theorem f_d187 [Sym] : ConFact Tryd.prog 15 [.int .i64 (.ofNat 187)] cd187 := con_of_runF Lk0_ok noCon fn15 k_d187 rfl globIn (tabLt (by decide))
theorem k_d188 : conAns cd188 (runF Tryd.prog Lk0 400 15 [.int .i64 (.ofNat 188)] (Go.E.start cd188.tabs cd188.A)) = some (cd188.v, cd188.B, [], cd188.objs.map fun x => some x.2) := by kernel_rfl
theorem f_d188 [Sym] : ConFact Tryd.prog 15 [.int .i64 (.ofNat 188)] cd188 := con_of_runF Lk0_ok noCon fn15 k_d188 rfl globIn (tabLt (by decide))
theorem k_d189 : conAns cd189 (runF Tryd.prog Lk0 400 15 [.int .i64 (.ofNat 189)] (Go.E.start cd189.tabs cd189.A)) = some (cd189.v, cd189.B, [], cd189.objs.map fun x => some x.2) := by kernel_rfl
theorem f_d189 [Sym] : ConFact Tryd.prog 15 [.int .i64 (.ofNat 189)] cd189 := con_of_runF Lk0_ok noCon fn15 k_d189 rfl globIn (tabLt (by decide))
theorem k_d190 : conAns cd190 (runF Tryd.prog Lk0 400 15 [.int .i64 (.ofNat 190)] (Go.E.start cd190.tabs cd190.A)) = some (cd190.v, cd190.B, [], cd190.objs.map fun x => some x.2) := by kernel_rfl
theorem f_d190 [Sym] : ConFact Tryd.prog 15 [.int .i64 (.ofNat 190)] cd190 := con_of_runF Lk0_ok noCon fn15 k_d190 rfl globIn (tabLt (by decide))
theorem k_d191 : conAns cd191 (runF Tryd.prog Lk0 400 15 [.int .i64 (.ofNat 191)] (Go.E.start cd191.tabs cd191.A)) = some (cd191.v, cd191.B, [], cd191.objs.map fun x => some x.2) := by kernel_rfl
theorem f_d191 [Sym] : ConFact Tryd.prog 15 [.int .i64 (.ofNat 191)] cd191 := con_of_runF Lk0_ok noCon fn15 k_d191 rfl globIn (tabLt (by decide))
end Go.Proofs.YtfgdoliihmjnoaaDoorE
