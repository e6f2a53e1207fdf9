/- Closed runs. Printed by gen_con.py. -/
import Derived.Test.YtfgdoliihmjnoaaDoorECs
set_option linter.unusedSimpArgs false
set_option linter.unusedVariables false
namespace Go.Proofs.YtfgdoliihmjnoaaDoorE
open Go Go.E Go.Proofs
set_option maxRecDepth 100000
theorem k_s192 : conAns cs192 (runF Tryd.prog Lk0 400 15 [.int .i64 (.ofNat 192)] (Go.E.start cs192.tabs cs192.A)) = some (cs192.v, cs192.B, [], cs192.objs.map fun x => some x.2) := by kernel_rfl
theorem f_s192 [Sym] : ConFact Tryd.prog 15 [.int .i64 (.ofNat 192)] cs192 := con_of_runF Lk0_ok noCon fn15 k_s192 rfl globIn (tabLt (by decide))
theorem k_s193 : conAns cs193 (runF Tryd.prog Lk0 400 15 [.int .i64 (.ofNat 193)] (Go.E.start cs193.tabs cs193.A)) = some (cs193.v, cs193.B, [], cs193.objs.map fun x => some x.2) := by kernel_rfl
theorem f_s193 [Sym] : ConFact Tryd.prog 15 [.int .i64 (.ofNat 193)] cs193 := con_of_runF Lk0_ok noCon fn15 k_s193 rfl globIn (tabLt (by decide))
theorem k_s194 : conAns cs194 (runF Tryd.prog Lk0 400 15 [.int .i64 (.ofNat 194)] (Go.E.start cs194.tabs cs194.A)) = some (cs194.v, cs194.B, [], cs194.objs.map fun x => some x.2) := by kernel_rfl
theorem f_s194 [Sym] : ConFact Tryd.prog 15 [.int .i64 (.ofNat 194)] cs194 := con_of_runF Lk0_ok noCon fn15 k_s194 rfl globIn (tabLt (by decide))
theorem k_s195 : conAns cs195 (runF Tryd.prog Lk0 400 15 [.int .i64 (.ofNat 195)] (Go.E.start cs195.tabs cs195.A)) = some (cs195.v, cs195.B, [], cs195.objs.map fun x => some x.2) := by kernel_rfl
theorem f_s195 [Sym] : ConFact Tryd.prog 15 [.int .i64 (.ofNat 195)] cs195 := con_of_runF Lk0_ok noCon fn15 k_s195 rfl globIn (tabLt (by decide))
theorem k_s196 : conAns cs196 (runF Tryd.prog Lk0 400 15 [.int .i64 (.ofNat 196)] (Go.E.start cs196.tabs cs196.A)) = some (cs196.v, cs196.B, [], cs196.objs.map fun x => some x.2) := by kernel_rfl
theorem f_s196 [Sym] : ConFact Tryd.prog 15 [.int .i64 (.ofNat 196)] cs196 := con_of_runF Lk0_ok noCon fn15 k_s196 rfl globIn (tabLt (by decide))
theorem k_s197 : conAns cs197 (runF Tryd.prog Lk0 400 15 [.int .i64 (.ofNat 197)] (Go.E.start cs197.tabs cs197.A)) = some (cs197.v, cs197.B, [], cs197.objs.map fun x => some x.2) := by kernel_rfl
theorem f_s197 [Sym] : ConFact Tryd.prog 15 [.int .i64 (.ofNat 197)] cs197 := con_of_runF Lk0_ok noCon fn15 k_s197 rfl globIn (tabLt (by decide))
theorem k_s198 : conAns cs198 (runF Tryd.prog Lk0 400 15 [.int .i64 (.ofNat 198)] (Go.E.start cs198.tabs cs198.A)) = some (cs198.v, cs198.B, [], cs198.objs.map fun x => some x.2) := by kernel_rfl
theorem f_s198 [Sym] : ConFact Tryd.prog 15 [.int .i64 (.ofNat 198)] cs198 := con_of_runF Lk0_ok noCon fn15 k_s198 rfl globIn (tabLt (by decide))
theorem k_s199 : conAns cs199 (runF Tryd.prog Lk0 400 15 [.int .i64 (.ofNat 199)] (Go.E.start cs199.tabs cs199.A)) = some (cs199.v, cs199.B, [], cs199.objs.map fun x => some x.2) := by kernel_rfl
theorem f_s199 [Sym] : ConFact Tryd.prog 15 [.int .i64 (.ofNat 199)] cs199 := con_of_runF Lk0_ok noCon fn15 k_s199 rfl globIn (tabLt (by decide))
theorem k_s200 : conAns cs200 (runF Tryd.prog Lk0 400 15 [.int .i64 (.ofNat 200)] (Go.E.start cs200.tabs cs200.A)) = some (cs200.v, cs200.B, [], cs200.objs.map fun x => some x.2) := by kernel_rfl
theorem f_s200 [Sym] : ConFact Tryd.prog 15 [.int .i64 (.ofNat 200)] cs200 := con_of_runF Lk0_ok noCon fn15 k_s200 rfl globIn (tabLt (by decide))
theorem k_s201 : conAns cs201 (runF Tryd.prog Lk0 400 15 [.int .i64 (.ofNat 201)] (Go.E.start cs201.tabs cs201.A)) = some (cs201.v, cs201.B, [], cs201.objs.map fun x => some x.2) := by kernel_rfl
theorem f_s201 [Sym] : ConFact Tryd.prog 15 [.int .i64 (.ofNat 201)] cs201 := con_of_runF Lk0_ok noCon fn15 k_s201 rfl globIn (tabLt (by decide))
theorem k_s202 : conAns cs202 (runF Tryd.prog Lk0 400 15 [.int .i64 (.ofNat 202)] (Go.E.start cs202.tabs cs202.A)) = some (cs202.v, cs202.B, [], cs202.objs.map fun x => some x.2) := by kernel_rfl
theorem f_s202 [Sym] : ConFact Tryd.prog 15 [.int .i64 (.ofNat 202)] cs202 := con_of_runF Lk0_ok noCon fn15 k_s202 rfl globIn (tabLt (by decide))
theorem k_s203 : conAns cs203 (runF Tryd.prog Lk0 400 15 [.int .i64 (.ofNat 203)] (Go.E.start cs203.tabs cs203.A)) = some (cs203.v, cs203.B, [], cs203.objs.map fun x => some x.2) := by kernel_rfl
theorem f_s203 [Sym] : ConFact Tryd.prog 15 [.int .i64 (.ofNat 203)] cs203 := con_of_runF Lk0_ok noCon fn15 k_s203 rfl globIn (tabLt (by decide))
theorem k_s204 : conAns cs204 (runF Tryd.prog Lk0 400 15 [.int .i64 (.ofNat 204)] (Go.E.start cs204.tabs cs204.A)) = some (cs204.v, cs204.B, [], cs204.objs.map fun x => some x.2) := by kernel_rfl
theorem f_s204 [Sym] : ConFact Tryd.prog 15 [.int .i64 (.ofNat 204)] cs204 := con_of_runF Lk0_ok noCon fn15 k_s204 rfl globIn (tabLt (by decide))
theorem k_s205 : conAns cs205 (runF Tryd.prog Lk0 400 15 [.int .i64 (.ofNat 205)] (Go.E.start cs205.tabs cs205.A)) = some (cs205.v, cs205.B, [], cs205.objs.map fun x => some x.2) := by kernel_rfl
theorem f_s205 [Sym] : ConFact Tryd.prog 15 [.int .i64 (.ofNat 205)] cs205 := con_of_runF Lk0_ok noCon fn15 k_s205 rfl globIn (tabLt (by decide))
theorem k_s206 : conAns cs206 (runF Tryd.prog Lk0 400 15 [.int .i64 (.ofNat 206)] (Go.E.start cs206.tabs cs206.A)) = some (cs206.v, cs206.B, [], cs206.objs.map fun x => some x.2) := by kernel_rfl
theorem f_s206 [Sym] : ConFact Tryd.prog 15 [.int .i64 (.ofNat 206)] cs206 := con_of_runF Lk0_ok noCon fn15 k_s206 rfl globIn (tabLt (by decide))
theorem k_s207 : conAns cs207 (runF Tryd.prog Lk0 400 15 [.int .i64 (.ofNat 207)] (Go.E.start cs207.tabs cs207.A)) = some (cs207.v, cs207.B, [], cs207.objs.map fun x => some x.2) := by kernel_rfl
theorem f_s207 [Sym] : ConFact Tryd.prog 15 [.int .i64 (.ofNat 207)] cs207 := con_of_runF Lk0_ok noCon fn15 k_s207 rfl globIn (tabLt (by decide))
theorem k_s208 : conAns cs208 (runF Tryd.prog Lk0 400 15 [.int .i64 (.ofNat 208)] (Go.E.start cs208.tabs cs208.A)) = some (cs208.v, cs208.B, [], cs208.objs.map fun x => some x.2) := by kernel_rfl
theorem f_s208 [Sym] : ConFact Tryd.prog 15 [.int .i64 (.ofNat 208)] cs208 := con_of_runF Lk0_ok noCon fn15 k_s208 rfl globIn (tabLt (by decide))
theorem k_s209 : conAns cs209 (runF Tryd.prog Lk0 400 15 [.int .i64 (.ofNat 209)] (Go.E.start cs209.tabs cs209.A)) = some (cs209.v, cs209.B, [], cs209.objs.map fun x => some x.2) := by kernel_rfl
theorem f_s209 [Sym] : ConFact Tryd.prog 15 [.int .i64 (.ofNat 209)] cs209 := con_of_runF Lk0_ok noCon fn15 k_s209 rfl globIn (tabLt (by decide))
theorem k_s210 : conAns cs210 (runF Tryd.prog Lk0 400 15 [.int .i64 (.ofNat 210)] (Go.E.start cs210.tabs cs210.A)) = some (cs210.v, cs210.B, [], cs210.objs.map fun x => some x.2) := by kernel_rfl
theorem f_s210 [Sym] : ConFact Tryd.prog 15 [.int .i64 (.ofNat 210)] cs210 := con_of_runF Lk0_ok noCon fn15 k_s210 rfl globIn (tabLt (by decide))
theorem k_s211 : conAns cs211 (runF Tryd.prog Lk0 400 15 [.int .i64 (.ofNat 211)] (Go.E.start cs211.tabs cs211.A)) = some (cs211.v, cs211.B, [], cs211.objs.map fun x => some x.2) := by kernel_rfl
theorem f_s211 [Sym] : ConFact Tryd.prog 15 [.int .i64 (.ofNat 211)] cs211 := con_of_runF Lk0_ok noCon fn15 k_s211 rfl globIn (tabLt (by decide))
theorem k_s212 : conAns cs212 (runF Tryd.prog Lk0 400 15 [.int .i64 (.ofNat 212)] (Go.E.start cs212.tabs cs212.A)) = some (cs212.v, cs212.B, [], cs212.objs.map fun x => some x.2) := by kernel_rfl
theorem f_s212 [Sym] : ConFact Tryd.prog 15 [.int .i64 (.ofNat 212)] cs212 := con_of_runF Lk0_ok noCon fn15 k_s212 rfl globIn (tabLt (by decide))
theorem k_s213 : conAns cs213 (runF Tryd.prog Lk0 400 15 [.int .i64 (.ofNat 213)] (Go.E.start cs213.tabs cs213.A)) = some (cs213.v, cs213.B, [], cs213.objs.map fun x => some x.2) := by kernel_rfl
theorem f_s213 [Sym] : ConFact Tryd.prog 15 [.int .i64 (.ofNat 213)] cs213 := con_of_runF Lk0_ok noCon fn15 k_s213 rfl globIn (tabLt (by decide))
theorem k_s214 : conAns cs214 (runF Tryd.prog Lk0 400 15 [.int .i64 (.ofNat 214)] (Go.E.start cs214.tabs cs214.A)) = some (cs214.v, cs214.B, [], cs214.objs.map fun x => some x.2) := by kernel_rfl
theorem f_s214 [Sym] : ConFact Tryd.prog 15 [.int .i64 (.ofNat 214)] cs214 := con_of_runF Lk0_ok noCon fn15 k_s214 rfl globIn (tabLt (by decide))
theorem k_s215 : conAns cs215 (runF Tryd.prog Lk0 400 15 [.int .i64 (.ofNat 215)] (Go.E.start cs215.tabs cs215.A)) = some (cs215.v, cs215.B, [], cs215.objs.map fun x => some x.2) := by kernel_rfl
theorem f_s215 [Sym] : ConFact Tryd.prog 15 [.int .i64 (.ofNat 215)] cs215 := con_of_runF Lk0_ok noCon fn15 k_s215 rfl globIn (tabLt (by decide))
theorem k_s216 : conAns cs216 (runF Tryd.prog Lk0 400 15 [.int .i64 (.ofNat 216)] (Go.E.start cs216.tabs cs216.A)) = some (cs216.v, cs216.B, [], cs216.objs.map fun x => some x.2) := by kernel_rfl
theorem f_s216 [Sym] : ConFact Tryd.prog 15 [.int .i64 (.ofNat 216)] cs216 := con_of_runF Lk0_ok noCon fn15 k_s216 rfl globIn (tabLt (by decide))
theorem k_s217 : conAns cs217 (runF Tryd.prog Lk0 400 15 [.int .i64 (.ofNat 217)] (Go.E.start cs217.tabs cs217.A)) = some (cs217.v, cs217.B, [], cs217.objs.map fun x => some x.2) := by kernel_rfl
theorem f_s217 [Sym] : ConFact Tryd.prog 15 [.int .i64 (.ofNat 217)] cs217 := con_of_runF Lk0_ok noCon fn15 k_s217 rfl globIn (tabLt (by decide))
theorem k_s218 : conAns cs218 (runF Tryd.prog Lk0 400 15 [.int .i64 (.ofNat 218)] (Go.E.start cs218.tabs cs218.A)) = some (cs218.v, cs218.B, [], cs218.objs.map fun x => some x.2) := by kernel_rfl
theorem f_s218 [Sym] : ConFact Tryd.prog 15 [.int .i64 (.ofNat 218)] cs218 := con_of_runF Lk0_ok noCon fn15 k_s218 rfl globIn (tabLt (by decide))
theorem k_s219 : conAns cs219 (runF Tryd.prog Lk0 400 15 [.int .i64 (.ofNat 219)] (Go.E.start cs219.tabs cs219.A)) = some (cs219.v, cs219.B, [], cs219.objs.map fun x => some x.2) := by kernel_rfl
theorem f_s219 [Sym] : ConFact Tryd.prog 15 [.int .i64 (.ofNat 219)] cs219 := con_of_runF Lk0_ok noCon fn15 k_s219 rfl globIn (tabLt (by decide))
theorem k_s220 : conAns cs220 (runF Tryd.prog Lk0 400 15 [.int .i64 (.ofNat 220)] (Go.E.start cs220.tabs cs220.A)) = some (cs220.v, cs220.B, [], cs220.objs.map fun x => some x.2) := by kernel_rfl
theorem f_s220 [Sym] : ConFact Tryd.prog 15 [.int .i64 (.ofNat 220)] cs220 := con_of_runF Lk0_ok noCon fn15 k_s220 rfl globIn (tabLt (by decide))
theorem k_s221 : conAns cs221 (runF Tryd.prog Lk0 400 15 [.int .i64 (.ofNat 221)] (Go.E.start cs221.tabs cs221.A)) = some (cs221.v, cs221.B, [], cs221.objs.map fun x => some x.2) := by kernel_rfl
theorem f_s221 [Sym] : ConFact Tryd.prog 15 [.int .i64 (.ofNat 221)] cs221 := con_of_runF Lk0_ok noCon fn15 k_s221 rfl globIn (tabLt (by decide))
theorem k_s222 : conAns cs222 (runF Tryd.prog Lk0 400 15 [.int .i64 (.ofNat 222)] (Go.E.start cs222.tabs cs222.A)) = some (cs222.v, cs222.B, [], cs222.objs.map fun x => some x.2) := by kernel_rfl
theorem f_s222 [Sym] : ConFact Tryd.prog 15 [.int .i64 (.ofNat 222)] cs222 := con_of_runF Lk0_ok noCon fn15 k_s222 rfl globIn (tabLt (by decide))
theorem k_s223 : conAns cs223 (runF Tryd.prog Lk0 400 15 [.int .i64 (.ofNat 223)] (Go.E.start cs223.tabs cs223.A)) = some (cs223.v, cs223.B, [], cs223.objs.map fun x => some x.2) := by kernel_rfl
theorem f_s223 [Sym] : ConFact Tryd.prog 15 [.int .i64 (.ofNat 223)] cs223 := con_of_runF Lk0_ok noCon fn15 k_s223 rfl globIn (tabLt (by decide))
theorem k_s224 : conAns cs224 (runF Tryd.prog Lk0 400 15 [.int .i64 (.ofNat 224)] (Go.E.start cs224.tabs cs224.A)) = some (cs224.v, cs224.B, [], cs224.objs.map fun x => some x.2) := by kernel_rfl
theorem f_s224 [Sym] : ConFact Tryd.prog 15 [.int .i64 (.ofNat 224)] cs224 := con_of_runF Lk0_ok noCon fn15 k_s224 rfl globIn (tabLt (by decide))
theorem k_s225 : conAns cs225 (runF Tryd.prog Lk0 400 15 [.int .i64 (.ofNat 225)] (Go.E.start cs225.tabs cs225.A)) = some (cs225.v, cs225.B, [], cs225.objs.map fun x => some x.2) := by kernel_rfl
theorem f_s225 [Sym] : ConFact Tryd.prog 15 [.int .i64 (.ofNat 225)] cs225 := con_of_runF Lk0_ok noCon fn15 k_s225 rfl globIn (tabLt (by decide))
theorem k_s226 : conAns cs226 (runF Tryd.prog Lk0 400 15 [.int .i64 (.ofNat 226)] (Go.E.start cs226.tabs cs226.A)) = some (cs226.v, cs226.B, [], cs226.objs.map fun x => some x.2) := by kernel_rfl
theorem f_s226 [Sym] : ConFact Tryd.prog 15 [.int .i64 (.ofNat 226)] cs226 := con_of_runF Lk0_ok noCon fn15 k_s226 rfl globIn (tabLt (by decide))
theorem k_s227 : conAns cs227 (runF Tryd.prog Lk0 400 15 [.int .i64 (.ofNat 227)] (Go.E.start cs227.tabs cs227.A)) = some (cs227.v, cs227.B, [], cs227.objs.map fun x => some x.2) := by kernel_rfl
theorem f_s227 [Sym] : ConFact Tryd.prog 15 [.int .i64 (.ofNat 227)] cs227 := con_of_runF Lk0_ok noCon fn15 k_s227 rfl globIn (tabLt (by decide))
theorem k_s228 : conAns cs228 (runF Tryd.prog Lk0 400 15 [.int .i64 (.ofNat 228)] (Go.E.start cs228.tabs cs228.A)) = some (cs228.v, cs228.B, [], cs228.objs.map fun x => some x.2) := by kernel_rfl
theorem f_s228 [Sym] : ConFact Tryd.prog 15 [.int .i64 (.ofNat 228)] cs228 := con_of_runF Lk0_ok noCon fn15 k_s228 rfl globIn (tabLt (by decide))
theorem k_s229 : conAns cs229 (runF Tryd.prog Lk0 400 15 [.int .i64 (.ofNat 229)] (Go.E.start cs229.tabs cs229.A)) = some (cs229.v, cs229.B, [], cs229.objs.map fun x => some x.2) := by kernel_rfl
theorem f_s229 [Sym] : ConFact Tryd.prog 15 [.int .i64 (.ofNat 229)] cs229 := con_of_runF Lk0_ok noCon fn15 k_s229 rfl globIn (tabLt (by decide))
theorem k_s230 : conAns cs230 (runF Tryd.prog Lk0 400 15 [.int .i64 (.ofNat 230)] (Go.E.start cs230.tabs cs230.A)) = some (cs230.v, cs230.B, [], cs230.objs.map fun x => some x.2) := by kernel_rfl
theorem f_s230 [Sym] : ConFact Tryd.prog 15 [.int .i64 (.ofNat 230)] cs230 := con_of_runF Lk0_ok noCon fn15 k_s230 rfl globIn (tabLt (by decide))
theorem k_s231 : conAns cs231 (runF Tryd.prog Lk0 400 15 [.int .i64 (.ofNat 231)] (Go.E.start cs231.tabs cs231.A)) = some (cs231.v, cs231.B, [], cs231.objs.map fun x => some x.2) := by kernel_rfl
theorem f_s231 [Sym] : ConFact Tryd.prog 15 [.int .i64 (.ofNat 231)] cs231 := con_of_runF Lk0_ok noCon fn15 k_s231 rfl globIn (tabLt (by decide))
theorem k_s232 : conAns cs232 (runF Tryd.prog Lk0 400 15 [.int .i64 (.ofNat 232)] (Go.E.start cs232.tabs cs232.A)) = some (cs232.v, cs232.B, [], cs232.objs.map fun x => some x.2) := by kernel_rfl
theorem f_s232 [Sym] : ConFact Tryd.prog 15 [.int .i64 (.ofNat 232)] cs232 := con_of_runF Lk0_ok noCon fn15 k_s232 rfl globIn (tabLt (by decide))
theorem k_s233 : conAns cs233 (runF Tryd.prog Lk0 400 15 [.int .i64 (.ofNat 233)] (Go.E.start cs233.tabs cs233.A)) = some (cs233.v, cs233.B, [], cs233.objs.map fun x => some x.2) := by kernel_rfl
theorem f_s233 [Sym] : ConFact Tryd.prog 15 [.int .i64 (.ofNat 233)] cs233 := con_of_runF Lk0_ok noCon fn15 k_s233 rfl globIn (tabLt (by decide))
theorem k_s234 : conAns cs234 (runF Tryd.prog Lk0 400 15 [.int .i64 (.ofNat 234)] (Go.E.start cs234.tabs cs234.A)) = some (cs234.v, cs234.B, [], cs234.objs.map fun x => some x.2) := by kernel_rfl
theorem f_s234 [Sym] : ConFact Tryd.prog 15 [.int .i64 (.ofNat 234)] cs234 := con_of_runF Lk0_ok noCon fn15 k_s234 rfl globIn (tabLt (by decide))
theorem k_s235 : conAns cs235 (runF Tryd.prog Lk0 400 15 [.int .i64 (.ofNat 235)] (Go.E.start cs235.tabs cs235.A)) = some (cs235.v, cs235.B, [], cs235.objs.map fun x => some x.2) := by kernel_rfl
theorem f_s235 [Sym] : ConFact Tryd.prog 15 [.int .i64 (.ofNat 235)] cs235 := con_of_runF Lk0_ok noCon fn15 k_s235 rfl globIn (tabLt (by decide))
theorem k_s236 : conAns cs236 (runF Tryd.prog Lk0 400 15 [.int .i64 (.ofNat 236)] (Go.E.start cs236.tabs cs236.A)) = some (cs236.v, cs236.B, [], cs236.objs.map fun x => some x.2) := by kernel_rfl
theorem f_s236 [Sym] : ConFact Tryd.prog 15 [.int .i64 (.ofNat 236)] cs236 := con_of_runF Lk0_ok noCon fn15 k_s236 rfl globIn (tabLt (by decide))
theorem k_s237 : conAns cs237 (runF Tryd.prog Lk0 400 15 [.int .i64 (.ofNat 237)] (Go.E.start cs237.tabs cs237.A)) = some (cs237.v, cs237.B, [], cs237.objs.map fun x => some x.2) := by kernel_rfl
theorem f_s237 [Sym] : ConFact Tryd.prog 15 [.int .i64 (.ofNat 237)] cs237 := con_of_runF Lk0_ok noCon fn15 k_s237 rfl globIn (tabLt (by decide))
theorem k_s238 : conAns cs238 (runF Tryd.prog Lk0 400 15 [.int .i64 (.ofNat 238)] (Go.E.start cs238.tabs cs238.A)) = some (cs238.v, cs238.B, [], cs238.objs.map fun x => some x.2) := by kernel_rfl
theorem f_s238 [Sym] : ConFact Tryd.prog 15 [.int .i64 (.ofNat 238)] cs238 := con_of_runF Lk0_ok noCon fn15 k_s238 rfl globIn (tabLt (by decide))
theorem k_s239 : conAns cs239 (runF Tryd.prog Lk0 400 15 [.int .i64 (.ofNat 239)] (Go.E.start cs239.tabs cs239.A)) = some (cs239.v, cs239.B, [], cs239.objs.map fun x => some x.2) := by kernel_rfl
theorem f_s239 [Sym] : ConFact Tryd.prog 15 [.int .i64 (.ofNat 239)] cs239 := con_of_runF Lk0_ok noCon fn15 k_s239 rfl globIn (tabLt (by decide))
theorem k_s240 : conAns cs240 (runF Tryd.prog Lk0 400 15 [.int .i64 (.ofNat 240)] (Go.E.start cs240.tabs cs240.A)) = some (cs240.v, cs240.B, [], cs240.objs.map fun x => some x.2) := by kernel_rfl
theorem f_s240 [Sym] : ConFact Tryd.prog 15 [.int .i64 (.ofNat 240)] cs240 := con_of_runF Lk0_ok noCon fn15 k_s240 rfl globIn (tabLt (by decide))
theorem k_s241 : conAns cs241 (runF Tryd.prog Lk0 400 15 [.int .i64 (.ofNat 241)] (Go.E.start cs241.tabs cs241.A)) = some (cs241.v, cs241.B, [], cs241.objs.map fun x => some x.2) := by kernel_rfl
theorem f_s241 [Sym] : ConFact Tryd.prog 15 [.int .i64 (.ofNat 241)] cs241 := con_of_runF Lk0_ok noCon fn15 k_s241 rfl globIn (tabLt (by decide))
theorem k_s242 : conAns cs242 (runF Tryd.prog Lk0 400 15 [.int .i64 (.ofNat 242)] (Go.E.start cs242.tabs cs242.A)) = some (cs242.v, cs242.B, [], cs242.objs.map fun x => some x.2) := by kernel_rfl
theorem f_s242 [Sym] : ConFact Tryd.prog 15 [.int .i64 (.ofNat 242)] cs242 := con_of_runF Lk0_ok noCon fn15 k_s242 rfl globIn (tabLt (by decide))
theorem k_s243 : conAns cs243 (runF Tryd.prog Lk0 400 15 [.int .i64 (.ofNat 243)] (Go.E.start cs243.tabs cs243.A)) = some (cs243.v, cs243.B, [], cs243.objs.map fun x => some x.2) := by kernel_rfl
theorem f_s243 [Sym] : ConFact Tryd.prog 15 [.int .i64 (.ofNat 243)] cs243 := con_of_runF Lk0_ok noCon fn15 k_s243 rfl globIn (tabLt (by decide))
theorem k_s244 : conAns cs244 (runF Tryd.prog Lk0 400 15 [.int .i64 (.ofNat 244)] (Go.E.start cs244.tabs cs244.A)) = some (cs244.v, cs244.B, [], cs244.objs.map fun x => some x.2) := by kernel_rfl
theorem f_s244 [Sym] : ConFact Tryd.prog 15 [.int .i64 (.ofNat 244)] cs244 := con_of_runF Lk0_ok noCon fn15 k_s244 rfl globIn (tabLt (by decide))
theorem k_s245 : conAns cs245 (runF Tryd.prog Lk0 400 15 [.int .i64 (.ofNat 245)] (Go.E.start cs245.tabs cs245.A)) = some (cs245.v, cs245.B, [], cs245.objs.map fun x => some x.2) := by kernel_rfl
theorem f_s245 [Sym] : ConFact Tryd.prog 15 [.int .i64 (.ofNat 245)] cs245 := con_of_runF Lk0_ok noCon fn15 k_s245 rfl globIn (tabLt (by decide))
theorem k_s246 : conAns cs246 (runF Tryd.prog Lk0 400 15 [.int .i64 (.ofNat 246)] (Go.E.start cs246.tabs cs246.A)) = some (cs246.v, cs246.B, [], cs246.objs.map fun x => some x.2) := by kernel_rfl
theorem f_s246 [Sym] : ConFact Tryd.prog 15 [.int .i64 (.ofNat 246)] cs246 := con_of_runF Lk0_ok noCon fn15 k_s246 rfl globIn (tabLt (by decide))
theorem k_s247 : conAns cs247 (runF Tryd.prog Lk0 400 15 [.int .i64 (.ofNat 247)] (Go.E.start cs247.tabs cs247.A)) = some (cs247.v, cs247.B, [], cs247.objs.map fun x => some x.2) := by kernel_rfl
theorem f_s247 [Sym] : ConFact Tryd.prog 15 [.int .i64 (.ofNat 247)] cs247 := con_of_runF Lk0_ok noCon fn15 k_s247 rfl globIn (tabLt (by decide))
theorem k_s248 : conAns cs248 (runF Tryd.prog Lk0 400 15 [.int .i64 (.ofNat 248)] (Go.E.start cs248.tabs cs248.A)) = some (cs248.v, cs248.B, [], cs248.objs.map fun x => some x.2) := by kernel_rfl
theorem f_s248 [Sym] : ConFact Tryd.prog 15 [.int .i64 (.ofNat 248)] cs248 := con_of_runF Lk0_ok noCon fn15 k_s248 rfl globIn (tabLt (by decide))
theorem k_s249 : conAns cs249 (runF Tryd.prog Lk0 400 15 [.int .i64 (.ofNat 249)] (Go.E.start cs249.tabs cs249.A)) = some (cs249.v, cs249.B, [], cs249.objs.map fun x => some x.2) := by kernel_rfl
theorem f_s249 [Sym] : ConFact Tryd.prog 15 [.int .i64 (.ofNat 249)] cs249 := con_of_runF Lk0_ok noCon fn15 k_s249 rfl globIn (tabLt (by decide))
theorem k_s250 : conAns cs250 (runF Tryd.prog Lk0 400 15 [.int .i64 (.ofNat 250)] (Go.E.start cs250.tabs cs250.A)) = some (cs250.v, cs250.B, [], cs250.objs.map fun x => some x.2) := by kernel_rfl
theorem f_s250 [Sym] : ConFact Tryd.prog 15 [.int .i64 (.ofNat 250)] cs250 := con_of_runF Lk0_ok noCon fn15 k_s250 rfl globIn (tabLt (by decide))
theorem k_s251 : conAns cs251 (runF Tryd.prog Lk0 400 15 [.int .i64 (.ofNat 251)] (Go.E.start cs251.tabs cs251.A)) = some (cs251.v, cs251.B, [], cs251.objs.map fun x => some x.2) := by kernel_rfl
theorem f_s251 [Sym] : ConFact Tryd.prog 15 [.int .i64 (.ofNat 251)] cs251 := con_of_runF Lk0_ok noCon fn15 k_s251 rfl globIn (tabLt (by decide))
theorem k_s252 : conAns cs252 (runF Tryd.prog Lk0 400 15 [.int .i64 (.ofNat 252)] (Go.E.start cs252.tabs cs252.A)) = some (cs252.v, cs252.B, [], cs252.objs.map fun x => some x.2) := by kernel_rfl
theorem f_s252 [Sym] : ConFact Tryd.prog 15 [.int .i64 (.ofNat 252)] cs252 := con_of_runF Lk0_ok noCon fn15 k_s252 rfl globIn (tabLt (by decide))
theorem k_s253 : conAns cs253 (runF Tryd.prog Lk0 400 15 [.int .i64 (.ofNat 253)] (Go.E.start cs253.tabs cs253.A)) = some (cs253.v, cs253.B, [], cs253.objs.map fun x => some x.2) := by kernel_rfl
theorem f_s253 [Sym] : ConFact Tryd.prog 15 [.int .i64 (.ofNat 253)] cs253 := con_of_runF Lk0_ok noCon fn15 k_s253 rfl globIn (tabLt (by decide))
theorem k_s254 : conAns cs254 (runF Tryd.prog Lk0 400 15 [.int .i64 (.ofNat 254)] (Go.E.start cs254.tabs cs254.A)) = some (cs254.v, cs254.B, [], cs254.objs.map fun x => some x.2) := by kernel_rfl
theorem f_s254 [Sym] : ConFact Tryd.prog 15 [.int .i64 (.ofNat 254)] cs254 := con_of_runF Lk0_ok noCon fn15 k_s254 rfl globIn (tabLt (by decide))
theorem k_s255 : conAns cs255 (runF Tryd.prog Lk0 400 15 [.int .i64 (.ofNat 255)] (Go.E.start cs255.tabs cs255.A)) = some (cs255.v, cs255.B, [], cs255.objs.map fun x => some x.2) := by kernel_rfl
theorem f_s255 [Sym] : ConFact Tryd.prog 15 [.int .i64 (.ofNat 255)] cs255 := con_of_runF Lk0_ok noCon fn15 k_s255 rfl globIn (tabLt (by decide))
end Go.Proofs.YtfgdoliihmjnoaaDoorE
