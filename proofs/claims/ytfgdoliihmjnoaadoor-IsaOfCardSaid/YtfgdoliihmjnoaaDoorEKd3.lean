/- Closed runs. Printed by gen_con.py. -/
import Derived.Test.YtfgdoliihmjnoaaDoorECd
set_option linter.unusedSimpArgs false
set_option linter.unusedVariables false
namespace Go.Proofs.YtfgdoliihmjnoaaDoorE
open Go Go.E Go.Proofs
set_option maxRecDepth 100000
theorem k_d192 : conAns cd192 (runF Tryd.prog Lk0 400 15 [.int .i64 (.ofNat 192)] (Go.E.start cd192.tabs cd192.A)) = some (cd192.v, cd192.B, [], cd192.objs.map fun x => some x.2) := by kernel_rfl
theorem f_d192 [Sym] : ConFact Tryd.prog 15 [.int .i64 (.ofNat 192)] cd192 := con_of_runF Lk0_ok noCon fn15 k_d192 rfl globIn (tabLt (by decide))
theorem k_d193 : conAns cd193 (runF Tryd.prog Lk0 400 15 [.int .i64 (.ofNat 193)] (Go.E.start cd193.tabs cd193.A)) = some (cd193.v, cd193.B, [], cd193.objs.map fun x => some x.2) := by kernel_rfl
theorem f_d193 [Sym] : ConFact Tryd.prog 15 [.int .i64 (.ofNat 193)] cd193 := con_of_runF Lk0_ok noCon fn15 k_d193 rfl globIn (tabLt (by decide))
theorem k_d194 : conAns cd194 (runF Tryd.prog Lk0 400 15 [.int .i64 (.ofNat 194)] (Go.E.start cd194.tabs cd194.A)) = some (cd194.v, cd194.B, [], cd194.objs.map fun x => some x.2) := by kernel_rfl
theorem f_d194 [Sym] : ConFact Tryd.prog 15 [.int .i64 (.ofNat 194)] cd194 := con_of_runF Lk0_ok noCon fn15 k_d194 rfl globIn (tabLt (by decide))
theorem k_d195 : conAns cd195 (runF Tryd.prog Lk0 400 15 [.int .i64 (.ofNat 195)] (Go.E.start cd195.tabs cd195.A)) = some (cd195.v, cd195.B, [], cd195.objs.map fun x => some x.2) := by kernel_rfl
theorem f_d195 [Sym] : ConFact Tryd.prog 15 [.int .i64 (.ofNat 195)] cd195 := con_of_runF Lk0_ok noCon fn15 k_d195 rfl globIn (tabLt (by decide))
theorem k_d196 : conAns cd196 (runF Tryd.prog Lk0 400 15 [.int .i64 (.ofNat 196)] (Go.E.start cd196.tabs cd196.A)) = some (cd196.v, cd196.B, [], cd196.objs.map fun x => some x.2) := by kernel_rfl
theorem f_d196 [Sym] : ConFact Tryd.prog 15 [.int .i64 (.ofNat 196)] cd196 := con_of_runF Lk0_ok noCon fn15 k_d196 rfl globIn (tabLt (by decide))
theorem k_d197 : conAns cd197 (runF Tryd.prog Lk0 400 15 [.int .i64 (.ofNat 197)] (Go.E.start cd197.tabs cd197.A)) = some (cd197.v, cd197.B, [], cd197.objs.map fun x => some x.2) := by kernel_rfl
theorem f_d197 [Sym] : ConFact Tryd.prog 15 [.int .i64 (.ofNat 197)] cd197 := con_of_runF Lk0_ok noCon fn15 k_d197 rfl globIn (tabLt (by decide))
theorem k_d198 : conAns cd198 (runF Tryd.prog Lk0 400 15 [.int .i64 (.ofNat 198)] (Go.E.start cd198.tabs cd198.A)) = some (cd198.v, cd198.B, [], cd198.objs.map fun x => some x.2) := by kernel_rfl
theorem f_d198 [Sym] : ConFact Tryd.prog 15 [.int .i64 (.ofNat 198)] cd198 := con_of_runF Lk0_ok noCon fn15 k_d198 rfl globIn (tabLt (by decide))
theorem k_d199 : conAns cd199 (runF Tryd.prog Lk0 400 15 [.int .i64 (.ofNat 199)] (Go.E.start cd199.tabs cd199.A)) = some (cd199.v, cd199.B, [], cd199.objs.map fun x => some x.2) := by kernel_rfl
theorem f_d199 [Sym] : ConFact Tryd.prog 15 [.int .i64 (.ofNat 199)] cd199 := con_of_runF Lk0_ok noCon fn15 k_d199 rfl globIn (tabLt (by decide))
theorem k_d200 : conAns cd200 (runF Tryd.prog Lk0 400 15 [.int .i64 (.ofNat 200)] (Go.E.start cd200.tabs cd200.A)) = some (cd200.v, cd200.B, [], cd200.objs.map fun x => some x.2) := by kernel_rfl
theorem f_d200 [Sym] : ConFact Tryd.prog 15 [.int .i64 (.ofNat 200)] cd200 := con_of_runF Lk0_ok noCon fn15 k_d200 rfl globIn (tabLt (by decide))
theorem k_d201 : conAns cd201 (runF Tryd.prog Lk0 400 15 [.int .i64 (.ofNat 201)] (Go.E.start cd201.tabs cd201.A)) = some (cd201.v, cd201.B, [], cd201.objs.map fun x => some x.2) := by kernel_rfl
theorem f_d201 [Sym] : ConFact Tryd.prog 15 [.int .i64 (.ofNat 201)] cd201 := con_of_runF Lk0_ok noCon fn15 k_d201 rfl globIn (tabLt (by decide))
theorem k_d202 : conAns cd202 (runF Tryd.prog Lk0 400 15 [.int .i64 (.ofNat 202)] (Go.E.start cd202.tabs cd202.A)) = some (cd202.v, cd202.B, [], cd202.objs.map fun x => some x.2) := by kernel_rfl
theorem f_d202 [Sym] : ConFact Tryd.prog 15 [.int .i64 (.ofNat 202)] cd202 := con_of_runF Lk0_ok noCon fn15 k_d202 rfl globIn (tabLt (by decide))
theorem k_d203 : conAns cd203 (runF Tryd.prog Lk0 400 15 [.int .i64 (.ofNat 203)] (Go.E.start cd203.tabs cd203.A)) = some (cd203.v, cd203.B, [], cd203.objs.map fun x => some x.2) := by kernel_rfl
theorem f_d203 [Sym] : ConFact Tryd.prog 15 [.int .i64 (.ofNat 203)] cd203 := con_of_runF Lk0_ok noCon fn15 k_d203 rfl globIn (tabLt (by decide))
theorem k_d204 : conAns cd204 (runF Tryd.prog Lk0 400 15 [.int .i64 (.ofNat 204)] (Go.E.start cd204.tabs cd204.A)) = some (cd204.v, cd204.B, [], cd204.objs.map fun x => some x.2) := by kernel_rfl
theorem f_d204 [Sym] : ConFact Tryd.prog 15 [.int .i64 (.ofNat 204)] cd204 := con_of_runF Lk0_ok noCon fn15 k_d204 rfl globIn (tabLt (by decide))
theorem k_d205 : conAns cd205 (runF Tryd.prog Lk0 400 15 [.int .i64 (.ofNat 205)] (Go.E.start cd205.tabs cd205.A)) = some (cd205.v, cd205.B, [], cd205.objs.map fun x => some x.2) := by kernel_rfl
theorem f_d205 [Sym] : ConFact Tryd.prog 15 [.int .i64 (.ofNat 205)] cd205 := con_of_runF Lk0_ok noCon fn15 k_d205 rfl globIn (tabLt (by decide))
theorem k_d206 : conAns cd206 (runF Tryd.prog Lk0 400 15 [.int .i64 (.ofNat 206)] (Go.E.start cd206.tabs cd206.A)) = some (cd206.v, cd206.B, [], cd206.objs.map fun x => some x.2) := by kernel_rfl
theorem f_d206 [Sym] : ConFact Tryd.prog 15 [.int .i64 (.ofNat 206)] cd206 := con_of_runF Lk0_ok noCon fn15 k_d206 rfl globIn (tabLt (by decide))
theorem k_d207 : conAns cd207 (runF Tryd.prog Lk0 400 15 [.int .i64 (.ofNat 207)] (Go.E.start cd207.tabs cd207.A)) = some (cd207.v, cd207.B, [], cd207.objs.map fun x => some x.2) := by kernel_rfl
theorem f_d207 [Sym] : ConFact Tryd.prog 15 [.int .i64 (.ofNat 207)] cd207 := con_of_runF Lk0_ok noCon fn15 k_d207 rfl globIn (tabLt (by decide))
theorem k_d208 : conAns cd208 (runF Tryd.prog Lk0 400 15 [.int .i64 (.ofNat 208)] (Go.E.start cd208.tabs cd208.A)) = some (cd208.v, cd208.B, [], cd208.objs.map fun x => some x.2) := by kernel_rfl
theorem f_d208 [Sym] : ConFact Tryd.prog 15 [.int .i64 (.ofNat 208)] cd208 := con_of_runF Lk0_ok noCon fn15 k_d208 rfl globIn (tabLt (by decide))
theorem k_d209 : conAns cd209 (runF Tryd.prog Lk0 400 15 [.int .i64 (.ofNat 209)] (Go.E.start cd209.tabs cd209.A)) = some (cd209.v, cd209.B, [], cd209.objs.map fun x => some x.2) := by kernel_rfl
theorem f_d209 [Sym] : ConFact Tryd.prog 15 [.int .i64 (.ofNat 209)] cd209 := con_of_runF Lk0_ok noCon fn15 k_d209 rfl globIn (tabLt (by decide))
theorem k_d210 : conAns cd210 (runF Tryd.prog Lk0 400 15 [.int .i64 (.ofNat 210)] (Go.E.start cd210.tabs cd210.A)) = some (cd210.v, cd210.B, [], cd210.objs.map fun x => some x.2) := by kernel_rfl
theorem f_d210 [Sym] : ConFact Tryd.prog 15 [.int .i64 (.ofNat 210)] cd210 := con_of_runF Lk0_ok noCon fn15 k_d210 rfl globIn (tabLt (by decide))
theorem k_d211 : conAns cd211 (runF Tryd.prog Lk0 400 15 [.int .i64 (.ofNat 211)] (Go.E.start cd211.tabs cd211.A)) = some (cd211.v, cd211.B, [], cd211.objs.map fun x => some x.2) := by kernel_rfl
theorem f_d211 [Sym] : ConFact Tryd.prog 15 [.int .i64 (.ofNat 211)] cd211 := con_of_runF Lk0_ok noCon fn15 k_d211 rfl globIn (tabLt (by decide))
theorem k_d212 : conAns cd212 (runF Tryd.prog Lk0 400 15 [.int .i64 (.ofNat 212)] (Go.E.start cd212.tabs cd212.A)) = some (cd212.v, cd212.B, [], cd212.objs.map fun x => some x.2) := by kernel_rfl
theorem f_d212 [Sym] : ConFact Tryd.prog 15 [.int .i64 (.ofNat 212)] cd212 := con_of_runF Lk0_ok noCon fn15 k_d212 rfl globIn (tabLt (by decide))
theorem k_d213 : conAns cd213 (runF Tryd.prog Lk0 400 15 [.int .i64 (.ofNat 213)] (Go.E.start cd213.tabs cd213.A)) = some (cd213.v, cd213.B, [], cd213.objs.map fun x => some x.2) := by kernel_rfl
theorem f_d213 [Sym] : ConFact Tryd.prog 15 [.int .i64 (.ofNat 213)] cd213 := con_of_runF Lk0_ok noCon fn15 k_d213 rfl globIn (tabLt (by decide))
theorem k_d214 : conAns cd214 (runF Tryd.prog Lk0 400 15 [.int .i64 (.ofNat 214)] (Go.E.start cd214.tabs cd214.A)) = some (cd214.v, cd214.B, [], cd214.objs.map fun x => some x.2) := by kernel_rfl
theorem f_d214 [Sym] : ConFact Tryd.prog 15 [.int .i64 (.ofNat 214)] cd214 := con_of_runF Lk0_ok noCon fn15 k_d214 rfl globIn (tabLt (by decide))
theorem k_d215 : conAns cd215 (runF Tryd.prog Lk0 400 15 [.int .i64 (.ofNat 215)] (Go.E.start cd215.tabs cd215.A)) = some (cd215.v, cd215.B, [], cd215.objs.map fun x => some x.2) := by kernel_rfl
theorem f_d215 [Sym] : ConFact Tryd.prog 15 [.int .i64 (.ofNat 215)] cd215 := con_of_runF Lk0_ok noCon fn15 k_d215 rfl globIn (tabLt (by decide))
theorem k_d216 : conAns cd216 (runF Tryd.prog Lk0 400 15 [.int .i64 (.ofNat 216)] (Go.E.start cd216.tabs cd216.A)) = some (cd216.v, cd216.B, [], cd216.objs.map fun x => some x.2) := by kernel_rfl
theorem f_d216 [Sym] : ConFact Tryd.prog 15 [.int .i64 (.ofNat 216)] cd216 := con_of_runF Lk0_ok noCon fn15 k_d216 rfl globIn (tabLt (by decide))
theorem k_d217 : conAns cd217 (runF Tryd.prog Lk0 400 15 [.int .i64 (.ofNat 217)] (Go.E.start cd217.tabs cd217.A)) = some (cd217.v, cd217.B, [], cd217.objs.map fun x => some x.2) := by kernel_rfl
theorem f_d217 [Sym] : ConFact Tryd.prog 15 [.int .i64 (.ofNat 217)] cd217 := con_of_runF Lk0_ok noCon fn15 k_d217 rfl globIn (tabLt (by decide))
theorem k_d218 : conAns cd218 (runF Tryd.prog Lk0 400 15 [.int .i64 (.ofNat 218)] (Go.E.start cd218.tabs cd218.A)) = some (cd218.v, cd218.B, [], cd218.objs.map fun x => some x.2) := by kernel_rfl
theorem f_d218 [Sym] : ConFact Tryd.prog 15 [.int .i64 (.ofNat 218)] cd218 := con_of_runF Lk0_ok noCon fn15 k_d218 rfl globIn (tabLt (by decide))
theorem k_d219 : conAns cd219 (runF Tryd.prog Lk0 400 15 [.int .i64 (.ofNat 219)] (Go.E.start cd219.tabs cd219.A)) = some (cd219.v, cd219.B, [], cd219.objs.map fun x => some x.2) := by kernel_rfl
theorem f_d219 [Sym] : ConFact Tryd.prog 15 [.int .i64 (.ofNat 219)] cd219 := con_of_runF Lk0_ok noCon fn15 k_d219 rfl globIn (tabLt (by decide))
theorem k_d220 : conAns cd220 (runF Tryd.prog Lk0 400 15 [.int .i64 (.ofNat 220)] (Go.E.start cd220.tabs cd220.A)) = some (cd220.v, cd220.B, [], cd220.objs.map fun x => some x.2) := by kernel_rfl
theorem f_d220 [Sym] : ConFact Tryd.prog 15 [.int .i64 (.ofNat 220)] cd220 := con_of_runF Lk0_ok noCon fn15 k_d220 rfl globIn (tabLt (by decide))
theorem k_d221 : conAns cd221 (runF Tryd.prog Lk0 400 15 [.int .i64 (.ofNat 221)] (Go.E.start cd221.tabs cd221.A)) = some (cd221.v, cd221.B, [], cd221.objs.map fun x => some x.2) := by kernel_rfl
theorem f_d221 [Sym] : ConFact Tryd.prog 15 [.int .i64 (.ofNat 221)] cd221 := con_of_runF Lk0_ok noCon fn15 k_d221 rfl globIn (tabLt (by decide))
theorem k_d222 : conAns cd222 (runF Tryd.prog Lk0 400 15 [.int .i64 (.ofNat 222)] (Go.E.start cd222.tabs cd222.A)) = some (cd222.v, cd222.B, [], cd222.objs.map fun x => some x.2) := by kernel_rfl
theorem f_d222 [Sym] : ConFact Tryd.prog 15 [.int .i64 (.ofNat 222)] cd222 := con_of_runF Lk0_ok noCon fn15 k_d222 rfl globIn (tabLt (by decide))
theorem k_d223 : conAns cd223 (runF Tryd.prog Lk0 400 15 [.int .i64 (.ofNat 223)] (Go.E.start cd223.tabs cd223.A)) = some (cd223.v, cd223.B, [], cd223.objs.map fun x => some x.2) := by kernel_rfl
theorem f_d223 [Sym] : ConFact Tryd.prog 15 [.int .i64 (.ofNat 223)] cd223 := con_of_runF Lk0_ok noCon fn15 k_d223 rfl globIn (tabLt (by decide))
theorem k_d224 : conAns cd224 (runF Tryd.prog Lk0 400 15 [.int .i64 (.ofNat 224)] (Go.E.start cd224.tabs cd224.A)) = some (cd224.v, cd224.B, [], cd224.objs.map fun x => some x.2) := by kernel_rfl
theorem f_d224 [Sym] : ConFact Tryd.prog 15 [.int .i64 (.ofNat 224)] cd224 := con_of_runF Lk0_ok noCon fn15 k_d224 rfl globIn (tabLt (by decide))
theorem k_d225 : conAns cd225 (runF Tryd.prog Lk0 400 15 [.int .i64 (.ofNat 225)] (Go.E.start cd225.tabs cd225.A)) = some (cd225.v, cd225.B, [], cd225.objs.map fun x => some x.2) := by kernel_rfl
theorem f_d225 [Sym] : ConFact Tryd.prog 15 [.int .i64 (.ofNat 225)] cd225 := con_of_runF Lk0_ok noCon fn15 k_d225 rfl globIn (tabLt (by decide))
theorem k_d226 : conAns cd226 (runF Tryd.prog Lk0 400 15 [.int .i64 (.ofNat 226)] (Go.E.start cd226.tabs cd226.A)) = some (cd226.v, cd226.B, [], cd226.objs.map fun x => some x.2) := by kernel_rfl
theorem f_d226 [Sym] : ConFact Tryd.prog 15 [.int .i64 (.ofNat 226)] cd226 := con_of_runF Lk0_ok noCon fn15 k_d226 rfl globIn (tabLt (by decide))
theorem k_d227 : conAns cd227 (runF Tryd.prog Lk0 400 15 [.int .i64 (.ofNat 227)] (Go.E.start cd227.tabs cd227.A)) = some (cd227.v, cd227.B, [], cd227.objs.map fun x => some x.2) := by kernel_rfl
theorem f_d227 [Sym] : ConFact Tryd.prog 15 [.int .i64 (.ofNat 227)] cd227 := con_of_runF Lk0_ok noCon fn15 k_d227 rfl globIn (tabLt (by decide))
theorem k_d228 : conAns cd228 (runF Tryd.prog Lk0 400 15 [.int .i64 (.ofNat 228)] (Go.E.start cd228.tabs cd228.A)) = some (cd228.v, cd228.B, [], cd228.objs.map fun x => some x.2) := by kernel_rfl
theorem f_d228 [Sym] : ConFact Tryd.prog 15 [.int .i64 (.ofNat 228)] cd228 := con_of_runF Lk0_ok noCon fn15 k_d228 rfl globIn (tabLt (by decide))
theorem k_d229 : conAns cd229 (runF Tryd.prog Lk0 400 15 [.int .i64 (.ofNat 229)] (Go.E.start cd229.tabs cd229.A)) = some (cd229.v, cd229.B, [], cd229.objs.map fun x => some x.2) := by kernel_rfl
theorem f_d229 [Sym] : ConFact Tryd.prog 15 [.int .i64 (.ofNat 229)] cd229 := con_of_runF Lk0_ok noCon fn15 k_d229 rfl globIn (tabLt (by decide))
theorem k_d230 : conAns cd230 (runF Tryd.prog Lk0 400 15 [.int .i64 (.ofNat 230)] (Go.E.start cd230.tabs cd230.A)) = some (cd230.v, cd230.B, [], cd230.objs.map fun x => some x.2) := by kernel_rfl
theorem f_d230 [Sym] : ConFact Tryd.prog 15 [.int .i64 (.ofNat 230)] cd230 := con_of_runF Lk0_ok noCon fn15 k_d230 rfl globIn (tabLt (by decide))
theorem k_d231 : conAns cd231 (runF Tryd.prog Lk0 400 15 [.int .i64 (.ofNat 231)] (Go.E.start cd231.tabs cd231.A)) = some (cd231.v, cd231.B, [], cd231.objs.map fun x => some x.2) := by kernel_rfl
theorem f_d231 [Sym] : ConFact Tryd.prog 15 [.int .i64 (.ofNat 231)] cd231 := con_of_runF Lk0_ok noCon fn15 k_d231 rfl globIn (tabLt (by decide))
theorem k_d232 : conAns cd232 (runF Tryd.prog Lk0 400 15 [.int .i64 (.ofNat 232)] (Go.E.start cd232.tabs cd232.A)) = some (cd232.v, cd232.B, [], cd232.objs.map fun x => some x.2) := by kernel_rfl
theorem f_d232 [Sym] : ConFact Tryd.prog 15 [.int .i64 (.ofNat 232)] cd232 := con_of_runF Lk0_ok noCon fn15 k_d232 rfl globIn (tabLt (by decide))
theorem k_d233 : conAns cd233 (runF Tryd.prog Lk0 400 15 [.int .i64 (.ofNat 233)] (Go.E.start cd233.tabs cd233.A)) = some (cd233.v, cd233.B, [], cd233.objs.map fun x => some x.2) := by kernel_rfl
theorem f_d233 [Sym] : ConFact Tryd.prog 15 [.int .i64 (.ofNat 233)] cd233 := con_of_runF Lk0_ok noCon fn15 k_d233 rfl globIn (tabLt (by decide))
theorem k_d234 : conAns cd234 (runF Tryd.prog Lk0 400 15 [.int .i64 (.ofNat 234)] (Go.E.start cd234.tabs cd234.A)) = some (cd234.v, cd234.B, [], cd234.objs.map fun x => some x.2) := by kernel_rfl
theorem f_d234 [Sym] : ConFact Tryd.prog 15 [.int .i64 (.ofNat 234)] cd234 := con_of_runF Lk0_ok noCon fn15 k_d234 rfl globIn (tabLt (by decide))
theorem k_d235 : conAns cd235 (runF Tryd.prog Lk0 400 15 [.int .i64 (.ofNat 235)] (Go.E.start cd235.tabs cd235.A)) = some (cd235.v, cd235.B, [], cd235.objs.map fun x => some x.2) := by kernel_rfl
theorem f_d235 [Sym] : ConFact Tryd.prog 15 [.int .i64 (.ofNat 235)] cd235 := con_of_runF Lk0_ok noCon fn15 k_d235 rfl globIn (tabLt (by decide))
theorem k_d236 : conAns cd236 (runF Tryd.prog Lk0 400 15 [.int .i64 (.ofNat 236)] (Go.E.start cd236.tabs cd236.A)) = some (cd236.v, cd236.B, [], cd236.objs.map fun x => some x.2) := by kernel_rfl
theorem f_d236 [Sym] : ConFact Tryd.prog 15 [.int .i64 (.ofNat 236)] cd236 := con_of_runF Lk0_ok noCon fn15 k_d236 rfl globIn (tabLt (by decide))
theorem k_d237 : conAns cd237 (runF Tryd.prog Lk0 400 15 [.int .i64 (.ofNat 237)] (Go.E.start cd237.tabs cd237.A)) = some (cd237.v, cd237.B, [], cd237.objs.map fun x => some x.2) := by kernel_rfl
theorem f_d237 [Sym] : ConFact Tryd.prog 15 [.int .i64 (.ofNat 237)] cd237 := con_of_runF Lk0_ok noCon fn15 k_d237 rfl globIn (tabLt (by decide))
theorem k_d238 : conAns cd238 (runF Tryd.prog Lk0 400 15 [.int .i64 (.ofNat 238)] (Go.E.start cd238.tabs cd238.A)) = some (cd238.v, cd238.B, [], cd238.objs.map fun x => some x.2) := by kernel_rfl
theorem f_d238 [Sym] : ConFact Tryd.prog 15 [.int .i64 (.ofNat 238)] cd238 := con_of_runF Lk0_ok noCon fn15 k_d238 rfl globIn (tabLt (by decide))
theorem k_d239 : conAns cd239 (runF Tryd.prog Lk0 400 15 [.int .i64 (.ofNat 239)] (Go.E.start cd239.tabs cd239.A)) = some (cd239.v, cd239.B, [], cd239.objs.map fun x => some x.2) := by kernel_rfl
theorem f_d239 [Sym] : ConFact Tryd.prog 15 [.int .i64 (.ofNat 239)] cd239 := con_of_runF Lk0_ok noCon fn15 k_d239 rfl globIn (tabLt (by decide))
theorem k_d240 : conAns cd240 (runF Tryd.prog Lk0 400 15 [.int .i64 (.ofNat 240)] (Go.E.start cd240.tabs cd240.A)) = some (cd240.v, cd240.B, [], cd240.objs.map fun x => some x.2) := by kernel_rfl
theorem f_d240 [Sym] : ConFact Tryd.prog 15 [.int .i64 (.ofNat 240)] cd240 := con_of_runF Lk0_ok noCon fn15 k_d240 rfl globIn (tabLt (by decide))
theorem k_d241 : conAns cd241 (runF Tryd.prog Lk0 400 15 [.int .i64 (.ofNat 241)] (Go.E.start cd241.tabs cd241.A)) = some (cd241.v, cd241.B, [], cd241.objs.map fun x => some x.2) := by kernel_rfl
theorem f_d241 [Sym] : ConFact Tryd.prog 15 [.int .i64 (.ofNat 241)] cd241 := con_of_runF Lk0_ok noCon fn15 k_d241 rfl globIn (tabLt (by decide))
theorem k_d242 : conAns cd242 (runF Tryd.prog Lk0 400 15 [.int .i64 (.ofNat 242)] (Go.E.start cd242.tabs cd242.A)) = some (cd242.v, cd242.B, [], cd242.objs.map fun x => some x.2) := by kernel_rfl
theorem f_d242 [Sym] : ConFact Tryd.prog 15 [.int .i64 (.ofNat 242)] cd242 := con_of_runF Lk0_ok noCon fn15 k_d242 rfl globIn (tabLt (by decide))
theorem k_d243 : conAns cd243 (runF Tryd.prog Lk0 400 15 [.int .i64 (.ofNat 243)] (Go.E.start cd243.tabs cd243.A)) = some (cd243.v, cd243.B, [], cd243.objs.map fun x => some x.2) := by kernel_rfl
theorem f_d243 [Sym] : ConFact Tryd.prog 15 [.int .i64 (.ofNat 243)] cd243 := con_of_runF Lk0_ok noCon fn15 k_d243 rfl globIn (tabLt (by decide))
theorem k_d244 : conAns cd244 (runF Tryd.prog Lk0 400 15 [.int .i64 (.ofNat 244)] (Go.E.start cd244.tabs cd244.A)) = some (cd244.v, cd244.B, [], cd244.objs.map fun x => some x.2) := by kernel_rfl
theorem f_d244 [Sym] : ConFact Tryd.prog 15 [.int .i64 (.ofNat 244)] cd244 := con_of_runF Lk0_ok noCon fn15 k_d244 rfl globIn (tabLt (by decide))
theorem k_d245 : conAns cd245 (runF Tryd.prog Lk0 400 15 [.int .i64 (.ofNat 245)] (Go.E.start cd245.tabs cd245.A)) = some (cd245.v, cd245.B, [], cd245.objs.map fun x => some x.2) := by kernel_rfl
theorem f_d245 [Sym] : ConFact Tryd.prog 15 [.int .i64 (.ofNat 245)] cd245 := con_of_runF Lk0_ok noCon fn15 k_d245 rfl globIn (tabLt (by decide))
theorem k_d246 : conAns cd246 (runF Tryd.prog Lk0 400 15 [.int .i64 (.ofNat 246)] (Go.E.start cd246.tabs cd246.A)) = some (cd246.v, cd246.B, [], cd246.objs.map fun x => some x.2) := by kernel_rfl
theorem f_d246 [Sym] : ConFact Tryd.prog 15 [.int .i64 (.ofNat 246)] cd246 := con_of_runF Lk0_ok noCon fn15 k_d246 rfl globIn (tabLt (by decide))
theorem k_d247 : conAns cd247 (runF Tryd.prog Lk0 400 15 [.int .i64 (.ofNat 247)] (Go.E.start cd247.tabs cd247.A)) = some (cd247.v, cd247.B, [], cd247.objs.map fun x => some x.2) := by kernel_rfl
theorem f_d247 [Sym] : ConFact Tryd.prog 15 [.int .i64 (.ofNat 247)] cd247 := con_of_runF Lk0_ok noCon fn15 k_d247 rfl globIn (tabLt (by decide))
theorem k_d248 : conAns cd248 (runF Tryd.prog Lk0 400 15 [.int .i64 (.ofNat 248)] (Go.E.start cd248.tabs cd248.A)) = some (cd248.v, cd248.B, [], cd248.objs.map fun x => some x.2) := by kernel_rfl
theorem f_d248 [Sym] : ConFact Tryd.prog 15 [.int .i64 (.ofNat 248)] cd248 := con_of_runF Lk0_ok noCon fn15 k_d248 rfl globIn (tabLt (by decide))
theorem k_d249 : conAns cd249 (runF Tryd.prog Lk0 400 15 [.int .i64 (.ofNat 249)] (Go.E.start cd249.tabs cd249.A)) = some (cd249.v, cd249.B, [], cd249.objs.map fun x => some x.2) := by kernel_rfl
theorem f_d249 [Sym] : ConFact Tryd.prog 15 [.int .i64 (.ofNat 249)] cd249 := con_of_runF Lk0_ok noCon fn15 k_d249 rfl globIn (tabLt (by decide))
theorem k_d250 : conAns cd250 (runF Tryd.prog Lk0 400 15 [.int .i64 (.ofNat 250)] (Go.E.start cd250.tabs cd250.A)) = some (cd250.v, cd250.B, [], cd250.objs.map fun x => some x.2) := by kernel_rfl
theorem f_d250 [Sym] : ConFact Tryd.prog 15 [.int .i64 (.ofNat 250)] cd250 := con_of_runF Lk0_ok noCon fn15 k_d250 rfl globIn (tabLt (by decide))
theorem k_d251 : conAns cd251 (runF Tryd.prog Lk0 400 15 [.int .i64 (.ofNat 251)] (Go.E.start cd251.tabs cd251.A)) = some (cd251.v, cd251.B, [], cd251.objs.map fun x => some x.2) := by kernel_rfl
theorem f_d251 [Sym] : ConFact Tryd.prog 15 [.int .i64 (.ofNat 251)] cd251 := con_of_runF Lk0_ok noCon fn15 k_d251 rfl globIn (tabLt (by decide))
theorem k_d252 : conAns cd252 (runF Tryd.prog Lk0 400 15 [.int .i64 (.ofNat 252)] (Go.E.start cd252.tabs cd252.A)) = some (cd252.v, cd252.B, [], cd252.objs.map fun x => some x.2) := by kernel_rfl
theorem f_d252 [Sym] : ConFact Tryd.prog 15 [.int .i64 (.ofNat 252)] cd252 := con_of_runF Lk0_ok noCon fn15 k_d252 rfl globIn (tabLt (by decide))
theorem k_d253 : conAns cd253 (runF Tryd.prog Lk0 400 15 [.int .i64 (.ofNat 253)] (Go.E.start cd253.tabs cd253.A)) = some (cd253.v, cd253.B, [], cd253.objs.map fun x => some x.2) := by kernel_rfl
theorem f_d253 [Sym] : ConFact Tryd.prog 15 [.int .i64 (.ofNat 253)] cd253 := con_of_runF Lk0_ok noCon fn15 k_d253 rfl globIn (tabLt (by decide))
theorem k_d254 : conAns cd254 (runF Tryd.prog Lk0 400 15 [.int .i64 (.ofNat 254)] (Go.E.start cd254.tabs cd254.A)) = some (cd254.v, cd254.B, [], cd254.objs.map fun x => some x.2) := by kernel_rfl
theorem f_d254 [Sym] : ConFact Tryd.prog 15 [.int .i64 (.ofNat 254)] cd254 := con_of_runF Lk0_ok noCon fn15 k_d254 rfl globIn (tabLt (by decide))
theorem k_d255 : conAns cd255 (runF Tryd.prog Lk0 400 15 [.int .i64 (.ofNat 255)] (Go.E.start cd255.tabs cd255.A)) = some (cd255.v, cd255.B, [], cd255.objs.map fun x => some x.2) := by kernel_rfl
theorem f_d255 [Sym] : ConFact Tryd.prog 15 [.int .i64 (.ofNat 255)] cd255 := con_of_runF Lk0_ok noCon fn15 k_d255 rfl globIn (tabLt (by decide))
end Go.Proofs.YtfgdoliihmjnoaaDoorE
