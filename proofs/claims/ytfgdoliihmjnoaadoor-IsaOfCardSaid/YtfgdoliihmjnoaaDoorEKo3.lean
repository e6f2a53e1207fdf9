/- Closed runs. Printed by gen_con.py. -/
import Derived.Test.YtfgdoliihmjnoaaDoorECo
set_option linter.unusedSimpArgs false
set_option linter.unusedVariables false
namespace Go.Proofs.YtfgdoliihmjnoaaDoorE
open Go Go.E Go.Proofs
set_option maxRecDepth 100000
theorem k_o192 : conAns cr192 (runF Tryd.prog LkA 900 16 [.int .i64 (.ofNat 192)] (Go.E.start cr192.tabs cr192.A)) = some (cr192.v, cr192.B, [], cr192.objs.map fun x => some x.2) := by kernel_rfl
theorem f_o192 [Sym] : ConFact Tryd.prog 16 [.int .i64 (.ofNat 192)] cr192 := con_of_runF LkA_ok conA_ok fn16 k_o192 rfl globIn (tabLt (by decide))
theorem k_o193 : conAns cr193 (runF Tryd.prog LkA 900 16 [.int .i64 (.ofNat 193)] (Go.E.start cr193.tabs cr193.A)) = some (cr193.v, cr193.B, [], cr193.objs.map fun x => some x.2) := by kernel_rfl
theorem f_o193 [Sym] : ConFact Tryd.prog 16 [.int .i64 (.ofNat 193)] cr193 := con_of_runF LkA_ok conA_ok fn16 k_o193 rfl globIn (tabLt (by decide))
theorem k_o194 : conAns cr194 (runF Tryd.prog LkA 900 16 [.int .i64 (.ofNat 194)] (Go.E.start cr194.tabs cr194.A)) = some (cr194.v, cr194.B, [], cr194.objs.map fun x => some x.2) := by kernel_rfl
theorem f_o194 [Sym] : ConFact Tryd.prog 16 [.int .i64 (.ofNat 194)] cr194 := con_of_runF LkA_ok conA_ok fn16 k_o194 rfl globIn (tabLt (by decide))
theorem k_o195 : conAns cr195 (runF Tryd.prog LkA 900 16 [.int .i64 (.ofNat 195)] (Go.E.start cr195.tabs cr195.A)) = some (cr195.v, cr195.B, [], cr195.objs.map fun x => some x.2) := by kernel_rfl
theorem f_o195 [Sym] : ConFact Tryd.prog 16 [.int .i64 (.ofNat 195)] cr195 := con_of_runF LkA_ok conA_ok fn16 k_o195 rfl globIn (tabLt (by decide))
theorem k_o196 : conAns cr196 (runF Tryd.prog LkA 900 16 [.int .i64 (.ofNat 196)] (Go.E.start cr196.tabs cr196.A)) = some (cr196.v, cr196.B, [], cr196.objs.map fun x => some x.2) := by kernel_rfl
theorem f_o196 [Sym] : ConFact Tryd.prog 16 [.int .i64 (.ofNat 196)] cr196 := con_of_runF LkA_ok conA_ok fn16 k_o196 rfl globIn (tabLt (by decide))
theorem k_o197 : conAns cr197 (runF Tryd.prog LkA 900 16 [.int .i64 (.ofNat 197)] (Go.E.start cr197.tabs cr197.A)) = some (cr197.v, cr197.B, [], cr197.objs.map fun x => some x.2) := by kernel_rfl
theorem f_o197 [Sym] : ConFact Tryd.prog 16 [.int .i64 (.ofNat 197)] cr197 := con_of_runF LkA_ok conA_ok fn16 k_o197 rfl globIn (tabLt (by decide))
theorem k_o198 : conAns cr198 (runF Tryd.prog LkA 900 16 [.int .i64 (.ofNat 198)] (Go.E.start cr198.tabs cr198.A)) = some (cr198.v, cr198.B, [], cr198.objs.map fun x => some x.2) := by kernel_rfl
theorem f_o198 [Sym] : ConFact Tryd.prog 16 [.int .i64 (.ofNat 198)] cr198 := con_of_runF LkA_ok conA_ok fn16 k_o198 rfl globIn (tabLt (by decide))
theorem k_o199 : conAns cr199 (runF Tryd.prog LkA 900 16 [.int .i64 (.ofNat 199)] (Go.E.start cr199.tabs cr199.A)) = some (cr199.v, cr199.B, [], cr199.objs.map fun x => some x.2) := by kernel_rfl
theorem f_o199 [Sym] : ConFact Tryd.prog 16 [.int .i64 (.ofNat 199)] cr199 := con_of_runF LkA_ok conA_ok fn16 k_o199 rfl globIn (tabLt (by decide))
theorem k_o200 : conAns cr200 (runF Tryd.prog LkA 900 16 [.int .i64 (.ofNat 200)] (Go.E.start cr200.tabs cr200.A)) = some (cr200.v, cr200.B, [], cr200.objs.map fun x => some x.2) := by kernel_rfl
theorem f_o200 [Sym] : ConFact Tryd.prog 16 [.int .i64 (.ofNat 200)] cr200 := con_of_runF LkA_ok conA_ok fn16 k_o200 rfl globIn (tabLt (by decide))
theorem k_o201 : conAns cr201 (runF Tryd.prog LkA 900 16 [.int .i64 (.ofNat 201)] (Go.E.start cr201.tabs cr201.A)) = some (cr201.v, cr201.B, [], cr201.objs.map fun x => some x.2) := by kernel_rfl
theorem f_o201 [Sym] : ConFact Tryd.prog 16 [.int .i64 (.ofNat 201)] cr201 := con_of_runF LkA_ok conA_ok fn16 k_o201 rfl globIn (tabLt (by decide))
theorem k_o202 : conAns cr202 (runF Tryd.prog LkA 900 16 [.int .i64 (.ofNat 202)] (Go.E.start cr202.tabs cr202.A)) = some (cr202.v, cr202.B, [], cr202.objs.map fun x => some x.2) := by kernel_rfl
theorem f_o202 [Sym] : ConFact Tryd.prog 16 [.int .i64 (.ofNat 202)] cr202 := con_of_runF LkA_ok conA_ok fn16 k_o202 rfl globIn (tabLt (by decide))
theorem k_o203 : conAns cr203 (runF Tryd.prog LkA 900 16 [.int .i64 (.ofNat 203)] (Go.E.start cr203.tabs cr203.A)) = some (cr203.v, cr203.B, [], cr203.objs.map fun x => some x.2) := by kernel_rfl
theorem f_o203 [Sym] : ConFact Tryd.prog 16 [.int .i64 (.ofNat 203)] cr203 := con_of_runF LkA_ok conA_ok fn16 k_o203 rfl globIn (tabLt (by decide))
theorem k_o204 : conAns cr204 (runF Tryd.prog LkA 900 16 [.int .i64 (.ofNat 204)] (Go.E.start cr204.tabs cr204.A)) = some (cr204.v, cr204.B, [], cr204.objs.map fun x => some x.2) := by kernel_rfl
theorem f_o204 [Sym] : ConFact Tryd.prog 16 [.int .i64 (.ofNat 204)] cr204 := con_of_runF LkA_ok conA_ok fn16 k_o204 rfl globIn (tabLt (by decide))
theorem k_o205 : conAns cr205 (runF Tryd.prog LkA 900 16 [.int .i64 (.ofNat 205)] (Go.E.start cr205.tabs cr205.A)) = some (cr205.v, cr205.B, [], cr205.objs.map fun x => some x.2) := by kernel_rfl
theorem f_o205 [Sym] : ConFact Tryd.prog 16 [.int .i64 (.ofNat 205)] cr205 := con_of_runF LkA_ok conA_ok fn16 k_o205 rfl globIn (tabLt (by decide))
theorem k_o206 : conAns cr206 (runF Tryd.prog LkA 900 16 [.int .i64 (.ofNat 206)] (Go.E.start cr206.tabs cr206.A)) = some (cr206.v, cr206.B, [], cr206.objs.map fun x => some x.2) := by kernel_rfl
theorem f_o206 [Sym] : ConFact Tryd.prog 16 [.int .i64 (.ofNat 206)] cr206 := con_of_runF LkA_ok conA_ok fn16 k_o206 rfl globIn (tabLt (by decide))
theorem k_o207 : conAns cr207 (runF Tryd.prog LkA 900 16 [.int .i64 (.ofNat 207)] (Go.E.start cr207.tabs cr207.A)) = some (cr207.v, cr207.B, [], cr207.objs.map fun x => some x.2) := by kernel_rfl
theorem f_o207 [Sym] : ConFact Tryd.prog 16 [.int .i64 (.ofNat 207)] cr207 := con_of_runF LkA_ok conA_ok fn16 k_o207 rfl globIn (tabLt (by decide))
theorem k_o208 : conAns cr208 (runF Tryd.prog LkA 900 16 [.int .i64 (.ofNat 208)] (Go.E.start cr208.tabs cr208.A)) = some (cr208.v, cr208.B, [], cr208.objs.map fun x => some x.2) := by kernel_rfl
theorem f_o208 [Sym] : ConFact Tryd.prog 16 [.int .i64 (.ofNat 208)] cr208 := con_of_runF LkA_ok conA_ok fn16 k_o208 rfl globIn (tabLt (by decide))
theorem k_o209 : conAns cr209 (runF Tryd.prog LkA 900 16 [.int .i64 (.ofNat 209)] (Go.E.start cr209.tabs cr209.A)) = some (cr209.v, cr209.B, [], cr209.objs.map fun x => some x.2) := by kernel_rfl
theorem f_o209 [Sym] : ConFact Tryd.prog 16 [.int .i64 (.ofNat 209)] cr209 := con_of_runF LkA_ok conA_ok fn16 k_o209 rfl globIn (tabLt (by decide))
theorem k_o210 : conAns cr210 (runF Tryd.prog LkA 900 16 [.int .i64 (.ofNat 210)] (Go.E.start cr210.tabs cr210.A)) = some (cr210.v, cr210.B, [], cr210.objs.map fun x => some x.2) := by kernel_rfl
theorem f_o210 [Sym] : ConFact Tryd.prog 16 [.int .i64 (.ofNat 210)] cr210 := con_of_runF LkA_ok conA_ok fn16 k_o210 rfl globIn (tabLt (by decide))
theorem k_o211 : conAns cr211 (runF Tryd.prog LkA 900 16 [.int .i64 (.ofNat 211)] (Go.E.start cr211.tabs cr211.A)) = some (cr211.v, cr211.B, [], cr211.objs.map fun x => some x.2) := by kernel_rfl
theorem f_o211 [Sym] : ConFact Tryd.prog 16 [.int .i64 (.ofNat 211)] cr211 := con_of_runF LkA_ok conA_ok fn16 k_o211 rfl globIn (tabLt (by decide))
theorem k_o212 : conAns cr212 (runF Tryd.prog LkA 900 16 [.int .i64 (.ofNat 212)] (Go.E.start cr212.tabs cr212.A)) = some (cr212.v, cr212.B, [], cr212.objs.map fun x => some x.2) := by kernel_rfl
theorem f_o212 [Sym] : ConFact Tryd.prog 16 [.int .i64 (.ofNat 212)] cr212 := con_of_runF LkA_ok conA_ok fn16 k_o212 rfl globIn (tabLt (by decide))
theorem k_o213 : conAns cr213 (runF Tryd.prog LkA 900 16 [.int .i64 (.ofNat 213)] (Go.E.start cr213.tabs cr213.A)) = some (cr213.v, cr213.B, [], cr213.objs.map fun x => some x.2) := by kernel_rfl
theorem f_o213 [Sym] : ConFact Tryd.prog 16 [.int .i64 (.ofNat 213)] cr213 := con_of_runF LkA_ok conA_ok fn16 k_o213 rfl globIn (tabLt (by decide))
theorem k_o214 : conAns cr214 (runF Tryd.prog LkA 900 16 [.int .i64 (.ofNat 214)] (Go.E.start cr214.tabs cr214.A)) = some (cr214.v, cr214.B, [], cr214.objs.map fun x => some x.2) := by kernel_rfl
theorem f_o214 [Sym] : ConFact Tryd.prog 16 [.int .i64 (.ofNat 214)] cr214 := con_of_runF LkA_ok conA_ok fn16 k_o214 rfl globIn (tabLt (by decide))
theorem k_o215 : conAns cr215 (runF Tryd.prog LkA 900 16 [.int .i64 (.ofNat 215)] (Go.E.start cr215.tabs cr215.A)) = some (cr215.v, cr215.B, [], cr215.objs.map fun x => some x.2) := by kernel_rfl
theorem f_o215 [Sym] : ConFact Tryd.prog 16 [.int .i64 (.ofNat 215)] cr215 := con_of_runF LkA_ok conA_ok fn16 k_o215 rfl globIn (tabLt (by decide))
theorem k_o216 : conAns cr216 (runF Tryd.prog LkA 900 16 [.int .i64 (.ofNat 216)] (Go.E.start cr216.tabs cr216.A)) = some (cr216.v, cr216.B, [], cr216.objs.map fun x => some x.2) := by kernel_rfl
theorem f_o216 [Sym] : ConFact Tryd.prog 16 [.int .i64 (.ofNat 216)] cr216 := con_of_runF LkA_ok conA_ok fn16 k_o216 rfl globIn (tabLt (by decide))
theorem k_o217 : conAns cr217 (runF Tryd.prog LkA 900 16 [.int .i64 (.ofNat 217)] (Go.E.start cr217.tabs cr217.A)) = some (cr217.v, cr217.B, [], cr217.objs.map fun x => some x.2) := by kernel_rfl
theorem f_o217 [Sym] : ConFact Tryd.prog 16 [.int .i64 (.ofNat 217)] cr217 := con_of_runF LkA_ok conA_ok fn16 k_o217 rfl globIn (tabLt (by decide))
theorem k_o218 : conAns cr218 (runF Tryd.prog LkA 900 16 [.int .i64 (.ofNat 218)] (Go.E.start cr218.tabs cr218.A)) = some (cr218.v, cr218.B, [], cr218.objs.map fun x => some x.2) := by kernel_rfl
theorem f_o218 [Sym] : ConFact Tryd.prog 16 [.int .i64 (.ofNat 218)] cr218 := con_of_runF LkA_ok conA_ok fn16 k_o218 rfl globIn (tabLt (by decide))
theorem k_o219 : conAns cr219 (runF Tryd.prog LkA 900 16 [.int .i64 (.ofNat 219)] (Go.E.start cr219.tabs cr219.A)) = some (cr219.v, cr219.B, [], cr219.objs.map fun x => some x.2) := by kernel_rfl
theorem f_o219 [Sym] : ConFact Tryd.prog 16 [.int .i64 (.ofNat 219)] cr219 := con_of_runF LkA_ok conA_ok fn16 k_o219 rfl globIn (tabLt (by decide))
theorem k_o220 : conAns cr220 (runF Tryd.prog LkA 900 16 [.int .i64 (.ofNat 220)] (Go.E.start cr220.tabs cr220.A)) = some (cr220.v, cr220.B, [], cr220.objs.map fun x => some x.2) := by kernel_rfl
theorem f_o220 [Sym] : ConFact Tryd.prog 16 [.int .i64 (.ofNat 220)] cr220 := con_of_runF LkA_ok conA_ok fn16 k_o220 rfl globIn (tabLt (by decide))
theorem k_o221 : conAns cr221 (runF Tryd.prog LkA 900 16 [.int .i64 (.ofNat 221)] (Go.E.start cr221.tabs cr221.A)) = some (cr221.v, cr221.B, [], cr221.objs.map fun x => some x.2) := by kernel_rfl
theorem f_o221 [Sym] : ConFact Tryd.prog 16 [.int .i64 (.ofNat 221)] cr221 := con_of_runF LkA_ok conA_ok fn16 k_o221 rfl globIn (tabLt (by decide))
theorem k_o222 : conAns cr222 (runF Tryd.prog LkA 900 16 [.int .i64 (.ofNat 222)] (Go.E.start cr222.tabs cr222.A)) = some (cr222.v, cr222.B, [], cr222.objs.map fun x => some x.2) := by kernel_rfl
theorem f_o222 [Sym] : ConFact Tryd.prog 16 [.int .i64 (.ofNat 222)] cr222 := con_of_runF LkA_ok conA_ok fn16 k_o222 rfl globIn (tabLt (by decide))
theorem k_o223 : conAns cr223 (runF Tryd.prog LkA 900 16 [.int .i64 (.ofNat 223)] (Go.E.start cr223.tabs cr223.A)) = some (cr223.v, cr223.B, [], cr223.objs.map fun x => some x.2) := by kernel_rfl
theorem f_o223 [Sym] : ConFact Tryd.prog 16 [.int .i64 (.ofNat 223)] cr223 := con_of_runF LkA_ok conA_ok fn16 k_o223 rfl globIn (tabLt (by decide))
theorem k_o224 : conAns cr224 (runF Tryd.prog LkA 900 16 [.int .i64 (.ofNat 224)] (Go.E.start cr224.tabs cr224.A)) = some (cr224.v, cr224.B, [], cr224.objs.map fun x => some x.2) := by kernel_rfl
theorem f_o224 [Sym] : ConFact Tryd.prog 16 [.int .i64 (.ofNat 224)] cr224 := con_of_runF LkA_ok conA_ok fn16 k_o224 rfl globIn (tabLt (by decide))
theorem k_o225 : conAns cr225 (runF Tryd.prog LkA 900 16 [.int .i64 (.ofNat 225)] (Go.E.start cr225.tabs cr225.A)) = some (cr225.v, cr225.B, [], cr225.objs.map fun x => some x.2) := by kernel_rfl
theorem f_o225 [Sym] : ConFact Tryd.prog 16 [.int .i64 (.ofNat 225)] cr225 := con_of_runF LkA_ok conA_ok fn16 k_o225 rfl globIn (tabLt (by decide))
theorem k_o226 : conAns cr226 (runF Tryd.prog LkA 900 16 [.int .i64 (.ofNat 226)] (Go.E.start cr226.tabs cr226.A)) = some (cr226.v, cr226.B, [], cr226.objs.map fun x => some x.2) := by kernel_rfl
theorem f_o226 [Sym] : ConFact Tryd.prog 16 [.int .i64 (.ofNat 226)] cr226 := con_of_runF LkA_ok conA_ok fn16 k_o226 rfl globIn (tabLt (by decide))
theorem k_o227 : conAns cr227 (runF Tryd.prog LkA 900 16 [.int .i64 (.ofNat 227)] (Go.E.start cr227.tabs cr227.A)) = some (cr227.v, cr227.B, [], cr227.objs.map fun x => some x.2) := by kernel_rfl
theorem f_o227 [Sym] : ConFact Tryd.prog 16 [.int .i64 (.ofNat 227)] cr227 := con_of_runF LkA_ok conA_ok fn16 k_o227 rfl globIn (tabLt (by decide))
theorem k_o228 : conAns cr228 (runF Tryd.prog LkA 900 16 [.int .i64 (.ofNat 228)] (Go.E.start cr228.tabs cr228.A)) = some (cr228.v, cr228.B, [], cr228.objs.map fun x => some x.2) := by kernel_rfl
theorem f_o228 [Sym] : ConFact Tryd.prog 16 [.int .i64 (.ofNat 228)] cr228 := con_of_runF LkA_ok conA_ok fn16 k_o228 rfl globIn (tabLt (by decide))
theorem k_o229 : conAns cr229 (runF Tryd.prog LkA 900 16 [.int .i64 (.ofNat 229)] (Go.E.start cr229.tabs cr229.A)) = some (cr229.v, cr229.B, [], cr229.objs.map fun x => some x.2) := by kernel_rfl
theorem f_o229 [Sym] : ConFact Tryd.prog 16 [.int .i64 (.ofNat 229)] cr229 := con_of_runF LkA_ok conA_ok fn16 k_o229 rfl globIn (tabLt (by decide))
theorem k_o230 : conAns cr230 (runF Tryd.prog LkA 900 16 [.int .i64 (.ofNat 230)] (Go.E.start cr230.tabs cr230.A)) = some (cr230.v, cr230.B, [], cr230.objs.map fun x => some x.2) := by kernel_rfl
theorem f_o230 [Sym] : ConFact Tryd.prog 16 [.int .i64 (.ofNat 230)] cr230 := con_of_runF LkA_ok conA_ok fn16 k_o230 rfl globIn (tabLt (by decide))
theorem k_o231 : conAns cr231 (runF Tryd.prog LkA 900 16 [.int .i64 (.ofNat 231)] (Go.E.start cr231.tabs cr231.A)) = some (cr231.v, cr231.B, [], cr231.objs.map fun x => some x.2) := by kernel_rfl
theorem f_o231 [Sym] : ConFact Tryd.prog 16 [.int .i64 (.ofNat 231)] cr231 := con_of_runF LkA_ok conA_ok fn16 k_o231 rfl globIn (tabLt (by decide))
theorem k_o232 : conAns cr232 (runF Tryd.prog LkA 900 16 [.int .i64 (.ofNat 232)] (Go.E.start cr232.tabs cr232.A)) = some (cr232.v, cr232.B, [], cr232.objs.map fun x => some x.2) := by kernel_rfl
theorem f_o232 [Sym] : ConFact Tryd.prog 16 [.int .i64 (.ofNat 232)] cr232 := con_of_runF LkA_ok conA_ok fn16 k_o232 rfl globIn (tabLt (by decide))
theorem k_o233 : conAns cr233 (runF Tryd.prog LkA 900 16 [.int .i64 (.ofNat 233)] (Go.E.start cr233.tabs cr233.A)) = some (cr233.v, cr233.B, [], cr233.objs.map fun x => some x.2) := by kernel_rfl
theorem f_o233 [Sym] : ConFact Tryd.prog 16 [.int .i64 (.ofNat 233)] cr233 := con_of_runF LkA_ok conA_ok fn16 k_o233 rfl globIn (tabLt (by decide))
theorem k_o234 : conAns cr234 (runF Tryd.prog LkA 900 16 [.int .i64 (.ofNat 234)] (Go.E.start cr234.tabs cr234.A)) = some (cr234.v, cr234.B, [], cr234.objs.map fun x => some x.2) := by kernel_rfl
theorem f_o234 [Sym] : ConFact Tryd.prog 16 [.int .i64 (.ofNat 234)] cr234 := con_of_runF LkA_ok conA_ok fn16 k_o234 rfl globIn (tabLt (by decide))
theorem k_o235 : conAns cr235 (runF Tryd.prog LkA 900 16 [.int .i64 (.ofNat 235)] (Go.E.start cr235.tabs cr235.A)) = some (cr235.v, cr235.B, [], cr235.objs.map fun x => some x.2) := by kernel_rfl
theorem f_o235 [Sym] : ConFact Tryd.prog 16 [.int .i64 (.ofNat 235)] cr235 := con_of_runF LkA_ok conA_ok fn16 k_o235 rfl globIn (tabLt (by decide))
theorem k_o236 : conAns cr236 (runF Tryd.prog LkA 900 16 [.int .i64 (.ofNat 236)] (Go.E.start cr236.tabs cr236.A)) = some (cr236.v, cr236.B, [], cr236.objs.map fun x => some x.2) := by kernel_rfl
theorem f_o236 [Sym] : ConFact Tryd.prog 16 [.int .i64 (.ofNat 236)] cr236 := con_of_runF LkA_ok conA_ok fn16 k_o236 rfl globIn (tabLt (by decide))
theorem k_o237 : conAns cr237 (runF Tryd.prog LkA 900 16 [.int .i64 (.ofNat 237)] (Go.E.start cr237.tabs cr237.A)) = some (cr237.v, cr237.B, [], cr237.objs.map fun x => some x.2) := by kernel_rfl
theorem f_o237 [Sym] : ConFact Tryd.prog 16 [.int .i64 (.ofNat 237)] cr237 := con_of_runF LkA_ok conA_ok fn16 k_o237 rfl globIn (tabLt (by decide))
theorem k_o238 : conAns cr238 (runF Tryd.prog LkA 900 16 [.int .i64 (.ofNat 238)] (Go.E.start cr238.tabs cr238.A)) = some (cr238.v, cr238.B, [], cr238.objs.map fun x => some x.2) := by kernel_rfl
theorem f_o238 [Sym] : ConFact Tryd.prog 16 [.int .i64 (.ofNat 238)] cr238 := con_of_runF LkA_ok conA_ok fn16 k_o238 rfl globIn (tabLt (by decide))
theorem k_o239 : conAns cr239 (runF Tryd.prog LkA 900 16 [.int .i64 (.ofNat 239)] (Go.E.start cr239.tabs cr239.A)) = some (cr239.v, cr239.B, [], cr239.objs.map fun x => some x.2) := by kernel_rfl
theorem f_o239 [Sym] : ConFact Tryd.prog 16 [.int .i64 (.ofNat 239)] cr239 := con_of_runF LkA_ok conA_ok fn16 k_o239 rfl globIn (tabLt (by decide))
theorem k_o240 : conAns cr240 (runF Tryd.prog LkA 900 16 [.int .i64 (.ofNat 240)] (Go.E.start cr240.tabs cr240.A)) = some (cr240.v, cr240.B, [], cr240.objs.map fun x => some x.2) := by kernel_rfl
theorem f_o240 [Sym] : ConFact Tryd.prog 16 [.int .i64 (.ofNat 240)] cr240 := con_of_runF LkA_ok conA_ok fn16 k_o240 rfl globIn (tabLt (by decide))
theorem k_o241 : conAns cr241 (runF Tryd.prog LkA 900 16 [.int .i64 (.ofNat 241)] (Go.E.start cr241.tabs cr241.A)) = some (cr241.v, cr241.B, [], cr241.objs.map fun x => some x.2) := by kernel_rfl
theorem f_o241 [Sym] : ConFact Tryd.prog 16 [.int .i64 (.ofNat 241)] cr241 := con_of_runF LkA_ok conA_ok fn16 k_o241 rfl globIn (tabLt (by decide))
theorem k_o242 : conAns cr242 (runF Tryd.prog LkA 900 16 [.int .i64 (.ofNat 242)] (Go.E.start cr242.tabs cr242.A)) = some (cr242.v, cr242.B, [], cr242.objs.map fun x => some x.2) := by kernel_rfl
theorem f_o242 [Sym] : ConFact Tryd.prog 16 [.int .i64 (.ofNat 242)] cr242 := con_of_runF LkA_ok conA_ok fn16 k_o242 rfl globIn (tabLt (by decide))
theorem k_o243 : conAns cr243 (runF Tryd.prog LkA 900 16 [.int .i64 (.ofNat 243)] (Go.E.start cr243.tabs cr243.A)) = some (cr243.v, cr243.B, [], cr243.objs.map fun x => some x.2) := by kernel_rfl
theorem f_o243 [Sym] : ConFact Tryd.prog 16 [.int .i64 (.ofNat 243)] cr243 := con_of_runF LkA_ok conA_ok fn16 k_o243 rfl globIn (tabLt (by decide))
theorem k_o244 : conAns cr244 (runF Tryd.prog LkA 900 16 [.int .i64 (.ofNat 244)] (Go.E.start cr244.tabs cr244.A)) = some (cr244.v, cr244.B, [], cr244.objs.map fun x => some x.2) := by kernel_rfl
theorem f_o244 [Sym] : ConFact Tryd.prog 16 [.int .i64 (.ofNat 244)] cr244 := con_of_runF LkA_ok conA_ok fn16 k_o244 rfl globIn (tabLt (by decide))
theorem k_o245 : conAns cr245 (runF Tryd.prog LkA 900 16 [.int .i64 (.ofNat 245)] (Go.E.start cr245.tabs cr245.A)) = some (cr245.v, cr245.B, [], cr245.objs.map fun x => some x.2) := by kernel_rfl
theorem f_o245 [Sym] : ConFact Tryd.prog 16 [.int .i64 (.ofNat 245)] cr245 := con_of_runF LkA_ok conA_ok fn16 k_o245 rfl globIn (tabLt (by decide))
theorem k_o246 : conAns cr246 (runF Tryd.prog LkA 900 16 [.int .i64 (.ofNat 246)] (Go.E.start cr246.tabs cr246.A)) = some (cr246.v, cr246.B, [], cr246.objs.map fun x => some x.2) := by kernel_rfl
theorem f_o246 [Sym] : ConFact Tryd.prog 16 [.int .i64 (.ofNat 246)] cr246 := con_of_runF LkA_ok conA_ok fn16 k_o246 rfl globIn (tabLt (by decide))
theorem k_o247 : conAns cr247 (runF Tryd.prog LkA 900 16 [.int .i64 (.ofNat 247)] (Go.E.start cr247.tabs cr247.A)) = some (cr247.v, cr247.B, [], cr247.objs.map fun x => some x.2) := by kernel_rfl
theorem f_o247 [Sym] : ConFact Tryd.prog 16 [.int .i64 (.ofNat 247)] cr247 := con_of_runF LkA_ok conA_ok fn16 k_o247 rfl globIn (tabLt (by decide))
theorem k_o248 : conAns cr248 (runF Tryd.prog LkA 900 16 [.int .i64 (.ofNat 248)] (Go.E.start cr248.tabs cr248.A)) = some (cr248.v, cr248.B, [], cr248.objs.map fun x => some x.2) := by kernel_rfl
theorem f_o248 [Sym] : ConFact Tryd.prog 16 [.int .i64 (.ofNat 248)] cr248 := con_of_runF LkA_ok conA_ok fn16 k_o248 rfl globIn (tabLt (by decide))
theorem k_o249 : conAns cr249 (runF Tryd.prog LkA 900 16 [.int .i64 (.ofNat 249)] (Go.E.start cr249.tabs cr249.A)) = some (cr249.v, cr249.B, [], cr249.objs.map fun x => some x.2) := by kernel_rfl
theorem f_o249 [Sym] : ConFact Tryd.prog 16 [.int .i64 (.ofNat 249)] cr249 := con_of_runF LkA_ok conA_ok fn16 k_o249 rfl globIn (tabLt (by decide))
theorem k_o250 : conAns cr250 (runF Tryd.prog LkA 900 16 [.int .i64 (.ofNat 250)] (Go.E.start cr250.tabs cr250.A)) = some (cr250.v, cr250.B, [], cr250.objs.map fun x => some x.2) := by kernel_rfl
theorem f_o250 [Sym] : ConFact Tryd.prog 16 [.int .i64 (.ofNat 250)] cr250 := con_of_runF LkA_ok conA_ok fn16 k_o250 rfl globIn (tabLt (by decide))
theorem k_o251 : conAns cr251 (runF Tryd.prog LkA 900 16 [.int .i64 (.ofNat 251)] (Go.E.start cr251.tabs cr251.A)) = some (cr251.v, cr251.B, [], cr251.objs.map fun x => some x.2) := by kernel_rfl
theorem f_o251 [Sym] : ConFact Tryd.prog 16 [.int .i64 (.ofNat 251)] cr251 := con_of_runF LkA_ok conA_ok fn16 k_o251 rfl globIn (tabLt (by decide))
theorem k_o252 : conAns cr252 (runF Tryd.prog LkA 900 16 [.int .i64 (.ofNat 252)] (Go.E.start cr252.tabs cr252.A)) = some (cr252.v, cr252.B, [], cr252.objs.map fun x => some x.2) := by kernel_rfl
theorem f_o252 [Sym] : ConFact Tryd.prog 16 [.int .i64 (.ofNat 252)] cr252 := con_of_runF LkA_ok conA_ok fn16 k_o252 rfl globIn (tabLt (by decide))
theorem k_o253 : conAns cr253 (runF Tryd.prog LkA 900 16 [.int .i64 (.ofNat 253)] (Go.E.start cr253.tabs cr253.A)) = some (cr253.v, cr253.B, [], cr253.objs.map fun x => some x.2) := by kernel_rfl
theorem f_o253 [Sym] : ConFact Tryd.prog 16 [.int .i64 (.ofNat 253)] cr253 := con_of_runF LkA_ok conA_ok fn16 k_o253 rfl globIn (tabLt (by decide))
theorem k_o254 : conAns cr254 (runF Tryd.prog LkA 900 16 [.int .i64 (.ofNat 254)] (Go.E.start cr254.tabs cr254.A)) = some (cr254.v, cr254.B, [], cr254.objs.map fun x => some x.2) := by kernel_rfl
theorem f_o254 [Sym] : ConFact Tryd.prog 16 [.int .i64 (.ofNat 254)] cr254 := con_of_runF LkA_ok conA_ok fn16 k_o254 rfl globIn (tabLt (by decide))
theorem k_o255 : conAns cr255 (runF Tryd.prog LkA 900 16 [.int .i64 (.ofNat 255)] (Go.E.start cr255.tabs cr255.A)) = some (cr255.v, cr255.B, [], cr255.objs.map fun x => some x.2) := by kernel_rfl
theorem f_o255 [Sym] : ConFact Tryd.prog 16 [.int .i64 (.ofNat 255)] cr255 := con_of_runF LkA_ok conA_ok fn16 k_o255 rfl globIn (tabLt (by decide))
end Go.Proofs.YtfgdoliihmjnoaaDoorE
