/- Closed runs. Printed by gen_con.py. -/
import Derived.Test.YtfgdoliihmjnoaaDoorECr
set_option linter.unusedSimpArgs false
set_option linter.unusedVariables false
namespace Go.Proofs.YtfgdoliihmjnoaaDoorE
open Go Go.E Go.Proofs
set_option maxRecDepth 100000
theorem k_r35 : conAns re35.c (runF Tryd.prog Lk0 400 39 re35.args (Go.E.start re35.c.tabs re35.c.A)) = some (re35.c.v, re35.c.B, [], re35.c.objs.map fun x => some x.2) := by kernel_rfl
theorem f_r35 [Sym] : ConFact Tryd.prog 39 re35.args re35.c := con_of_runF Lk0_ok noCon fn39 k_r35 rfl globIn (tabLt (by decide))
theorem k_r36 : conAns re36.c (runF Tryd.prog Lk0 400 39 re36.args (Go.E.start re36.c.tabs re36.c.A)) = some (re36.c.v, re36.c.B, [], re36.c.objs.map fun x => some x.2) := by kernel_rfl
theorem f_r36 [Sym] : ConFact Tryd.prog 39 re36.args re36.c := con_of_runF Lk0_ok noCon fn39 k_r36 rfl globIn (tabLt (by decide))
theorem k_r37 : conAns re37.c (runF Tryd.prog Lk0 400 39 re37.args (Go.E.start re37.c.tabs re37.c.A)) = some (re37.c.v, re37.c.B, [], re37.c.objs.map fun x => some x.2) := by kernel_rfl
theorem f_r37 [Sym] : ConFact Tryd.prog 39 re37.args re37.c := con_of_runF Lk0_ok noCon fn39 k_r37 rfl globIn (tabLt (by decide))
theorem k_r38 : conAns re38.c (runF Tryd.prog Lk0 400 39 re38.args (Go.E.start re38.c.tabs re38.c.A)) = some (re38.c.v, re38.c.B, [], re38.c.objs.map fun x => some x.2) := by kernel_rfl
theorem f_r38 [Sym] : ConFact Tryd.prog 39 re38.args re38.c := con_of_runF Lk0_ok noCon fn39 k_r38 rfl globIn (tabLt (by decide))
theorem k_r39 : conAns re39.c (runF Tryd.prog Lk0 400 39 re39.args (Go.E.start re39.c.tabs re39.c.A)) = some (re39.c.v, re39.c.B, [], re39.c.objs.map fun x => some x.2) := by kernel_rfl
theorem f_r39 [Sym] : ConFact Tryd.prog 39 re39.args re39.c := con_of_runF Lk0_ok noCon fn39 k_r39 rfl globIn (tabLt (by decide))
theorem k_r40 : conAns re40.c (runF Tryd.prog Lk0 400 39 re40.args (Go.E.start re40.c.tabs re40.c.A)) = some (re40.c.v, re40.c.B, [], re40.c.objs.map fun x => some x.2) := by kernel_rfl
theorem f_r40 [Sym] : ConFact Tryd.prog 39 re40.args re40.c := con_of_runF Lk0_ok noCon fn39 k_r40 rfl globIn (tabLt (by decide))
theorem k_r41 : conAns re41.c (runF Tryd.prog Lk0 400 39 re41.args (Go.E.start re41.c.tabs re41.c.A)) = some (re41.c.v, re41.c.B, [], re41.c.objs.map fun x => some x.2) := by kernel_rfl
theorem f_r41 [Sym] : ConFact Tryd.prog 39 re41.args re41.c := con_of_runF Lk0_ok noCon fn39 k_r41 rfl globIn (tabLt (by decide))
theorem k_r42 : conAns re42.c (runF Tryd.prog Lk0 400 39 re42.args (Go.E.start re42.c.tabs re42.c.A)) = some (re42.c.v, re42.c.B, [], re42.c.objs.map fun x => some x.2) := by kernel_rfl
theorem f_r42 [Sym] : ConFact Tryd.prog 39 re42.args re42.c := con_of_runF Lk0_ok noCon fn39 k_r42 rfl globIn (tabLt (by decide))
theorem k_r43 : conAns re43.c (runF Tryd.prog Lk0 400 39 re43.args (Go.E.start re43.c.tabs re43.c.A)) = some (re43.c.v, re43.c.B, [], re43.c.objs.map fun x => some x.2) := by kernel_rfl
theorem f_r43 [Sym] : ConFact Tryd.prog 39 re43.args re43.c := con_of_runF Lk0_ok noCon fn39 k_r43 rfl globIn (tabLt (by decide))
theorem k_r44 : conAns re44.c (runF Tryd.prog Lk0 400 39 re44.args (Go.E.start re44.c.tabs re44.c.A)) = some (re44.c.v, re44.c.B, [], re44.c.objs.map fun x => some x.2) := by kernel_rfl
theorem f_r44 [Sym] : ConFact Tryd.prog 39 re44.args re44.c := con_of_runF Lk0_ok noCon fn39 k_r44 rfl globIn (tabLt (by decide))
theorem k_r45 : conAns re45.c (runF Tryd.prog Lk0 400 39 re45.args (Go.E.start re45.c.tabs re45.c.A)) = some (re45.c.v, re45.c.B, [], re45.c.objs.map fun x => some x.2) := by kernel_rfl
theorem f_r45 [Sym] : ConFact Tryd.prog 39 re45.args re45.c := con_of_runF Lk0_ok noCon fn39 k_r45 rfl globIn (tabLt (by decide))
theorem k_r46 : conAns re46.c (runF Tryd.prog Lk0 400 39 re46.args (Go.E.start re46.c.tabs re46.c.A)) = some (re46.c.v, re46.c.B, [], re46.c.objs.map fun x => some x.2) := by kernel_rfl
theorem f_r46 [Sym] : ConFact Tryd.prog 39 re46.args re46.c := con_of_runF Lk0_ok noCon fn39 k_r46 rfl globIn (tabLt (by decide))
theorem k_r47 : conAns re47.c (runF Tryd.prog Lk0 400 39 re47.args (Go.E.start re47.c.tabs re47.c.A)) = some (re47.c.v, re47.c.B, [], re47.c.objs.map fun x => some x.2) := by kernel_rfl
theorem f_r47 [Sym] : ConFact Tryd.prog 39 re47.args re47.c := con_of_runF Lk0_ok noCon fn39 k_r47 rfl globIn (tabLt (by decide))
theorem k_r48 : conAns re48.c (runF Tryd.prog Lk0 400 39 re48.args (Go.E.start re48.c.tabs re48.c.A)) = some (re48.c.v, re48.c.B, [], re48.c.objs.map fun x => some x.2) := by kernel_rfl
theorem f_r48 [Sym] : ConFact Tryd.prog 39 re48.args re48.c := con_of_runF Lk0_ok noCon fn39 k_r48 rfl globIn (tabLt (by decide))
theorem k_r49 : conAns re49.c (runF Tryd.prog Lk0 400 39 re49.args (Go.E.start re49.c.tabs re49.c.A)) = some (re49.c.v, re49.c.B, [], re49.c.objs.map fun x => some x.2) := by kernel_rfl
theorem f_r49 [Sym] : ConFact Tryd.prog 39 re49.args re49.c := con_of_runF Lk0_ok noCon fn39 k_r49 rfl globIn (tabLt (by decide))
theorem k_r50 : conAns re50.c (runF Tryd.prog Lk0 400 39 re50.args (Go.E.start re50.c.tabs re50.c.A)) = some (re50.c.v, re50.c.B, [], re50.c.objs.map fun x => some x.2) := by kernel_rfl
theorem f_r50 [Sym] : ConFact Tryd.prog 39 re50.args re50.c := con_of_runF Lk0_ok noCon fn39 k_r50 rfl globIn (tabLt (by decide))
theorem k_r51 : conAns re51.c (runF Tryd.prog Lk0 400 39 re51.args (Go.E.start re51.c.tabs re51.c.A)) = some (re51.c.v, re51.c.B, [], re51.c.objs.map fun x => some x.2) := by kernel_rfl
theorem f_r51 [Sym] : ConFact Tryd.prog 39 re51.args re51.c := con_of_runF Lk0_ok noCon fn39 k_r51 rfl globIn (tabLt (by decide))
theorem k_r52 : conAns re52.c (runF Tryd.prog Lk0 400 39 re52.args (Go.E.start re52.c.tabs re52.c.A)) = some (re52.c.v, re52.c.B, [], re52.c.objs.map fun x => some x.2) := by kernel_rfl
theorem f_r52 [Sym] : ConFact Tryd.prog 39 re52.args re52.c := con_of_runF Lk0_ok noCon fn39 k_r52 rfl globIn (tabLt (by decide))
theorem k_r53 : conAns re53.c (runF Tryd.prog Lk0 400 39 re53.args (Go.E.start re53.c.tabs re53.c.A)) = some (re53.c.v, re53.c.B, [], re53.c.objs.map fun x => some x.2) := by kernel_rfl
theorem f_r53 [Sym] : ConFact Tryd.prog 39 re53.args re53.c := con_of_runF Lk0_ok noCon fn39 k_r53 rfl globIn (tabLt (by decide))
theorem k_r54 : conAns re54.c (runF Tryd.prog Lk0 400 39 re54.args (Go.E.start re54.c.tabs re54.c.A)) = some (re54.c.v, re54.c.B, [], re54.c.objs.map fun x => some x.2) := by kernel_rfl
theorem f_r54 [Sym] : ConFact Tryd.prog 39 re54.args re54.c := con_of_runF Lk0_ok noCon fn39 k_r54 rfl globIn (tabLt (by decide))
theorem k_r55 : conAns re55.c (runF Tryd.prog Lk0 400 39 re55.args (Go.E.start re55.c.tabs re55.c.A)) = some (re55.c.v, re55.c.B, [], re55.c.objs.map fun x => some x.2) := by kernel_rfl
theorem f_r55 [Sym] : ConFact Tryd.prog 39 re55.args re55.c := con_of_runF Lk0_ok noCon fn39 k_r55 rfl globIn (tabLt (by decide))
theorem k_r56 : conAns re56.c (runF Tryd.prog Lk0 400 39 re56.args (Go.E.start re56.c.tabs re56.c.A)) = some (re56.c.v, re56.c.B, [], re56.c.objs.map fun x => some x.2) := by kernel_rfl
theorem f_r56 [Sym] : ConFact Tryd.prog 39 re56.args re56.c := con_of_runF Lk0_ok noCon fn39 k_r56 rfl globIn (tabLt (by decide))
theorem k_r57 : conAns re57.c (runF Tryd.prog Lk0 400 39 re57.args (Go.E.start re57.c.tabs re57.c.A)) = some (re57.c.v, re57.c.B, [], re57.c.objs.map fun x => some x.2) := by kernel_rfl
theorem f_r57 [Sym] : ConFact Tryd.prog 39 re57.args re57.c := con_of_runF Lk0_ok noCon fn39 k_r57 rfl globIn (tabLt (by decide))
theorem k_r58 : conAns re58.c (runF Tryd.prog Lk0 400 39 re58.args (Go.E.start re58.c.tabs re58.c.A)) = some (re58.c.v, re58.c.B, [], re58.c.objs.map fun x => some x.2) := by kernel_rfl
theorem f_r58 [Sym] : ConFact Tryd.prog 39 re58.args re58.c := con_of_runF Lk0_ok noCon fn39 k_r58 rfl globIn (tabLt (by decide))
theorem k_r59 : conAns re59.c (runF Tryd.prog Lk0 400 39 re59.args (Go.E.start re59.c.tabs re59.c.A)) = some (re59.c.v, re59.c.B, [], re59.c.objs.map fun x => some x.2) := by kernel_rfl
theorem f_r59 [Sym] : ConFact Tryd.prog 39 re59.args re59.c := con_of_runF Lk0_ok noCon fn39 k_r59 rfl globIn (tabLt (by decide))
theorem k_r60 : conAns re60.c (runF Tryd.prog Lk0 400 39 re60.args (Go.E.start re60.c.tabs re60.c.A)) = some (re60.c.v, re60.c.B, [], re60.c.objs.map fun x => some x.2) := by kernel_rfl
theorem f_r60 [Sym] : ConFact Tryd.prog 39 re60.args re60.c := con_of_runF Lk0_ok noCon fn39 k_r60 rfl globIn (tabLt (by decide))
theorem k_r61 : conAns re61.c (runF Tryd.prog Lk0 400 39 re61.args (Go.E.start re61.c.tabs re61.c.A)) = some (re61.c.v, re61.c.B, [], re61.c.objs.map fun x => some x.2) := by kernel_rfl
theorem f_r61 [Sym] : ConFact Tryd.prog 39 re61.args re61.c := con_of_runF Lk0_ok noCon fn39 k_r61 rfl globIn (tabLt (by decide))
theorem k_r62 : conAns re62.c (runF Tryd.prog Lk0 400 39 re62.args (Go.E.start re62.c.tabs re62.c.A)) = some (re62.c.v, re62.c.B, [], re62.c.objs.map fun x => some x.2) := by kernel_rfl
theorem f_r62 [Sym] : ConFact Tryd.prog 39 re62.args re62.c := con_of_runF Lk0_ok noCon fn39 k_r62 rfl globIn (tabLt (by decide))
theorem k_r63 : conAns re63.c (runF Tryd.prog Lk0 400 39 re63.args (Go.E.start re63.c.tabs re63.c.A)) = some (re63.c.v, re63.c.B, [], re63.c.objs.map fun x => some x.2) := by kernel_rfl
theorem f_r63 [Sym] : ConFact Tryd.prog 39 re63.args re63.c := con_of_runF Lk0_ok noCon fn39 k_r63 rfl globIn (tabLt (by decide))
theorem k_r64 : conAns re64.c (runF Tryd.prog Lk0 400 39 re64.args (Go.E.start re64.c.tabs re64.c.A)) = some (re64.c.v, re64.c.B, [], re64.c.objs.map fun x => some x.2) := by kernel_rfl
theorem f_r64 [Sym] : ConFact Tryd.prog 39 re64.args re64.c := con_of_runF Lk0_ok noCon fn39 k_r64 rfl globIn (tabLt (by decide))
theorem k_r65 : conAns re65.c (runF Tryd.prog Lk0 400 39 re65.args (Go.E.start re65.c.tabs re65.c.A)) = some (re65.c.v, re65.c.B, [], re65.c.objs.map fun x => some x.2) := by kernel_rfl
theorem f_r65 [Sym] : ConFact Tryd.prog 39 re65.args re65.c := con_of_runF Lk0_ok noCon fn39 k_r65 rfl globIn (tabLt (by decide))
theorem k_r66 : conAns re66.c (runF Tryd.prog Lk0 400 39 re66.args (Go.E.start re66.c.tabs re66.c.A)) = some (re66.c.v, re66.c.B, [], re66.c.objs.map fun x => some x.2) := by kernel_rfl
theorem f_r66 [Sym] : ConFact Tryd.prog 39 re66.args re66.c := con_of_runF Lk0_ok noCon fn39 k_r66 rfl globIn (tabLt (by decide))
theorem k_r67 : conAns re67.c (runF Tryd.prog Lk0 400 39 re67.args (Go.E.start re67.c.tabs re67.c.A)) = some (re67.c.v, re67.c.B, [], re67.c.objs.map fun x => some x.2) := by kernel_rfl
theorem f_r67 [Sym] : ConFact Tryd.prog 39 re67.args re67.c := con_of_runF Lk0_ok noCon fn39 k_r67 rfl globIn (tabLt (by decide))
theorem k_r68 : conAns re68.c (runF Tryd.prog Lk0 400 39 re68.args (Go.E.start re68.c.tabs re68.c.A)) = some (re68.c.v, re68.c.B, [], re68.c.objs.map fun x => some x.2) := by kernel_rfl
theorem f_r68 [Sym] : ConFact Tryd.prog 39 re68.args re68.c := con_of_runF Lk0_ok noCon fn39 k_r68 rfl globIn (tabLt (by decide))
theorem k_r69 : conAns re69.c (runF Tryd.prog Lk0 400 39 re69.args (Go.E.start re69.c.tabs re69.c.A)) = some (re69.c.v, re69.c.B, [], re69.c.objs.map fun x => some x.2) := by kernel_rfl
theorem f_r69 [Sym] : ConFact Tryd.prog 39 re69.args re69.c := con_of_runF Lk0_ok noCon fn39 k_r69 rfl globIn (tabLt (by decide))
end Go.Proofs.YtfgdoliihmjnoaaDoorE
