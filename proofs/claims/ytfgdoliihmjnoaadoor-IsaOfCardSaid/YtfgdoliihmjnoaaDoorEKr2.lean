/- Closed runs. Printed by gen_con.py. -/
import Derived.Test.YtfgdoliihmjnoaaDoorECr
set_option linter.unusedSimpArgs false
set_option linter.unusedVariables false
namespace Go.Proofs.YtfgdoliihmjnoaaDoorE
open Go Go.E Go.Proofs
set_option maxRecDepth 100000
theorem k_r70 : conAns re70.c (runF Tryd.prog Lk0 400 39 re70.args (Go.E.start re70.c.tabs re70.c.A)) = some (re70.c.v, re70.c.B, [], re70.c.objs.map fun x => some x.2) := by kernel_rfl
theorem f_r70 [Sym] : ConFact Tryd.prog 39 re70.args re70.c := con_of_runF Lk0_ok noCon fn39 k_r70 rfl globIn (tabLt (by decide))
theorem k_r71 : conAns re71.c (runF Tryd.prog Lk0 400 39 re71.args (Go.E.start re71.c.tabs re71.c.A)) = some (re71.c.v, re71.c.B, [], re71.c.objs.map fun x => some x.2) := by kernel_rfl
theorem f_r71 [Sym] : ConFact Tryd.prog 39 re71.args re71.c := con_of_runF Lk0_ok noCon fn39 k_r71 rfl globIn (tabLt (by decide))
theorem k_r72 : conAns re72.c (runF Tryd.prog Lk0 400 39 re72.args (Go.E.start re72.c.tabs re72.c.A)) = some (re72.c.v, re72.c.B, [], re72.c.objs.map fun x => some x.2) := by kernel_rfl
theorem f_r72 [Sym] : ConFact Tryd.prog 39 re72.args re72.c := con_of_runF Lk0_ok noCon fn39 k_r72 rfl globIn (tabLt (by decide))
theorem k_r73 : conAns re73.c (runF Tryd.prog Lk0 400 39 re73.args (Go.E.start re73.c.tabs re73.c.A)) = some (re73.c.v, re73.c.B, [], re73.c.objs.map fun x => some x.2) := by kernel_rfl
theorem f_r73 [Sym] : ConFact Tryd.prog 39 re73.args re73.c := con_of_runF Lk0_ok noCon fn39 k_r73 rfl globIn (tabLt (by decide))
theorem k_r74 : conAns re74.c (runF Tryd.prog Lk0 400 39 re74.args (Go.E.start re74.c.tabs re74.c.A)) = some (re74.c.v, re74.c.B, [], re74.c.objs.map fun x => some x.2) := by kernel_rfl
theorem f_r74 [Sym] : ConFact Tryd.prog 39 re74.args re74.c := con_of_runF Lk0_ok noCon fn39 k_r74 rfl globIn (tabLt (by decide))
theorem k_r75 : conAns re75.c (runF Tryd.prog Lk0 400 39 re75.args (Go.E.start re75.c.tabs re75.c.A)) = some (re75.c.v, re75.c.B, [], re75.c.objs.map fun x => some x.2) := by kernel_rfl
theorem f_r75 [Sym] : ConFact Tryd.prog 39 re75.args re75.c := con_of_runF Lk0_ok noCon fn39 k_r75 rfl globIn (tabLt (by decide))
theorem k_r76 : conAns re76.c (runF Tryd.prog Lk0 400 39 re76.args (Go.E.start re76.c.tabs re76.c.A)) = some (re76.c.v, re76.c.B, [], re76.c.objs.map fun x => some x.2) := by kernel_rfl
theorem f_r76 [Sym] : ConFact Tryd.prog 39 re76.args re76.c := con_of_runF Lk0_ok noCon fn39 k_r76 rfl globIn (tabLt (by decide))
theorem k_r77 : conAns re77.c (runF Tryd.prog Lk0 400 39 re77.args (Go.E.start re77.c.tabs re77.c.A)) = some (re77.c.v, re77.c.B, [], re77.c.objs.map fun x => some x.2) := by kernel_rfl
theorem f_r77 [Sym] : ConFact Tryd.prog 39 re77.args re77.c := con_of_runF Lk0_ok noCon fn39 k_r77 rfl globIn (tabLt (by decide))
theorem k_r78 : conAns re78.c (runF Tryd.prog Lk0 400 39 re78.args (Go.E.start re78.c.tabs re78.c.A)) = some (re78.c.v, re78.c.B, [], re78.c.objs.map fun x => some x.2) := by kernel_rfl
theorem f_r78 [Sym] : ConFact Tryd.prog 39 re78.args re78.c := con_of_runF Lk0_ok noCon fn39 k_r78 rfl globIn (tabLt (by decide))
theorem k_r79 : conAns re79.c (runF Tryd.prog Lk0 400 39 re79.args (Go.E.start re79.c.tabs re79.c.A)) = some (re79.c.v, re79.c.B, [], re79.c.objs.map fun x => some x.2) := by kernel_rfl
theorem f_r79 [Sym] : ConFact Tryd.prog 39 re79.args re79.c := con_of_runF Lk0_ok noCon fn39 k_r79 rfl globIn (tabLt (by decide))
theorem k_r80 : conAns re80.c (runF Tryd.prog Lk0 400 39 re80.args (Go.E.start re80.c.tabs re80.c.A)) = some (re80.c.v, re80.c.B, [], re80.c.objs.map fun x => some x.2) := by kernel_rfl
theorem f_r80 [Sym] : ConFact Tryd.prog 39 re80.args re80.c := con_of_runF Lk0_ok noCon fn39 k_r80 rfl globIn (tabLt (by decide))
theorem k_r81 : conAns re81.c (runF Tryd.prog Lk0 400 39 re81.args (Go.E.start re81.c.tabs re81.c.A)) = some (re81.c.v, re81.c.B, [], re81.c.objs.map fun x => some x.2) := by kernel_rfl
theorem f_r81 [Sym] : ConFact Tryd.prog 39 re81.args re81.c := con_of_runF Lk0_ok noCon fn39 k_r81 rfl globIn (tabLt (by decide))
theorem k_r82 : conAns re82.c (runF Tryd.prog Lk0 400 39 re82.args (Go.E.start re82.c.tabs re82.c.A)) = some (re82.c.v, re82.c.B, [], re82.c.objs.map fun x => some x.2) := by kernel_rfl
theorem f_r82 [Sym] : ConFact Tryd.prog 39 re82.args re82.c := con_of_runF Lk0_ok noCon fn39 k_r82 rfl globIn (tabLt (by decide))
theorem k_r83 : conAns re83.c (runF Tryd.prog Lk0 400 39 re83.args (Go.E.start re83.c.tabs re83.c.A)) = some (re83.c.v, re83.c.B, [], re83.c.objs.map fun x => some x.2) := by kernel_rfl
theorem f_r83 [Sym] : ConFact Tryd.prog 39 re83.args re83.c := con_of_runF Lk0_ok noCon fn39 k_r83 rfl globIn (tabLt (by decide))
theorem k_r84 : conAns re84.c (runF Tryd.prog Lk0 400 39 re84.args (Go.E.start re84.c.tabs re84.c.A)) = some (re84.c.v, re84.c.B, [], re84.c.objs.map fun x => some x.2) := by kernel_rfl
theorem f_r84 [Sym] : ConFact Tryd.prog 39 re84.args re84.c := con_of_runF Lk0_ok noCon fn39 k_r84 rfl globIn (tabLt (by decide))
theorem k_r85 : conAns re85.c (runF Tryd.prog Lk0 400 39 re85.args (Go.E.start re85.c.tabs re85.c.A)) = some (re85.c.v, re85.c.B, [], re85.c.objs.map fun x => some x.2) := by kernel_rfl
theorem f_r85 [Sym] : ConFact Tryd.prog 39 re85.args re85.c := con_of_runF Lk0_ok noCon fn39 k_r85 rfl globIn (tabLt (by decide))
theorem k_r86 : conAns re86.c (runF Tryd.prog Lk0 400 39 re86.args (Go.E.start re86.c.tabs re86.c.A)) = some (re86.c.v, re86.c.B, [], re86.c.objs.map fun x => some x.2) := by kernel_rfl
theorem f_r86 [Sym] : ConFact Tryd.prog 39 re86.args re86.c := con_of_runF Lk0_ok noCon fn39 k_r86 rfl globIn (tabLt (by decide))
theorem k_r87 : conAns re87.c (runF Tryd.prog Lk0 400 39 re87.args (Go.E.start re87.c.tabs re87.c.A)) = some (re87.c.v, re87.c.B, [], re87.c.objs.map fun x => some x.2) := by kernel_rfl
theorem f_r87 [Sym] : ConFact Tryd.prog 39 re87.args re87.c := con_of_runF Lk0_ok noCon fn39 k_r87 rfl globIn (tabLt (by decide))
theorem k_r88 : conAns re88.c (runF Tryd.prog Lk0 400 39 re88.args (Go.E.start re88.c.tabs re88.c.A)) = some (re88.c.v, re88.c.B, [], re88.c.objs.map fun x => some x.2) := by kernel_rfl
theorem f_r88 [Sym] : ConFact Tryd.prog 39 re88.args re88.c := con_of_runF Lk0_ok noCon fn39 k_r88 rfl globIn (tabLt (by decide))
theorem k_r89 : conAns re89.c (runF Tryd.prog Lk0 400 39 re89.args (Go.E.start re89.c.tabs re89.c.A)) = some (re89.c.v, re89.c.B, [], re89.c.objs.map fun x => some x.2) := by kernel_rfl
theorem f_r89 [Sym] : ConFact Tryd.prog 39 re89.args re89.c := con_of_runF Lk0_ok noCon fn39 k_r89 rfl globIn (tabLt (by decide))
theorem k_r90 : conAns re90.c (runF Tryd.prog Lk0 400 39 re90.args (Go.E.start re90.c.tabs re90.c.A)) = some (re90.c.v, re90.c.B, [], re90.c.objs.map fun x => some x.2) := by kernel_rfl
theorem f_r90 [Sym] : ConFact Tryd.prog 39 re90.args re90.c := con_of_runF Lk0_ok noCon fn39 k_r90 rfl globIn (tabLt (by decide))
theorem k_r91 : conAns re91.c (runF Tryd.prog Lk0 400 39 re91.args (Go.E.start re91.c.tabs re91.c.A)) = some (re91.c.v, re91.c.B, [], re91.c.objs.map fun x => some x.2) := by kernel_rfl
theorem f_r91 [Sym] : ConFact Tryd.prog 39 re91.args re91.c := con_of_runF Lk0_ok noCon fn39 k_r91 rfl globIn (tabLt (by decide))
theorem k_r92 : conAns re92.c (runF Tryd.prog Lk0 400 39 re92.args (Go.E.start re92.c.tabs re92.c.A)) = some (re92.c.v, re92.c.B, [], re92.c.objs.map fun x => some x.2) := by kernel_rfl
theorem f_r92 [Sym] : ConFact Tryd.prog 39 re92.args re92.c := con_of_runF Lk0_ok noCon fn39 k_r92 rfl globIn (tabLt (by decide))
theorem k_r93 : conAns re93.c (runF Tryd.prog Lk0 400 39 re93.args (Go.E.start re93.c.tabs re93.c.A)) = some (re93.c.v, re93.c.B, [], re93.c.objs.map fun x => some x.2) := by kernel_rfl
theorem f_r93 [Sym] : ConFact Tryd.prog 39 re93.args re93.c := con_of_runF Lk0_ok noCon fn39 k_r93 rfl globIn (tabLt (by decide))
theorem k_r94 : conAns re94.c (runF Tryd.prog Lk0 400 39 re94.args (Go.E.start re94.c.tabs re94.c.A)) = some (re94.c.v, re94.c.B, [], re94.c.objs.map fun x => some x.2) := by kernel_rfl
theorem f_r94 [Sym] : ConFact Tryd.prog 39 re94.args re94.c := con_of_runF Lk0_ok noCon fn39 k_r94 rfl globIn (tabLt (by decide))
theorem k_r95 : conAns re95.c (runF Tryd.prog Lk0 400 39 re95.args (Go.E.start re95.c.tabs re95.c.A)) = some (re95.c.v, re95.c.B, [], re95.c.objs.map fun x => some x.2) := by kernel_rfl
theorem f_r95 [Sym] : ConFact Tryd.prog 39 re95.args re95.c := con_of_runF Lk0_ok noCon fn39 k_r95 rfl globIn (tabLt (by decide))
theorem k_r96 : conAns re96.c (runF Tryd.prog Lk0 400 39 re96.args (Go.E.start re96.c.tabs re96.c.A)) = some (re96.c.v, re96.c.B, [], re96.c.objs.map fun x => some x.2) := by kernel_rfl
theorem f_r96 [Sym] : ConFact Tryd.prog 39 re96.args re96.c := con_of_runF Lk0_ok noCon fn39 k_r96 rfl globIn (tabLt (by decide))
theorem k_r97 : conAns re97.c (runF Tryd.prog Lk0 400 39 re97.args (Go.E.start re97.c.tabs re97.c.A)) = some (re97.c.v, re97.c.B, [], re97.c.objs.map fun x => some x.2) := by kernel_rfl
theorem f_r97 [Sym] : ConFact Tryd.prog 39 re97.args re97.c := con_of_runF Lk0_ok noCon fn39 k_r97 rfl globIn (tabLt (by decide))
theorem k_r98 : conAns re98.c (runF Tryd.prog Lk0 400 39 re98.args (Go.E.start re98.c.tabs re98.c.A)) = some (re98.c.v, re98.c.B, [], re98.c.objs.map fun x => some x.2) := by kernel_rfl
theorem f_r98 [Sym] : ConFact Tryd.prog 39 re98.args re98.c := con_of_runF Lk0_ok noCon fn39 k_r98 rfl globIn (tabLt (by decide))
theorem k_r99 : conAns re99.c (runF Tryd.prog Lk0 400 39 re99.args (Go.E.start re99.c.tabs re99.c.A)) = some (re99.c.v, re99.c.B, [], re99.c.objs.map fun x => some x.2) := by kernel_rfl
theorem f_r99 [Sym] : ConFact Tryd.prog 39 re99.args re99.c := con_of_runF Lk0_ok noCon fn39 k_r99 rfl globIn (tabLt (by decide))
theorem k_r100 : conAns re100.c (runF Tryd.prog Lk0 400 39 re100.args (Go.E.start re100.c.tabs re100.c.A)) = some (re100.c.v, re100.c.B, [], re100.c.objs.map fun x => some x.2) := by kernel_rfl
theorem f_r100 [Sym] : ConFact Tryd.prog 39 re100.args re100.c := con_of_runF Lk0_ok noCon fn39 k_r100 rfl globIn (tabLt (by decide))
theorem k_r101 : conAns re101.c (runF Tryd.prog Lk0 400 39 re101.args (Go.E.start re101.c.tabs re101.c.A)) = some (re101.c.v, re101.c.B, [], re101.c.objs.map fun x => some x.2) := by kernel_rfl
theorem f_r101 [Sym] : ConFact Tryd.prog 39 re101.args re101.c := con_of_runF Lk0_ok noCon fn39 k_r101 rfl globIn (tabLt (by decide))
theorem k_r102 : conAns re102.c (runF Tryd.prog Lk0 400 39 re102.args (Go.E.start re102.c.tabs re102.c.A)) = some (re102.c.v, re102.c.B, [], re102.c.objs.map fun x => some x.2) := by kernel_rfl
theorem f_r102 [Sym] : ConFact Tryd.prog 39 re102.args re102.c := con_of_runF Lk0_ok noCon fn39 k_r102 rfl globIn (tabLt (by decide))
theorem k_r103 : conAns re103.c (runF Tryd.prog Lk0 400 39 re103.args (Go.E.start re103.c.tabs re103.c.A)) = some (re103.c.v, re103.c.B, [], re103.c.objs.map fun x => some x.2) := by kernel_rfl
theorem f_r103 [Sym] : ConFact Tryd.prog 39 re103.args re103.c := con_of_runF Lk0_ok noCon fn39 k_r103 rfl globIn (tabLt (by decide))
theorem k_r104 : conAns re104.c (runF Tryd.prog Lk0 400 39 re104.args (Go.E.start re104.c.tabs re104.c.A)) = some (re104.c.v, re104.c.B, [], re104.c.objs.map fun x => some x.2) := by kernel_rfl
theorem f_r104 [Sym] : ConFact Tryd.prog 39 re104.args re104.c := con_of_runF Lk0_ok noCon fn39 k_r104 rfl globIn (tabLt (by decide))
end Go.Proofs.YtfgdoliihmjnoaaDoorE
