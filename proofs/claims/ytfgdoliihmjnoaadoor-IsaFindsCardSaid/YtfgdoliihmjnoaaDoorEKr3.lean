/- Closed runs. Printed by gen_con.py. -/
import Derived.Test.YtfgdoliihmjnoaaDoorECr
set_option linter.unusedSimpArgs false
set_option linter.unusedVariables false
namespace Go.Proofs.YtfgdoliihmjnoaaDoorE
open Go Go.E Go.Proofs
set_option maxRecDepth 100000
theorem k_r105 : conAns re105.c (runF Tryd.prog Lk0 400 39 re105.args (Go.E.start re105.c.tabs re105.c.A)) = some (re105.c.v, re105.c.B, [], re105.c.objs.map fun x => some x.2) := by kernel_rfl
theorem f_r105 [Sym] : ConFact Tryd.prog 39 re105.args re105.c := con_of_runF Lk0_ok noCon fn39 k_r105 rfl globIn (tabLt (by decide))
theorem k_r106 : conAns re106.c (runF Tryd.prog Lk0 400 39 re106.args (Go.E.start re106.c.tabs re106.c.A)) = some (re106.c.v, re106.c.B, [], re106.c.objs.map fun x => some x.2) := by kernel_rfl
theorem f_r106 [Sym] : ConFact Tryd.prog 39 re106.args re106.c := con_of_runF Lk0_ok noCon fn39 k_r106 rfl globIn (tabLt (by decide))
theorem k_r107 : conAns re107.c (runF Tryd.prog Lk0 400 39 re107.args (Go.E.start re107.c.tabs re107.c.A)) = some (re107.c.v, re107.c.B, [], re107.c.objs.map fun x => some x.2) := by kernel_rfl
theorem f_r107 [Sym] : ConFact Tryd.prog 39 re107.args re107.c := con_of_runF Lk0_ok noCon fn39 k_r107 rfl globIn (tabLt (by decide))
theorem k_r108 : conAns re108.c (runF Tryd.prog Lk0 400 39 re108.args (Go.E.start re108.c.tabs re108.c.A)) = some (re108.c.v, re108.c.B, [], re108.c.objs.map fun x => some x.2) := by kernel_rfl
theorem f_r108 [Sym] : ConFact Tryd.prog 39 re108.args re108.c := con_of_runF Lk0_ok noCon fn39 k_r108 rfl globIn (tabLt (by decide))
theorem k_r109 : conAns re109.c (runF Tryd.prog Lk0 400 39 re109.args (Go.E.start re109.c.tabs re109.c.A)) = some (re109.c.v, re109.c.B, [], re109.c.objs.map fun x => some x.2) := by kernel_rfl
theorem f_r109 [Sym] : ConFact Tryd.prog 39 re109.args re109.c := con_of_runF Lk0_ok noCon fn39 k_r109 rfl globIn (tabLt (by decide))
theorem k_r110 : conAns re110.c (runF Tryd.prog Lk0 400 39 re110.args (Go.E.start re110.c.tabs re110.c.A)) = some (re110.c.v, re110.c.B, [], re110.c.objs.map fun x => some x.2) := by kernel_rfl
theorem f_r110 [Sym] : ConFact Tryd.prog 39 re110.args re110.c := con_of_runF Lk0_ok noCon fn39 k_r110 rfl globIn (tabLt (by decide))
theorem k_r111 : conAns re111.c (runF Tryd.prog Lk0 400 39 re111.args (Go.E.start re111.c.tabs re111.c.A)) = some (re111.c.v, re111.c.B, [], re111.c.objs.map fun x => some x.2) := by kernel_rfl
theorem f_r111 [Sym] : ConFact Tryd.prog 39 re111.args re111.c := con_of_runF Lk0_ok noCon fn39 k_r111 rfl globIn (tabLt (by decide))
theorem k_r112 : conAns re112.c (runF Tryd.prog Lk0 400 39 re112.args (Go.E.start re112.c.tabs re112.c.A)) = some (re112.c.v, re112.c.B, [], re112.c.objs.map fun x => some x.2) := by kernel_rfl
theorem f_r112 [Sym] : ConFact Tryd.prog 39 re112.args re112.c := con_of_runF Lk0_ok noCon fn39 k_r112 rfl globIn (tabLt (by decide))
theorem k_r113 : conAns re113.c (runF Tryd.prog Lk0 400 39 re113.args (Go.E.start re113.c.tabs re113.c.A)) = some (re113.c.v, re113.c.B, [], re113.c.objs.map fun x => some x.2) := by kernel_rfl
theorem f_r113 [Sym] : ConFact Tryd.prog 39 re113.args re113.c := con_of_runF Lk0_ok noCon fn39 k_r113 rfl globIn (tabLt (by decide))
theorem k_r114 : conAns re114.c (runF Tryd.prog Lk0 400 39 re114.args (Go.E.start re114.c.tabs re114.c.A)) = some (re114.c.v, re114.c.B, [], re114.c.objs.map fun x => some x.2) := by kernel_rfl
theorem f_r114 [Sym] : ConFact Tryd.prog 39 re114.args re114.c := con_of_runF Lk0_ok noCon fn39 k_r114 rfl globIn (tabLt (by decide))
theorem k_r115 : conAns re115.c (runF Tryd.prog Lk0 400 39 re115.args (Go.E.start re115.c.tabs re115.c.A)) = some (re115.c.v, re115.c.B, [], re115.c.objs.map fun x => some x.2) := by kernel_rfl
theorem f_r115 [Sym] : ConFact Tryd.prog 39 re115.args re115.c := con_of_runF Lk0_ok noCon fn39 k_r115 rfl globIn (tabLt (by decide))
theorem k_r116 : conAns re116.c (runF Tryd.prog Lk0 400 39 re116.args (Go.E.start re116.c.tabs re116.c.A)) = some (re116.c.v, re116.c.B, [], re116.c.objs.map fun x => some x.2) := by kernel_rfl
theorem f_r116 [Sym] : ConFact Tryd.prog 39 re116.args re116.c := con_of_runF Lk0_ok noCon fn39 k_r116 rfl globIn (tabLt (by decide))
theorem k_r117 : conAns re117.c (runF Tryd.prog Lk0 400 39 re117.args (Go.E.start re117.c.tabs re117.c.A)) = some (re117.c.v, re117.c.B, [], re117.c.objs.map fun x => some x.2) := by kernel_rfl
theorem f_r117 [Sym] : ConFact Tryd.prog 39 re117.args re117.c := con_of_runF Lk0_ok noCon fn39 k_r117 rfl globIn (tabLt (by decide))
theorem k_r118 : conAns re118.c (runF Tryd.prog Lk0 400 39 re118.args (Go.E.start re118.c.tabs re118.c.A)) = some (re118.c.v, re118.c.B, [], re118.c.objs.map fun x => some x.2) := by kernel_rfl
theorem f_r118 [Sym] : ConFact Tryd.prog 39 re118.args re118.c := con_of_runF Lk0_ok noCon fn39 k_r118 rfl globIn (tabLt (by decide))
theorem k_r119 : conAns re119.c (runF Tryd.prog Lk0 400 39 re119.args (Go.E.start re119.c.tabs re119.c.A)) = some (re119.c.v, re119.c.B, [], re119.c.objs.map fun x => some x.2) := by kernel_rfl
theorem f_r119 [Sym] : ConFact Tryd.prog 39 re119.args re119.c := con_of_runF Lk0_ok noCon fn39 k_r119 rfl globIn (tabLt (by decide))
theorem k_r120 : conAns re120.c (runF Tryd.prog Lk0 400 39 re120.args (Go.E.start re120.c.tabs re120.c.A)) = some (re120.c.v, re120.c.B, [], re120.c.objs.map fun x => some x.2) := by kernel_rfl
theorem f_r120 [Sym] : ConFact Tryd.prog 39 re120.args re120.c := con_of_runF Lk0_ok noCon fn39 k_r120 rfl globIn (tabLt (by decide))
theorem k_r121 : conAns re121.c (runF Tryd.prog Lk0 400 39 re121.args (Go.E.start re121.c.tabs re121.c.A)) = some (re121.c.v, re121.c.B, [], re121.c.objs.map fun x => some x.2) := by kernel_rfl
theorem f_r121 [Sym] : ConFact Tryd.prog 39 re121.args re121.c := con_of_runF Lk0_ok noCon fn39 k_r121 rfl globIn (tabLt (by decide))
theorem k_r122 : conAns re122.c (runF Tryd.prog Lk0 400 39 re122.args (Go.E.start re122.c.tabs re122.c.A)) = some (re122.c.v, re122.c.B, [], re122.c.objs.map fun x => some x.2) := by kernel_rfl
theorem f_r122 [Sym] : ConFact Tryd.prog 39 re122.args re122.c := con_of_runF Lk0_ok noCon fn39 k_r122 rfl globIn (tabLt (by decide))
theorem k_r123 : conAns re123.c (runF Tryd.prog Lk0 400 39 re123.args (Go.E.start re123.c.tabs re123.c.A)) = some (re123.c.v, re123.c.B, [], re123.c.objs.map fun x => some x.2) := by kernel_rfl
theorem f_r123 [Sym] : ConFact Tryd.prog 39 re123.args re123.c := con_of_runF Lk0_ok noCon fn39 k_r123 rfl globIn (tabLt (by decide))
theorem k_r124 : conAns re124.c (runF Tryd.prog Lk0 400 39 re124.args (Go.E.start re124.c.tabs re124.c.A)) = some (re124.c.v, re124.c.B, [], re124.c.objs.map fun x => some x.2) := by kernel_rfl
theorem f_r124 [Sym] : ConFact Tryd.prog 39 re124.args re124.c := con_of_runF Lk0_ok noCon fn39 k_r124 rfl globIn (tabLt (by decide))
theorem k_r125 : conAns re125.c (runF Tryd.prog Lk0 400 39 re125.args (Go.E.start re125.c.tabs re125.c.A)) = some (re125.c.v, re125.c.B, [], re125.c.objs.map fun x => some x.2) := by kernel_rfl
theorem f_r125 [Sym] : ConFact Tryd.prog 39 re125.args re125.c := con_of_runF Lk0_ok noCon fn39 k_r125 rfl globIn (tabLt (by decide))
theorem k_r126 : conAns re126.c (runF Tryd.prog Lk0 400 39 re126.args (Go.E.start re126.c.tabs re126.c.A)) = some (re126.c.v, re126.c.B, [], re126.c.objs.map fun x => some x.2) := by kernel_rfl
theorem f_r126 [Sym] : ConFact Tryd.prog 39 re126.args re126.c := con_of_runF Lk0_ok noCon fn39 k_r126 rfl globIn (tabLt (by decide))
theorem k_r127 : conAns re127.c (runF Tryd.prog Lk0 400 39 re127.args (Go.E.start re127.c.tabs re127.c.A)) = some (re127.c.v, re127.c.B, [], re127.c.objs.map fun x => some x.2) := by kernel_rfl
theorem f_r127 [Sym] : ConFact Tryd.prog 39 re127.args re127.c := con_of_runF Lk0_ok noCon fn39 k_r127 rfl globIn (tabLt (by decide))
theorem k_r128 : conAns re128.c (runF Tryd.prog Lk0 400 39 re128.args (Go.E.start re128.c.tabs re128.c.A)) = some (re128.c.v, re128.c.B, [], re128.c.objs.map fun x => some x.2) := by kernel_rfl
theorem f_r128 [Sym] : ConFact Tryd.prog 39 re128.args re128.c := con_of_runF Lk0_ok noCon fn39 k_r128 rfl globIn (tabLt (by decide))
theorem k_r129 : conAns re129.c (runF Tryd.prog Lk0 400 39 re129.args (Go.E.start re129.c.tabs re129.c.A)) = some (re129.c.v, re129.c.B, [], re129.c.objs.map fun x => some x.2) := by kernel_rfl
theorem f_r129 [Sym] : ConFact Tryd.prog 39 re129.args re129.c := con_of_runF Lk0_ok noCon fn39 k_r129 rfl globIn (tabLt (by decide))
theorem k_r130 : conAns re130.c (runF Tryd.prog Lk0 400 39 re130.args (Go.E.start re130.c.tabs re130.c.A)) = some (re130.c.v, re130.c.B, [], re130.c.objs.map fun x => some x.2) := by kernel_rfl
theorem f_r130 [Sym] : ConFact Tryd.prog 39 re130.args re130.c := con_of_runF Lk0_ok noCon fn39 k_r130 rfl globIn (tabLt (by decide))
theorem k_r131 : conAns re131.c (runF Tryd.prog Lk0 400 39 re131.args (Go.E.start re131.c.tabs re131.c.A)) = some (re131.c.v, re131.c.B, [], re131.c.objs.map fun x => some x.2) := by kernel_rfl
theorem f_r131 [Sym] : ConFact Tryd.prog 39 re131.args re131.c := con_of_runF Lk0_ok noCon fn39 k_r131 rfl globIn (tabLt (by decide))
theorem k_r132 : conAns re132.c (runF Tryd.prog Lk0 400 39 re132.args (Go.E.start re132.c.tabs re132.c.A)) = some (re132.c.v, re132.c.B, [], re132.c.objs.map fun x => some x.2) := by kernel_rfl
theorem f_r132 [Sym] : ConFact Tryd.prog 39 re132.args re132.c := con_of_runF Lk0_ok noCon fn39 k_r132 rfl globIn (tabLt (by decide))
theorem k_r133 : conAns re133.c (runF Tryd.prog Lk0 400 39 re133.args (Go.E.start re133.c.tabs re133.c.A)) = some (re133.c.v, re133.c.B, [], re133.c.objs.map fun x => some x.2) := by kernel_rfl
theorem f_r133 [Sym] : ConFact Tryd.prog 39 re133.args re133.c := con_of_runF Lk0_ok noCon fn39 k_r133 rfl globIn (tabLt (by decide))
theorem k_r134 : conAns re134.c (runF Tryd.prog Lk0 400 39 re134.args (Go.E.start re134.c.tabs re134.c.A)) = some (re134.c.v, re134.c.B, [], re134.c.objs.map fun x => some x.2) := by kernel_rfl
theorem f_r134 [Sym] : ConFact Tryd.prog 39 re134.args re134.c := con_of_runF Lk0_ok noCon fn39 k_r134 rfl globIn (tabLt (by decide))
theorem k_r135 : conAns re135.c (runF Tryd.prog Lk0 400 39 re135.args (Go.E.start re135.c.tabs re135.c.A)) = some (re135.c.v, re135.c.B, [], re135.c.objs.map fun x => some x.2) := by kernel_rfl
theorem f_r135 [Sym] : ConFact Tryd.prog 39 re135.args re135.c := con_of_runF Lk0_ok noCon fn39 k_r135 rfl globIn (tabLt (by decide))
theorem k_r136 : conAns re136.c (runF Tryd.prog Lk0 400 39 re136.args (Go.E.start re136.c.tabs re136.c.A)) = some (re136.c.v, re136.c.B, [], re136.c.objs.map fun x => some x.2) := by kernel_rfl
theorem f_r136 [Sym] : ConFact Tryd.prog 39 re136.args re136.c := con_of_runF Lk0_ok noCon fn39 k_r136 rfl globIn (tabLt (by decide))
theorem k_r137 : conAns re137.c (runF Tryd.prog Lk0 400 39 re137.args (Go.E.start re137.c.tabs re137.c.A)) = some (re137.c.v, re137.c.B, [], re137.c.objs.map fun x => some x.2) := by kernel_rfl
theorem f_r137 [Sym] : ConFact Tryd.prog 39 re137.args re137.c := con_of_runF Lk0_ok noCon fn39 k_r137 rfl globIn (tabLt (by decide))
theorem k_r138 : conAns re138.c (runF Tryd.prog Lk0 400 39 re138.args (Go.E.start re138.c.tabs re138.c.A)) = some (re138.c.v, re138.c.B, [], re138.c.objs.map fun x => some x.2) := by kernel_rfl
theorem f_r138 [Sym] : ConFact Tryd.prog 39 re138.args re138.c := con_of_runF Lk0_ok noCon fn39 k_r138 rfl globIn (tabLt (by decide))
end Go.Proofs.YtfgdoliihmjnoaaDoorE
