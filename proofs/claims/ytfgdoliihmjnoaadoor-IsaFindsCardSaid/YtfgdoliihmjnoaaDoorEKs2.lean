/- Closed runs. Printed by gen_con.py. -/
import Derived.Test.YtfgdoliihmjnoaaDoorECs
set_option linter.unusedSimpArgs false
set_option linter.unusedVariables false
namespace Go.Proofs.YtfgdoliihmjnoaaDoorE
open Go Go.E Go.Proofs
set_option maxRecDepth 100000
theorem k_s128 : conAns cs128 (runF Tryd.prog Lk0 400 15 [.int .i64 (.ofNat 128)] (Go.E.start cs128.tabs cs128.A)) = some (cs128.v, cs128.B, [], cs128.objs.map fun x => some x.2) := by kernel_rfl
theorem f_s128 [Sym] : ConFact Tryd.prog 15 [.int .i64 (.ofNat 128)] cs128 := con_of_runF Lk0_ok noCon fn15 k_s128 rfl globIn (tabLt (by decide))
theorem k_s129 : conAns cs129 (runF Tryd.prog Lk0 400 15 [.int .i64 (.ofNat 129)] (Go.E.start cs129.tabs cs129.A)) = some (cs129.v, cs129.B, [], cs129.objs.map fun x => some x.2) := by kernel_rfl
theorem f_s129 [Sym] : ConFact Tryd.prog 15 [.int .i64 (.ofNat 129)] cs129 := con_of_runF Lk0_ok noCon fn15 k_s129 rfl globIn (tabLt (by decide))
theorem k_s130 : conAns cs130 (runF Tryd.prog Lk0 400 15 [.int .i64 (.ofNat 130)] (Go.E.start cs130.tabs cs130.A)) = some (cs130.v, cs130.B, [], cs130.objs.map fun x => some x.2) := by kernel_rfl
theorem f_s130 [Sym] : ConFact Tryd.prog 15 [.int .i64 (.ofNat 130)] cs130 := con_of_runF Lk0_ok noCon fn15 k_s130 rfl globIn (tabLt (by decide))
theorem k_s131 : conAns cs131 (runF Tryd.prog Lk0 400 15 [.int .i64 (.ofNat 131)] (Go.E.start cs131.tabs cs131.A)) = some (cs131.v, cs131.B, [], cs131.objs.map fun x => some x.2) := by kernel_rfl
theorem f_s131 [Sym] : ConFact Tryd.prog 15 [.int .i64 (.ofNat 131)] cs131 := con_of_runF Lk0_ok noCon fn15 k_s131 rfl globIn (tabLt (by decide))
theorem k_s132 : conAns cs132 (runF Tryd.prog Lk0 400 15 [.int .i64 (.ofNat 132)] (Go.E.start cs132.tabs cs132.A)) = some (cs132.v, cs132.B, [], cs132.objs.map fun x => some x.2) := by kernel_rfl
theorem f_s132 [Sym] : ConFact Tryd.prog 15 [.int .i64 (.ofNat 132)] cs132 := con_of_runF Lk0_ok noCon fn15 k_s132 rfl globIn (tabLt (by decide))
theorem k_s133 : conAns cs133 (runF Tryd.prog Lk0 400 15 [.int .i64 (.ofNat 133)] (Go.E.start cs133.tabs cs133.A)) = some (cs133.v, cs133.B, [], cs133.objs.map fun x => some x.2) := by kernel_rfl
theorem f_s133 [Sym] : ConFact Tryd.prog 15 [.int .i64 (.ofNat 133)] cs133 := con_of_runF Lk0_ok noCon fn15 k_s133 rfl globIn (tabLt (by decide))
theorem k_s134 : conAns cs134 (runF Tryd.prog Lk0 400 15 [.int .i64 (.ofNat 134)] (Go.E.start cs134.tabs cs134.A)) = some (cs134.v, cs134.B, [], cs134.objs.map fun x => some x.2) := by kernel_rfl
theorem f_s134 [Sym] : ConFact Tryd.prog 15 [.int .i64 (.ofNat 134)] cs134 := con_of_runF Lk0_ok noCon fn15 k_s134 rfl globIn (tabLt (by decide))
theorem k_s135 : conAns cs135 (runF Tryd.prog Lk0 400 15 [.int .i64 (.ofNat 135)] (Go.E.start cs135.tabs cs135.A)) = some (cs135.v, cs135.B, [], cs135.objs.map fun x => some x.2) := by kernel_rfl
theorem f_s135 [Sym] : ConFact Tryd.prog 15 [.int .i64 (.ofNat 135)] cs135 := con_of_runF Lk0_ok noCon fn15 k_s135 rfl globIn (tabLt (by decide))
theorem k_s136 : conAns cs136 (runF Tryd.prog Lk0 400 15 [.int .i64 (.ofNat 136)] (Go.E.start cs136.tabs cs136.A)) = some (cs136.v, cs136.B, [], cs136.objs.map fun x => some x.2) := by kernel_rfl
theorem f_s136 [Sym] : ConFact Tryd.prog 15 [.int .i64 (.ofNat 136)] cs136 := con_of_runF Lk0_ok noCon fn15 k_s136 rfl globIn (tabLt (by decide))
theorem k_s137 : conAns cs137 (runF Tryd.prog Lk0 400 15 [.int .i64 (.ofNat 137)] (Go.E.start cs137.tabs cs137.A)) = some (cs137.v, cs137.B, [], cs137.objs.map fun x => some x.2) := by kernel_rfl
theorem f_s137 [Sym] : ConFact Tryd.prog 15 [.int .i64 (.ofNat 137)] cs137 := con_of_runF Lk0_ok noCon fn15 k_s137 rfl globIn (tabLt (by decide))
theorem k_s138 : conAns cs138 (runF Tryd.prog Lk0 400 15 [.int .i64 (.ofNat 138)] (Go.E.start cs138.tabs cs138.A)) = some (cs138.v, cs138.B, [], cs138.objs.map fun x => some x.2) := by kernel_rfl
theorem f_s138 [Sym] : ConFact Tryd.prog 15 [.int .i64 (.ofNat 138)] cs138 := con_of_runF Lk0_ok noCon fn15 k_s138 rfl globIn (tabLt (by decide))
theorem k_s139 : conAns cs139 (runF Tryd.prog Lk0 400 15 [.int .i64 (.ofNat 139)] (Go.E.start cs139.tabs cs139.A)) = some (cs139.v, cs139.B, [], cs139.objs.map fun x => some x.2) := by kernel_rfl
theorem f_s139 [Sym] : ConFact Tryd.prog 15 [.int .i64 (.ofNat 139)] cs139 := con_of_runF Lk0_ok noCon fn15 k_s139 rfl globIn (tabLt (by decide))
theorem k_s140 : conAns cs140 (runF Tryd.prog Lk0 400 15 [.int .i64 (.ofNat 140)] (Go.E.start cs140.tabs cs140.A)) = some (cs140.v, cs140.B, [], cs140.objs.map fun x => some x.2) := by kernel_rfl
theorem f_s140 [Sym] : ConFact Tryd.prog 15 [.int .i64 (.ofNat 140)] cs140 := con_of_runF Lk0_ok noCon fn15 k_s140 rfl globIn (tabLt (by decide))
theorem k_s141 : conAns cs141 (runF Tryd.prog Lk0 400 15 [.int .i64 (.ofNat 141)] (Go.E.start cs141.tabs cs141.A)) = some (cs141.v, cs141.B, [], cs141.objs.map fun x => some x.2) := by kernel_rfl
theorem f_s141 [Sym] : ConFact Tryd.prog 15 [.int .i64 (.ofNat 141)] cs141 := con_of_runF Lk0_ok noCon fn15 k_s141 rfl globIn (tabLt (by decide))
theorem k_s142 : conAns cs142 (runF Tryd.prog Lk0 400 15 [.int .i64 (.ofNat 142)] (Go.E.start cs142.tabs cs142.A)) = some (cs142.v, cs142.B, [], cs142.objs.map fun x => some x.2) := by kernel_rfl
theorem f_s142 [Sym] : ConFact Tryd.prog 15 [.int .i64 (.ofNat 142)] cs142 := con_of_runF Lk0_ok noCon fn15 k_s142 rfl globIn (tabLt (by decide))
theorem k_s143 : conAns cs143 (runF Tryd.prog Lk0 400 15 [.int .i64 (.ofNat 143)] (Go.E.start cs143.tabs cs143.A)) = some (cs143.v, cs143.B, [], cs143.objs.map fun x => some x.2) := by kernel_rfl
theorem f_s143 [Sym] : ConFact Tryd.prog 15 [.int .i64 (.ofNat 143)] cs143 := con_of_runF Lk0_ok noCon fn15 k_s143 rfl globIn (tabLt (by decide))
theorem k_s144 : conAns cs144 (runF Tryd.prog Lk0 400 15 [.int .i64 (.ofNat 144)] (Go.E.start cs144.tabs cs144.A)) = some (cs144.v, cs144.B, [], cs144.objs.map fun x => some x.2) := by kernel_rfl
theorem f_s144 [Sym] : ConFact Tryd.prog 15 [.int .i64 (.ofNat 144)] cs144 := con_of_runF Lk0_ok noCon fn15 k_s144 rfl globIn (tabLt (by decide))
theorem k_s145 : conAns cs145 (runF Tryd.prog Lk0 400 15 [.int .i64 (.ofNat 145)] (Go.E.start cs145.tabs cs145.A)) = some (cs145.v, cs145.B, [], cs145.objs.map fun x => some x.2) := by kernel_rfl
theorem f_s145 [Sym] : ConFact Tryd.prog 15 [.int .i64 (.ofNat 145)] cs145 := con_of_runF Lk0_ok noCon fn15 k_s145 rfl globIn (tabLt (by decide))
theorem k_s146 : conAns cs146 (runF Tryd.prog Lk0 400 15 [.int .i64 (.ofNat 146)] (Go.E.start cs146.tabs cs146.A)) = some (cs146.v, cs146.B, [], cs146.objs.map fun x => some x.2) := by kernel_rfl
theorem f_s146 [Sym] : ConFact Tryd.prog 15 [.int .i64 (.ofNat 146)] cs146 := con_of_runF Lk0_ok noCon fn15 k_s146 rfl globIn (tabLt (by decide))
theorem k_s147 : conAns cs147 (runF Tryd.prog Lk0 400 15 [.int .i64 (.ofNat 147)] (Go.E.start cs147.tabs cs147.A)) = some (cs147.v, cs147.B, [], cs147.objs.map fun x => some x.2) := by kernel_rfl
theorem f_s147 [Sym] : ConFact Tryd.prog 15 [.int .i64 (.ofNat 147)] cs147 := con_of_runF Lk0_ok noCon fn15 k_s147 rfl globIn (tabLt (by decide))
theorem k_s148 : conAns cs148 (runF Tryd.prog Lk0 400 15 [.int .i64 (.ofNat 148)] (Go.E.start cs148.tabs cs148.A)) = some (cs148.v, cs148.B, [], cs148.objs.map fun x => some x.2) := by kernel_rfl
theorem f_s148 [Sym] : ConFact Tryd.prog 15 [.int .i64 (.ofNat 148)] cs148 := con_of_runF Lk0_ok noCon fn15 k_s148 rfl globIn (tabLt (by decide))
theorem k_s149 : conAns cs149 (runF Tryd.prog Lk0 400 15 [.int .i64 (.ofNat 149)] (Go.E.start cs149.tabs cs149.A)) = some (cs149.v, cs149.B, [], cs149.objs.map fun x => some x.2) := by kernel_rfl
theorem f_s149 [Sym] : ConFact Tryd.prog 15 [.int .i64 (.ofNat 149)] cs149 := con_of_runF Lk0_ok noCon fn15 k_s149 rfl globIn (tabLt (by decide))
theorem k_s150 : conAns cs150 (runF Tryd.prog Lk0 400 15 [.int .i64 (.ofNat 150)] (Go.E.start cs150.tabs cs150.A)) = some (cs150.v, cs150.B, [], cs150.objs.map fun x => some x.2) := by kernel_rfl
theorem f_s150 [Sym] : ConFact Tryd.prog 15 [.int .i64 (.ofNat 150)] cs150 := con_of_runF Lk0_ok noCon fn15 k_s150 rfl globIn (tabLt (by decide))
theorem k_s151 : conAns cs151 (runF Tryd.prog Lk0 400 15 [.int .i64 (.ofNat 151)] (Go.E.start cs151.tabs cs151.A)) = some (cs151.v, cs151.B, [], cs151.objs.map fun x => some x.2) := by kernel_rfl
theorem f_s151 [Sym] : ConFact Tryd.prog 15 [.int .i64 (.ofNat 151)] cs151 := con_of_runF Lk0_ok noCon fn15 k_s151 rfl globIn (tabLt (by decide))
theorem k_s152 : conAns cs152 (runF Tryd.prog Lk0 400 15 [.int .i64 (.ofNat 152)] (Go.E.start cs152.tabs cs152.A)) = some (cs152.v, cs152.B, [], cs152.objs.map fun x => some x.2) := by kernel_rfl
theorem f_s152 [Sym] : ConFact Tryd.prog 15 [.int .i64 (.ofNat 152)] cs152 := con_of_runF Lk0_ok noCon fn15 k_s152 rfl globIn (tabLt (by decide))
theorem k_s153 : conAns cs153 (runF Tryd.prog Lk0 400 15 [.int .i64 (.ofNat 153)] (Go.E.start cs153.tabs cs153.A)) = some (cs153.v, cs153.B, [], cs153.objs.map fun x => some x.2) := by kernel_rfl
theorem f_s153 [Sym] : ConFact Tryd.prog 15 [.int .i64 (.ofNat 153)] cs153 := con_of_runF Lk0_ok noCon fn15 k_s153 rfl globIn (tabLt (by decide))
theorem k_s154 : conAns cs154 (runF Tryd.prog Lk0 400 15 [.int .i64 (.ofNat 154)] (Go.E.start cs154.tabs cs154.A)) = some (cs154.v, cs154.B, [], cs154.objs.map fun x => some x.2) := by kernel_rfl
theorem f_s154 [Sym] : ConFact Tryd.prog 15 [.int .i64 (.ofNat 154)] cs154 := con_of_runF Lk0_ok noCon fn15 k_s154 rfl globIn (tabLt (by decide))
theorem k_s155 : conAns cs155 (runF Tryd.prog Lk0 400 15 [.int .i64 (.ofNat 155)] (Go.E.start cs155.tabs cs155.A)) = some (cs155.v, cs155.B, [], cs155.objs.map fun x => some x.2) := by kernel_rfl
theorem f_s155 [Sym] : ConFact Tryd.prog 15 [.int .i64 (.ofNat 155)] cs155 := con_of_runF Lk0_ok noCon fn15 k_s155 rfl globIn (tabLt (by decide))
theorem k_s156 : conAns cs156 (runF Tryd.prog Lk0 400 15 [.int .i64 (.ofNat 156)] (Go.E.start cs156.tabs cs156.A)) = some (cs156.v, cs156.B, [], cs156.objs.map fun x => some x.2) := by kernel_rfl
theorem f_s156 [Sym] : ConFact Tryd.prog 15 [.int .i64 (.ofNat 156)] cs156 := con_of_runF Lk0_ok noCon fn15 k_s156 rfl globIn (tabLt (by decide))
theorem k_s157 : conAns cs157 (runF Tryd.prog Lk0 400 15 [.int .i64 (.ofNat 157)] (Go.E.start cs157.tabs cs157.A)) = some (cs157.v, cs157.B, [], cs157.objs.map fun x => some x.2) := by kernel_rfl
theorem f_s157 [Sym] : ConFact Tryd.prog 15 [.int .i64 (.ofNat 157)] cs157 := con_of_runF Lk0_ok noCon fn15 k_s157 rfl globIn (tabLt (by decide))
theorem k_s158 : conAns cs158 (runF Tryd.prog Lk0 400 15 [.int .i64 (.ofNat 158)] (Go.E.start cs158.tabs cs158.A)) = some (cs158.v, cs158.B, [], cs158.objs.map fun x => some x.2) := by kernel_rfl
theorem f_s158 [Sym] : ConFact Tryd.prog 15 [.int .i64 (.ofNat 158)] cs158 := con_of_runF Lk0_ok noCon fn15 k_s158 rfl globIn (tabLt (by decide))
theorem k_s159 : conAns cs159 (runF Tryd.prog Lk0 400 15 [.int .i64 (.ofNat 159)] (Go.E.start cs159.tabs cs159.A)) = some (cs159.v, cs159.B, [], cs159.objs.map fun x => some x.2) := by kernel_rfl
theorem f_s159 [Sym] : ConFact Tryd.prog 15 [.int .i64 (.ofNat 159)] cs159 := con_of_runF Lk0_ok noCon fn15 k_s159 rfl globIn (tabLt (by decide))
theorem k_s160 : conAns cs160 (runF Tryd.prog Lk0 400 15 [.int .i64 (.ofNat 160)] (Go.E.start cs160.tabs cs160.A)) = some (cs160.v, cs160.B, [], cs160.objs.map fun x => some x.2) := by kernel_rfl
theorem f_s160 [Sym] : ConFact Tryd.prog 15 [.int .i64 (.ofNat 160)] cs160 := con_of_runF Lk0_ok noCon fn15 k_s160 rfl globIn (tabLt (by decide))
theorem k_s161 : conAns cs161 (runF Tryd.prog Lk0 400 15 [.int .i64 (.ofNat 161)] (Go.E.start cs161.tabs cs161.A)) = some (cs161.v, cs161.B, [], cs161.objs.map fun x => some x.2) := by kernel_rfl
theorem f_s161 [Sym] : ConFact Tryd.prog 15 [.int .i64 (.ofNat 161)] cs161 := con_of_runF Lk0_ok noCon fn15 k_s161 rfl globIn (tabLt (by decide))
theorem k_s162 : conAns cs162 (runF Tryd.prog Lk0 400 15 [.int .i64 (.ofNat 162)] (Go.E.start cs162.tabs cs162.A)) = some (cs162.v, cs162.B, [], cs162.objs.map fun x => some x.2) := by kernel_rfl
theorem f_s162 [Sym] : ConFact Tryd.prog 15 [.int .i64 (.ofNat 162)] cs162 := con_of_runF Lk0_ok noCon fn15 k_s162 rfl globIn (tabLt (by decide))
theorem k_s163 : conAns cs163 (runF Tryd.prog Lk0 400 15 [.int .i64 (.ofNat 163)] (Go.E.start cs163.tabs cs163.A)) = some (cs163.v, cs163.B, [], cs163.objs.map fun x => some x.2) := by kernel_rfl
theorem f_s163 [Sym] : ConFact Tryd.prog 15 [.int .i64 (.ofNat 163)] cs163 := con_of_runF Lk0_ok noCon fn15 k_s163 rfl globIn (tabLt (by decide))
theorem k_s164 : conAns cs164 (runF Tryd.prog Lk0 400 15 [.int .i64 (.ofNat 164)] (Go.E.start cs164.tabs cs164.A)) = some (cs164.v, cs164.B, [], cs164.objs.map fun x => some x.2) := by kernel_rfl
theorem f_s164 [Sym] : ConFact Tryd.prog 15 [.int .i64 (.ofNat 164)] cs164 := con_of_runF Lk0_ok noCon fn15 k_s164 rfl globIn (tabLt (by decide))
theorem k_s165 : conAns cs165 (runF Tryd.prog Lk0 400 15 [.int .i64 (.ofNat 165)] (Go.E.start cs165.tabs cs165.A)) = some (cs165.v, cs165.B, [], cs165.objs.map fun x => some x.2) := by kernel_rfl
theorem f_s165 [Sym] : ConFact Tryd.prog 15 [.int .i64 (.ofNat 165)] cs165 := con_of_runF Lk0_ok noCon fn15 k_s165 rfl globIn (tabLt (by decide))
theorem k_s166 : conAns cs166 (runF Tryd.prog Lk0 400 15 [.int .i64 (.ofNat 166)] (Go.E.start cs166.tabs cs166.A)) = some (cs166.v, cs166.B, [], cs166.objs.map fun x => some x.2) := by kernel_rfl
theorem f_s166 [Sym] : ConFact Tryd.prog 15 [.int .i64 (.ofNat 166)] cs166 := con_of_runF Lk0_ok noCon fn15 k_s166 rfl globIn (tabLt (by decide))
theorem k_s167 : conAns cs167 (runF Tryd.prog Lk0 400 15 [.int .i64 (.ofNat 167)] (Go.E.start cs167.tabs cs167.A)) = some (cs167.v, cs167.B, [], cs167.objs.map fun x => some x.2) := by kernel_rfl
theorem f_s167 [Sym] : ConFact Tryd.prog 15 [.int .i64 (.ofNat 167)] cs167 := con_of_runF Lk0_ok noCon fn15 k_s167 rfl globIn (tabLt (by decide))
theorem k_s168 : conAns cs168 (runF Tryd.prog Lk0 400 15 [.int .i64 (.ofNat 168)] (Go.E.start cs168.tabs cs168.A)) = some (cs168.v, cs168.B, [], cs168.objs.map fun x => some x.2) := by kernel_rfl
theorem f_s168 [Sym] : ConFact Tryd.prog 15 [.int .i64 (.ofNat 168)] cs168 := con_of_runF Lk0_ok noCon fn15 k_s168 rfl globIn (tabLt (by decide))
theorem k_s169 : conAns cs169 (runF Tryd.prog Lk0 400 15 [.int .i64 (.ofNat 169)] (Go.E.start cs169.tabs cs169.A)) = some (cs169.v, cs169.B, [], cs169.objs.map fun x => some x.2) := by kernel_rfl
theorem f_s169 [Sym] : ConFact Tryd.prog 15 [.int .i64 (.ofNat 169)] cs169 := con_of_runF Lk0_ok noCon fn15 k_s169 rfl globIn (tabLt (by decide))
theorem k_s170 : conAns cs170 (runF Tryd.prog Lk0 400 15 [.int .i64 (.ofNat 170)] (Go.E.start cs170.tabs cs170.A)) = some (cs170.v, cs170.B, [], cs170.objs.map fun x => some x.2) := by kernel_rfl
theorem f_s170 [Sym] : ConFact Tryd.prog 15 [.int .i64 (.ofNat 170)] cs170 := con_of_runF Lk0_ok noCon fn15 k_s170 rfl globIn (tabLt (by decide))
theorem k_s171 : conAns cs171 (runF Tryd.prog Lk0 400 15 [.int .i64 (.ofNat 171)] (Go.E.start cs171.tabs cs171.A)) = some (cs171.v, cs171.B, [], cs171.objs.map fun x => some x.2) := by kernel_rfl
theorem f_s171 [Sym] : ConFact Tryd.prog 15 [.int .i64 (.ofNat 171)] cs171 := con_of_runF Lk0_ok noCon fn15 k_s171 rfl globIn (tabLt (by decide))
theorem k_s172 : conAns cs172 (runF Tryd.prog Lk0 400 15 [.int .i64 (.ofNat 172)] (Go.E.start cs172.tabs cs172.A)) = some (cs172.v, cs172.B, [], cs172.objs.map fun x => some x.2) := by kernel_rfl
theorem f_s172 [Sym] : ConFact Tryd.prog 15 [.int .i64 (.ofNat 172)] cs172 := con_of_runF Lk0_ok noCon fn15 k_s172 rfl globIn (tabLt (by decide))
theorem k_s173 : conAns cs173 (runF Tryd.prog Lk0 400 15 [.int .i64 (.ofNat 173)] (Go.E.start cs173.tabs cs173.A)) = some (cs173.v, cs173.B, [], cs173.objs.map fun x => some x.2) := by kernel_rfl
theorem f_s173 [Sym] : ConFact Tryd.prog 15 [.int .i64 (.ofNat 173)] cs173 := con_of_runF Lk0_ok noCon fn15 k_s173 rfl globIn (tabLt (by decide))
theorem k_s174 : conAns cs174 (runF Tryd.prog Lk0 400 15 [.int .i64 (.ofNat 174)] (Go.E.start cs174.tabs cs174.A)) = some (cs174.v, cs174.B, [], cs174.objs.map fun x => some x.2) := by kernel_rfl
theorem f_s174 [Sym] : ConFact Tryd.prog 15 [.int .i64 (.ofNat 174)] cs174 := con_of_runF Lk0_ok noCon fn15 k_s174 rfl globIn (tabLt (by decide))
theorem k_s175 : conAns cs175 (runF Tryd.prog Lk0 400 15 [.int .i64 (.ofNat 175)] (Go.E.start cs175.tabs cs175.A)) = some (cs175.v, cs175.B, [], cs175.objs.map fun x => some x.2) := by kernel_rfl
theorem f_s175 [Sym] : ConFact Tryd.prog 15 [.int .i64 (.ofNat 175)] cs175 := con_of_runF Lk0_ok noCon fn15 k_s175 rfl globIn (tabLt (by decide))
theorem k_s176 : conAns cs176 (runF Tryd.prog Lk0 400 15 [.int .i64 (.ofNat 176)] (Go.E.start cs176.tabs cs176.A)) = some (cs176.v, cs176.B, [], cs176.objs.map fun x => some x.2) := by kernel_rfl
theorem f_s176 [Sym] : ConFact Tryd.prog 15 [.int .i64 (.ofNat 176)] cs176 := con_of_runF Lk0_ok noCon fn15 k_s176 rfl globIn (tabLt (by decide))
theorem k_s177 : conAns cs177 (runF Tryd.prog Lk0 400 15 [.int .i64 (.ofNat 177)] (Go.E.start cs177.tabs cs177.A)) = some (cs177.v, cs177.B, [], cs177.objs.map fun x => some x.2) := by kernel_rfl
theorem f_s177 [Sym] : ConFact Tryd.prog 15 [.int .i64 (.ofNat 177)] cs177 := con_of_runF Lk0_ok noCon fn15 k_s177 rfl globIn (tabLt (by decide))
theorem k_s178 : conAns cs178 (runF Tryd.prog Lk0 400 15 [.int .i64 (.ofNat 178)] (Go.E.start cs178.tabs cs178.A)) = some (cs178.v, cs178.B, [], cs178.objs.map fun x => some x.2) := by kernel_rfl
theorem f_s178 [Sym] : ConFact Tryd.prog 15 [.int .i64 (.ofNat 178)] cs178 := con_of_runF Lk0_ok noCon fn15 k_s178 rfl globIn (tabLt (by decide))
theorem k_s179 : conAns cs179 (runF Tryd.prog Lk0 400 15 [.int .i64 (.ofNat 179)] (Go.E.start cs179.tabs cs179.A)) = some (cs179.v, cs179.B, [], cs179.objs.map fun x => some x.2) := by kernel_rfl
theorem f_s179 [Sym] : ConFact Tryd.prog 15 [.int .i64 (.ofNat 179)] cs179 := con_of_runF Lk0_ok noCon fn15 k_s179 rfl globIn (tabLt (by decide))
theorem k_s180 : conAns cs180 (runF Tryd.prog Lk0 400 15 [.int .i64 (.ofNat 180)] (Go.E.start cs180.tabs cs180.A)) = some (cs180.v, cs180.B, [], cs180.objs.map fun x => some x.2) := by kernel_rfl
theorem f_s180 [Sym] : ConFact Tryd.prog 15 [.int .i64 (.ofNat 180)] cs180 := con_of_runF Lk0_ok noCon fn15 k_s180 rfl globIn (tabLt (by decide))
theorem k_s181 : conAns cs181 (runF Tryd.prog Lk0 400 15 [.int .i64 (.ofNat 181)] (Go.E.start cs181.tabs cs181.A)) = some (cs181.v, cs181.B, [], cs181.objs.map fun x => some x.2) := by kernel_rfl
theorem f_s181 [Sym] : ConFact Tryd.prog 15 [.int .i64 (.ofNat 181)] cs181 := con_of_runF Lk0_ok noCon fn15 k_s181 rfl globIn (tabLt (by decide))
theorem k_s182 : conAns cs182 (runF Tryd.prog Lk0 400 15 [.int .i64 (.ofNat 182)] (Go.E.start cs182.tabs cs182.A)) = some (cs182.v, cs182.B, [], cs182.objs.map fun x => some x.2) := by kernel_rfl
theorem f_s182 [Sym] : ConFact Tryd.prog 15 [.int .i64 (.ofNat 182)] cs182 := con_of_runF Lk0_ok noCon fn15 k_s182 rfl globIn (tabLt (by decide))
theorem k_s183 : conAns cs183 (runF Tryd.prog Lk0 400 15 [.int .i64 (.ofNat 183)] (Go.E.start cs183.tabs cs183.A)) = some (cs183.v, cs183.B, [], cs183.objs.map fun x => some x.2) := by kernel_rfl
theorem f_s183 [Sym] : ConFact Tryd.prog 15 [.int .i64 (.ofNat 183)] cs183 := con_of_runF Lk0_ok noCon fn15 k_s183 rfl globIn (tabLt (by decide))
theorem k_s184 : conAns cs184 (runF Tryd.prog Lk0 400 15 [.int .i64 (.ofNat 184)] (Go.E.start cs184.tabs cs184.A)) = some (cs184.v, cs184.B, [], cs184.objs.map fun x => some x.2) := by kernel_rfl
theorem f_s184 [Sym] : ConFact Tryd.prog 15 [.int .i64 (.ofNat 184)] cs184 := con_of_runF Lk0_ok noCon fn15 k_s184 rfl globIn (tabLt (by decide))
theorem k_s185 : conAns cs185 (runF Tryd.prog Lk0 400 15 [.int .i64 (.ofNat 185)] (Go.E.start cs185.tabs cs185.A)) = some (cs185.v, cs185.B, [], cs185.objs.map fun x => some x.2) := by kernel_rfl
theorem f_s185 [Sym] : ConFact Tryd.prog 15 [.int .i64 (.ofNat 185)] cs185 := con_of_runF Lk0_ok noCon fn15 k_s185 rfl globIn (tabLt (by decide))
theorem k_s186 : conAns cs186 (runF Tryd.prog Lk0 400 15 [.int .i64 (.ofNat 186)] (Go.E.start cs186.tabs cs186.A)) = some (cs186.v, cs186.B, [], cs186.objs.map fun x => some x.2) := by kernel_rfl
theorem f_s186 [Sym] : ConFact Tryd.prog 15 [.int .i64 (.ofNat 186)] cs186 := con_of_runF Lk0_ok noCon fn15 k_s186 rfl globIn (tabLt (by decide))
theorem k_s187 : conAns cs187 (runF Tryd.prog Lk0 400 15 [.int .i64 (.ofNat 187)] (Go.E.start cs187.tabs cs187.A)) = some (cs187.v, cs187.B, [], cs187.objs.map fun x => some x.2) := by kernel_rfl
theorem f_s187 [Sym] : ConFact Tryd.prog 15 [.int .i64 (.ofNat 187)] cs187 := con_of_runF Lk0_ok noCon fn15 k_s187 rfl globIn (tabLt (by decide))
theorem k_s188 : conAns cs188 (runF Tryd.prog Lk0 400 15 [.int .i64 (.ofNat 188)] (Go.E.start cs188.tabs cs188.A)) = some (cs188.v, cs188.B, [], cs188.objs.map fun x => some x.2) := by kernel_rfl
theorem f_s188 [Sym] : ConFact Tryd.prog 15 [.int .i64 (.ofNat 188)] cs188 := con_of_runF Lk0_ok noCon fn15 k_s188 rfl globIn (tabLt (by decide))
theorem k_s189 : conAns cs189 (runF Tryd.prog Lk0 400 15 [.int .i64 (.ofNat 189)] (Go.E.start cs189.tabs cs189.A)) = some (cs189.v, cs189.B, [], cs189.objs.map fun x => some x.2) := by kernel_rfl
theorem f_s189 [Sym] : ConFact Tryd.prog 15 [.int .i64 (.ofNat 189)] cs189 := con_of_runF Lk0_ok noCon fn15 k_s189 rfl globIn (tabLt (by decide))
theorem k_s190 : conAns cs190 (runF Tryd.prog Lk0 400 15 [.int .i64 (.ofNat 190)] (Go.E.start cs190.tabs cs190.A)) = some (cs190.v, cs190.B, [], cs190.objs.map fun x => some x.2) := by kernel_rfl
theorem f_s190 [Sym] : ConFact Tryd.prog 15 [.int .i64 (.ofNat 190)] cs190 := con_of_runF Lk0_ok noCon fn15 k_s190 rfl globIn (tabLt (by decide))
theorem k_s191 : conAns cs191 (runF Tryd.prog Lk0 400 15 [.int .i64 (.ofNat 191)] (Go.E.start cs191.tabs cs191.A)) = some (cs191.v, cs191.B, [], cs191.objs.map fun x => some x.2) := by kernel_rfl
theorem f_s191 [Sym] : ConFact Tryd.prog 15 [.int .i64 (.ofNat 191)] cs191 := con_of_runF Lk0_ok noCon fn15 k_s191 rfl globIn (tabLt (by decide))
end Go.Proofs.YtfgdoliihmjnoaaDoorE
