/- Closed runs. Printed by gen_con.py. -/
import Derived.Test.YtfgdoliihmjnoaaDoorECo
set_option linter.unusedSimpArgs false
set_option linter.unusedVariables false
namespace Go.Proofs.YtfgdoliihmjnoaaDoorE
open Go Go.E Go.Proofs
set_option maxRecDepth 100000
theorem k_o128 : conAns cr128 (runF Tryd.prog LkA 900 16 [.int .i64 (.ofNat 128)] (Go.E.start cr128.tabs cr128.A)) = some (cr128.v, cr128.B, [], cr128.objs.map fun x => some x.2) := by kernel_rfl
theorem f_o128 [Sym] : ConFact Tryd.prog 16 [.int .i64 (.ofNat 128)] cr128 := con_of_runF LkA_ok conA_ok fn16 k_o128 rfl globIn (tabLt (by decide))
theorem k_o129 : conAns cr129 (runF Tryd.prog LkA 900 16 [.int .i64 (.ofNat 129)] (Go.E.start cr129.tabs cr129.A)) = some (cr129.v, cr129.B, [], cr129.objs.map fun x => some x.2) := by kernel_rfl
theorem f_o129 [Sym] : ConFact Tryd.prog 16 [.int .i64 (.ofNat 129)] cr129 := con_of_runF LkA_ok conA_ok fn16 k_o129 rfl globIn (tabLt (by decide))
theorem k_o130 : conAns cr130 (runF Tryd.prog LkA 900 16 [.int .i64 (.ofNat 130)] (Go.E.start cr130.tabs cr130.A)) = some (cr130.v, cr130.B, [], cr130.objs.map fun x => some x.2) := by kernel_rfl
theorem f_o130 [Sym] : ConFact Tryd.prog 16 [.int .i64 (.ofNat 130)] cr130 := con_of_runF LkA_ok conA_ok fn16 k_o130 rfl globIn (tabLt (by decide))
theorem k_o131 : conAns cr131 (runF Tryd.prog LkA 900 16 [.int .i64 (.ofNat 131)] (Go.E.start cr131.tabs cr131.A)) = some (cr131.v, cr131.B, [], cr131.objs.map fun x => some x.2) := by kernel_rfl
theorem f_o131 [Sym] : ConFact Tryd.prog 16 [.int .i64 (.ofNat 131)] cr131 := con_of_runF LkA_ok conA_ok fn16 k_o131 rfl globIn (tabLt (by decide))
theorem k_o132 : conAns cr132 (runF Tryd.prog LkA 900 16 [.int .i64 (.ofNat 132)] (Go.E.start cr132.tabs cr132.A)) = some (cr132.v, cr132.B, [], cr132.objs.map fun x => some x.2) := by kernel_rfl
theorem f_o132 [Sym] : ConFact Tryd.prog 16 [.int .i64 (.ofNat 132)] cr132 := con_of_runF LkA_ok conA_ok fn16 k_o132 rfl globIn (tabLt (by decide))
theorem k_o133 : conAns cr133 (runF Tryd.prog LkA 900 16 [.int .i64 (.ofNat 133)] (Go.E.start cr133.tabs cr133.A)) = some (cr133.v, cr133.B, [], cr133.objs.map fun x => some x.2) := by kernel_rfl
theorem f_o133 [Sym] : ConFact Tryd.prog 16 [.int .i64 (.ofNat 133)] cr133 := con_of_runF LkA_ok conA_ok fn16 k_o133 rfl globIn (tabLt (by decide))
theorem k_o134 : conAns cr134 (runF Tryd.prog LkA 900 16 [.int .i64 (.ofNat 134)] (Go.E.start cr134.tabs cr134.A)) = some (cr134.v, cr134.B, [], cr134.objs.map fun x => some x.2) := by kernel_rfl
theorem f_o134 [Sym] : ConFact Tryd.prog 16 [.int .i64 (.ofNat 134)] cr134 := con_of_runF LkA_ok conA_ok fn16 k_o134 rfl globIn (tabLt (by decide))
theorem k_o135 : conAns cr135 (runF Tryd.prog LkA 900 16 [.int .i64 (.ofNat 135)] (Go.E.start cr135.tabs cr135.A)) = some (cr135.v, cr135.B, [], cr135.objs.map fun x => some x.2) := by kernel_rfl
theorem f_o135 [Sym] : ConFact Tryd.prog 16 [.int .i64 (.ofNat 135)] cr135 := con_of_runF LkA_ok conA_ok fn16 k_o135 rfl globIn (tabLt (by decide))
theorem k_o136 : conAns cr136 (runF Tryd.prog LkA 900 16 [.int .i64 (.ofNat 136)] (Go.E.start cr136.tabs cr136.A)) = some (cr136.v, cr136.B, [], cr136.objs.map fun x => some x.2) := by kernel_rfl
theorem f_o136 [Sym] : ConFact Tryd.prog 16 [.int .i64 (.ofNat 136)] cr136 := con_of_runF LkA_ok conA_ok fn16 k_o136 rfl globIn (tabLt (by decide))
theorem k_o137 : conAns cr137 (runF Tryd.prog LkA 900 16 [.int .i64 (.ofNat 137)] (Go.E.start cr137.tabs cr137.A)) = some (cr137.v, cr137.B, [], cr137.objs.map fun x => some x.2) := by kernel_rfl
theorem f_o137 [Sym] : ConFact Tryd.prog 16 [.int .i64 (.ofNat 137)] cr137 := con_of_runF LkA_ok conA_ok fn16 k_o137 rfl globIn (tabLt (by decide))
theorem k_o138 : conAns cr138 (runF Tryd.prog LkA 900 16 [.int .i64 (.ofNat 138)] (Go.E.start cr138.tabs cr138.A)) = some (cr138.v, cr138.B, [], cr138.objs.map fun x => some x.2) := by kernel_rfl
theorem f_o138 [Sym] : ConFact Tryd.prog 16 [.int .i64 (.ofNat 138)] cr138 := con_of_runF LkA_ok conA_ok fn16 k_o138 rfl globIn (tabLt (by decide))
theorem k_o139 : conAns cr139 (runF Tryd.prog LkA 900 16 [.int .i64 (.ofNat 139)] (Go.E.start cr139.tabs cr139.A)) = some (cr139.v, cr139.B, [], cr139.objs.map fun x => some x.2) := by kernel_rfl
theorem f_o139 [Sym] : ConFact Tryd.prog 16 [.int .i64 (.ofNat 139)] cr139 := con_of_runF LkA_ok conA_ok fn16 k_o139 rfl globIn (tabLt (by decide))
theorem k_o140 : conAns cr140 (runF Tryd.prog LkA 900 16 [.int .i64 (.ofNat 140)] (Go.E.start cr140.tabs cr140.A)) = some (cr140.v, cr140.B, [], cr140.objs.map fun x => some x.2) := by kernel_rfl
theorem f_o140 [Sym] : ConFact Tryd.prog 16 [.int .i64 (.ofNat 140)] cr140 := con_of_runF LkA_ok conA_ok fn16 k_o140 rfl globIn (tabLt (by decide))
theorem k_o141 : conAns cr141 (runF Tryd.prog LkA 900 16 [.int .i64 (.ofNat 141)] (Go.E.start cr141.tabs cr141.A)) = some (cr141.v, cr141.B, [], cr141.objs.map fun x => some x.2) := by kernel_rfl
theorem f_o141 [Sym] : ConFact Tryd.prog 16 [.int .i64 (.ofNat 141)] cr141 := con_of_runF LkA_ok conA_ok fn16 k_o141 rfl globIn (tabLt (by decide))
theorem k_o142 : conAns cr142 (runF Tryd.prog LkA 900 16 [.int .i64 (.ofNat 142)] (Go.E.start cr142.tabs cr142.A)) = some (cr142.v, cr142.B, [], cr142.objs.map fun x => some x.2) := by kernel_rfl
theorem f_o142 [Sym] : ConFact Tryd.prog 16 [.int .i64 (.ofNat 142)] cr142 := con_of_runF LkA_ok conA_ok fn16 k_o142 rfl globIn (tabLt (by decide))
theorem k_o143 : conAns cr143 (runF Tryd.prog LkA 900 16 [.int .i64 (.ofNat 143)] (Go.E.start cr143.tabs cr143.A)) = some (cr143.v, cr143.B, [], cr143.objs.map fun x => some x.2) := by kernel_rfl
theorem f_o143 [Sym] : ConFact Tryd.prog 16 [.int .i64 (.ofNat 143)] cr143 := con_of_runF LkA_ok conA_ok fn16 k_o143 rfl globIn (tabLt (by decide))
theorem k_o144 : conAns cr144 (runF Tryd.prog LkA 900 16 [.int .i64 (.ofNat 144)] (Go.E.start cr144.tabs cr144.A)) = some (cr144.v, cr144.B, [], cr144.objs.map fun x => some x.2) := by kernel_rfl
theorem f_o144 [Sym] : ConFact Tryd.prog 16 [.int .i64 (.ofNat 144)] cr144 := con_of_runF LkA_ok conA_ok fn16 k_o144 rfl globIn (tabLt (by decide))
theorem k_o145 : conAns cr145 (runF Tryd.prog LkA 900 16 [.int .i64 (.ofNat 145)] (Go.E.start cr145.tabs cr145.A)) = some (cr145.v, cr145.B, [], cr145.objs.map fun x => some x.2) := by kernel_rfl
theorem f_o145 [Sym] : ConFact Tryd.prog 16 [.int .i64 (.ofNat 145)] cr145 := con_of_runF LkA_ok conA_ok fn16 k_o145 rfl globIn (tabLt (by decide))
theorem k_o146 : conAns cr146 (runF Tryd.prog LkA 900 16 [.int .i64 (.ofNat 146)] (Go.E.start cr146.tabs cr146.A)) = some (cr146.v, cr146.B, [], cr146.objs.map fun x => some x.2) := by kernel_rfl
theorem f_o146 [Sym] : ConFact Tryd.prog 16 [.int .i64 (.ofNat 146)] cr146 := con_of_runF LkA_ok conA_ok fn16 k_o146 rfl globIn (tabLt (by decide))
theorem k_o147 : conAns cr147 (runF Tryd.prog LkA 900 16 [.int .i64 (.ofNat 147)] (Go.E.start cr147.tabs cr147.A)) = some (cr147.v, cr147.B, [], cr147.objs.map fun x => some x.2) := by kernel_rfl
theorem f_o147 [Sym] : ConFact Tryd.prog 16 [.int .i64 (.ofNat 147)] cr147 := con_of_runF LkA_ok conA_ok fn16 k_o147 rfl globIn (tabLt (by decide))
theorem k_o148 : conAns cr148 (runF Tryd.prog LkA 900 16 [.int .i64 (.ofNat 148)] (Go.E.start cr148.tabs cr148.A)) = some (cr148.v, cr148.B, [], cr148.objs.map fun x => some x.2) := by kernel_rfl
theorem f_o148 [Sym] : ConFact Tryd.prog 16 [.int .i64 (.ofNat 148)] cr148 := con_of_runF LkA_ok conA_ok fn16 k_o148 rfl globIn (tabLt (by decide))
theorem k_o149 : conAns cr149 (runF Tryd.prog LkA 900 16 [.int .i64 (.ofNat 149)] (Go.E.start cr149.tabs cr149.A)) = some (cr149.v, cr149.B, [], cr149.objs.map fun x => some x.2) := by kernel_rfl
theorem f_o149 [Sym] : ConFact Tryd.prog 16 [.int .i64 (.ofNat 149)] cr149 := con_of_runF LkA_ok conA_ok fn16 k_o149 rfl globIn (tabLt (by decide))
theorem k_o150 : conAns cr150 (runF Tryd.prog LkA 900 16 [.int .i64 (.ofNat 150)] (Go.E.start cr150.tabs cr150.A)) = some (cr150.v, cr150.B, [], cr150.objs.map fun x => some x.2) := by kernel_rfl
theorem f_o150 [Sym] : ConFact Tryd.prog 16 [.int .i64 (.ofNat 150)] cr150 := con_of_runF LkA_ok conA_ok fn16 k_o150 rfl globIn (tabLt (by decide))
theorem k_o151 : conAns cr151 (runF Tryd.prog LkA 900 16 [.int .i64 (.ofNat 151)] (Go.E.start cr151.tabs cr151.A)) = some (cr151.v, cr151.B, [], cr151.objs.map fun x => some x.2) := by kernel_rfl
theorem f_o151 [Sym] : ConFact Tryd.prog 16 [.int .i64 (.ofNat 151)] cr151 := con_of_runF LkA_ok conA_ok fn16 k_o151 rfl globIn (tabLt (by decide))
theorem k_o152 : conAns cr152 (runF Tryd.prog LkA 900 16 [.int .i64 (.ofNat 152)] (Go.E.start cr152.tabs cr152.A)) = some (cr152.v, cr152.B, [], cr152.objs.map fun x => some x.2) := by kernel_rfl
theorem f_o152 [Sym] : ConFact Tryd.prog 16 [.int .i64 (.ofNat 152)] cr152 := con_of_runF LkA_ok conA_ok fn16 k_o152 rfl globIn (tabLt (by decide))
theorem k_o153 : conAns cr153 (runF Tryd.prog LkA 900 16 [.int .i64 (.ofNat 153)] (Go.E.start cr153.tabs cr153.A)) = some (cr153.v, cr153.B, [], cr153.objs.map fun x => some x.2) := by kernel_rfl
theorem f_o153 [Sym] : ConFact Tryd.prog 16 [.int .i64 (.ofNat 153)] cr153 := con_of_runF LkA_ok conA_ok fn16 k_o153 rfl globIn (tabLt (by decide))
theorem k_o154 : conAns cr154 (runF Tryd.prog LkA 900 16 [.int .i64 (.ofNat 154)] (Go.E.start cr154.tabs cr154.A)) = some (cr154.v, cr154.B, [], cr154.objs.map fun x => some x.2) := by kernel_rfl
theorem f_o154 [Sym] : ConFact Tryd.prog 16 [.int .i64 (.ofNat 154)] cr154 := con_of_runF LkA_ok conA_ok fn16 k_o154 rfl globIn (tabLt (by decide))
theorem k_o155 : conAns cr155 (runF Tryd.prog LkA 900 16 [.int .i64 (.ofNat 155)] (Go.E.start cr155.tabs cr155.A)) = some (cr155.v, cr155.B, [], cr155.objs.map fun x => some x.2) := by kernel_rfl
theorem f_o155 [Sym] : ConFact Tryd.prog 16 [.int .i64 (.ofNat 155)] cr155 := con_of_runF LkA_ok conA_ok fn16 k_o155 rfl globIn (tabLt (by decide))
theorem k_o156 : conAns cr156 (runF Tryd.prog LkA 900 16 [.int .i64 (.ofNat 156)] (Go.E.start cr156.tabs cr156.A)) = some (cr156.v, cr156.B, [], cr156.objs.map fun x => some x.2) := by kernel_rfl
theorem f_o156 [Sym] : ConFact Tryd.prog 16 [.int .i64 (.ofNat 156)] cr156 := con_of_runF LkA_ok conA_ok fn16 k_o156 rfl globIn (tabLt (by decide))
theorem k_o157 : conAns cr157 (runF Tryd.prog LkA 900 16 [.int .i64 (.ofNat 157)] (Go.E.start cr157.tabs cr157.A)) = some (cr157.v, cr157.B, [], cr157.objs.map fun x => some x.2) := by kernel_rfl
theorem f_o157 [Sym] : ConFact Tryd.prog 16 [.int .i64 (.ofNat 157)] cr157 := con_of_runF LkA_ok conA_ok fn16 k_o157 rfl globIn (tabLt (by decide))
theorem k_o158 : conAns cr158 (runF Tryd.prog LkA 900 16 [.int .i64 (.ofNat 158)] (Go.E.start cr158.tabs cr158.A)) = some (cr158.v, cr158.B, [], cr158.objs.map fun x => some x.2) := by kernel_rfl
theorem f_o158 [Sym] : ConFact Tryd.prog 16 [.int .i64 (.ofNat 158)] cr158 := con_of_runF LkA_ok conA_ok fn16 k_o158 rfl globIn (tabLt (by decide))
theorem k_o159 : conAns cr159 (runF Tryd.prog LkA 900 16 [.int .i64 (.ofNat 159)] (Go.E.start cr159.tabs cr159.A)) = some (cr159.v, cr159.B, [], cr159.objs.map fun x => some x.2) := by kernel_rfl
theorem f_o159 [Sym] : ConFact Tryd.prog 16 [.int .i64 (.ofNat 159)] cr159 := con_of_runF LkA_ok conA_ok fn16 k_o159 rfl globIn (tabLt (by decide))
theorem k_o160 : conAns cr160 (runF Tryd.prog LkA 900 16 [.int .i64 (.ofNat 160)] (Go.E.start cr160.tabs cr160.A)) = some (cr160.v, cr160.B, [], cr160.objs.map fun x => some x.2) := by kernel_rfl
theorem f_o160 [Sym] : ConFact Tryd.prog 16 [.int .i64 (.ofNat 160)] cr160 := con_of_runF LkA_ok conA_ok fn16 k_o160 rfl globIn (tabLt (by decide))
theorem k_o161 : conAns cr161 (runF Tryd.prog LkA 900 16 [.int .i64 (.ofNat 161)] (Go.E.start cr161.tabs cr161.A)) = some (cr161.v, cr161.B, [], cr161.objs.map fun x => some x.2) := by kernel_rfl
theorem f_o161 [Sym] : ConFact Tryd.prog 16 [.int .i64 (.ofNat 161)] cr161 := con_of_runF LkA_ok conA_ok fn16 k_o161 rfl globIn (tabLt (by decide))
theorem k_o162 : conAns cr162 (runF Tryd.prog LkA 900 16 [.int .i64 (.ofNat 162)] (Go.E.start cr162.tabs cr162.A)) = some (cr162.v, cr162.B, [], cr162.objs.map fun x => some x.2) := by kernel_rfl
theorem f_o162 [Sym] : ConFact Tryd.prog 16 [.int .i64 (.ofNat 162)] cr162 := con_of_runF LkA_ok conA_ok fn16 k_o162 rfl globIn (tabLt (by decide))
theorem k_o163 : conAns cr163 (runF Tryd.prog LkA 900 16 [.int .i64 (.ofNat 163)] (Go.E.start cr163.tabs cr163.A)) = some (cr163.v, cr163.B, [], cr163.objs.map fun x => some x.2) := by kernel_rfl
theorem f_o163 [Sym] : ConFact Tryd.prog 16 [.int .i64 (.ofNat 163)] cr163 := con_of_runF LkA_ok conA_ok fn16 k_o163 rfl globIn (tabLt (by decide))
theorem k_o164 : conAns cr164 (runF Tryd.prog LkA 900 16 [.int .i64 (.ofNat 164)] (Go.E.start cr164.tabs cr164.A)) = some (cr164.v, cr164.B, [], cr164.objs.map fun x => some x.2) := by kernel_rfl
theorem f_o164 [Sym] : ConFact Tryd.prog 16 [.int .i64 (.ofNat 164)] cr164 := con_of_runF LkA_ok conA_ok fn16 k_o164 rfl globIn (tabLt (by decide))
theorem k_o165 : conAns cr165 (runF Tryd.prog LkA 900 16 [.int .i64 (.ofNat 165)] (Go.E.start cr165.tabs cr165.A)) = some (cr165.v, cr165.B, [], cr165.objs.map fun x => some x.2) := by kernel_rfl
theorem f_o165 [Sym] : ConFact Tryd.prog 16 [.int .i64 (.ofNat 165)] cr165 := con_of_runF LkA_ok conA_ok fn16 k_o165 rfl globIn (tabLt (by decide))
theorem k_o166 : conAns cr166 (runF Tryd.prog LkA 900 16 [.int .i64 (.ofNat 166)] (Go.E.start cr166.tabs cr166.A)) = some (cr166.v, cr166.B, [], cr166.objs.map fun x => some x.2) := by kernel_rfl
theorem f_o166 [Sym] : ConFact Tryd.prog 16 [.int .i64 (.ofNat 166)] cr166 := con_of_runF LkA_ok conA_ok fn16 k_o166 rfl globIn (tabLt (by decide))
theorem k_o167 : conAns cr167 (runF Tryd.prog LkA 900 16 [.int .i64 (.ofNat 167)] (Go.E.start cr167.tabs cr167.A)) = some (cr167.v, cr167.B, [], cr167.objs.map fun x => some x.2) := by kernel_rfl
theorem f_o167 [Sym] : ConFact Tryd.prog 16 [.int .i64 (.ofNat 167)] cr167 := con_of_runF LkA_ok conA_ok fn16 k_o167 rfl globIn (tabLt (by decide))
theorem k_o168 : conAns cr168 (runF Tryd.prog LkA 900 16 [.int .i64 (.ofNat 168)] (Go.E.start cr168.tabs cr168.A)) = some (cr168.v, cr168.B, [], cr168.objs.map fun x => some x.2) := by kernel_rfl
theorem f_o168 [Sym] : ConFact Tryd.prog 16 [.int .i64 (.ofNat 168)] cr168 := con_of_runF LkA_ok conA_ok fn16 k_o168 rfl globIn (tabLt (by decide))
theorem k_o169 : conAns cr169 (runF Tryd.prog LkA 900 16 [.int .i64 (.ofNat 169)] (Go.E.start cr169.tabs cr169.A)) = some (cr169.v, cr169.B, [], cr169.objs.map fun x => some x.2) := by kernel_rfl
theorem f_o169 [Sym] : ConFact Tryd.prog 16 [.int .i64 (.ofNat 169)] cr169 := con_of_runF LkA_ok conA_ok fn16 k_o169 rfl globIn (tabLt (by decide))
theorem k_o170 : conAns cr170 (runF Tryd.prog LkA 900 16 [.int .i64 (.ofNat 170)] (Go.E.start cr170.tabs cr170.A)) = some (cr170.v, cr170.B, [], cr170.objs.map fun x => some x.2) := by kernel_rfl
theorem f_o170 [Sym] : ConFact Tryd.prog 16 [.int .i64 (.ofNat 170)] cr170 := con_of_runF LkA_ok conA_ok fn16 k_o170 rfl globIn (tabLt (by decide))
theorem k_o171 : conAns cr171 (runF Tryd.prog LkA 900 16 [.int .i64 (.ofNat 171)] (Go.E.start cr171.tabs cr171.A)) = some (cr171.v, cr171.B, [], cr171.objs.map fun x => some x.2) := by kernel_rfl
theorem f_o171 [Sym] : ConFact Tryd.prog 16 [.int .i64 (.ofNat 171)] cr171 := con_of_runF LkA_ok conA_ok fn16 k_o171 rfl globIn (tabLt (by decide))
theorem k_o172 : conAns cr172 (runF Tryd.prog LkA 900 16 [.int .i64 (.ofNat 172)] (Go.E.start cr172.tabs cr172.A)) = some (cr172.v, cr172.B, [], cr172.objs.map fun x => some x.2) := by kernel_rfl
theorem f_o172 [Sym] : ConFact Tryd.prog 16 [.int .i64 (.ofNat 172)] cr172 := con_of_runF LkA_ok conA_ok fn16 k_o172 rfl globIn (tabLt (by decide))
theorem k_o173 : conAns cr173 (runF Tryd.prog LkA 900 16 [.int .i64 (.ofNat 173)] (Go.E.start cr173.tabs cr173.A)) = some (cr173.v, cr173.B, [], cr173.objs.map fun x => some x.2) := by kernel_rfl
theorem f_o173 [Sym] : ConFact Tryd.prog 16 [.int .i64 (.ofNat 173)] cr173 := con_of_runF LkA_ok conA_ok fn16 k_o173 rfl globIn (tabLt (by decide))
theorem k_o174 : conAns cr174 (runF Tryd.prog LkA 900 16 [.int .i64 (.ofNat 174)] (Go.E.start cr174.tabs cr174.A)) = some (cr174.v, cr174.B, [], cr174.objs.map fun x => some x.2) := by kernel_rfl
theorem f_o174 [Sym] : ConFact Tryd.prog 16 [.int .i64 (.ofNat 174)] cr174 := con_of_runF LkA_ok conA_ok fn16 k_o174 rfl globIn (tabLt (by decide))
theorem k_o175 : conAns cr175 (runF Tryd.prog LkA 900 16 [.int .i64 (.ofNat 175)] (Go.E.start cr175.tabs cr175.A)) = some (cr175.v, cr175.B, [], cr175.objs.map fun x => some x.2) := by kernel_rfl
theorem f_o175 [Sym] : ConFact Tryd.prog 16 [.int .i64 (.ofNat 175)] cr175 := con_of_runF LkA_ok conA_ok fn16 k_o175 rfl globIn (tabLt (by decide))
theorem k_o176 : conAns cr176 (runF Tryd.prog LkA 900 16 [.int .i64 (.ofNat 176)] (Go.E.start cr176.tabs cr176.A)) = some (cr176.v, cr176.B, [], cr176.objs.map fun x => some x.2) := by kernel_rfl
theorem f_o176 [Sym] : ConFact Tryd.prog 16 [.int .i64 (.ofNat 176)] cr176 := con_of_runF LkA_ok conA_ok fn16 k_o176 rfl globIn (tabLt (by decide))
theorem k_o177 : conAns cr177 (runF Tryd.prog LkA 900 16 [.int .i64 (.ofNat 177)] (Go.E.start cr177.tabs cr177.A)) = some (cr177.v, cr177.B, [], cr177.objs.map fun x => some x.2) := by kernel_rfl
theorem f_o177 [Sym] : ConFact Tryd.prog 16 [.int .i64 (.ofNat 177)] cr177 := con_of_runF LkA_ok conA_ok fn16 k_o177 rfl globIn (tabLt (by decide))
theorem k_o178 : conAns cr178 (runF Tryd.prog LkA 900 16 [.int .i64 (.ofNat 178)] (Go.E.start cr178.tabs cr178.A)) = some (cr178.v, cr178.B, [], cr178.objs.map fun x => some x.2) := by kernel_rfl
theorem f_o178 [Sym] : ConFact Tryd.prog 16 [.int .i64 (.ofNat 178)] cr178 := con_of_runF LkA_ok conA_ok fn16 k_o178 rfl globIn (tabLt (by decide))
theorem k_o179 : conAns cr179 (runF Tryd.prog LkA 900 16 [.int .i64 (.ofNat 179)] (Go.E.start cr179.tabs cr179.A)) = some (cr179.v, cr179.B, [], cr179.objs.map fun x => some x.2) := by kernel_rfl
theorem f_o179 [Sym] : ConFact Tryd.prog 16 [.int .i64 (.ofNat 179)] cr179 := con_of_runF LkA_ok conA_ok fn16 k_o179 rfl globIn (tabLt (by decide))
theorem k_o180 : conAns cr180 (runF Tryd.prog LkA 900 16 [.int .i64 (.ofNat 180)] (Go.E.start cr180.tabs cr180.A)) = some (cr180.v, cr180.B, [], cr180.objs.map fun x => some x.2) := by kernel_rfl
theorem f_o180 [Sym] : ConFact Tryd.prog 16 [.int .i64 (.ofNat 180)] cr180 := con_of_runF LkA_ok conA_ok fn16 k_o180 rfl globIn (tabLt (by decide))
theorem k_o181 : conAns cr181 (runF Tryd.prog LkA 900 16 [.int .i64 (.ofNat 181)] (Go.E.start cr181.tabs cr181.A)) = some (cr181.v, cr181.B, [], cr181.objs.map fun x => some x.2) := by kernel_rfl
theorem f_o181 [Sym] : ConFact Tryd.prog 16 [.int .i64 (.ofNat 181)] cr181 := con_of_runF LkA_ok conA_ok fn16 k_o181 rfl globIn (tabLt (by decide))
theorem k_o182 : conAns cr182 (runF Tryd.prog LkA 900 16 [.int .i64 (.ofNat 182)] (Go.E.start cr182.tabs cr182.A)) = some (cr182.v, cr182.B, [], cr182.objs.map fun x => some x.2) := by kernel_rfl
theorem f_o182 [Sym] : ConFact Tryd.prog 16 [.int .i64 (.ofNat 182)] cr182 := con_of_runF LkA_ok conA_ok fn16 k_o182 rfl globIn (tabLt (by decide))
theorem k_o183 : conAns cr183 (runF Tryd.prog LkA 900 16 [.int .i64 (.ofNat 183)] (Go.E.start cr183.tabs cr183.A)) = some (cr183.v, cr183.B, [], cr183.objs.map fun x => some x.2) := by kernel_rfl
theorem f_o183 [Sym] : ConFact Tryd.prog 16 [.int .i64 (.ofNat 183)] cr183 := con_of_runF LkA_ok conA_ok fn16 k_o183 rfl globIn (tabLt (by decide))
theorem k_o184 : conAns cr184 (runF Tryd.prog LkA 900 16 [.int .i64 (.ofNat 184)] (Go.E.start cr184.tabs cr184.A)) = some (cr184.v, cr184.B, [], cr184.objs.map fun x => some x.2) := by kernel_rfl
theorem f_o184 [Sym] : ConFact Tryd.prog 16 [.int .i64 (.ofNat 184)] cr184 := con_of_runF LkA_ok conA_ok fn16 k_o184 rfl globIn (tabLt (by decide))
theorem k_o185 : conAns cr185 (runF Tryd.prog LkA 900 16 [.int .i64 (.ofNat 185)] (Go.E.start cr185.tabs cr185.A)) = some (cr185.v, cr185.B, [], cr185.objs.map fun x => some x.2) := by kernel_rfl
theorem f_o185 [Sym] : ConFact Tryd.prog 16 [.int .i64 (.ofNat 185)] cr185 := con_of_runF LkA_ok conA_ok fn16 k_o185 rfl globIn (tabLt (by decide))
theorem k_o186 : conAns cr186 (runF Tryd.prog LkA 900 16 [.int .i64 (.ofNat 186)] (Go.E.start cr186.tabs cr186.A)) = some (cr186.v, cr186.B, [], cr186.objs.map fun x => some x.2) := by kernel_rfl
theorem f_o186 [Sym] : ConFact Tryd.prog 16 [.int .i64 (.ofNat 186)] cr186 := con_of_runF LkA_ok conA_ok fn16 k_o186 rfl globIn (tabLt (by decide))
theorem k_o187 : conAns cr187 (runF Tryd.prog LkA 900 16 [.int .i64 (.ofNat 187)] (Go.E.start cr187.tabs cr187.A)) = some (cr187.v, cr187.B, [], cr187.objs.map fun x => some x.2) := by kernel_rfl
theorem f_o187 [Sym] : ConFact Tryd.prog 16 [.int .i64 (.ofNat 187)] cr187 := con_of_runF LkA_ok conA_ok fn16 k_o187 rfl globIn (tabLt (by decide))
theorem k_o188 : conAns cr188 (runF Tryd.prog LkA 900 16 [.int .i64 (.ofNat 188)] (Go.E.start cr188.tabs cr188.A)) = some (cr188.v, cr188.B, [], cr188.objs.map fun x => some x.2) := by kernel_rfl
theorem f_o188 [Sym] : ConFact Tryd.prog 16 [.int .i64 (.ofNat 188)] cr188 := con_of_runF LkA_ok conA_ok fn16 k_o188 rfl globIn (tabLt (by decide))
theorem k_o189 : conAns cr189 (runF Tryd.prog LkA 900 16 [.int .i64 (.ofNat 189)] (Go.E.start cr189.tabs cr189.A)) = some (cr189.v, cr189.B, [], cr189.objs.map fun x => some x.2) := by kernel_rfl
theorem f_o189 [Sym] : ConFact Tryd.prog 16 [.int .i64 (.ofNat 189)] cr189 := con_of_runF LkA_ok conA_ok fn16 k_o189 rfl globIn (tabLt (by decide))
theorem k_o190 : conAns cr190 (runF Tryd.prog LkA 900 16 [.int .i64 (.ofNat 190)] (Go.E.start cr190.tabs cr190.A)) = some (cr190.v, cr190.B, [], cr190.objs.map fun x => some x.2) := by kernel_rfl
theorem f_o190 [Sym] : ConFact Tryd.prog 16 [.int .i64 (.ofNat 190)] cr190 := con_of_runF LkA_ok conA_ok fn16 k_o190 rfl globIn (tabLt (by decide))
theorem k_o191 : conAns cr191 (runF Tryd.prog LkA 900 16 [.int .i64 (.ofNat 191)] (Go.E.start cr191.tabs cr191.A)) = some (cr191.v, cr191.B, [], cr191.objs.map fun x => some x.2) := by kernel_rfl
theorem f_o191 [Sym] : ConFact Tryd.prog 16 [.int .i64 (.ofNat 191)] cr191 := con_of_runF LkA_ok conA_ok fn16 k_o191 rfl globIn (tabLt (by decide))
end Go.Proofs.YtfgdoliihmjnoaaDoorE
