/- Closed runs. Printed by gen_con.py. -/
import Derived.Test.YtfgdoliihmjnoaaDoorECo
set_option linter.unusedSimpArgs false
set_option linter.unusedVariables false
namespace Go.Proofs.YtfgdoliihmjnoaaDoorE
open Go Go.E Go.Proofs
set_option maxRecDepth 100000
theorem k_o64 : conAns cr64 (runF Tryd.prog LkA 900 16 [.int .i64 (.ofNat 64)] (Go.E.start cr64.tabs cr64.A)) = some (cr64.v, cr64.B, [], cr64.objs.map fun x => some x.2) := by kernel_rfl
theorem f_o64 [Sym] : ConFact Tryd.prog 16 [.int .i64 (.ofNat 64)] cr64 := con_of_runF LkA_ok conA_ok fn16 k_o64 rfl globIn (tabLt (by decide))
theorem k_o65 : conAns cr65 (runF Tryd.prog LkA 900 16 [.int .i64 (.ofNat 65)] (Go.E.start cr65.tabs cr65.A)) = some (cr65.v, cr65.B, [], cr65.objs.map fun x => some x.2) := by kernel_rfl
theorem f_o65 [Sym] : ConFact Tryd.prog 16 [.int .i64 (.ofNat 65)] cr65 := con_of_runF LkA_ok conA_ok fn16 k_o65 rfl globIn (tabLt (by decide))
theorem k_o66 : conAns cr66 (runF Tryd.prog LkA 900 16 [.int .i64 (.ofNat 66)] (Go.E.start cr66.tabs cr66.A)) = some (cr66.v, cr66.B, [], cr66.objs.map fun x => some x.2) := by kernel_rfl
theorem f_o66 [Sym] : ConFact Tryd.prog 16 [.int .i64 (.ofNat 66)] cr66 := con_of_runF LkA_ok conA_ok fn16 k_o66 rfl globIn (tabLt (by decide))
theorem k_o67 : conAns cr67 (runF Tryd.prog LkA 900 16 [.int .i64 (.ofNat 67)] (Go.E.start cr67.tabs cr67.A)) = some (cr67.v, cr67.B, [], cr67.objs.map fun x => some x.2) := by kernel_rfl
theorem f_o67 [Sym] : ConFact Tryd.prog 16 [.int .i64 (.ofNat 67)] cr67 := con_of_runF LkA_ok conA_ok fn16 k_o67 rfl globIn (tabLt (by decide))
theorem k_o68 : conAns cr68 (runF Tryd.prog LkA 900 16 [.int .i64 (.ofNat 68)] (Go.E.start cr68.tabs cr68.A)) = some (cr68.v, cr68.B, [], cr68.objs.map fun x => some x.2) := by kernel_rfl
theorem f_o68 [Sym] : ConFact Tryd.prog 16 [.int .i64 (.ofNat 68)] cr68 := con_of_runF LkA_ok conA_ok fn16 k_o68 rfl globIn (tabLt (by decide))
theorem k_o69 : conAns cr69 (runF Tryd.prog LkA 900 16 [.int .i64 (.ofNat 69)] (Go.E.start cr69.tabs cr69.A)) = some (cr69.v, cr69.B, [], cr69.objs.map fun x => some x.2) := by kernel_rfl
theorem f_o69 [Sym] : ConFact Tryd.prog 16 [.int .i64 (.ofNat 69)] cr69 := con_of_runF LkA_ok conA_ok fn16 k_o69 rfl globIn (tabLt (by decide))
theorem k_o70 : conAns cr70 (runF Tryd.prog LkA 900 16 [.int .i64 (.ofNat 70)] (Go.E.start cr70.tabs cr70.A)) = some (cr70.v, cr70.B, [], cr70.objs.map fun x => some x.2) := by kernel_rfl
theorem f_o70 [Sym] : ConFact Tryd.prog 16 [.int .i64 (.ofNat 70)] cr70 := con_of_runF LkA_ok conA_ok fn16 k_o70 rfl globIn (tabLt (by decide))
theorem k_o71 : conAns cr71 (runF Tryd.prog LkA 900 16 [.int .i64 (.ofNat 71)] (Go.E.start cr71.tabs cr71.A)) = some (cr71.v, cr71.B, [], cr71.objs.map fun x => some x.2) := by kernel_rfl
theorem f_o71 [Sym] : ConFact Tryd.prog 16 [.int .i64 (.ofNat 71)] cr71 := con_of_runF LkA_ok conA_ok fn16 k_o71 rfl globIn (tabLt (by decide))
theorem k_o72 : conAns cr72 (runF Tryd.prog LkA 900 16 [.int .i64 (.ofNat 72)] (Go.E.start cr72.tabs cr72.A)) = some (cr72.v, cr72.B, [], cr72.objs.map fun x => some x.2) := by kernel_rfl
theorem f_o72 [Sym] : ConFact Tryd.prog 16 [.int .i64 (.ofNat 72)] cr72 := con_of_runF LkA_ok conA_ok fn16 k_o72 rfl globIn (tabLt (by decide))
theorem k_o73 : conAns cr73 (runF Tryd.prog LkA 900 16 [.int .i64 (.ofNat 73)] (Go.E.start cr73.tabs cr73.A)) = some (cr73.v, cr73.B, [], cr73.objs.map fun x => some x.2) := by kernel_rfl
theorem f_o73 [Sym] : ConFact Tryd.prog 16 [.int .i64 (.ofNat 73)] cr73 := con_of_runF LkA_ok conA_ok fn16 k_o73 rfl globIn (tabLt (by decide))
theorem k_o74 : conAns cr74 (runF Tryd.prog LkA 900 16 [.int .i64 (.ofNat 74)] (Go.E.start cr74.tabs cr74.A)) = some (cr74.v, cr74.B, [], cr74.objs.map fun x => some x.2) := by kernel_rfl
theorem f_o74 [Sym] : ConFact Tryd.prog 16 [.int .i64 (.ofNat 74)] cr74 := con_of_runF LkA_ok conA_ok fn16 k_o74 rfl globIn (tabLt (by decide))
theorem k_o75 : conAns cr75 (runF Tryd.prog LkA 900 16 [.int .i64 (.ofNat 75)] (Go.E.start cr75.tabs cr75.A)) = some (cr75.v, cr75.B, [], cr75.objs.map fun x => some x.2) := by kernel_rfl
theorem f_o75 [Sym] : ConFact Tryd.prog 16 [.int .i64 (.ofNat 75)] cr75 := con_of_runF LkA_ok conA_ok fn16 k_o75 rfl globIn (tabLt (by decide))
theorem k_o76 : conAns cr76 (runF Tryd.prog LkA 900 16 [.int .i64 (.ofNat 76)] (Go.E.start cr76.tabs cr76.A)) = some (cr76.v, cr76.B, [], cr76.objs.map fun x => some x.2) := by kernel_rfl
theorem f_o76 [Sym] : ConFact Tryd.prog 16 [.int .i64 (.ofNat 76)] cr76 := con_of_runF LkA_ok conA_ok fn16 k_o76 rfl globIn (tabLt (by decide))
theorem k_o77 : conAns cr77 (runF Tryd.prog LkA 900 16 [.int .i64 (.ofNat 77)] (Go.E.start cr77.tabs cr77.A)) = some (cr77.v, cr77.B, [], cr77.objs.map fun x => some x.2) := by kernel_rfl
theorem f_o77 [Sym] : ConFact Tryd.prog 16 [.int .i64 (.ofNat 77)] cr77 := con_of_runF LkA_ok conA_ok fn16 k_o77 rfl globIn (tabLt (by decide))
theorem k_o78 : conAns cr78 (runF Tryd.prog LkA 900 16 [.int .i64 (.ofNat 78)] (Go.E.start cr78.tabs cr78.A)) = some (cr78.v, cr78.B, [], cr78.objs.map fun x => some x.2) := by kernel_rfl
theorem f_o78 [Sym] : ConFact Tryd.prog 16 [.int .i64 (.ofNat 78)] cr78 := con_of_runF LkA_ok conA_ok fn16 k_o78 rfl globIn (tabLt (by decide))
theorem k_o79 : conAns cr79 (runF Tryd.prog LkA 900 16 [.int .i64 (.ofNat 79)] (Go.E.start cr79.tabs cr79.A)) = some (cr79.v, cr79.B, [], cr79.objs.map fun x => some x.2) := by kernel_rfl
theorem f_o79 [Sym] : ConFact Tryd.prog 16 [.int .i64 (.ofNat 79)] cr79 := con_of_runF LkA_ok conA_ok fn16 k_o79 rfl globIn (tabLt (by decide))
theorem k_o80 : conAns cr80 (runF Tryd.prog LkA 900 16 [.int .i64 (.ofNat 80)] (Go.E.start cr80.tabs cr80.A)) = some (cr80.v, cr80.B, [], cr80.objs.map fun x => some x.2) := by kernel_rfl
theorem f_o80 [Sym] : ConFact Tryd.prog 16 [.int .i64 (.ofNat 80)] cr80 := con_of_runF LkA_ok conA_ok fn16 k_o80 rfl globIn (tabLt (by decide))
theorem k_o81 : conAns cr81 (runF Tryd.prog LkA 900 16 [.int .i64 (.ofNat 81)] (Go.E.start cr81.tabs cr81.A)) = some (cr81.v, cr81.B, [], cr81.objs.map fun x => some x.2) := by kernel_rfl
theorem f_o81 [Sym] : ConFact Tryd.prog 16 [.int .i64 (.ofNat 81)] cr81 := con_of_runF LkA_ok conA_ok fn16 k_o81 rfl globIn (tabLt (by decide))
theorem k_o82 : conAns cr82 (runF Tryd.prog LkA 900 16 [.int .i64 (.ofNat 82)] (Go.E.start cr82.tabs cr82.A)) = some (cr82.v, cr82.B, [], cr82.objs.map fun x => some x.2) := by kernel_rfl
theorem f_o82 [Sym] : ConFact Tryd.prog 16 [.int .i64 (.ofNat 82)] cr82 := con_of_runF LkA_ok conA_ok fn16 k_o82 rfl globIn (tabLt (by decide))
theorem k_o83 : conAns cr83 (runF Tryd.prog LkA 900 16 [.int .i64 (.ofNat 83)] (Go.E.start cr83.tabs cr83.A)) = some (cr83.v, cr83.B, [], cr83.objs.map fun x => some x.2) := by kernel_rfl
theorem f_o83 [Sym] : ConFact Tryd.prog 16 [.int .i64 (.ofNat 83)] cr83 := con_of_runF LkA_ok conA_ok fn16 k_o83 rfl globIn (tabLt (by decide))
theorem k_o84 : conAns cr84 (runF Tryd.prog LkA 900 16 [.int .i64 (.ofNat 84)] (Go.E.start cr84.tabs cr84.A)) = some (cr84.v, cr84.B, [], cr84.objs.map fun x => some x.2) := by kernel_rfl
theorem f_o84 [Sym] : ConFact Tryd.prog 16 [.int .i64 (.ofNat 84)] cr84 := con_of_runF LkA_ok conA_ok fn16 k_o84 rfl globIn (tabLt (by decide))
theorem k_o85 : conAns cr85 (runF Tryd.prog LkA 900 16 [.int .i64 (.ofNat 85)] (Go.E.start cr85.tabs cr85.A)) = some (cr85.v, cr85.B, [], cr85.objs.map fun x => some x.2) := by kernel_rfl
theorem f_o85 [Sym] : ConFact Tryd.prog 16 [.int .i64 (.ofNat 85)] cr85 := con_of_runF LkA_ok conA_ok fn16 k_o85 rfl globIn (tabLt (by decide))
theorem k_o86 : conAns cr86 (runF Tryd.prog LkA 900 16 [.int .i64 (.ofNat 86)] (Go.E.start cr86.tabs cr86.A)) = some (cr86.v, cr86.B, [], cr86.objs.map fun x => some x.2) := by kernel_rfl
theorem f_o86 [Sym] : ConFact Tryd.prog 16 [.int .i64 (.ofNat 86)] cr86 := con_of_runF LkA_ok conA_ok fn16 k_o86 rfl globIn (tabLt (by decide))
theorem k_o87 : conAns cr87 (runF Tryd.prog LkA 900 16 [.int .i64 (.ofNat 87)] (Go.E.start cr87.tabs cr87.A)) = some (cr87.v, cr87.B, [], cr87.objs.map fun x => some x.2) := by kernel_rfl
theorem f_o87 [Sym] : ConFact Tryd.prog 16 [.int .i64 (.ofNat 87)] cr87 := con_of_runF LkA_ok conA_ok fn16 k_o87 rfl globIn (tabLt (by decide))
theorem k_o88 : conAns cr88 (runF Tryd.prog LkA 900 16 [.int .i64 (.ofNat 88)] (Go.E.start cr88.tabs cr88.A)) = some (cr88.v, cr88.B, [], cr88.objs.map fun x => some x.2) := by kernel_rfl
theorem f_o88 [Sym] : ConFact Tryd.prog 16 [.int .i64 (.ofNat 88)] cr88 := con_of_runF LkA_ok conA_ok fn16 k_o88 rfl globIn (tabLt (by decide))
theorem k_o89 : conAns cr89 (runF Tryd.prog LkA 900 16 [.int .i64 (.ofNat 89)] (Go.E.start cr89.tabs cr89.A)) = some (cr89.v, cr89.B, [], cr89.objs.map fun x => some x.2) := by kernel_rfl
theorem f_o89 [Sym] : ConFact Tryd.prog 16 [.int .i64 (.ofNat 89)] cr89 := con_of_runF LkA_ok conA_ok fn16 k_o89 rfl globIn (tabLt (by decide))
theorem k_o90 : conAns cr90 (runF Tryd.prog LkA 900 16 [.int .i64 (.ofNat 90)] (Go.E.start cr90.tabs cr90.A)) = some (cr90.v, cr90.B, [], cr90.objs.map fun x => some x.2) := by kernel_rfl
theorem f_o90 [Sym] : ConFact Tryd.prog 16 [.int .i64 (.ofNat 90)] cr90 := con_of_runF LkA_ok conA_ok fn16 k_o90 rfl globIn (tabLt (by decide))
theorem k_o91 : conAns cr91 (runF Tryd.prog LkA 900 16 [.int .i64 (.ofNat 91)] (Go.E.start cr91.tabs cr91.A)) = some (cr91.v, cr91.B, [], cr91.objs.map fun x => some x.2) := by kernel_rfl
theorem f_o91 [Sym] : ConFact Tryd.prog 16 [.int .i64 (.ofNat 91)] cr91 := con_of_runF LkA_ok conA_ok fn16 k_o91 rfl globIn (tabLt (by decide))
theorem k_o92 : conAns cr92 (runF Tryd.prog LkA 900 16 [.int .i64 (.ofNat 92)] (Go.E.start cr92.tabs cr92.A)) = some (cr92.v, cr92.B, [], cr92.objs.map fun x => some x.2) := by kernel_rfl
theorem f_o92 [Sym] : ConFact Tryd.prog 16 [.int .i64 (.ofNat 92)] cr92 := con_of_runF LkA_ok conA_ok fn16 k_o92 rfl globIn (tabLt (by decide))
theorem k_o93 : conAns cr93 (runF Tryd.prog LkA 900 16 [.int .i64 (.ofNat 93)] (Go.E.start cr93.tabs cr93.A)) = some (cr93.v, cr93.B, [], cr93.objs.map fun x => some x.2) := by kernel_rfl
theorem f_o93 [Sym] : ConFact Tryd.prog 16 [.int .i64 (.ofNat 93)] cr93 := con_of_runF LkA_ok conA_ok fn16 k_o93 rfl globIn (tabLt (by decide))
theorem k_o94 : conAns cr94 (runF Tryd.prog LkA 900 16 [.int .i64 (.ofNat 94)] (Go.E.start cr94.tabs cr94.A)) = some (cr94.v, cr94.B, [], cr94.objs.map fun x => some x.2) := by kernel_rfl
theorem f_o94 [Sym] : ConFact Tryd.prog 16 [.int .i64 (.ofNat 94)] cr94 := con_of_runF LkA_ok conA_ok fn16 k_o94 rfl globIn (tabLt (by decide))
theorem k_o95 : conAns cr95 (runF Tryd.prog LkA 900 16 [.int .i64 (.ofNat 95)] (Go.E.start cr95.tabs cr95.A)) = some (cr95.v, cr95.B, [], cr95.objs.map fun x => some x.2) := by kernel_rfl
theorem f_o95 [Sym] : ConFact Tryd.prog 16 [.int .i64 (.ofNat 95)] cr95 := con_of_runF LkA_ok conA_ok fn16 k_o95 rfl globIn (tabLt (by decide))
theorem k_o96 : conAns cr96 (runF Tryd.prog LkA 900 16 [.int .i64 (.ofNat 96)] (Go.E.start cr96.tabs cr96.A)) = some (cr96.v, cr96.B, [], cr96.objs.map fun x => some x.2) := by kernel_rfl
theorem f_o96 [Sym] : ConFact Tryd.prog 16 [.int .i64 (.ofNat 96)] cr96 := con_of_runF LkA_ok conA_ok fn16 k_o96 rfl globIn (tabLt (by decide))
theorem k_o97 : conAns cr97 (runF Tryd.prog LkA 900 16 [.int .i64 (.ofNat 97)] (Go.E.start cr97.tabs cr97.A)) = some (cr97.v, cr97.B, [], cr97.objs.map fun x => some x.2) := by kernel_rfl
theorem f_o97 [Sym] : ConFact Tryd.prog 16 [.int .i64 (.ofNat 97)] cr97 := con_of_runF LkA_ok conA_ok fn16 k_o97 rfl globIn (tabLt (by decide))
theorem k_o98 : conAns cr98 (runF Tryd.prog LkA 900 16 [.int .i64 (.ofNat 98)] (Go.E.start cr98.tabs cr98.A)) = some (cr98.v, cr98.B, [], cr98.objs.map fun x => some x.2) := by kernel_rfl
theorem f_o98 [Sym] : ConFact Tryd.prog 16 [.int .i64 (.ofNat 98)] cr98 := con_of_runF LkA_ok conA_ok fn16 k_o98 rfl globIn (tabLt (by decide))
theorem k_o99 : conAns cr99 (runF Tryd.prog LkA 900 16 [.int .i64 (.ofNat 99)] (Go.E.start cr99.tabs cr99.A)) = some (cr99.v, cr99.B, [], cr99.objs.map fun x => some x.2) := by kernel_rfl
theorem f_o99 [Sym] : ConFact Tryd.prog 16 [.int .i64 (.ofNat 99)] cr99 := con_of_runF LkA_ok conA_ok fn16 k_o99 rfl globIn (tabLt (by decide))
theorem k_o100 : conAns cr100 (runF Tryd.prog LkA 900 16 [.int .i64 (.ofNat 100)] (Go.E.start cr100.tabs cr100.A)) = some (cr100.v, cr100.B, [], cr100.objs.map fun x => some x.2) := by kernel_rfl
theorem f_o100 [Sym] : ConFact Tryd.prog 16 [.int .i64 (.ofNat 100)] cr100 := con_of_runF LkA_ok conA_ok fn16 k_o100 rfl globIn (tabLt (by decide))
theorem k_o101 : conAns cr101 (runF Tryd.prog LkA 900 16 [.int .i64 (.ofNat 101)] (Go.E.start cr101.tabs cr101.A)) = some (cr101.v, cr101.B, [], cr101.objs.map fun x => some x.2) := by kernel_rfl
theorem f_o101 [Sym] : ConFact Tryd.prog 16 [.int .i64 (.ofNat 101)] cr101 := con_of_runF LkA_ok conA_ok fn16 k_o101 rfl globIn (tabLt (by decide))
theorem k_o102 : conAns cr102 (runF Tryd.prog LkA 900 16 [.int .i64 (.ofNat 102)] (Go.E.start cr102.tabs cr102.A)) = some (cr102.v, cr102.B, [], cr102.objs.map fun x => some x.2) := by kernel_rfl
theorem f_o102 [Sym] : ConFact Tryd.prog 16 [.int .i64 (.ofNat 102)] cr102 := con_of_runF LkA_ok conA_ok fn16 k_o102 rfl globIn (tabLt (by decide))
theorem k_o103 : conAns cr103 (runF Tryd.prog LkA 900 16 [.int .i64 (.ofNat 103)] (Go.E.start cr103.tabs cr103.A)) = some (cr103.v, cr103.B, [], cr103.objs.map fun x => some x.2) := by kernel_rfl
theorem f_o103 [Sym] : ConFact Tryd.prog 16 [.int .i64 (.ofNat 103)] cr103 := con_of_runF LkA_ok conA_ok fn16 k_o103 rfl globIn (tabLt (by decide))
theorem k_o104 : conAns cr104 (runF Tryd.prog LkA 900 16 [.int .i64 (.ofNat 104)] (Go.E.start cr104.tabs cr104.A)) = some (cr104.v, cr104.B, [], cr104.objs.map fun x => some x.2) := by kernel_rfl
theorem f_o104 [Sym] : ConFact Tryd.prog 16 [.int .i64 (.ofNat 104)] cr104 := con_of_runF LkA_ok conA_ok fn16 k_o104 rfl globIn (tabLt (by decide))
theorem k_o105 : conAns cr105 (runF Tryd.prog LkA 900 16 [.int .i64 (.ofNat 105)] (Go.E.start cr105.tabs cr105.A)) = some (cr105.v, cr105.B, [], cr105.objs.map fun x => some x.2) := by kernel_rfl
theorem f_o105 [Sym] : ConFact Tryd.prog 16 [.int .i64 (.ofNat 105)] cr105 := con_of_runF LkA_ok conA_ok fn16 k_o105 rfl globIn (tabLt (by decide))
theorem k_o106 : conAns cr106 (runF Tryd.prog LkA 900 16 [.int .i64 (.ofNat 106)] (Go.E.start cr106.tabs cr106.A)) = some (cr106.v, cr106.B, [], cr106.objs.map fun x => some x.2) := by kernel_rfl
theorem f_o106 [Sym] : ConFact Tryd.prog 16 [.int .i64 (.ofNat 106)] cr106 := con_of_runF LkA_ok conA_ok fn16 k_o106 rfl globIn (tabLt (by decide))
theorem k_o107 : conAns cr107 (runF Tryd.prog LkA 900 16 [.int .i64 (.ofNat 107)] (Go.E.start cr107.tabs cr107.A)) = some (cr107.v, cr107.B, [], cr107.objs.map fun x => some x.2) := by kernel_rfl
theorem f_o107 [Sym] : ConFact Tryd.prog 16 [.int .i64 (.ofNat 107)] cr107 := con_of_runF LkA_ok conA_ok fn16 k_o107 rfl globIn (tabLt (by decide))
theorem k_o108 : conAns cr108 (runF Tryd.prog LkA 900 16 [.int .i64 (.ofNat 108)] (Go.E.start cr108.tabs cr108.A)) = some (cr108.v, cr108.B, [], cr108.objs.map fun x => some x.2) := by kernel_rfl
theorem f_o108 [Sym] : ConFact Tryd.prog 16 [.int .i64 (.ofNat 108)] cr108 := con_of_runF LkA_ok conA_ok fn16 k_o108 rfl globIn (tabLt (by decide))
theorem k_o109 : conAns cr109 (runF Tryd.prog LkA 900 16 [.int .i64 (.ofNat 109)] (Go.E.start cr109.tabs cr109.A)) = some (cr109.v, cr109.B, [], cr109.objs.map fun x => some x.2) := by kernel_rfl
theorem f_o109 [Sym] : ConFact Tryd.prog 16 [.int .i64 (.ofNat 109)] cr109 := con_of_runF LkA_ok conA_ok fn16 k_o109 rfl globIn (tabLt (by decide))
theorem k_o110 : conAns cr110 (runF Tryd.prog LkA 900 16 [.int .i64 (.ofNat 110)] (Go.E.start cr110.tabs cr110.A)) = some (cr110.v, cr110.B, [], cr110.objs.map fun x => some x.2) := by kernel_rfl
theorem f_o110 [Sym] : ConFact Tryd.prog 16 [.int .i64 (.ofNat 110)] cr110 := con_of_runF LkA_ok conA_ok fn16 k_o110 rfl globIn (tabLt (by decide))
theorem k_o111 : conAns cr111 (runF Tryd.prog LkA 900 16 [.int .i64 (.ofNat 111)] (Go.E.start cr111.tabs cr111.A)) = some (cr111.v, cr111.B, [], cr111.objs.map fun x => some x.2) := by kernel_rfl
theorem f_o111 [Sym] : ConFact Tryd.prog 16 [.int .i64 (.ofNat 111)] cr111 := con_of_runF LkA_ok conA_ok fn16 k_o111 rfl globIn (tabLt (by decide))
theorem k_o112 : conAns cr112 (runF Tryd.prog LkA 900 16 [.int .i64 (.ofNat 112)] (Go.E.start cr112.tabs cr112.A)) = some (cr112.v, cr112.B, [], cr112.objs.map fun x => some x.2) := by kernel_rfl
theorem f_o112 [Sym] : ConFact Tryd.prog 16 [.int .i64 (.ofNat 112)] cr112 := con_of_runF LkA_ok conA_ok fn16 k_o112 rfl globIn (tabLt (by decide))
theorem k_o113 : conAns cr113 (runF Tryd.prog LkA 900 16 [.int .i64 (.ofNat 113)] (Go.E.start cr113.tabs cr113.A)) = some (cr113.v, cr113.B, [], cr113.objs.map fun x => some x.2) := by kernel_rfl
theorem f_o113 [Sym] : ConFact Tryd.prog 16 [.int .i64 (.ofNat 113)] cr113 := con_of_runF LkA_ok conA_ok fn16 k_o113 rfl globIn (tabLt (by decide))
theorem k_o114 : conAns cr114 (runF Tryd.prog LkA 900 16 [.int .i64 (.ofNat 114)] (Go.E.start cr114.tabs cr114.A)) = some (cr114.v, cr114.B, [], cr114.objs.map fun x => some x.2) := by kernel_rfl
theorem f_o114 [Sym] : ConFact Tryd.prog 16 [.int .i64 (.ofNat 114)] cr114 := con_of_runF LkA_ok conA_ok fn16 k_o114 rfl globIn (tabLt (by decide))
theorem k_o115 : conAns cr115 (runF Tryd.prog LkA 900 16 [.int .i64 (.ofNat 115)] (Go.E.start cr115.tabs cr115.A)) = some (cr115.v, cr115.B, [], cr115.objs.map fun x => some x.2) := by kernel_rfl
theorem f_o115 [Sym] : ConFact Tryd.prog 16 [.int .i64 (.ofNat 115)] cr115 := con_of_runF LkA_ok conA_ok fn16 k_o115 rfl globIn (tabLt (by decide))
theorem k_o116 : conAns cr116 (runF Tryd.prog LkA 900 16 [.int .i64 (.ofNat 116)] (Go.E.start cr116.tabs cr116.A)) = some (cr116.v, cr116.B, [], cr116.objs.map fun x => some x.2) := by kernel_rfl
theorem f_o116 [Sym] : ConFact Tryd.prog 16 [.int .i64 (.ofNat 116)] cr116 := con_of_runF LkA_ok conA_ok fn16 k_o116 rfl globIn (tabLt (by decide))
theorem k_o117 : conAns cr117 (runF Tryd.prog LkA 900 16 [.int .i64 (.ofNat 117)] (Go.E.start cr117.tabs cr117.A)) = some (cr117.v, cr117.B, [], cr117.objs.map fun x => some x.2) := by kernel_rfl
theorem f_o117 [Sym] : ConFact Tryd.prog 16 [.int .i64 (.ofNat 117)] cr117 := con_of_runF LkA_ok conA_ok fn16 k_o117 rfl globIn (tabLt (by decide))
theorem k_o118 : conAns cr118 (runF Tryd.prog LkA 900 16 [.int .i64 (.ofNat 118)] (Go.E.start cr118.tabs cr118.A)) = some (cr118.v, cr118.B, [], cr118.objs.map fun x => some x.2) := by kernel_rfl
theorem f_o118 [Sym] : ConFact Tryd.prog 16 [.int .i64 (.ofNat 118)] cr118 := con_of_runF LkA_ok conA_ok fn16 k_o118 rfl globIn (tabLt (by decide))
theorem k_o119 : conAns cr119 (runF Tryd.prog LkA 900 16 [.int .i64 (.ofNat 119)] (Go.E.start cr119.tabs cr119.A)) = some (cr119.v, cr119.B, [], cr119.objs.map fun x => some x.2) := by kernel_rfl
theorem f_o119 [Sym] : ConFact Tryd.prog 16 [.int .i64 (.ofNat 119)] cr119 := con_of_runF LkA_ok conA_ok fn16 k_o119 rfl globIn (tabLt (by decide))
theorem k_o120 : conAns cr120 (runF Tryd.prog LkA 900 16 [.int .i64 (.ofNat 120)] (Go.E.start cr120.tabs cr120.A)) = some (cr120.v, cr120.B, [], cr120.objs.map fun x => some x.2) := by kernel_rfl
theorem f_o120 [Sym] : ConFact Tryd.prog 16 [.int .i64 (.ofNat 120)] cr120 := con_of_runF LkA_ok conA_ok fn16 k_o120 rfl globIn (tabLt (by decide))
theorem k_o121 : conAns cr121 (runF Tryd.prog LkA 900 16 [.int .i64 (.ofNat 121)] (Go.E.start cr121.tabs cr121.A)) = some (cr121.v, cr121.B, [], cr121.objs.map fun x => some x.2) := by kernel_rfl
theorem f_o121 [Sym] : ConFact Tryd.prog 16 [.int .i64 (.ofNat 121)] cr121 := con_of_runF LkA_ok conA_ok fn16 k_o121 rfl globIn (tabLt (by decide))
theorem k_o122 : conAns cr122 (runF Tryd.prog LkA 900 16 [.int .i64 (.ofNat 122)] (Go.E.start cr122.tabs cr122.A)) = some (cr122.v, cr122.B, [], cr122.objs.map fun x => some x.2) := by kernel_rfl
theorem f_o122 [Sym] : ConFact Tryd.prog 16 [.int .i64 (.ofNat 122)] cr122 := con_of_runF LkA_ok conA_ok fn16 k_o122 rfl globIn (tabLt (by decide))
theorem k_o123 : conAns cr123 (runF Tryd.prog LkA 900 16 [.int .i64 (.ofNat 123)] (Go.E.start cr123.tabs cr123.A)) = some (cr123.v, cr123.B, [], cr123.objs.map fun x => some x.2) := by kernel_rfl
theorem f_o123 [Sym] : ConFact Tryd.prog 16 [.int .i64 (.ofNat 123)] cr123 := con_of_runF LkA_ok conA_ok fn16 k_o123 rfl globIn (tabLt (by decide))
theorem k_o124 : conAns cr124 (runF Tryd.prog LkA 900 16 [.int .i64 (.ofNat 124)] (Go.E.start cr124.tabs cr124.A)) = some (cr124.v, cr124.B, [], cr124.objs.map fun x => some x.2) := by kernel_rfl
theorem f_o124 [Sym] : ConFact Tryd.prog 16 [.int .i64 (.ofNat 124)] cr124 := con_of_runF LkA_ok conA_ok fn16 k_o124 rfl globIn (tabLt (by decide))
theorem k_o125 : conAns cr125 (runF Tryd.prog LkA 900 16 [.int .i64 (.ofNat 125)] (Go.E.start cr125.tabs cr125.A)) = some (cr125.v, cr125.B, [], cr125.objs.map fun x => some x.2) := by kernel_rfl
theorem f_o125 [Sym] : ConFact Tryd.prog 16 [.int .i64 (.ofNat 125)] cr125 := con_of_runF LkA_ok conA_ok fn16 k_o125 rfl globIn (tabLt (by decide))
theorem k_o126 : conAns cr126 (runF Tryd.prog LkA 900 16 [.int .i64 (.ofNat 126)] (Go.E.start cr126.tabs cr126.A)) = some (cr126.v, cr126.B, [], cr126.objs.map fun x => some x.2) := by kernel_rfl
theorem f_o126 [Sym] : ConFact Tryd.prog 16 [.int .i64 (.ofNat 126)] cr126 := con_of_runF LkA_ok conA_ok fn16 k_o126 rfl globIn (tabLt (by decide))
theorem k_o127 : conAns cr127 (runF Tryd.prog LkA 900 16 [.int .i64 (.ofNat 127)] (Go.E.start cr127.tabs cr127.A)) = some (cr127.v, cr127.B, [], cr127.objs.map fun x => some x.2) := by kernel_rfl
theorem f_o127 [Sym] : ConFact Tryd.prog 16 [.int .i64 (.ofNat 127)] cr127 := con_of_runF LkA_ok conA_ok fn16 k_o127 rfl globIn (tabLt (by decide))
end Go.Proofs.YtfgdoliihmjnoaaDoorE
