/- Closed runs. Printed by gen_con.py. -/
import Derived.Test.YtfgdoliihmjnoaaDoorECd
set_option linter.unusedSimpArgs false
set_option linter.unusedVariables false
namespace Go.Proofs.YtfgdoliihmjnoaaDoorE
open Go Go.E Go.Proofs
set_option maxRecDepth 100000
theorem k_d64 : conAns cd64 (runF Tryd.prog Lk0 400 15 [.int .i64 (.ofNat 64)] (Go.E.start cd64.tabs cd64.A)) = some (cd64.v, cd64.B, [], cd64.objs.map fun x => some x.2) := by kernel_rfl
theorem f_d64 [Sym] : ConFact Tryd.prog 15 [.int .i64 (.ofNat 64)] cd64 := con_of_runF Lk0_ok noCon fn15 k_d64 rfl globIn (tabLt (by decide))
theorem k_d65 : conAns cd65 (runF Tryd.prog Lk0 400 15 [.int .i64 (.ofNat 65)] (Go.E.start cd65.tabs cd65.A)) = some (cd65.v, cd65.B, [], cd65.objs.map fun x => some x.2) := by kernel_rfl
theorem f_d65 [Sym] : ConFact Tryd.prog 15 [.int .i64 (.ofNat 65)] cd65 := con_of_runF Lk0_ok noCon fn15 k_d65 rfl globIn (tabLt (by decide))
theorem k_d66 : conAns cd66 (runF Tryd.prog Lk0 400 15 [.int .i64 (.ofNat 66)] (Go.E.start cd66.tabs cd66.A)) = some (cd66.v, cd66.B, [], cd66.objs.map fun x => some x.2) := by kernel_rfl
theorem f_d66 [Sym] : ConFact Tryd.prog 15 [.int .i64 (.ofNat 66)] cd66 := con_of_runF Lk0_ok noCon fn15 k_d66 rfl globIn (tabLt (by decide))
theorem k_d67 : conAns cd67 (runF Tryd.prog Lk0 400 15 [.int .i64 (.ofNat 67)] (Go.E.start cd67.tabs cd67.A)) = some (cd67.v, cd67.B, [], cd67.objs.map fun x => some x.2) := by kernel_rfl
theorem f_d67 [Sym] : ConFact Tryd.prog 15 [.int .i64 (.ofNat 67)] cd67 := con_of_runF Lk0_ok noCon fn15 k_d67 rfl globIn (tabLt (by decide))
theorem k_d68 : conAns cd68 (runF Tryd.prog Lk0 400 15 [.int .i64 (.ofNat 68)] (Go.E.start cd68.tabs cd68.A)) = some (cd68.v, cd68.B, [], cd68.objs.map fun x => some x.2) := by kernel_rfl
theorem f_d68 [Sym] : ConFact Tryd.prog 15 [.int .i64 (.ofNat 68)] cd68 := con_of_runF Lk0_ok noCon fn15 k_d68 rfl globIn (tabLt (by decide))
theorem k_d69 : conAns cd69 (runF Tryd.prog Lk0 400 15 [.int .i64 (.ofNat 69)] (Go.E.start cd69.tabs cd69.A)) = some (cd69.v, cd69.B, [], cd69.objs.map fun x => some x.2) := by kernel_rfl
theorem f_d69 [Sym] : ConFact Tryd.prog 15 [.int .i64 (.ofNat 69)] cd69 := con_of_runF Lk0_ok noCon fn15 k_d69 rfl globIn (tabLt (by decide))
theorem k_d70 : conAns cd70 (runF Tryd.prog Lk0 400 15 [.int .i64 (.ofNat 70)] (Go.E.start cd70.tabs cd70.A)) = some (cd70.v, cd70.B, [], cd70.objs.map fun x => some x.2) := by kernel_rfl
theorem f_d70 [Sym] : ConFact Tryd.prog 15 [.int .i64 (.ofNat 70)] cd70 := con_of_runF Lk0_ok noCon fn15 k_d70 rfl globIn (tabLt (by decide))
theorem k_d71 : conAns cd71 (runF Tryd.prog Lk0 400 15 [.int .i64 (.ofNat 71)] (Go.E.start cd71.tabs cd71.A)) = some (cd71.v, cd71.B, [], cd71.objs.map fun x => some x.2) := by kernel_rfl
theorem f_d71 [Sym] : ConFact Tryd.prog 15 [.int .i64 (.ofNat 71)] cd71 := con_of_runF Lk0_ok noCon fn15 k_d71 rfl globIn (tabLt (by decide))
theorem k_d72 : conAns cd72 (runF Tryd.prog Lk0 400 15 [.int .i64 (.ofNat 72)] (Go.E.start cd72.tabs cd72.A)) = some (cd72.v, cd72.B, [], cd72.objs.map fun x => some x.2) := by kernel_rfl
theorem f_d72 [Sym] : ConFact Tryd.prog 15 [.int .i64 (.ofNat 72)] cd72 := con_of_runF Lk0_ok noCon fn15 k_d72 rfl globIn (tabLt (by decide))
theorem k_d73 : conAns cd73 (runF Tryd.prog Lk0 400 15 [.int .i64 (.ofNat 73)] (Go.E.start cd73.tabs cd73.A)) = some (cd73.v, cd73.B, [], cd73.objs.map fun x => some x.2) := by kernel_rfl
theorem f_d73 [Sym] : ConFact Tryd.prog 15 [.int .i64 (.ofNat 73)] cd73 := con_of_runF Lk0_ok noCon fn15 k_d73 rfl globIn (tabLt (by decide))
theorem k_d74 : conAns cd74 (runF Tryd.prog Lk0 400 15 [.int .i64 (.ofNat 74)] (Go.E.start cd74.tabs cd74.A)) = some (cd74.v, cd74.B, [], cd74.objs.map fun x => some x.2) := by kernel_rfl
theorem f_d74 [Sym] : ConFact Tryd.prog 15 [.int .i64 (.ofNat 74)] cd74 := con_of_runF Lk0_ok noCon fn15 k_d74 rfl globIn (tabLt (by decide))
theorem k_d75 : conAns cd75 (runF Tryd.prog Lk0 400 15 [.int .i64 (.ofNat 75)] (Go.E.start cd75.tabs cd75.A)) = some (cd75.v, cd75.B, [], cd75.objs.map fun x => some x.2) := by kernel_rfl
theorem f_d75 [Sym] : ConFact Tryd.prog 15 [.int .i64 (.ofNat 75)] cd75 := con_of_runF Lk0_ok noCon fn15 k_d75 rfl globIn (tabLt (by decide))
theorem k_d76 : conAns cd76 (runF Tryd.prog Lk0 400 15 [.int .i64 (.ofNat 76)] (Go.E.start cd76.tabs cd76.A)) = some (cd76.v, cd76.B, [], cd76.objs.map fun x => some x.2) := by kernel_rfl
theorem f_d76 [Sym] : ConFact Tryd.prog 15 [.int .i64 (.ofNat 76)] cd76 := con_of_runF Lk0_ok noCon fn15 k_d76 rfl globIn (tabLt (by decide))
theorem k_d77 : conAns cd77 (runF Tryd.prog Lk0 400 15 [.int .i64 (.ofNat 77)] (Go.E.start cd77.tabs cd77.A)) = some (cd77.v, cd77.B, [], cd77.objs.map fun x => some x.2) := by kernel_rfl
theorem f_d77 [Sym] : ConFact Tryd.prog 15 [.int .i64 (.ofNat 77)] cd77 := con_of_runF Lk0_ok noCon fn15 k_d77 rfl globIn (tabLt (by decide))
theorem k_d78 : conAns cd78 (runF Tryd.prog Lk0 400 15 [.int .i64 (.ofNat 78)] (Go.E.start cd78.tabs cd78.A)) = some (cd78.v, cd78.B, [], cd78.objs.map fun x => some x.2) := by kernel_rfl
theorem f_d78 [Sym] : ConFact Tryd.prog 15 [.int .i64 (.ofNat 78)] cd78 := con_of_runF Lk0_ok noCon fn15 k_d78 rfl globIn (tabLt (by decide))
theorem k_d79 : conAns cd79 (runF Tryd.prog Lk0 400 15 [.int .i64 (.ofNat 79)] (Go.E.start cd79.tabs cd79.A)) = some (cd79.v, cd79.B, [], cd79.objs.map fun x => some x.2) := by kernel_rfl
theorem f_d79 [Sym] : ConFact Tryd.prog 15 [.int .i64 (.ofNat 79)] cd79 := con_of_runF Lk0_ok noCon fn15 k_d79 rfl globIn (tabLt (by decide))
theorem k_d80 : conAns cd80 (runF Tryd.prog Lk0 400 15 [.int .i64 (.ofNat 80)] (Go.E.start cd80.tabs cd80.A)) = some (cd80.v, cd80.B, [], cd80.objs.map fun x => some x.2) := by kernel_rfl
theorem f_d80 [Sym] : ConFact Tryd.prog 15 [.int .i64 (.ofNat 80)] cd80 := con_of_runF Lk0_ok noCon fn15 k_d80 rfl globIn (tabLt (by decide))
theorem k_d81 : conAns cd81 (runF Tryd.prog Lk0 400 15 [.int .i64 (.ofNat 81)] (Go.E.start cd81.tabs cd81.A)) = some (cd81.v, cd81.B, [], cd81.objs.map fun x => some x.2) := by kernel_rfl
theorem f_d81 [Sym] : ConFact Tryd.prog 15 [.int .i64 (.ofNat 81)] cd81 := con_of_runF Lk0_ok noCon fn15 k_d81 rfl globIn (tabLt (by decide))
theorem k_d82 : conAns cd82 (runF Tryd.prog Lk0 400 15 [.int .i64 (.ofNat 82)] (Go.E.start cd82.tabs cd82.A)) = some (cd82.v, cd82.B, [], cd82.objs.map fun x => some x.2) := by kernel_rfl
theorem f_d82 [Sym] : ConFact Tryd.prog 15 [.int .i64 (.ofNat 82)] cd82 := con_of_runF Lk0_ok noCon fn15 k_d82 rfl globIn (tabLt (by decide))
theorem k_d83 : conAns cd83 (runF Tryd.prog Lk0 400 15 [.int .i64 (.ofNat 83)] (Go.E.start cd83.tabs cd83.A)) = some (cd83.v, cd83.B, [], cd83.objs.map fun x => some x.2) := by kernel_rfl
theorem f_d83 [Sym] : ConFact Tryd.prog 15 [.int .i64 (.ofNat 83)] cd83 := con_of_runF Lk0_ok noCon fn15 k_d83 rfl globIn (tabLt (by decide))
theorem k_d84 : conAns cd84 (runF Tryd.prog Lk0 400 15 [.int .i64 (.ofNat 84)] (Go.E.start cd84.tabs cd84.A)) = some (cd84.v, cd84.B, [], cd84.objs.map fun x => some x.2) := by kernel_rfl
theorem f_d84 [Sym] : ConFact Tryd.prog 15 [.int .i64 (.ofNat 84)] cd84 := con_of_runF Lk0_ok noCon fn15 k_d84 rfl globIn (tabLt (by decide))
theorem k_d85 : conAns cd85 (runF Tryd.prog Lk0 400 15 [.int .i64 (.ofNat 85)] (Go.E.start cd85.tabs cd85.A)) = some (cd85.v, cd85.B, [], cd85.objs.map fun x => some x.2) := by kernel_rfl
theorem f_d85 [Sym] : ConFact Tryd.prog 15 [.int .i64 (.ofNat 85)] cd85 := con_of_runF Lk0_ok noCon fn15 k_d85 rfl globIn (tabLt (by decide))
theorem k_d86 : conAns cd86 (runF Tryd.prog Lk0 400 15 [.int .i64 (.ofNat 86)] (Go.E.start cd86.tabs cd86.A)) = some (cd86.v, cd86.B, [], cd86.objs.map fun x => some x.2) := by kernel_rfl
theorem f_d86 [Sym] : ConFact Tryd.prog 15 [.int .i64 (.ofNat 86)] cd86 := con_of_runF Lk0_ok noCon fn15 k_d86 rfl globIn (tabLt (by decide))
theorem k_d87 : conAns cd87 (runF Tryd.prog Lk0 400 15 [.int .i64 (.ofNat 87)] (Go.E.start cd87.tabs cd87.A)) = some (cd87.v, cd87.B, [], cd87.objs.map fun x => some x.2) := by kernel_rfl
theorem f_d87 [Sym] : ConFact Tryd.prog 15 [.int .i64 (.ofNat 87)] cd87 := con_of_runF Lk0_ok noCon fn15 k_d87 rfl globIn (tabLt (by decide))
theorem k_d88 : conAns cd88 (runF Tryd.prog Lk0 400 15 [.int .i64 (.ofNat 88)] (Go.E.start cd88.tabs cd88.A)) = some (cd88.v, cd88.B, [], cd88.objs.map fun x => some x.2) := by kernel_rfl
theorem f_d88 [Sym] : ConFact Tryd.prog 15 [.int .i64 (.ofNat 88)] cd88 := con_of_runF Lk0_ok noCon fn15 k_d88 rfl globIn (tabLt (by decide))
theorem k_d89 : conAns cd89 (runF Tryd.prog Lk0 400 15 [.int .i64 (.ofNat 89)] (Go.E.start cd89.tabs cd89.A)) = some (cd89.v, cd89.B, [], cd89.objs.map fun x => some x.2) := by kernel_rfl
theorem f_d89 [Sym] : ConFact Tryd.prog 15 [.int .i64 (.ofNat 89)] cd89 := con_of_runF Lk0_ok noCon fn15 k_d89 rfl globIn (tabLt (by decide))
theorem k_d90 : conAns cd90 (runF Tryd.prog Lk0 400 15 [.int .i64 (.ofNat 90)] (Go.E.start cd90.tabs cd90.A)) = some (cd90.v, cd90.B, [], cd90.objs.map fun x => some x.2) := by kernel_rfl
theorem f_d90 [Sym] : ConFact Tryd.prog 15 [.int .i64 (.ofNat 90)] cd90 := con_of_runF Lk0_ok noCon fn15 k_d90 rfl globIn (tabLt (by decide))
theorem k_d91 : conAns cd91 (runF Tryd.prog Lk0 400 15 [.int .i64 (.ofNat 91)] (Go.E.start cd91.tabs cd91.A)) = some (cd91.v, cd91.B, [], cd91.objs.map fun x => some x.2) := by kernel_rfl
theorem f_d91 [Sym] : ConFact Tryd.prog 15 [.int .i64 (.ofNat 91)] cd91 := con_of_runF Lk0_ok noCon fn15 k_d91 rfl globIn (tabLt (by decide))
theorem k_d92 : conAns cd92 (runF Tryd.prog Lk0 400 15 [.int .i64 (.ofNat 92)] (Go.E.start cd92.tabs cd92.A)) = some (cd92.v, cd92.B, [], cd92.objs.map fun x => some x.2) := by kernel_rfl
theorem f_d92 [Sym] : ConFact Tryd.prog 15 [.int .i64 (.ofNat 92)] cd92 := con_of_runF Lk0_ok noCon fn15 k_d92 rfl globIn (tabLt (by decide))
theorem k_d93 : conAns cd93 (runF Tryd.prog Lk0 400 15 [.int .i64 (.ofNat 93)] (Go.E.start cd93.tabs cd93.A)) = some (cd93.v, cd93.B, [], cd93.objs.map fun x => some x.2) := by kernel_rfl
theorem f_d93 [Sym] : ConFact Tryd.prog 15 [.int .i64 (.ofNat 93)] cd93 := con_of_runF Lk0_ok noCon fn15 k_d93 rfl globIn (tabLt (by decide))
theorem k_d94 : conAns cd94 (runF Tryd.prog Lk0 400 15 [.int .i64 (.ofNat 94)] (Go.E.start cd94.tabs cd94.A)) = some (cd94.v, cd94.B, [], cd94.objs.map fun x => some x.2) := by kernel_rfl
theorem f_d94 [Sym] : ConFact Tryd.prog 15 [.int .i64 (.ofNat 94)] cd94 := con_of_runF Lk0_ok noCon fn15 k_d94 rfl globIn (tabLt (by decide))
theorem k_d95 : conAns cd95 (runF Tryd.prog Lk0 400 15 [.int .i64 (.ofNat 95)] (Go.E.start cd95.tabs cd95.A)) = some (cd95.v, cd95.B, [], cd95.objs.map fun x => some x.2) := by kernel_rfl
theorem f_d95 [Sym] : ConFact Tryd.prog 15 [.int .i64 (.ofNat 95)] cd95 := con_of_runF Lk0_ok noCon fn15 k_d95 rfl globIn (tabLt (by decide))
theorem k_d96 : conAns cd96 (runF Tryd.prog Lk0 400 15 [.int .i64 (.ofNat 96)] (Go.E.start cd96.tabs cd96.A)) = some (cd96.v, cd96.B, [], cd96.objs.map fun x => some x.2) := by kernel_rfl
theorem f_d96 [Sym] : ConFact Tryd.prog 15 [.int .i64 (.ofNat 96)] cd96 := con_of_runF Lk0_ok noCon fn15 k_d96 rfl globIn (tabLt (by decide))
theorem k_d97 : conAns cd97 (runF Tryd.prog Lk0 400 15 [.int .i64 (.ofNat 97)] (Go.E.start cd97.tabs cd97.A)) = some (cd97.v, cd97.B, [], cd97.objs.map fun x => some x.2) := by kernel_rfl
theorem f_d97 [Sym] : ConFact Tryd.prog 15 [.int .i64 (.ofNat 97)] cd97 := con_of_runF Lk0_ok noCon fn15 k_d97 rfl globIn (tabLt (by decide))
theorem k_d98 : conAns cd98 (runF Tryd.prog Lk0 400 15 [.int .i64 (.ofNat 98)] (Go.E.start cd98.tabs cd98.A)) = some (cd98.v, cd98.B, [], cd98.objs.map fun x => some x.2) := by kernel_rfl
theorem f_d98 [Sym] : ConFact Tryd.prog 15 [.int .i64 (.ofNat 98)] cd98 := con_of_runF Lk0_ok noCon fn15 k_d98 rfl globIn (tabLt (by decide))
theorem k_d99 : conAns cd99 (runF Tryd.prog Lk0 400 15 [.int .i64 (.ofNat 99)] (Go.E.start cd99.tabs cd99.A)) = some (cd99.v, cd99.B, [], cd99.objs.map fun x => some x.2) := by kernel_rfl
theorem f_d99 [Sym] : ConFact Tryd.prog 15 [.int .i64 (.ofNat 99)] cd99 := con_of_runF Lk0_ok noCon fn15 k_d99 rfl globIn (tabLt (by decide))
theorem k_d100 : conAns cd100 (runF Tryd.prog Lk0 400 15 [.int .i64 (.ofNat 100)] (Go.E.start cd100.tabs cd100.A)) = some (cd100.v, cd100.B, [], cd100.objs.map fun x => some x.2) := by kernel_rfl
theorem f_d100 [Sym] : ConFact Tryd.prog 15 [.int .i64 (.ofNat 100)] cd100 := con_of_runF Lk0_ok noCon fn15 k_d100 rfl globIn (tabLt (by decide))
theorem k_d101 : conAns cd101 (runF Tryd.prog Lk0 400 15 [.int .i64 (.ofNat 101)] (Go.E.start cd101.tabs cd101.A)) = some (cd101.v, cd101.B, [], cd101.objs.map fun x => some x.2) := by kernel_rfl
theorem f_d101 [Sym] : ConFact Tryd.prog 15 [.int .i64 (.ofNat 101)] cd101 := con_of_runF Lk0_ok noCon fn15 k_d101 rfl globIn (tabLt (by decide))
theorem k_d102 : conAns cd102 (runF Tryd.prog Lk0 400 15 [.int .i64 (.ofNat 102)] (Go.E.start cd102.tabs cd102.A)) = some (cd102.v, cd102.B, [], cd102.objs.map fun x => some x.2) := by kernel_rfl
theorem f_d102 [Sym] : ConFact Tryd.prog 15 [.int .i64 (.ofNat 102)] cd102 := con_of_runF Lk0_ok noCon fn15 k_d102 rfl globIn (tabLt (by decide))
theorem k_d103 : conAns cd103 (runF Tryd.prog Lk0 400 15 [.int .i64 (.ofNat 103)] (Go.E.start cd103.tabs cd103.A)) = some (cd103.v, cd103.B, [], cd103.objs.map fun x => some x.2) := by kernel_rfl
theorem f_d103 [Sym] : ConFact Tryd.prog 15 [.int .i64 (.ofNat 103)] cd103 := con_of_runF Lk0_ok noCon fn15 k_d103 rfl globIn (tabLt (by decide))
theorem k_d104 : conAns cd104 (runF Tryd.prog Lk0 400 15 [.int .i64 (.ofNat 104)] (Go.E.start cd104.tabs cd104.A)) = some (cd104.v, cd104.B, [], cd104.objs.map fun x => some x.2) := by kernel_rfl
theorem f_d104 [Sym] : ConFact Tryd.prog 15 [.int .i64 (.ofNat 104)] cd104 := con_of_runF Lk0_ok noCon fn15 k_d104 rfl globIn (tabLt (by decide))
theorem k_d105 : conAns cd105 (runF Tryd.prog Lk0 400 15 [.int .i64 (.ofNat 105)] (Go.E.start cd105.tabs cd105.A)) = some (cd105.v, cd105.B, [], cd105.objs.map fun x => some x.2) := by kernel_rfl
theorem f_d105 [Sym] : ConFact Tryd.prog 15 [.int .i64 (.ofNat 105)] cd105 := con_of_runF Lk0_ok noCon fn15 k_d105 rfl globIn (tabLt (by decide))
theorem k_d106 : conAns cd106 (runF Tryd.prog Lk0 400 15 [.int .i64 (.ofNat 106)] (Go.E.start cd106.tabs cd106.A)) = some (cd106.v, cd106.B, [], cd106.objs.map fun x => some x.2) := by kernel_rfl
theorem f_d106 [Sym] : ConFact Tryd.prog 15 [.int .i64 (.ofNat 106)] cd106 := con_of_runF Lk0_ok noCon fn15 k_d106 rfl globIn (tabLt (by decide))
theorem k_d107 : conAns cd107 (runF Tryd.prog Lk0 400 15 [.int .i64 (.ofNat 107)] (Go.E.start cd107.tabs cd107.A)) = some (cd107.v, cd107.B, [], cd107.objs.map fun x => some x.2) := by kernel_rfl
theorem f_d107 [Sym] : ConFact Tryd.prog 15 [.int .i64 (.ofNat 107)] cd107 := con_of_runF Lk0_ok noCon fn15 k_d107 rfl globIn (tabLt (by decide))
theorem k_d108 : conAns cd108 (runF Tryd.prog Lk0 400 15 [.int .i64 (.ofNat 108)] (Go.E.start cd108.tabs cd108.A)) = some (cd108.v, cd108.B, [], cd108.objs.map fun x => some x.2) := by kernel_rfl
theorem f_d108 [Sym] : ConFact Tryd.prog 15 [.int .i64 (.ofNat 108)] cd108 := con_of_runF Lk0_ok noCon fn15 k_d108 rfl globIn (tabLt (by decide))
theorem k_d109 : conAns cd109 (runF Tryd.prog Lk0 400 15 [.int .i64 (.ofNat 109)] (Go.E.start cd109.tabs cd109.A)) = some (cd109.v, cd109.B, [], cd109.objs.map fun x => some x.2) := by kernel_rfl
theorem f_d109 [Sym] : ConFact Tryd.prog 15 [.int .i64 (.ofNat 109)] cd109 := con_of_runF Lk0_ok noCon fn15 k_d109 rfl globIn (tabLt (by decide))
theorem k_d110 : conAns cd110 (runF Tryd.prog Lk0 400 15 [.int .i64 (.ofNat 110)] (Go.E.start cd110.tabs cd110.A)) = some (cd110.v, cd110.B, [], cd110.objs.map fun x => some x.2) := by kernel_rfl
theorem f_d110 [Sym] : ConFact Tryd.prog 15 [.int .i64 (.ofNat 110)] cd110 := con_of_runF Lk0_ok noCon fn15 k_d110 rfl globIn (tabLt (by decide))
theorem k_d111 : conAns cd111 (runF Tryd.prog Lk0 400 15 [.int .i64 (.ofNat 111)] (Go.E.start cd111.tabs cd111.A)) = some (cd111.v, cd111.B, [], cd111.objs.map fun x => some x.2) := by kernel_rfl
theorem f_d111 [Sym] : ConFact Tryd.prog 15 [.int .i64 (.ofNat 111)] cd111 := con_of_runF Lk0_ok noCon fn15 k_d111 rfl globIn (tabLt (by decide))
theorem k_d112 : conAns cd112 (runF Tryd.prog Lk0 400 15 [.int .i64 (.ofNat 112)] (Go.E.start cd112.tabs cd112.A)) = some (cd112.v, cd112.B, [], cd112.objs.map fun x => some x.2) := by kernel_rfl
theorem f_d112 [Sym] : ConFact Tryd.prog 15 [.int .i64 (.ofNat 112)] cd112 := con_of_runF Lk0_ok noCon fn15 k_d112 rfl globIn (tabLt (by decide))
theorem k_d113 : conAns cd113 (runF Tryd.prog Lk0 400 15 [.int .i64 (.ofNat 113)] (Go.E.start cd113.tabs cd113.A)) = some (cd113.v, cd113.B, [], cd113.objs.map fun x => some x.2) := by kernel_rfl
theorem f_d113 [Sym] : ConFact Tryd.prog 15 [.int .i64 (.ofNat 113)] cd113 := con_of_runF Lk0_ok noCon fn15 k_d113 rfl globIn (tabLt (by decide))
theorem k_d114 : conAns cd114 (runF Tryd.prog Lk0 400 15 [.int .i64 (.ofNat 114)] (Go.E.start cd114.tabs cd114.A)) = some (cd114.v, cd114.B, [], cd114.objs.map fun x => some x.2) := by kernel_rfl
theorem f_d114 [Sym] : ConFact Tryd.prog 15 [.int .i64 (.ofNat 114)] cd114 := con_of_runF Lk0_ok noCon fn15 k_d114 rfl globIn (tabLt (by decide))
theorem k_d115 : conAns cd115 (runF Tryd.prog Lk0 400 15 [.int .i64 (.ofNat 115)] (Go.E.start cd115.tabs cd115.A)) = some (cd115.v, cd115.B, [], cd115.objs.map fun x => some x.2) := by kernel_rfl
theorem f_d115 [Sym] : ConFact Tryd.prog 15 [.int .i64 (.ofNat 115)] cd115 := con_of_runF Lk0_ok noCon fn15 k_d115 rfl globIn (tabLt (by decide))
theorem k_d116 : conAns cd116 (runF Tryd.prog Lk0 400 15 [.int .i64 (.ofNat 116)] (Go.E.start cd116.tabs cd116.A)) = some (cd116.v, cd116.B, [], cd116.objs.map fun x => some x.2) := by kernel_rfl
theorem f_d116 [Sym] : ConFact Tryd.prog 15 [.int .i64 (.ofNat 116)] cd116 := con_of_runF Lk0_ok noCon fn15 k_d116 rfl globIn (tabLt (by decide))
theorem k_d117 : conAns cd117 (runF Tryd.prog Lk0 400 15 [.int .i64 (.ofNat 117)] (Go.E.start cd117.tabs cd117.A)) = some (cd117.v, cd117.B, [], cd117.objs.map fun x => some x.2) := by kernel_rfl
theorem f_d117 [Sym] : ConFact Tryd.prog 15 [.int .i64 (.ofNat 117)] cd117 := con_of_runF Lk0_ok noCon fn15 k_d117 rfl globIn (tabLt (by decide))
theorem k_d118 : conAns cd118 (runF Tryd.prog Lk0 400 15 [.int .i64 (.ofNat 118)] (Go.E.start cd118.tabs cd118.A)) = some (cd118.v, cd118.B, [], cd118.objs.map fun x => some x.2) := by kernel_rfl
theorem f_d118 [Sym] : ConFact Tryd.prog 15 [.int .i64 (.ofNat 118)] cd118 := con_of_runF Lk0_ok noCon fn15 k_d118 rfl globIn (tabLt (by decide))
theorem k_d119 : conAns cd119 (runF Tryd.prog Lk0 400 15 [.int .i64 (.ofNat 119)] (Go.E.start cd119.tabs cd119.A)) = some (cd119.v, cd119.B, [], cd119.objs.map fun x => some x.2) := by kernel_rfl
theorem f_d119 [Sym] : ConFact Tryd.prog 15 [.int .i64 (.ofNat 119)] cd119 := con_of_runF Lk0_ok noCon fn15 k_d119 rfl globIn (tabLt (by decide))
theorem k_d120 : conAns cd120 (runF Tryd.prog Lk0 400 15 [.int .i64 (.ofNat 120)] (Go.E.start cd120.tabs cd120.A)) = some (cd120.v, cd120.B, [], cd120.objs.map fun x => some x.2) := by kernel_rfl
theorem f_d120 [Sym] : ConFact Tryd.prog 15 [.int .i64 (.ofNat 120)] cd120 := con_of_runF Lk0_ok noCon fn15 k_d120 rfl globIn (tabLt (by decide))
theorem k_d121 : conAns cd121 (runF Tryd.prog Lk0 400 15 [.int .i64 (.ofNat 121)] (Go.E.start cd121.tabs cd121.A)) = some (cd121.v, cd121.B, [], cd121.objs.map fun x => some x.2) := by kernel_rfl
theorem f_d121 [Sym] : ConFact Tryd.prog 15 [.int .i64 (.ofNat 121)] cd121 := con_of_runF Lk0_ok noCon fn15 k_d121 rfl globIn (tabLt (by decide))
theorem k_d122 : conAns cd122 (runF Tryd.prog Lk0 400 15 [.int .i64 (.ofNat 122)] (Go.E.start cd122.tabs cd122.A)) = some (cd122.v, cd122.B, [], cd122.objs.map fun x => some x.2) := by kernel_rfl
theorem f_d122 [Sym] : ConFact Tryd.prog 15 [.int .i64 (.ofNat 122)] cd122 := con_of_runF Lk0_ok noCon fn15 k_d122 rfl globIn (tabLt (by decide))
theorem k_d123 : conAns cd123 (runF Tryd.prog Lk0 400 15 [.int .i64 (.ofNat 123)] (Go.E.start cd123.tabs cd123.A)) = some (cd123.v, cd123.B, [], cd123.objs.map fun x => some x.2) := by kernel_rfl
theorem f_d123 [Sym] : ConFact Tryd.prog 15 [.int .i64 (.ofNat 123)] cd123 := con_of_runF Lk0_ok noCon fn15 k_d123 rfl globIn (tabLt (by decide))
theorem k_d124 : conAns cd124 (runF Tryd.prog Lk0 400 15 [.int .i64 (.ofNat 124)] (Go.E.start cd124.tabs cd124.A)) = some (cd124.v, cd124.B, [], cd124.objs.map fun x => some x.2) := by kernel_rfl
theorem f_d124 [Sym] : ConFact Tryd.prog 15 [.int .i64 (.ofNat 124)] cd124 := con_of_runF Lk0_ok noCon fn15 k_d124 rfl globIn (tabLt (by decide))
theorem k_d125 : conAns cd125 (runF Tryd.prog Lk0 400 15 [.int .i64 (.ofNat 125)] (Go.E.start cd125.tabs cd125.A)) = some (cd125.v, cd125.B, [], cd125.objs.map fun x => some x.2) := by kernel_rfl
theorem f_d125 [Sym] : ConFact Tryd.prog 15 [.int .i64 (.ofNat 125)] cd125 := con_of_runF Lk0_ok noCon fn15 k_d125 rfl globIn (tabLt (by decide))
theorem k_d126 : conAns cd126 (runF Tryd.prog Lk0 400 15 [.int .i64 (.ofNat 126)] (Go.E.start cd126.tabs cd126.A)) = some (cd126.v, cd126.B, [], cd126.objs.map fun x => some x.2) := by kernel_rfl
theorem f_d126 [Sym] : ConFact Tryd.prog 15 [.int .i64 (.ofNat 126)] cd126 := con_of_runF Lk0_ok noCon fn15 k_d126 rfl globIn (tabLt (by decide))
theorem k_d127 : conAns cd127 (runF Tryd.prog Lk0 400 15 [.int .i64 (.ofNat 127)] (Go.E.start cd127.tabs cd127.A)) = some (cd127.v, cd127.B, [], cd127.objs.map fun x => some x.2) := by kernel_rfl
theorem f_d127 [Sym] : ConFact Tryd.prog 15 [.int .i64 (.ofNat 127)] cd127 := con_of_runF Lk0_ok noCon fn15 k_d127 rfl globIn (tabLt (by decide))
end Go.Proofs.YtfgdoliihmjnoaaDoorE
