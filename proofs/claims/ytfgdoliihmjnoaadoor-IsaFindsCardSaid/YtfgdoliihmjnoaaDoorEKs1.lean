/- Closed runs. Printed by gen_con.py. -/
import Derived.Test.YtfgdoliihmjnoaaDoorECs
set_option linter.unusedSimpArgs false
set_option linter.unusedVariables false
namespace Go.Proofs.YtfgdoliihmjnoaaDoorE
open Go Go.E Go.Proofs
set_option maxRecDepth 100000
theorem k_s64 : conAns cs64 (runF Tryd.prog Lk0 400 15 [.int .i64 (.ofNat 64)] (Go.E.start cs64.tabs cs64.A)) = some (cs64.v, cs64.B, [], cs64.objs.map fun x => some x.2) := by kernel_rfl
theorem f_s64 [Sym] : ConFact Tryd.prog 15 [.int .i64 (.ofNat 64)] cs64 := con_of_runF Lk0_ok noCon fn15 k_s64 rfl globIn (tabLt (by decide))
theorem k_s65 : conAns cs65 (runF Tryd.prog Lk0 400 15 [.int .i64 (.ofNat 65)] (Go.E.start cs65.tabs cs65.A)) = some (cs65.v, cs65.B, [], cs65.objs.map fun x => some x.2) := by kernel_rfl
theorem f_s65 [Sym] : ConFact Tryd.prog 15 [.int .i64 (.ofNat 65)] cs65 := con_of_runF Lk0_ok noCon fn15 k_s65 rfl globIn (tabLt (by decide))
theorem k_s66 : conAns cs66 (runF Tryd.prog Lk0 400 15 [.int .i64 (.ofNat 66)] (Go.E.start cs66.tabs cs66.A)) = some (cs66.v, cs66.B, [], cs66.objs.map fun x => some x.2) := by kernel_rfl
theorem f_s66 [Sym] : ConFact Tryd.prog 15 [.int .i64 (.ofNat 66)] cs66 := con_of_runF Lk0_ok noCon fn15 k_s66 rfl globIn (tabLt (by decide))
theorem k_s67 : conAns cs67 (runF Tryd.prog Lk0 400 15 [.int .i64 (.ofNat 67)] (Go.E.start cs67.tabs cs67.A)) = some (cs67.v, cs67.B, [], cs67.objs.map fun x => some x.2) := by kernel_rfl
theorem f_s67 [Sym] : ConFact Tryd.prog 15 [.int .i64 (.ofNat 67)] cs67 := con_of_runF Lk0_ok noCon fn15 k_s67 rfl globIn (tabLt (by decide))
theorem k_s68 : conAns cs68 (runF Tryd.prog Lk0 400 15 [.int .i64 (.ofNat 68)] (Go.E.start cs68.tabs cs68.A)) = some (cs68.v, cs68.B, [], cs68.objs.map fun x => some x.2) := by kernel_rfl
theorem f_s68 [Sym] : ConFact Tryd.prog 15 [.int .i64 (.ofNat 68)] cs68 := con_of_runF Lk0_ok noCon fn15 k_s68 rfl globIn (tabLt (by decide))
theorem k_s69 : conAns cs69 (runF Tryd.prog Lk0 400 15 [.int .i64 (.ofNat 69)] (Go.E.start cs69.tabs cs69.A)) = some (cs69.v, cs69.B, [], cs69.objs.map fun x => some x.2) := by kernel_rfl
theorem f_s69 [Sym] : ConFact Tryd.prog 15 [.int .i64 (.ofNat 69)] cs69 := con_of_runF Lk0_ok noCon fn15 k_s69 rfl globIn (tabLt (by decide))
theorem k_s70 : conAns cs70 (runF Tryd.prog Lk0 400 15 [.int .i64 (.ofNat 70)] (Go.E.start cs70.tabs cs70.A)) = some (cs70.v, cs70.B, [], cs70.objs.map fun x => some x.2) := by kernel_rfl
theorem f_s70 [Sym] : ConFact Tryd.prog 15 [.int .i64 (.ofNat 70)] cs70 := con_of_runF Lk0_ok noCon fn15 k_s70 rfl globIn (tabLt (by decide))
theorem k_s71 : conAns cs71 (runF Tryd.prog Lk0 400 15 [.int .i64 (.ofNat 71)] (Go.E.start cs71.tabs cs71.A)) = some (cs71.v, cs71.B, [], cs71.objs.map fun x => some x.2) := by kernel_rfl
theorem f_s71 [Sym] : ConFact Tryd.prog 15 [.int .i64 (.ofNat 71)] cs71 := con_of_runF Lk0_ok noCon fn15 k_s71 rfl globIn (tabLt (by decide))
theorem k_s72 : conAns cs72 (runF Tryd.prog Lk0 400 15 [.int .i64 (.ofNat 72)] (Go.E.start cs72.tabs cs72.A)) = some (cs72.v, cs72.B, [], cs72.objs.map fun x => some x.2) := by kernel_rfl
theorem f_s72 [Sym] : ConFact Tryd.prog 15 [.int .i64 (.ofNat 72)] cs72 := con_of_runF Lk0_ok noCon fn15 k_s72 rfl globIn (tabLt (by decide))
theorem k_s73 : conAns cs73 (runF Tryd.prog Lk0 400 15 [.int .i64 (.ofNat 73)] (Go.E.start cs73.tabs cs73.A)) = some (cs73.v, cs73.B, [], cs73.objs.map fun x => some x.2) := by kernel_rfl
theorem f_s73 [Sym] : ConFact Tryd.prog 15 [.int .i64 (.ofNat 73)] cs73 := con_of_runF Lk0_ok noCon fn15 k_s73 rfl globIn (tabLt (by decide))
theorem k_s74 : conAns cs74 (runF Tryd.prog Lk0 400 15 [.int .i64 (.ofNat 74)] (Go.E.start cs74.tabs cs74.A)) = some (cs74.v, cs74.B, [], cs74.objs.map fun x => some x.2) := by kernel_rfl
theorem f_s74 [Sym] : ConFact Tryd.prog 15 [.int .i64 (.ofNat 74)] cs74 := con_of_runF Lk0_ok noCon fn15 k_s74 rfl globIn (tabLt (by decide))
theorem k_s75 : conAns cs75 (runF Tryd.prog Lk0 400 15 [.int .i64 (.ofNat 75)] (Go.E.start cs75.tabs cs75.A)) = some (cs75.v, cs75.B, [], cs75.objs.map fun x => some x.2) := by kernel_rfl
theorem f_s75 [Sym] : ConFact Tryd.prog 15 [.int .i64 (.ofNat 75)] cs75 := con_of_runF Lk0_ok noCon fn15 k_s75 rfl globIn (tabLt (by decide))
theorem k_s76 : conAns cs76 (runF Tryd.prog Lk0 400 15 [.int .i64 (.ofNat 76)] (Go.E.start cs76.tabs cs76.A)) = some (cs76.v, cs76.B, [], cs76.objs.map fun x => some x.2) := by kernel_rfl
theorem f_s76 [Sym] : ConFact Tryd.prog 15 [.int .i64 (.ofNat 76)] cs76 := con_of_runF Lk0_ok noCon fn15 k_s76 rfl globIn (tabLt (by decide))
theorem k_s77 : conAns cs77 (runF Tryd.prog Lk0 400 15 [.int .i64 (.ofNat 77)] (Go.E.start cs77.tabs cs77.A)) = some (cs77.v, cs77.B, [], cs77.objs.map fun x => some x.2) := by kernel_rfl
theorem f_s77 [Sym] : ConFact Tryd.prog 15 [.int .i64 (.ofNat 77)] cs77 := con_of_runF Lk0_ok noCon fn15 k_s77 rfl globIn (tabLt (by decide))
theorem k_s78 : conAns cs78 (runF Tryd.prog Lk0 400 15 [.int .i64 (.ofNat 78)] (Go.E.start cs78.tabs cs78.A)) = some (cs78.v, cs78.B, [], cs78.objs.map fun x => some x.2) := by kernel_rfl
theorem f_s78 [Sym] : ConFact Tryd.prog 15 [.int .i64 (.ofNat 78)] cs78 := con_of_runF Lk0_ok noCon fn15 k_s78 rfl globIn (tabLt (by decide))
theorem k_s79 : conAns cs79 (runF Tryd.prog Lk0 400 15 [.int .i64 (.ofNat 79)] (Go.E.start cs79.tabs cs79.A)) = some (cs79.v, cs79.B, [], cs79.objs.map fun x => some x.2) := by kernel_rfl
theorem f_s79 [Sym] : ConFact Tryd.prog 15 [.int .i64 (.ofNat 79)] cs79 := con_of_runF Lk0_ok noCon fn15 k_s79 rfl globIn (tabLt (by decide))
theorem k_s80 : conAns cs80 (runF Tryd.prog Lk0 400 15 [.int .i64 (.ofNat 80)] (Go.E.start cs80.tabs cs80.A)) = some (cs80.v, cs80.B, [], cs80.objs.map fun x => some x.2) := by kernel_rfl
theorem f_s80 [Sym] : ConFact Tryd.prog 15 [.int .i64 (.ofNat 80)] cs80 := con_of_runF Lk0_ok noCon fn15 k_s80 rfl globIn (tabLt (by decide))
theorem k_s81 : conAns cs81 (runF Tryd.prog Lk0 400 15 [.int .i64 (.ofNat 81)] (Go.E.start cs81.tabs cs81.A)) = some (cs81.v, cs81.B, [], cs81.objs.map fun x => some x.2) := by kernel_rfl
theorem f_s81 [Sym] : ConFact Tryd.prog 15 [.int .i64 (.ofNat 81)] cs81 := con_of_runF Lk0_ok noCon fn15 k_s81 rfl globIn (tabLt (by decide))
theorem k_s82 : conAns cs82 (runF Tryd.prog Lk0 400 15 [.int .i64 (.ofNat 82)] (Go.E.start cs82.tabs cs82.A)) = some (cs82.v, cs82.B, [], cs82.objs.map fun x => some x.2) := by kernel_rfl
theorem f_s82 [Sym] : ConFact Tryd.prog 15 [.int .i64 (.ofNat 82)] cs82 := con_of_runF Lk0_ok noCon fn15 k_s82 rfl globIn (tabLt (by decide))
theorem k_s83 : conAns cs83 (runF Tryd.prog Lk0 400 15 [.int .i64 (.ofNat 83)] (Go.E.start cs83.tabs cs83.A)) = some (cs83.v, cs83.B, [], cs83.objs.map fun x => some x.2) := by kernel_rfl
theorem f_s83 [Sym] : ConFact Tryd.prog 15 [.int .i64 (.ofNat 83)] cs83 := con_of_runF Lk0_ok noCon fn15 k_s83 rfl globIn (tabLt (by decide))
theorem k_s84 : conAns cs84 (runF Tryd.prog Lk0 400 15 [.int .i64 (.ofNat 84)] (Go.E.start cs84.tabs cs84.A)) = some (cs84.v, cs84.B, [], cs84.objs.map fun x => some x.2) := by kernel_rfl
theorem f_s84 [Sym] : ConFact Tryd.prog 15 [.int .i64 (.ofNat 84)] cs84 := con_of_runF Lk0_ok noCon fn15 k_s84 rfl globIn (tabLt (by decide))
theorem k_s85 : conAns cs85 (runF Tryd.prog Lk0 400 15 [.int .i64 (.ofNat 85)] (Go.E.start cs85.tabs cs85.A)) = some (cs85.v, cs85.B, [], cs85.objs.map fun x => some x.2) := by kernel_rfl
theorem f_s85 [Sym] : ConFact Tryd.prog 15 [.int .i64 (.ofNat 85)] cs85 := con_of_runF Lk0_ok noCon fn15 k_s85 rfl globIn (tabLt (by decide))
theorem k_s86 : conAns cs86 (runF Tryd.prog Lk0 400 15 [.int .i64 (.ofNat 86)] (Go.E.start cs86.tabs cs86.A)) = some (cs86.v, cs86.B, [], cs86.objs.map fun x => some x.2) := by kernel_rfl
theorem f_s86 [Sym] : ConFact Tryd.prog 15 [.int .i64 (.ofNat 86)] cs86 := con_of_runF Lk0_ok noCon fn15 k_s86 rfl globIn (tabLt (by decide))
theorem k_s87 : conAns cs87 (runF Tryd.prog Lk0 400 15 [.int .i64 (.ofNat 87)] (Go.E.start cs87.tabs cs87.A)) = some (cs87.v, cs87.B, [], cs87.objs.map fun x => some x.2) := by kernel_rfl
theorem f_s87 [Sym] : ConFact Tryd.prog 15 [.int .i64 (.ofNat 87)] cs87 := con_of_runF Lk0_ok noCon fn15 k_s87 rfl globIn (tabLt (by decide))
theorem k_s88 : conAns cs88 (runF Tryd.prog Lk0 400 15 [.int .i64 (.ofNat 88)] (Go.E.start cs88.tabs cs88.A)) = some (cs88.v, cs88.B, [], cs88.objs.map fun x => some x.2) := by kernel_rfl
theorem f_s88 [Sym] : ConFact Tryd.prog 15 [.int .i64 (.ofNat 88)] cs88 := con_of_runF Lk0_ok noCon fn15 k_s88 rfl globIn (tabLt (by decide))
theorem k_s89 : conAns cs89 (runF Tryd.prog Lk0 400 15 [.int .i64 (.ofNat 89)] (Go.E.start cs89.tabs cs89.A)) = some (cs89.v, cs89.B, [], cs89.objs.map fun x => some x.2) := by kernel_rfl
theorem f_s89 [Sym] : ConFact Tryd.prog 15 [.int .i64 (.ofNat 89)] cs89 := con_of_runF Lk0_ok noCon fn15 k_s89 rfl globIn (tabLt (by decide))
theorem k_s90 : conAns cs90 (runF Tryd.prog Lk0 400 15 [.int .i64 (.ofNat 90)] (Go.E.start cs90.tabs cs90.A)) = some (cs90.v, cs90.B, [], cs90.objs.map fun x => some x.2) := by kernel_rfl
theorem f_s90 [Sym] : ConFact Tryd.prog 15 [.int .i64 (.ofNat 90)] cs90 := con_of_runF Lk0_ok noCon fn15 k_s90 rfl globIn (tabLt (by decide))
theorem k_s91 : conAns cs91 (runF Tryd.prog Lk0 400 15 [.int .i64 (.ofNat 91)] (Go.E.start cs91.tabs cs91.A)) = some (cs91.v, cs91.B, [], cs91.objs.map fun x => some x.2) := by kernel_rfl
theorem f_s91 [Sym] : ConFact Tryd.prog 15 [.int .i64 (.ofNat 91)] cs91 := con_of_runF Lk0_ok noCon fn15 k_s91 rfl globIn (tabLt (by decide))
theorem k_s92 : conAns cs92 (runF Tryd.prog Lk0 400 15 [.int .i64 (.ofNat 92)] (Go.E.start cs92.tabs cs92.A)) = some (cs92.v, cs92.B, [], cs92.objs.map fun x => some x.2) := by kernel_rfl
theorem f_s92 [Sym] : ConFact Tryd.prog 15 [.int .i64 (.ofNat 92)] cs92 := con_of_runF Lk0_ok noCon fn15 k_s92 rfl globIn (tabLt (by decide))
theorem k_s93 : conAns cs93 (runF Tryd.prog Lk0 400 15 [.int .i64 (.ofNat 93)] (Go.E.start cs93.tabs cs93.A)) = some (cs93.v, cs93.B, [], cs93.objs.map fun x => some x.2) := by kernel_rfl
theorem f_s93 [Sym] : ConFact Tryd.prog 15 [.int .i64 (.ofNat 93)] cs93 := con_of_runF Lk0_ok noCon fn15 k_s93 rfl globIn (tabLt (by decide))
theorem k_s94 : conAns cs94 (runF Tryd.prog Lk0 400 15 [.int .i64 (.ofNat 94)] (Go.E.start cs94.tabs cs94.A)) = some (cs94.v, cs94.B, [], cs94.objs.map fun x => some x.2) := by kernel_rfl
theorem f_s94 [Sym] : ConFact Tryd.prog 15 [.int .i64 (.ofNat 94)] cs94 := con_of_runF Lk0_ok noCon fn15 k_s94 rfl globIn (tabLt (by decide))
theorem k_s95 : conAns cs95 (runF Tryd.prog Lk0 400 15 [.int .i64 (.ofNat 95)] (Go.E.start cs95.tabs cs95.A)) = some (cs95.v, cs95.B, [], cs95.objs.map fun x => some x.2) := by kernel_rfl
theorem f_s95 [Sym] : ConFact Tryd.prog 15 [.int .i64 (.ofNat 95)] cs95 := con_of_runF Lk0_ok noCon fn15 k_s95 rfl globIn (tabLt (by decide))
theorem k_s96 : conAns cs96 (runF Tryd.prog Lk0 400 15 [.int .i64 (.ofNat 96)] (Go.E.start cs96.tabs cs96.A)) = some (cs96.v, cs96.B, [], cs96.objs.map fun x => some x.2) := by kernel_rfl
theorem f_s96 [Sym] : ConFact Tryd.prog 15 [.int .i64 (.ofNat 96)] cs96 := con_of_runF Lk0_ok noCon fn15 k_s96 rfl globIn (tabLt (by decide))
theorem k_s97 : conAns cs97 (runF Tryd.prog Lk0 400 15 [.int .i64 (.ofNat 97)] (Go.E.start cs97.tabs cs97.A)) = some (cs97.v, cs97.B, [], cs97.objs.map fun x => some x.2) := by kernel_rfl
theorem f_s97 [Sym] : ConFact Tryd.prog 15 [.int .i64 (.ofNat 97)] cs97 := con_of_runF Lk0_ok noCon fn15 k_s97 rfl globIn (tabLt (by decide))
theorem k_s98 : conAns cs98 (runF Tryd.prog Lk0 400 15 [.int .i64 (.ofNat 98)] (Go.E.start cs98.tabs cs98.A)) = some (cs98.v, cs98.B, [], cs98.objs.map fun x => some x.2) := by kernel_rfl
theorem f_s98 [Sym] : ConFact Tryd.prog 15 [.int .i64 (.ofNat 98)] cs98 := con_of_runF Lk0_ok noCon fn15 k_s98 rfl globIn (tabLt (by decide))
theorem k_s99 : conAns cs99 (runF Tryd.prog Lk0 400 15 [.int .i64 (.ofNat 99)] (Go.E.start cs99.tabs cs99.A)) = some (cs99.v, cs99.B, [], cs99.objs.map fun x => some x.2) := by kernel_rfl
theorem f_s99 [Sym] : ConFact Tryd.prog 15 [.int .i64 (.ofNat 99)] cs99 := con_of_runF Lk0_ok noCon fn15 k_s99 rfl globIn (tabLt (by decide))
theorem k_s100 : conAns cs100 (runF Tryd.prog Lk0 400 15 [.int .i64 (.ofNat 100)] (Go.E.start cs100.tabs cs100.A)) = some (cs100.v, cs100.B, [], cs100.objs.map fun x => some x.2) := by kernel_rfl
theorem f_s100 [Sym] : ConFact Tryd.prog 15 [.int .i64 (.ofNat 100)] cs100 := con_of_runF Lk0_ok noCon fn15 k_s100 rfl globIn (tabLt (by decide))
theorem k_s101 : conAns cs101 (runF Tryd.prog Lk0 400 15 [.int .i64 (.ofNat 101)] (Go.E.start cs101.tabs cs101.A)) = some (cs101.v, cs101.B, [], cs101.objs.map fun x => some x.2) := by kernel_rfl
theorem f_s101 [Sym] : ConFact Tryd.prog 15 [.int .i64 (.ofNat 101)] cs101 := con_of_runF Lk0_ok noCon fn15 k_s101 rfl globIn (tabLt (by decide))
theorem k_s102 : conAns cs102 (runF Tryd.prog Lk0 400 15 [.int .i64 (.ofNat 102)] (Go.E.start cs102.tabs cs102.A)) = some (cs102.v, cs102.B, [], cs102.objs.map fun x => some x.2) := by kernel_rfl
theorem f_s102 [Sym] : ConFact Tryd.prog 15 [.int .i64 (.ofNat 102)] cs102 := con_of_runF Lk0_ok noCon fn15 k_s102 rfl globIn (tabLt (by decide))
theorem k_s103 : conAns cs103 (runF Tryd.prog Lk0 400 15 [.int .i64 (.ofNat 103)] (Go.E.start cs103.tabs cs103.A)) = some (cs103.v, cs103.B, [], cs103.objs.map fun x => some x.2) := by kernel_rfl
theorem f_s103 [Sym] : ConFact Tryd.prog 15 [.int .i64 (.ofNat 103)] cs103 := con_of_runF Lk0_ok noCon fn15 k_s103 rfl globIn (tabLt (by decide))
theorem k_s104 : conAns cs104 (runF Tryd.prog Lk0 400 15 [.int .i64 (.ofNat 104)] (Go.E.start cs104.tabs cs104.A)) = some (cs104.v, cs104.B, [], cs104.objs.map fun x => some x.2) := by kernel_rfl
theorem f_s104 [Sym] : ConFact Tryd.prog 15 [.int .i64 (.ofNat 104)] cs104 := con_of_runF Lk0_ok noCon fn15 k_s104 rfl globIn (tabLt (by decide))
theorem k_s105 : conAns cs105 (runF Tryd.prog Lk0 400 15 [.int .i64 (.ofNat 105)] (Go.E.start cs105.tabs cs105.A)) = some (cs105.v, cs105.B, [], cs105.objs.map fun x => some x.2) := by kernel_rfl
theorem f_s105 [Sym] : ConFact Tryd.prog 15 [.int .i64 (.ofNat 105)] cs105 := con_of_runF Lk0_ok noCon fn15 k_s105 rfl globIn (tabLt (by decide))
theorem k_s106 : conAns cs106 (runF Tryd.prog Lk0 400 15 [.int .i64 (.ofNat 106)] (Go.E.start cs106.tabs cs106.A)) = some (cs106.v, cs106.B, [], cs106.objs.map fun x => some x.2) := by kernel_rfl
theorem f_s106 [Sym] : ConFact Tryd.prog 15 [.int .i64 (.ofNat 106)] cs106 := con_of_runF Lk0_ok noCon fn15 k_s106 rfl globIn (tabLt (by decide))
theorem k_s107 : conAns cs107 (runF Tryd.prog Lk0 400 15 [.int .i64 (.ofNat 107)] (Go.E.start cs107.tabs cs107.A)) = some (cs107.v, cs107.B, [], cs107.objs.map fun x => some x.2) := by kernel_rfl
theorem f_s107 [Sym] : ConFact Tryd.prog 15 [.int .i64 (.ofNat 107)] cs107 := con_of_runF Lk0_ok noCon fn15 k_s107 rfl globIn (tabLt (by decide))
theorem k_s108 : conAns cs108 (runF Tryd.prog Lk0 400 15 [.int .i64 (.ofNat 108)] (Go.E.start cs108.tabs cs108.A)) = some (cs108.v, cs108.B, [], cs108.objs.map fun x => some x.2) := by kernel_rfl
theorem f_s108 [Sym] : ConFact Tryd.prog 15 [.int .i64 (.ofNat 108)] cs108 := con_of_runF Lk0_ok noCon fn15 k_s108 rfl globIn (tabLt (by decide))
theorem k_s109 : conAns cs109 (runF Tryd.prog Lk0 400 15 [.int .i64 (.ofNat 109)] (Go.E.start cs109.tabs cs109.A)) = some (cs109.v, cs109.B, [], cs109.objs.map fun x => some x.2) := by kernel_rfl
theorem f_s109 [Sym] : ConFact Tryd.prog 15 [.int .i64 (.ofNat 109)] cs109 := con_of_runF Lk0_ok noCon fn15 k_s109 rfl globIn (tabLt (by decide))
theorem k_s110 : conAns cs110 (runF Tryd.prog Lk0 400 15 [.int .i64 (.ofNat 110)] (Go.E.start cs110.tabs cs110.A)) = some (cs110.v, cs110.B, [], cs110.objs.map fun x => some x.2) := by kernel_rfl
theorem f_s110 [Sym] : ConFact Tryd.prog 15 [.int .i64 (.ofNat 110)] cs110 := con_of_runF Lk0_ok noCon fn15 k_s110 rfl globIn (tabLt (by decide))
theorem k_s111 : conAns cs111 (runF Tryd.prog Lk0 400 15 [.int .i64 (.ofNat 111)] (Go.E.start cs111.tabs cs111.A)) = some (cs111.v, cs111.B, [], cs111.objs.map fun x => some x.2) := by kernel_rfl
theorem f_s111 [Sym] : ConFact Tryd.prog 15 [.int .i64 (.ofNat 111)] cs111 := con_of_runF Lk0_ok noCon fn15 k_s111 rfl globIn (tabLt (by decide))
theorem k_s112 : conAns cs112 (runF Tryd.prog Lk0 400 15 [.int .i64 (.ofNat 112)] (Go.E.start cs112.tabs cs112.A)) = some (cs112.v, cs112.B, [], cs112.objs.map fun x => some x.2) := by kernel_rfl
theorem f_s112 [Sym] : ConFact Tryd.prog 15 [.int .i64 (.ofNat 112)] cs112 := con_of_runF Lk0_ok noCon fn15 k_s112 rfl globIn (tabLt (by decide))
theorem k_s113 : conAns cs113 (runF Tryd.prog Lk0 400 15 [.int .i64 (.ofNat 113)] (Go.E.start cs113.tabs cs113.A)) = some (cs113.v, cs113.B, [], cs113.objs.map fun x => some x.2) := by kernel_rfl
theorem f_s113 [Sym] : ConFact Tryd.prog 15 [.int .i64 (.ofNat 113)] cs113 := con_of_runF Lk0_ok noCon fn15 k_s113 rfl globIn (tabLt (by decide))
theorem k_s114 : conAns cs114 (runF Tryd.prog Lk0 400 15 [.int .i64 (.ofNat 114)] (Go.E.start cs114.tabs cs114.A)) = some (cs114.v, cs114.B, [], cs114.objs.map fun x => some x.2) := by kernel_rfl
theorem f_s114 [Sym] : ConFact Tryd.prog 15 [.int .i64 (.ofNat 114)] cs114 := con_of_runF Lk0_ok noCon fn15 k_s114 rfl globIn (tabLt (by decide))
theorem k_s115 : conAns cs115 (runF Tryd.prog Lk0 400 15 [.int .i64 (.ofNat 115)] (Go.E.start cs115.tabs cs115.A)) = some (cs115.v, cs115.B, [], cs115.objs.map fun x => some x.2) := by kernel_rfl
theorem f_s115 [Sym] : ConFact Tryd.prog 15 [.int .i64 (.ofNat 115)] cs115 := con_of_runF Lk0_ok noCon fn15 k_s115 rfl globIn (tabLt (by decide))
theorem k_s116 : conAns cs116 (runF Tryd.prog Lk0 400 15 [.int .i64 (.ofNat 116)] (Go.E.start cs116.tabs cs116.A)) = some (cs116.v, cs116.B, [], cs116.objs.map fun x => some x.2) := by kernel_rfl
theorem f_s116 [Sym] : ConFact Tryd.prog 15 [.int .i64 (.ofNat 116)] cs116 := con_of_runF Lk0_ok noCon fn15 k_s116 rfl globIn (tabLt (by decide))
theorem k_s117 : conAns cs117 (runF Tryd.prog Lk0 400 15 [.int .i64 (.ofNat 117)] (Go.E.start cs117.tabs cs117.A)) = some (cs117.v, cs117.B, [], cs117.objs.map fun x => some x.2) := by kernel_rfl
theorem f_s117 [Sym] : ConFact Tryd.prog 15 [.int .i64 (.ofNat 117)] cs117 := con_of_runF Lk0_ok noCon fn15 k_s117 rfl globIn (tabLt (by decide))
theorem k_s118 : conAns cs118 (runF Tryd.prog Lk0 400 15 [.int .i64 (.ofNat 118)] (Go.E.start cs118.tabs cs118.A)) = some (cs118.v, cs118.B, [], cs118.objs.map fun x => some x.2) := by kernel_rfl
theorem f_s118 [Sym] : ConFact Tryd.prog 15 [.int .i64 (.ofNat 118)] cs118 := con_of_runF Lk0_ok noCon fn15 k_s118 rfl globIn (tabLt (by decide))
theorem k_s119 : conAns cs119 (runF Tryd.prog Lk0 400 15 [.int .i64 (.ofNat 119)] (Go.E.start cs119.tabs cs119.A)) = some (cs119.v, cs119.B, [], cs119.objs.map fun x => some x.2) := by kernel_rfl
theorem f_s119 [Sym] : ConFact Tryd.prog 15 [.int .i64 (.ofNat 119)] cs119 := con_of_runF Lk0_ok noCon fn15 k_s119 rfl globIn (tabLt (by decide))
theorem k_s120 : conAns cs120 (runF Tryd.prog Lk0 400 15 [.int .i64 (.ofNat 120)] (Go.E.start cs120.tabs cs120.A)) = some (cs120.v, cs120.B, [], cs120.objs.map fun x => some x.2) := by kernel_rfl
theorem f_s120 [Sym] : ConFact Tryd.prog 15 [.int .i64 (.ofNat 120)] cs120 := con_of_runF Lk0_ok noCon fn15 k_s120 rfl globIn (tabLt (by decide))
theorem k_s121 : conAns cs121 (runF Tryd.prog Lk0 400 15 [.int .i64 (.ofNat 121)] (Go.E.start cs121.tabs cs121.A)) = some (cs121.v, cs121.B, [], cs121.objs.map fun x => some x.2) := by kernel_rfl
theorem f_s121 [Sym] : ConFact Tryd.prog 15 [.int .i64 (.ofNat 121)] cs121 := con_of_runF Lk0_ok noCon fn15 k_s121 rfl globIn (tabLt (by decide))
theorem k_s122 : conAns cs122 (runF Tryd.prog Lk0 400 15 [.int .i64 (.ofNat 122)] (Go.E.start cs122.tabs cs122.A)) = some (cs122.v, cs122.B, [], cs122.objs.map fun x => some x.2) := by kernel_rfl
theorem f_s122 [Sym] : ConFact Tryd.prog 15 [.int .i64 (.ofNat 122)] cs122 := con_of_runF Lk0_ok noCon fn15 k_s122 rfl globIn (tabLt (by decide))
theorem k_s123 : conAns cs123 (runF Tryd.prog Lk0 400 15 [.int .i64 (.ofNat 123)] (Go.E.start cs123.tabs cs123.A)) = some (cs123.v, cs123.B, [], cs123.objs.map fun x => some x.2) := by kernel_rfl
theorem f_s123 [Sym] : ConFact Tryd.prog 15 [.int .i64 (.ofNat 123)] cs123 := con_of_runF Lk0_ok noCon fn15 k_s123 rfl globIn (tabLt (by decide))
theorem k_s124 : conAns cs124 (runF Tryd.prog Lk0 400 15 [.int .i64 (.ofNat 124)] (Go.E.start cs124.tabs cs124.A)) = some (cs124.v, cs124.B, [], cs124.objs.map fun x => some x.2) := by kernel_rfl
theorem f_s124 [Sym] : ConFact Tryd.prog 15 [.int .i64 (.ofNat 124)] cs124 := con_of_runF Lk0_ok noCon fn15 k_s124 rfl globIn (tabLt (by decide))
theorem k_s125 : conAns cs125 (runF Tryd.prog Lk0 400 15 [.int .i64 (.ofNat 125)] (Go.E.start cs125.tabs cs125.A)) = some (cs125.v, cs125.B, [], cs125.objs.map fun x => some x.2) := by kernel_rfl
theorem f_s125 [Sym] : ConFact Tryd.prog 15 [.int .i64 (.ofNat 125)] cs125 := con_of_runF Lk0_ok noCon fn15 k_s125 rfl globIn (tabLt (by decide))
theorem k_s126 : conAns cs126 (runF Tryd.prog Lk0 400 15 [.int .i64 (.ofNat 126)] (Go.E.start cs126.tabs cs126.A)) = some (cs126.v, cs126.B, [], cs126.objs.map fun x => some x.2) := by kernel_rfl
theorem f_s126 [Sym] : ConFact Tryd.prog 15 [.int .i64 (.ofNat 126)] cs126 := con_of_runF Lk0_ok noCon fn15 k_s126 rfl globIn (tabLt (by decide))
theorem k_s127 : conAns cs127 (runF Tryd.prog Lk0 400 15 [.int .i64 (.ofNat 127)] (Go.E.start cs127.tabs cs127.A)) = some (cs127.v, cs127.B, [], cs127.objs.map fun x => some x.2) := by kernel_rfl
theorem f_s127 [Sym] : ConFact Tryd.prog 15 [.int .i64 (.ofNat 127)] cs127 := con_of_runF Lk0_ok noCon fn15 k_s127 rfl globIn (tabLt (by decide))
end Go.Proofs.YtfgdoliihmjnoaaDoorE
