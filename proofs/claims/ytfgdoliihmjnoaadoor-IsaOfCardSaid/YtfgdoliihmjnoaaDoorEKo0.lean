/- Closed runs. Printed by gen_con.py. -/
import Derived.Test.YtfgdoliihmjnoaaDoorECo
set_option linter.unusedSimpArgs false
set_option linter.unusedVariables false
namespace Go.Proofs.YtfgdoliihmjnoaaDoorE
open Go Go.E Go.Proofs
set_option maxRecDepth 100000
theorem k_o0 : conAns cr0 (runF Tryd.prog LkA 900 16 [.int .i64 (.ofNat 0)] (Go.E.start cr0.tabs cr0.A)) = some (cr0.v, cr0.B, [], cr0.objs.map fun x => some x.2) := by kernel_rfl
theorem f_o0 [Sym] : ConFact Tryd.prog 16 [.int .i64 (.ofNat 0)] cr0 := con_of_runF LkA_ok conA_ok fn16 k_o0 rfl globIn (tabLt (by decide))
theorem k_o1 : conAns cr1 (runF Tryd.prog LkA 900 16 [.int .i64 (.ofNat 1)] (Go.E.start cr1.tabs cr1.A)) = some (cr1.v, cr1.B, [], cr1.objs.map fun x => some x.2) := by kernel_rfl
theorem f_o1 [Sym] : ConFact Tryd.prog 16 [.int .i64 (.ofNat 1)] cr1 := con_of_runF LkA_ok conA_ok fn16 k_o1 rfl globIn (tabLt (by decide))
theorem k_o2 : conAns cr2 (runF Tryd.prog LkA 900 16 [.int .i64 (.ofNat 2)] (Go.E.start cr2.tabs cr2.A)) = some (cr2.v, cr2.B, [], cr2.objs.map fun x => some x.2) := by kernel_rfl
theorem f_o2 [Sym] : ConFact Tryd.prog 16 [.int .i64 (.ofNat 2)] cr2 := con_of_runF LkA_ok conA_ok fn16 k_o2 rfl globIn (tabLt (by decide))
theorem k_o3 : conAns cr3 (runF Tryd.prog LkA 900 16 [.int .i64 (.ofNat 3)] (Go.E.start cr3.tabs cr3.A)) = some (cr3.v, cr3.B, [], cr3.objs.map fun x => some x.2) := by kernel_rfl
theorem f_o3 [Sym] : ConFact Tryd.prog 16 [.int .i64 (.ofNat 3)] cr3 := con_of_runF LkA_ok conA_ok fn16 k_o3 rfl globIn (tabLt (by decide))
theorem k_o4 : conAns cr4 (runF Tryd.prog LkA 900 16 [.int .i64 (.ofNat 4)] (Go.E.start cr4.tabs cr4.A)) = some (cr4.v, cr4.B, [], cr4.objs.map fun x => some x.2) := by kernel_rfl
theorem f_o4 [Sym] : ConFact Tryd.prog 16 [.int .i64 (.ofNat 4)] cr4 := con_of_runF LkA_ok conA_ok fn16 k_o4 rfl globIn (tabLt (by decide))
theorem k_o5 : conAns cr5 (runF Tryd.prog LkA 900 16 [.int .i64 (.ofNat 5)] (Go.E.start cr5.tabs cr5.A)) = some (cr5.v, cr5.B, [], cr5.objs.map fun x => some x.2) := by kernel_rfl
theorem f_o5 [Sym] : ConFact Tryd.prog 16 [.int .i64 (.ofNat 5)] cr5 := con_of_runF LkA_ok conA_ok fn16 k_o5 rfl globIn (tabLt (by decide))
theorem k_o6 : conAns cr6 (runF Tryd.prog LkA 900 16 [.int .i64 (.ofNat 6)] (Go.E.start cr6.tabs cr6.A)) = some (cr6.v, cr6.B, [], cr6.objs.map fun x => some x.2) := by kernel_rfl
theorem f_o6 [Sym] : ConFact Tryd.prog 16 [.int .i64 (.ofNat 6)] cr6 := con_of_runF LkA_ok conA_ok fn16 k_o6 rfl globIn (tabLt (by decide))
theorem k_o7 : conAns cr7 (runF Tryd.prog LkA 900 16 [.int .i64 (.ofNat 7)] (Go.E.start cr7.tabs cr7.A)) = some (cr7.v, cr7.B, [], cr7.objs.map fun x => some x.2) := by kernel_rfl
theorem f_o7 [Sym] : ConFact Tryd.prog 16 [.int .i64 (.ofNat 7)] cr7 := con_of_runF LkA_ok conA_ok fn16 k_o7 rfl globIn (tabLt (by decide))
theorem k_o8 : conAns cr8 (runF Tryd.prog LkA 900 16 [.int .i64 (.ofNat 8)] (Go.E.start cr8.tabs cr8.A)) = some (cr8.v, cr8.B, [], cr8.objs.map fun x => some x.2) := by kernel_rfl
theorem f_o8 [Sym] : ConFact Tryd.prog 16 [.int .i64 (.ofNat 8)] cr8 := con_of_runF LkA_ok conA_ok fn16 k_o8 rfl globIn (tabLt (by decide))
theorem k_o9 : conAns cr9 (runF Tryd.prog LkA 900 16 [.int .i64 (.ofNat 9)] (Go.E.start cr9.tabs cr9.A)) = some (cr9.v, cr9.B, [], cr9.objs.map fun x => some x.2) := by kernel_rfl
theorem f_o9 [Sym] : ConFact Tryd.prog 16 [.int .i64 (.ofNat 9)] cr9 := con_of_runF LkA_ok conA_ok fn16 k_o9 rfl globIn (tabLt (by decide))
theorem k_o10 : conAns cr10 (runF Tryd.prog LkA 900 16 [.int .i64 (.ofNat 10)] (Go.E.start cr10.tabs cr10.A)) = some (cr10.v, cr10.B, [], cr10.objs.map fun x => some x.2) := by kernel_rfl
theorem f_o10 [Sym] : ConFact Tryd.prog 16 [.int .i64 (.ofNat 10)] cr10 := con_of_runF LkA_ok conA_ok fn16 k_o10 rfl globIn (tabLt (by decide))
theorem k_o11 : conAns cr11 (runF Tryd.prog LkA 900 16 [.int .i64 (.ofNat 11)] (Go.E.start cr11.tabs cr11.A)) = some (cr11.v, cr11.B, [], cr11.objs.map fun x => some x.2) := by kernel_rfl
theorem f_o11 [Sym] : ConFact Tryd.prog 16 [.int .i64 (.ofNat 11)] cr11 := con_of_runF LkA_ok conA_ok fn16 k_o11 rfl globIn (tabLt (by decide))
theorem k_o12 : conAns cr12 (runF Tryd.prog LkA 900 16 [.int .i64 (.ofNat 12)] (Go.E.start cr12.tabs cr12.A)) = some (cr12.v, cr12.B, [], cr12.objs.map fun x => some x.2) := by kernel_rfl
theorem f_o12 [Sym] : ConFact Tryd.prog 16 [.int .i64 (.ofNat 12)] cr12 := con_of_runF LkA_ok conA_ok fn16 k_o12 rfl globIn (tabLt (by decide))
theorem k_o13 : conAns cr13 (runF Tryd.prog LkA 900 16 [.int .i64 (.ofNat 13)] (Go.E.start cr13.tabs cr13.A)) = some (cr13.v, cr13.B, [], cr13.objs.map fun x => some x.2) := by kernel_rfl
theorem f_o13 [Sym] : ConFact Tryd.prog 16 [.int .i64 (.ofNat 13)] cr13 := con_of_runF LkA_ok conA_ok fn16 k_o13 rfl globIn (tabLt (by decide))
theorem k_o14 : conAns cr14 (runF Tryd.prog LkA 900 16 [.int .i64 (.ofNat 14)] (Go.E.start cr14.tabs cr14.A)) = some (cr14.v, cr14.B, [], cr14.objs.map fun x => some x.2) := by kernel_rfl
theorem f_o14 [Sym] : ConFact Tryd.prog 16 [.int .i64 (.ofNat 14)] cr14 := con_of_runF LkA_ok conA_ok fn16 k_o14 rfl globIn (tabLt (by decide))
theorem k_o15 : conAns cr15 (runF Tryd.prog LkA 900 16 [.int .i64 (.ofNat 15)] (Go.E.start cr15.tabs cr15.A)) = some (cr15.v, cr15.B, [], cr15.objs.map fun x => some x.2) := by kernel_rfl
theorem f_o15 [Sym] : ConFact Tryd.prog 16 [.int .i64 (.ofNat 15)] cr15 := con_of_runF LkA_ok conA_ok fn16 k_o15 rfl globIn (tabLt (by decide))
theorem k_o16 : conAns cr16 (runF Tryd.prog LkA 900 16 [.int .i64 (.ofNat 16)] (Go.E.start cr16.tabs cr16.A)) = some (cr16.v, cr16.B, [], cr16.objs.map fun x => some x.2) := by kernel_rfl
theorem f_o16 [Sym] : ConFact Tryd.prog 16 [.int .i64 (.ofNat 16)] cr16 := con_of_runF LkA_ok conA_ok fn16 k_o16 rfl globIn (tabLt (by decide))
theorem k_o17 : conAns cr17 (runF Tryd.prog LkA 900 16 [.int .i64 (.ofNat 17)] (Go.E.start cr17.tabs cr17.A)) = some (cr17.v, cr17.B, [], cr17.objs.map fun x => some x.2) := by kernel_rfl
theorem f_o17 [Sym] : ConFact Tryd.prog 16 [.int .i64 (.ofNat 17)] cr17 := con_of_runF LkA_ok conA_ok fn16 k_o17 rfl globIn (tabLt (by decide))
theorem k_o18 : conAns cr18 (runF Tryd.prog LkA 900 16 [.int .i64 (.ofNat 18)] (Go.E.start cr18.tabs cr18.A)) = some (cr18.v, cr18.B, [], cr18.objs.map fun x => some x.2) := by kernel_rfl
theorem f_o18 [Sym] : ConFact Tryd.prog 16 [.int .i64 (.ofNat 18)] cr18 := con_of_runF LkA_ok conA_ok fn16 k_o18 rfl globIn (tabLt (by decide))
theorem k_o19 : conAns cr19 (runF Tryd.prog LkA 900 16 [.int .i64 (.ofNat 19)] (Go.E.start cr19.tabs cr19.A)) = some (cr19.v, cr19.B, [], cr19.objs.map fun x => some x.2) := by kernel_rfl
theorem f_o19 [Sym] : ConFact Tryd.prog 16 [.int .i64 (.ofNat 19)] cr19 := con_of_runF LkA_ok conA_ok fn16 k_o19 rfl globIn (tabLt (by decide))
theorem k_o20 : conAns cr20 (runF Tryd.prog LkA 900 16 [.int .i64 (.ofNat 20)] (Go.E.start cr20.tabs cr20.A)) = some (cr20.v, cr20.B, [], cr20.objs.map fun x => some x.2) := by kernel_rfl
theorem f_o20 [Sym] : ConFact Tryd.prog 16 [.int .i64 (.ofNat 20)] cr20 := con_of_runF LkA_ok conA_ok fn16 k_o20 rfl globIn (tabLt (by decide))
theorem k_o21 : conAns cr21 (runF Tryd.prog LkA 900 16 [.int .i64 (.ofNat 21)] (Go.E.start cr21.tabs cr21.A)) = some (cr21.v, cr21.B, [], cr21.objs.map fun x => some x.2) := by kernel_rfl
theorem f_o21 [Sym] : ConFact Tryd.prog 16 [.int .i64 (.ofNat 21)] cr21 := con_of_runF LkA_ok conA_ok fn16 k_o21 rfl globIn (tabLt (by decide))
theorem k_o22 : conAns cr22 (runF Tryd.prog LkA 900 16 [.int .i64 (.ofNat 22)] (Go.E.start cr22.tabs cr22.A)) = some (cr22.v, cr22.B, [], cr22.objs.map fun x => some x.2) := by kernel_rfl
theorem f_o22 [Sym] : ConFact Tryd.prog 16 [.int .i64 (.ofNat 22)] cr22 := con_of_runF LkA_ok conA_ok fn16 k_o22 rfl globIn (tabLt (by decide))
theorem k_o23 : conAns cr23 (runF Tryd.prog LkA 900 16 [.int .i64 (.ofNat 23)] (Go.E.start cr23.tabs cr23.A)) = some (cr23.v, cr23.B, [], cr23.objs.map fun x => some x.2) := by kernel_rfl
theorem f_o23 [Sym] : ConFact Tryd.prog 16 [.int .i64 (.ofNat 23)] cr23 := con_of_runF LkA_ok conA_ok fn16 k_o23 rfl globIn (tabLt (by decide))
theorem k_o24 : conAns cr24 (runF Tryd.prog LkA 900 16 [.int .i64 (.ofNat 24)] (Go.E.start cr24.tabs cr24.A)) = some (cr24.v, cr24.B, [], cr24.objs.map fun x => some x.2) := by kernel_rfl
theorem f_o24 [Sym] : ConFact Tryd.prog 16 [.int .i64 (.ofNat 24)] cr24 := con_of_runF LkA_ok conA_ok fn16 k_o24 rfl globIn (tabLt (by decide))
theorem k_o25 : conAns cr25 (runF Tryd.prog LkA 900 16 [.int .i64 (.ofNat 25)] (Go.E.start cr25.tabs cr25.A)) = some (cr25.v, cr25.B, [], cr25.objs.map fun x => some x.2) := by kernel_rfl
theorem f_o25 [Sym] : ConFact Tryd.prog 16 [.int .i64 (.ofNat 25)] cr25 := con_of_runF LkA_ok conA_ok fn16 k_o25 rfl globIn (tabLt (by decide))
theorem k_o26 : conAns cr26 (runF Tryd.prog LkA 900 16 [.int .i64 (.ofNat 26)] (Go.E.start cr26.tabs cr26.A)) = some (cr26.v, cr26.B, [], cr26.objs.map fun x => some x.2) := by kernel_rfl
theorem f_o26 [Sym] : ConFact Tryd.prog 16 [.int .i64 (.ofNat 26)] cr26 := con_of_runF LkA_ok conA_ok fn16 k_o26 rfl globIn (tabLt (by decide))
theorem k_o27 : conAns cr27 (runF Tryd.prog LkA 900 16 [.int .i64 (.ofNat 27)] (Go.E.start cr27.tabs cr27.A)) = some (cr27.v, cr27.B, [], cr27.objs.map fun x => some x.2) := by kernel_rfl
theorem f_o27 [Sym] : ConFact Tryd.prog 16 [.int .i64 (.ofNat 27)] cr27 := con_of_runF LkA_ok conA_ok fn16 k_o27 rfl globIn (tabLt (by decide))
theorem k_o28 : conAns cr28 (runF Tryd.prog LkA 900 16 [.int .i64 (.ofNat 28)] (Go.E.start cr28.tabs cr28.A)) = some (cr28.v, cr28.B, [], cr28.objs.map fun x => some x.2) := by kernel_rfl
theorem f_o28 [Sym] : ConFact Tryd.prog 16 [.int .i64 (.ofNat 28)] cr28 := con_of_runF LkA_ok conA_ok fn16 k_o28 rfl globIn (tabLt (by decide))
theorem k_o29 : conAns cr29 (runF Tryd.prog LkA 900 16 [.int .i64 (.ofNat 29)] (Go.E.start cr29.tabs cr29.A)) = some (cr29.v, cr29.B, [], cr29.objs.map fun x => some x.2) := by kernel_rfl
theorem f_o29 [Sym] : ConFact Tryd.prog 16 [.int .i64 (.ofNat 29)] cr29 := con_of_runF LkA_ok conA_ok fn16 k_o29 rfl globIn (tabLt (by decide))
theorem k_o30 : conAns cr30 (runF Tryd.prog LkA 900 16 [.int .i64 (.ofNat 30)] (Go.E.start cr30.tabs cr30.A)) = some (cr30.v, cr30.B, [], cr30.objs.map fun x => some x.2) := by kernel_rfl
theorem f_o30 [Sym] : ConFact Tryd.prog 16 [.int .i64 (.ofNat 30)] cr30 := con_of_runF LkA_ok conA_ok fn16 k_o30 rfl globIn (tabLt (by decide))
theorem k_o31 : conAns cr31 (runF Tryd.prog LkA 900 16 [.int .i64 (.ofNat 31)] (Go.E.start cr31.tabs cr31.A)) = some (cr31.v, cr31.B, [], cr31.objs.map fun x => some x.2) := by kernel_rfl
theorem f_o31 [Sym] : ConFact Tryd.prog 16 [.int .i64 (.ofNat 31)] cr31 := con_of_runF LkA_ok conA_ok fn16 k_o31 rfl globIn (tabLt (by decide))
theorem k_o32 : conAns cr32 (runF Tryd.prog LkA 900 16 [.int .i64 (.ofNat 32)] (Go.E.start cr32.tabs cr32.A)) = some (cr32.v, cr32.B, [], cr32.objs.map fun x => some x.2) := by kernel_rfl
theorem f_o32 [Sym] : ConFact Tryd.prog 16 [.int .i64 (.ofNat 32)] cr32 := con_of_runF LkA_ok conA_ok fn16 k_o32 rfl globIn (tabLt (by decide))
theorem k_o33 : conAns cr33 (runF Tryd.prog LkA 900 16 [.int .i64 (.ofNat 33)] (Go.E.start cr33.tabs cr33.A)) = some (cr33.v, cr33.B, [], cr33.objs.map fun x => some x.2) := by kernel_rfl
theorem f_o33 [Sym] : ConFact Tryd.prog 16 [.int .i64 (.ofNat 33)] cr33 := con_of_runF LkA_ok conA_ok fn16 k_o33 rfl globIn (tabLt (by decide))
theorem k_o34 : conAns cr34 (runF Tryd.prog LkA 900 16 [.int .i64 (.ofNat 34)] (Go.E.start cr34.tabs cr34.A)) = some (cr34.v, cr34.B, [], cr34.objs.map fun x => some x.2) := by kernel_rfl
theorem f_o34 [Sym] : ConFact Tryd.prog 16 [.int .i64 (.ofNat 34)] cr34 := con_of_runF LkA_ok conA_ok fn16 k_o34 rfl globIn (tabLt (by decide))
theorem k_o35 : conAns cr35 (runF Tryd.prog LkA 900 16 [.int .i64 (.ofNat 35)] (Go.E.start cr35.tabs cr35.A)) = some (cr35.v, cr35.B, [], cr35.objs.map fun x => some x.2) := by kernel_rfl
theorem f_o35 [Sym] : ConFact Tryd.prog 16 [.int .i64 (.ofNat 35)] cr35 := con_of_runF LkA_ok conA_ok fn16 k_o35 rfl globIn (tabLt (by decide))
theorem k_o36 : conAns cr36 (runF Tryd.prog LkA 900 16 [.int .i64 (.ofNat 36)] (Go.E.start cr36.tabs cr36.A)) = some (cr36.v, cr36.B, [], cr36.objs.map fun x => some x.2) := by kernel_rfl
theorem f_o36 [Sym] : ConFact Tryd.prog 16 [.int .i64 (.ofNat 36)] cr36 := con_of_runF LkA_ok conA_ok fn16 k_o36 rfl globIn (tabLt (by decide))
theorem k_o37 : conAns cr37 (runF Tryd.prog LkA 900 16 [.int .i64 (.ofNat 37)] (Go.E.start cr37.tabs cr37.A)) = some (cr37.v, cr37.B, [], cr37.objs.map fun x => some x.2) := by kernel_rfl
theorem f_o37 [Sym] : ConFact Tryd.prog 16 [.int .i64 (.ofNat 37)] cr37 := con_of_runF LkA_ok conA_ok fn16 k_o37 rfl globIn (tabLt (by decide))
theorem k_o38 : conAns cr38 (runF Tryd.prog LkA 900 16 [.int .i64 (.ofNat 38)] (Go.E.start cr38.tabs cr38.A)) = some (cr38.v, cr38.B, [], cr38.objs.map fun x => some x.2) := by kernel_rfl
theorem f_o38 [Sym] : ConFact Tryd.prog 16 [.int .i64 (.ofNat 38)] cr38 := con_of_runF LkA_ok conA_ok fn16 k_o38 rfl globIn (tabLt (by decide))
theorem k_o39 : conAns cr39 (runF Tryd.prog LkA 900 16 [.int .i64 (.ofNat 39)] (Go.E.start cr39.tabs cr39.A)) = some (cr39.v, cr39.B, [], cr39.objs.map fun x => some x.2) := by kernel_rfl
theorem f_o39 [Sym] : ConFact Tryd.prog 16 [.int .i64 (.ofNat 39)] cr39 := con_of_runF LkA_ok conA_ok fn16 k_o39 rfl globIn (tabLt (by decide))
theorem k_o40 : conAns cr40 (runF Tryd.prog LkA 900 16 [.int .i64 (.ofNat 40)] (Go.E.start cr40.tabs cr40.A)) = some (cr40.v, cr40.B, [], cr40.objs.map fun x => some x.2) := by kernel_rfl
theorem f_o40 [Sym] : ConFact Tryd.prog 16 [.int .i64 (.ofNat 40)] cr40 := con_of_runF LkA_ok conA_ok fn16 k_o40 rfl globIn (tabLt (by decide))
theorem k_o41 : conAns cr41 (runF Tryd.prog LkA 900 16 [.int .i64 (.ofNat 41)] (Go.E.start cr41.tabs cr41.A)) = some (cr41.v, cr41.B, [], cr41.objs.map fun x => some x.2) := by kernel_rfl
theorem f_o41 [Sym] : ConFact Tryd.prog 16 [.int .i64 (.ofNat 41)] cr41 := con_of_runF LkA_ok conA_ok fn16 k_o41 rfl globIn (tabLt (by decide))
theorem k_o42 : conAns cr42 (runF Tryd.prog LkA 900 16 [.int .i64 (.ofNat 42)] (Go.E.start cr42.tabs cr42.A)) = some (cr42.v, cr42.B, [], cr42.objs.map fun x => some x.2) := by kernel_rfl
theorem f_o42 [Sym] : ConFact Tryd.prog 16 [.int .i64 (.ofNat 42)] cr42 := con_of_runF LkA_ok conA_ok fn16 k_o42 rfl globIn (tabLt (by decide))
theorem k_o43 : conAns cr43 (runF Tryd.prog LkA 900 16 [.int .i64 (.ofNat 43)] (Go.E.start cr43.tabs cr43.A)) = some (cr43.v, cr43.B, [], cr43.objs.map fun x => some x.2) := by kernel_rfl
theorem f_o43 [Sym] : ConFact Tryd.prog 16 [.int .i64 (.ofNat 43)] cr43 := con_of_runF LkA_ok conA_ok fn16 k_o43 rfl globIn (tabLt (by decide))
theorem k_o44 : conAns cr44 (runF Tryd.prog LkA 900 16 [.int .i64 (.ofNat 44)] (Go.E.start cr44.tabs cr44.A)) = some (cr44.v, cr44.B, [], cr44.objs.map fun x => some x.2) := by kernel_rfl
theorem f_o44 [Sym] : ConFact Tryd.prog 16 [.int .i64 (.ofNat 44)] cr44 := con_of_runF LkA_ok conA_ok fn16 k_o44 rfl globIn (tabLt (by decide))
theorem k_o45 : conAns cr45 (runF Tryd.prog LkA 900 16 [.int .i64 (.ofNat 45)] (Go.E.start cr45.tabs cr45.A)) = some (cr45.v, cr45.B, [], cr45.objs.map fun x => some x.2) := by kernel_rfl
theorem f_o45 [Sym] : ConFact Tryd.prog 16 [.int .i64 (.ofNat 45)] cr45 := con_of_runF LkA_ok conA_ok fn16 k_o45 rfl globIn (tabLt (by decide))
theorem k_o46 : conAns cr46 (runF Tryd.prog LkA 900 16 [.int .i64 (.ofNat 46)] (Go.E.start cr46.tabs cr46.A)) = some (cr46.v, cr46.B, [], cr46.objs.map fun x => some x.2) := by kernel_rfl
theorem f_o46 [Sym] : ConFact Tryd.prog 16 [.int .i64 (.ofNat 46)] cr46 := con_of_runF LkA_ok conA_ok fn16 k_o46 rfl globIn (tabLt (by decide))
theorem k_o47 : conAns cr47 (runF Tryd.prog LkA 900 16 [.int .i64 (.ofNat 47)] (Go.E.start cr47.tabs cr47.A)) = some (cr47.v, cr47.B, [], cr47.objs.map fun x => some x.2) := by kernel_rfl
theorem f_o47 [Sym] : ConFact Tryd.prog 16 [.int .i64 (.ofNat 47)] cr47 := con_of_runF LkA_ok conA_ok fn16 k_o47 rfl globIn (tabLt (by decide))
theorem k_o48 : conAns cr48 (runF Tryd.prog LkA 900 16 [.int .i64 (.ofNat 48)] (Go.E.start cr48.tabs cr48.A)) = some (cr48.v, cr48.B, [], cr48.objs.map fun x => some x.2) := by kernel_rfl
theorem f_o48 [Sym] : ConFact Tryd.prog 16 [.int .i64 (.ofNat 48)] cr48 := con_of_runF LkA_ok conA_ok fn16 k_o48 rfl globIn (tabLt (by decide))
theorem k_o49 : conAns cr49 (runF Tryd.prog LkA 900 16 [.int .i64 (.ofNat 49)] (Go.E.start cr49.tabs cr49.A)) = some (cr49.v, cr49.B, [], cr49.objs.map fun x => some x.2) := by kernel_rfl
theorem f_o49 [Sym] : ConFact Tryd.prog 16 [.int .i64 (.ofNat 49)] cr49 := con_of_runF LkA_ok conA_ok fn16 k_o49 rfl globIn (tabLt (by decide))
theorem k_o50 : conAns cr50 (runF Tryd.prog LkA 900 16 [.int .i64 (.ofNat 50)] (Go.E.start cr50.tabs cr50.A)) = some (cr50.v, cr50.B, [], cr50.objs.map fun x => some x.2) := by kernel_rfl
theorem f_o50 [Sym] : ConFact Tryd.prog 16 [.int .i64 (.ofNat 50)] cr50 := con_of_runF LkA_ok conA_ok fn16 k_o50 rfl globIn (tabLt (by decide))
theorem k_o51 : conAns cr51 (runF Tryd.prog LkA 900 16 [.int .i64 (.ofNat 51)] (Go.E.start cr51.tabs cr51.A)) = some (cr51.v, cr51.B, [], cr51.objs.map fun x => some x.2) := by kernel_rfl
theorem f_o51 [Sym] : ConFact Tryd.prog 16 [.int .i64 (.ofNat 51)] cr51 := con_of_runF LkA_ok conA_ok fn16 k_o51 rfl globIn (tabLt (by decide))
theorem k_o52 : conAns cr52 (runF Tryd.prog LkA 900 16 [.int .i64 (.ofNat 52)] (Go.E.start cr52.tabs cr52.A)) = some (cr52.v, cr52.B, [], cr52.objs.map fun x => some x.2) := by kernel_rfl
theorem f_o52 [Sym] : ConFact Tryd.prog 16 [.int .i64 (.ofNat 52)] cr52 := con_of_runF LkA_ok conA_ok fn16 k_o52 rfl globIn (tabLt (by decide))
theorem k_o53 : conAns cr53 (runF Tryd.prog LkA 900 16 [.int .i64 (.ofNat 53)] (Go.E.start cr53.tabs cr53.A)) = some (cr53.v, cr53.B, [], cr53.objs.map fun x => some x.2) := by kernel_rfl
theorem f_o53 [Sym] : ConFact Tryd.prog 16 [.int .i64 (.ofNat 53)] cr53 := con_of_runF LkA_ok conA_ok fn16 k_o53 rfl globIn (tabLt (by decide))
theorem k_o54 : conAns cr54 (runF Tryd.prog LkA 900 16 [.int .i64 (.ofNat 54)] (Go.E.start cr54.tabs cr54.A)) = some (cr54.v, cr54.B, [], cr54.objs.map fun x => some x.2) := by kernel_rfl
theorem f_o54 [Sym] : ConFact Tryd.prog 16 [.int .i64 (.ofNat 54)] cr54 := con_of_runF LkA_ok conA_ok fn16 k_o54 rfl globIn (tabLt (by decide))
theorem k_o55 : conAns cr55 (runF Tryd.prog LkA 900 16 [.int .i64 (.ofNat 55)] (Go.E.start cr55.tabs cr55.A)) = some (cr55.v, cr55.B, [], cr55.objs.map fun x => some x.2) := by kernel_rfl
theorem f_o55 [Sym] : ConFact Tryd.prog 16 [.int .i64 (.ofNat 55)] cr55 := con_of_runF LkA_ok conA_ok fn16 k_o55 rfl globIn (tabLt (by decide))
theorem k_o56 : conAns cr56 (runF Tryd.prog LkA 900 16 [.int .i64 (.ofNat 56)] (Go.E.start cr56.tabs cr56.A)) = some (cr56.v, cr56.B, [], cr56.objs.map fun x => some x.2) := by kernel_rfl
theorem f_o56 [Sym] : ConFact Tryd.prog 16 [.int .i64 (.ofNat 56)] cr56 := con_of_runF LkA_ok conA_ok fn16 k_o56 rfl globIn (tabLt (by decide))
theorem k_o57 : conAns cr57 (runF Tryd.prog LkA 900 16 [.int .i64 (.ofNat 57)] (Go.E.start cr57.tabs cr57.A)) = some (cr57.v, cr57.B, [], cr57.objs.map fun x => some x.2) := by kernel_rfl
theorem f_o57 [Sym] : ConFact Tryd.prog 16 [.int .i64 (.ofNat 57)] cr57 := con_of_runF LkA_ok conA_ok fn16 k_o57 rfl globIn (tabLt (by decide))
theorem k_o58 : conAns cr58 (runF Tryd.prog LkA 900 16 [.int .i64 (.ofNat 58)] (Go.E.start cr58.tabs cr58.A)) = some (cr58.v, cr58.B, [], cr58.objs.map fun x => some x.2) := by kernel_rfl
theorem f_o58 [Sym] : ConFact Tryd.prog 16 [.int .i64 (.ofNat 58)] cr58 := con_of_runF LkA_ok conA_ok fn16 k_o58 rfl globIn (tabLt (by decide))
theorem k_o59 : conAns cr59 (runF Tryd.prog LkA 900 16 [.int .i64 (.ofNat 59)] (Go.E.start cr59.tabs cr59.A)) = some (cr59.v, cr59.B, [], cr59.objs.map fun x => some x.2) := by kernel_rfl
theorem f_o59 [Sym] : ConFact Tryd.prog 16 [.int .i64 (.ofNat 59)] cr59 := con_of_runF LkA_ok conA_ok fn16 k_o59 rfl globIn (tabLt (by decide))
theorem k_o60 : conAns cr60 (runF Tryd.prog LkA 900 16 [.int .i64 (.ofNat 60)] (Go.E.start cr60.tabs cr60.A)) = some (cr60.v, cr60.B, [], cr60.objs.map fun x => some x.2) := by kernel_rfl
theorem f_o60 [Sym] : ConFact Tryd.prog 16 [.int .i64 (.ofNat 60)] cr60 := con_of_runF LkA_ok conA_ok fn16 k_o60 rfl globIn (tabLt (by decide))
theorem k_o61 : conAns cr61 (runF Tryd.prog LkA 900 16 [.int .i64 (.ofNat 61)] (Go.E.start cr61.tabs cr61.A)) = some (cr61.v, cr61.B, [], cr61.objs.map fun x => some x.2) := by kernel_rfl
theorem f_o61 [Sym] : ConFact Tryd.prog 16 [.int .i64 (.ofNat 61)] cr61 := con_of_runF LkA_ok conA_ok fn16 k_o61 rfl globIn (tabLt (by decide))
theorem k_o62 : conAns cr62 (runF Tryd.prog LkA 900 16 [.int .i64 (.ofNat 62)] (Go.E.start cr62.tabs cr62.A)) = some (cr62.v, cr62.B, [], cr62.objs.map fun x => some x.2) := by kernel_rfl
theorem f_o62 [Sym] : ConFact Tryd.prog 16 [.int .i64 (.ofNat 62)] cr62 := con_of_runF LkA_ok conA_ok fn16 k_o62 rfl globIn (tabLt (by decide))
theorem k_o63 : conAns cr63 (runF Tryd.prog LkA 900 16 [.int .i64 (.ofNat 63)] (Go.E.start cr63.tabs cr63.A)) = some (cr63.v, cr63.B, [], cr63.objs.map fun x => some x.2) := by kernel_rfl
theorem f_o63 [Sym] : ConFact Tryd.prog 16 [.int .i64 (.ofNat 63)] cr63 := con_of_runF LkA_ok conA_ok fn16 k_o63 rfl globIn (tabLt (by decide))
theorem k_oneg (n : Nat) : conAns crneg (runF Tryd.prog LkA 900 16 [.int .i64 (.negSucc n)] (Go.E.start crneg.tabs crneg.A)) = some (crneg.v, crneg.B, [], crneg.objs.map fun x => some x.2) := by kernel_rfl
theorem f_oneg [Sym] (n : Nat) : ConFact Tryd.prog 16 [.int .i64 (.negSucc n)] crneg := con_of_runF LkA_ok conA_ok fn16 (k_oneg n) rfl globIn (tabLt (by decide))
theorem k_obig (n : Nat) : conAns crbig (runF Tryd.prog LkA 900 16 [.int .i64 (.ofNat (n + 256))] (Go.E.start crbig.tabs crbig.A)) = some (crbig.v, crbig.B, [], crbig.objs.map fun x => some x.2) := by kernel_rfl
theorem f_obig [Sym] (n : Nat) : ConFact Tryd.prog 16 [.int .i64 (.ofNat (n + 256))] crbig := con_of_runF LkA_ok conA_ok fn16 (k_obig n) rfl globIn (tabLt (by decide))
end Go.Proofs.YtfgdoliihmjnoaaDoorE
