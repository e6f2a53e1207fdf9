/- Closed runs. Printed by gen_con.py. -/
import Derived.Test.YtfgdoliihmjnoaaDoorECs
set_option linter.unusedSimpArgs false
set_option linter.unusedVariables false
namespace Go.Proofs.YtfgdoliihmjnoaaDoorE
open Go Go.E Go.Proofs
set_option maxRecDepth 100000
theorem k_s0 : conAns cs0 (runF Tryd.prog Lk0 400 15 [.int .i64 (.ofNat 0)] (Go.E.start cs0.tabs cs0.A)) = some (cs0.v, cs0.B, [], cs0.objs.map fun x => some x.2) := by kernel_rfl
theorem f_s0 [Sym] : ConFact Tryd.prog 15 [.int .i64 (.ofNat 0)] cs0 := con_of_runF Lk0_ok noCon fn15 k_s0 rfl globIn (tabLt (by decide))
theorem k_s1 : conAns cs1 (runF Tryd.prog Lk0 400 15 [.int .i64 (.ofNat 1)] (Go.E.start cs1.tabs cs1.A)) = some (cs1.v, cs1.B, [], cs1.objs.map fun x => some x.2) := by kernel_rfl
theorem f_s1 [Sym] : ConFact Tryd.prog 15 [.int .i64 (.ofNat 1)] cs1 := con_of_runF Lk0_ok noCon fn15 k_s1 rfl globIn (tabLt (by decide))
theorem k_s2 : conAns cs2 (runF Tryd.prog Lk0 400 15 [.int .i64 (.ofNat 2)] (Go.E.start cs2.tabs cs2.A)) = some (cs2.v, cs2.B, [], cs2.objs.map fun x => some x.2) := by kernel_rfl
theorem f_s2 [Sym] : ConFact Tryd.prog 15 [.int .i64 (.ofNat 2)] cs2 := con_of_runF Lk0_ok noCon fn15 k_s2 rfl globIn (tabLt (by decide))
theorem k_s3 : conAns cs3 (runF Tryd.prog Lk0 400 15 [.int .i64 (.ofNat 3)] (Go.E.start cs3.tabs cs3.A)) = some (cs3.v, cs3.B, [], cs3.objs.map fun x => some x.2) := by kernel_rfl
theorem f_s3 [Sym] : ConFact Tryd.prog 15 [.int .i64 (.ofNat 3)] cs3 := con_of_runF Lk0_ok noCon fn15 k_s3 rfl globIn (tabLt (by decide))
theorem k_s4 : conAns cs4 (runF Tryd.prog Lk0 400 15 [.int .i64 (.ofNat 4)] (Go.E.start cs4.tabs cs4.A)) = some (cs4.v, cs4.B, [], cs4.objs.map fun x => some x.2) := by kernel_rfl
theorem f_s4 [Sym] : ConFact Tryd.prog 15 [.int .i64 (.ofNat 4)] cs4 := con_of_runF Lk0_ok noCon fn15 k_s4 rfl globIn (tabLt (by decide))
theorem k_s5 : conAns cs5 (runF Tryd.prog Lk0 400 15 [.int .i64 (.ofNat 5)] (Go.E.start cs5.tabs cs5.A)) = some (cs5.v, cs5.B, [], cs5.objs.map fun x => some x.2) := by kernel_rfl
theorem f_s5 [Sym] : ConFact Tryd.prog 15 [.int .i64 (.ofNat 5)] cs5 := con_of_runF Lk0_ok noCon fn15 k_s5 rfl globIn (tabLt (by decide))
theorem k_s6 : conAns cs6 (runF Tryd.prog Lk0 400 15 [.int .i64 (.ofNat 6)] (Go.E.start cs6.tabs cs6.A)) = some (cs6.v, cs6.B, [], cs6.objs.map fun x => some x.2) := by kernel_rfl
theorem f_s6 [Sym] : ConFact Tryd.prog 15 [.int .i64 (.ofNat 6)] cs6 := con_of_runF Lk0_ok noCon fn15 k_s6 rfl globIn (tabLt (by decide))
theorem k_s7 : conAns cs7 (runF Tryd.prog Lk0 400 15 [.int .i64 (.ofNat 7)] (Go.E.start cs7.tabs cs7.A)) = some (cs7.v, cs7.B, [], cs7.objs.map fun x => some x.2) := by kernel_rfl
theorem f_s7 [Sym] : ConFact Tryd.prog 15 [.int .i64 (.ofNat 7)] cs7 := con_of_runF Lk0_ok noCon fn15 k_s7 rfl globIn (tabLt (by decide))
theorem k_s8 : conAns cs8 (runF Tryd.prog Lk0 400 15 [.int .i64 (.ofNat 8)] (Go.E.start cs8.tabs cs8.A)) = some (cs8.v, cs8.B, [], cs8.objs.map fun x => some x.2) := by kernel_rfl
theorem f_s8 [Sym] : ConFact Tryd.prog 15 [.int .i64 (.ofNat 8)] cs8 := con_of_runF Lk0_ok noCon fn15 k_s8 rfl globIn (tabLt (by decide))
theorem k_s9 : conAns cs9 (runF Tryd.prog Lk0 400 15 [.int .i64 (.ofNat 9)] (Go.E.start cs9.tabs cs9.A)) = some (cs9.v, cs9.B, [], cs9.objs.map fun x => some x.2) := by kernel_rfl
theorem f_s9 [Sym] : ConFact Tryd.prog 15 [.int .i64 (.ofNat 9)] cs9 := con_of_runF Lk0_ok noCon fn15 k_s9 rfl globIn (tabLt (by decide))
theorem k_s10 : conAns cs10 (runF Tryd.prog Lk0 400 15 [.int .i64 (.ofNat 10)] (Go.E.start cs10.tabs cs10.A)) = some (cs10.v, cs10.B, [], cs10.objs.map fun x => some x.2) := by kernel_rfl
theorem f_s10 [Sym] : ConFact Tryd.prog 15 [.int .i64 (.ofNat 10)] cs10 := con_of_runF Lk0_ok noCon fn15 k_s10 rfl globIn (tabLt (by decide))
theorem k_s11 : conAns cs11 (runF Tryd.prog Lk0 400 15 [.int .i64 (.ofNat 11)] (Go.E.start cs11.tabs cs11.A)) = some (cs11.v, cs11.B, [], cs11.objs.map fun x => some x.2) := by kernel_rfl
theorem f_s11 [Sym] : ConFact Tryd.prog 15 [.int .i64 (.ofNat 11)] cs11 := con_of_runF Lk0_ok noCon fn15 k_s11 rfl globIn (tabLt (by decide))
theorem k_s12 : conAns cs12 (runF Tryd.prog Lk0 400 15 [.int .i64 (.ofNat 12)] (Go.E.start cs12.tabs cs12.A)) = some (cs12.v, cs12.B, [], cs12.objs.map fun x => some x.2) := by kernel_rfl
theorem f_s12 [Sym] : ConFact Tryd.prog 15 [.int .i64 (.ofNat 12)] cs12 := con_of_runF Lk0_ok noCon fn15 k_s12 rfl globIn (tabLt (by decide))
theorem k_s13 : conAns cs13 (runF Tryd.prog Lk0 400 15 [.int .i64 (.ofNat 13)] (Go.E.start cs13.tabs cs13.A)) = some (cs13.v, cs13.B, [], cs13.objs.map fun x => some x.2) := by kernel_rfl
theorem f_s13 [Sym] : ConFact Tryd.prog 15 [.int .i64 (.ofNat 13)] cs13 := con_of_runF Lk0_ok noCon fn15 k_s13 rfl globIn (tabLt (by decide))
theorem k_s14 : conAns cs14 (runF Tryd.prog Lk0 400 15 [.int .i64 (.ofNat 14)] (Go.E.start cs14.tabs cs14.A)) = some (cs14.v, cs14.B, [], cs14.objs.map fun x => some x.2) := by kernel_rfl
theorem f_s14 [Sym] : ConFact Tryd.prog 15 [.int .i64 (.ofNat 14)] cs14 := con_of_runF Lk0_ok noCon fn15 k_s14 rfl globIn (tabLt (by decide))
theorem k_s15 : conAns cs15 (runF Tryd.prog Lk0 400 15 [.int .i64 (.ofNat 15)] (Go.E.start cs15.tabs cs15.A)) = some (cs15.v, cs15.B, [], cs15.objs.map fun x => some x.2) := by kernel_rfl
theorem f_s15 [Sym] : ConFact Tryd.prog 15 [.int .i64 (.ofNat 15)] cs15 := con_of_runF Lk0_ok noCon fn15 k_s15 rfl globIn (tabLt (by decide))
theorem k_s16 : conAns cs16 (runF Tryd.prog Lk0 400 15 [.int .i64 (.ofNat 16)] (Go.E.start cs16.tabs cs16.A)) = some (cs16.v, cs16.B, [], cs16.objs.map fun x => some x.2) := by kernel_rfl
theorem f_s16 [Sym] : ConFact Tryd.prog 15 [.int .i64 (.ofNat 16)] cs16 := con_of_runF Lk0_ok noCon fn15 k_s16 rfl globIn (tabLt (by decide))
theorem k_s17 : conAns cs17 (runF Tryd.prog Lk0 400 15 [.int .i64 (.ofNat 17)] (Go.E.start cs17.tabs cs17.A)) = some (cs17.v, cs17.B, [], cs17.objs.map fun x => some x.2) := by kernel_rfl
theorem f_s17 [Sym] : ConFact Tryd.prog 15 [.int .i64 (.ofNat 17)] cs17 := con_of_runF Lk0_ok noCon fn15 k_s17 rfl globIn (tabLt (by decide))
theorem k_s18 : conAns cs18 (runF Tryd.prog Lk0 400 15 [.int .i64 (.ofNat 18)] (Go.E.start cs18.tabs cs18.A)) = some (cs18.v, cs18.B, [], cs18.objs.map fun x => some x.2) := by kernel_rfl
theorem f_s18 [Sym] : ConFact Tryd.prog 15 [.int .i64 (.ofNat 18)] cs18 := con_of_runF Lk0_ok noCon fn15 k_s18 rfl globIn (tabLt (by decide))
theorem k_s19 : conAns cs19 (runF Tryd.prog Lk0 400 15 [.int .i64 (.ofNat 19)] (Go.E.start cs19.tabs cs19.A)) = some (cs19.v, cs19.B, [], cs19.objs.map fun x => some x.2) := by kernel_rfl
theorem f_s19 [Sym] : ConFact Tryd.prog 15 [.int .i64 (.ofNat 19)] cs19 := con_of_runF Lk0_ok noCon fn15 k_s19 rfl globIn (tabLt (by decide))
theorem k_s20 : conAns cs20 (runF Tryd.prog Lk0 400 15 [.int .i64 (.ofNat 20)] (Go.E.start cs20.tabs cs20.A)) = some (cs20.v, cs20.B, [], cs20.objs.map fun x => some x.2) := by kernel_rfl
theorem f_s20 [Sym] : ConFact Tryd.prog 15 [.int .i64 (.ofNat 20)] cs20 := con_of_runF Lk0_ok noCon fn15 k_s20 rfl globIn (tabLt (by decide))
theorem k_s21 : conAns cs21 (runF Tryd.prog Lk0 400 15 [.int .i64 (.ofNat 21)] (Go.E.start cs21.tabs cs21.A)) = some (cs21.v, cs21.B, [], cs21.objs.map fun x => some x.2) := by kernel_rfl
theorem f_s21 [Sym] : ConFact Tryd.prog 15 [.int .i64 (.ofNat 21)] cs21 := con_of_runF Lk0_ok noCon fn15 k_s21 rfl globIn (tabLt (by decide))
theorem k_s22 : conAns cs22 (runF Tryd.prog Lk0 400 15 [.int .i64 (.ofNat 22)] (Go.E.start cs22.tabs cs22.A)) = some (cs22.v, cs22.B, [], cs22.objs.map fun x => some x.2) := by kernel_rfl
theorem f_s22 [Sym] : ConFact Tryd.prog 15 [.int .i64 (.ofNat 22)] cs22 := con_of_runF Lk0_ok noCon fn15 k_s22 rfl globIn (tabLt (by decide))
theorem k_s23 : conAns cs23 (runF Tryd.prog Lk0 400 15 [.int .i64 (.ofNat 23)] (Go.E.start cs23.tabs cs23.A)) = some (cs23.v, cs23.B, [], cs23.objs.map fun x => some x.2) := by kernel_rfl
theorem f_s23 [Sym] : ConFact Tryd.prog 15 [.int .i64 (.ofNat 23)] cs23 := con_of_runF Lk0_ok noCon fn15 k_s23 rfl globIn (tabLt (by decide))
theorem k_s24 : conAns cs24 (runF Tryd.prog Lk0 400 15 [.int .i64 (.ofNat 24)] (Go.E.start cs24.tabs cs24.A)) = some (cs24.v, cs24.B, [], cs24.objs.map fun x => some x.2) := by kernel_rfl
theorem f_s24 [Sym] : ConFact Tryd.prog 15 [.int .i64 (.ofNat 24)] cs24 := con_of_runF Lk0_ok noCon fn15 k_s24 rfl globIn (tabLt (by decide))
theorem k_s25 : conAns cs25 (runF Tryd.prog Lk0 400 15 [.int .i64 (.ofNat 25)] (Go.E.start cs25.tabs cs25.A)) = some (cs25.v, cs25.B, [], cs25.objs.map fun x => some x.2) := by kernel_rfl
theorem f_s25 [Sym] : ConFact Tryd.prog 15 [.int .i64 (.ofNat 25)] cs25 := con_of_runF Lk0_ok noCon fn15 k_s25 rfl globIn (tabLt (by decide))
theorem k_s26 : conAns cs26 (runF Tryd.prog Lk0 400 15 [.int .i64 (.ofNat 26)] (Go.E.start cs26.tabs cs26.A)) = some (cs26.v, cs26.B, [], cs26.objs.map fun x => some x.2) := by kernel_rfl
theorem f_s26 [Sym] : ConFact Tryd.prog 15 [.int .i64 (.ofNat 26)] cs26 := con_of_runF Lk0_ok noCon fn15 k_s26 rfl globIn (tabLt (by decide))
theorem k_s27 : conAns cs27 (runF Tryd.prog Lk0 400 15 [.int .i64 (.ofNat 27)] (Go.E.start cs27.tabs cs27.A)) = some (cs27.v, cs27.B, [], cs27.objs.map fun x => some x.2) := by kernel_rfl
theorem f_s27 [Sym] : ConFact Tryd.prog 15 [.int .i64 (.ofNat 27)] cs27 := con_of_runF Lk0_ok noCon fn15 k_s27 rfl globIn (tabLt (by decide))
theorem k_s28 : conAns cs28 (runF Tryd.prog Lk0 400 15 [.int .i64 (.ofNat 28)] (Go.E.start cs28.tabs cs28.A)) = some (cs28.v, cs28.B, [], cs28.objs.map fun x => some x.2) := by kernel_rfl
theorem f_s28 [Sym] : ConFact Tryd.prog 15 [.int .i64 (.ofNat 28)] cs28 := con_of_runF Lk0_ok noCon fn15 k_s28 rfl globIn (tabLt (by decide))
theorem k_s29 : conAns cs29 (runF Tryd.prog Lk0 400 15 [.int .i64 (.ofNat 29)] (Go.E.start cs29.tabs cs29.A)) = some (cs29.v, cs29.B, [], cs29.objs.map fun x => some x.2) := by kernel_rfl
theorem f_s29 [Sym] : ConFact Tryd.prog 15 [.int .i64 (.ofNat 29)] cs29 := con_of_runF Lk0_ok noCon fn15 k_s29 rfl globIn (tabLt (by decide))
theorem k_s30 : conAns cs30 (runF Tryd.prog Lk0 400 15 [.int .i64 (.ofNat 30)] (Go.E.start cs30.tabs cs30.A)) = some (cs30.v, cs30.B, [], cs30.objs.map fun x => some x.2) := by kernel_rfl
theorem f_s30 [Sym] : ConFact Tryd.prog 15 [.int .i64 (.ofNat 30)] cs30 := con_of_runF Lk0_ok noCon fn15 k_s30 rfl globIn (tabLt (by decide))
theorem k_s31 : conAns cs31 (runF Tryd.prog Lk0 400 15 [.int .i64 (.ofNat 31)] (Go.E.start cs31.tabs cs31.A)) = some (cs31.v, cs31.B, [], cs31.objs.map fun x => some x.2) := by kernel_rfl
theorem f_s31 [Sym] : ConFact Tryd.prog 15 [.int .i64 (.ofNat 31)] cs31 := con_of_runF Lk0_ok noCon fn15 k_s31 rfl globIn (tabLt (by decide))
theorem k_s32 : conAns cs32 (runF Tryd.prog Lk0 400 15 [.int .i64 (.ofNat 32)] (Go.E.start cs32.tabs cs32.A)) = some (cs32.v, cs32.B, [], cs32.objs.map fun x => some x.2) := by kernel_rfl
theorem f_s32 [Sym] : ConFact Tryd.prog 15 [.int .i64 (.ofNat 32)] cs32 := con_of_runF Lk0_ok noCon fn15 k_s32 rfl globIn (tabLt (by decide))
theorem k_s33 : conAns cs33 (runF Tryd.prog Lk0 400 15 [.int .i64 (.ofNat 33)] (Go.E.start cs33.tabs cs33.A)) = some (cs33.v, cs33.B, [], cs33.objs.map fun x => some x.2) := by kernel_rfl
theorem f_s33 [Sym] : ConFact Tryd.prog 15 [.int .i64 (.ofNat 33)] cs33 := con_of_runF Lk0_ok noCon fn15 k_s33 rfl globIn (tabLt (by decide))
theorem k_s34 : conAns cs34 (runF Tryd.prog Lk0 400 15 [.int .i64 (.ofNat 34)] (Go.E.start cs34.tabs cs34.A)) = some (cs34.v, cs34.B, [], cs34.objs.map fun x => some x.2) := by kernel_rfl
theorem f_s34 [Sym] : ConFact Tryd.prog 15 [.int .i64 (.ofNat 34)] cs34 := con_of_runF Lk0_ok noCon fn15 k_s34 rfl globIn (tabLt (by decide))
theorem k_s35 : conAns cs35 (runF Tryd.prog Lk0 400 15 [.int .i64 (.ofNat 35)] (Go.E.start cs35.tabs cs35.A)) = some (cs35.v, cs35.B, [], cs35.objs.map fun x => some x.2) := by kernel_rfl
theorem f_s35 [Sym] : ConFact Tryd.prog 15 [.int .i64 (.ofNat 35)] cs35 := con_of_runF Lk0_ok noCon fn15 k_s35 rfl globIn (tabLt (by decide))
theorem k_s36 : conAns cs36 (runF Tryd.prog Lk0 400 15 [.int .i64 (.ofNat 36)] (Go.E.start cs36.tabs cs36.A)) = some (cs36.v, cs36.B, [], cs36.objs.map fun x => some x.2) := by kernel_rfl
theorem f_s36 [Sym] : ConFact Tryd.prog 15 [.int .i64 (.ofNat 36)] cs36 := con_of_runF Lk0_ok noCon fn15 k_s36 rfl globIn (tabLt (by decide))
theorem k_s37 : conAns cs37 (runF Tryd.prog Lk0 400 15 [.int .i64 (.ofNat 37)] (Go.E.start cs37.tabs cs37.A)) = some (cs37.v, cs37.B, [], cs37.objs.map fun x => some x.2) := by kernel_rfl
theorem f_s37 [Sym] : ConFact Tryd.prog 15 [.int .i64 (.ofNat 37)] cs37 := con_of_runF Lk0_ok noCon fn15 k_s37 rfl globIn (tabLt (by decide))
theorem k_s38 : conAns cs38 (runF Tryd.prog Lk0 400 15 [.int .i64 (.ofNat 38)] (Go.E.start cs38.tabs cs38.A)) = some (cs38.v, cs38.B, [], cs38.objs.map fun x => some x.2) := by kernel_rfl
theorem f_s38 [Sym] : ConFact Tryd.prog 15 [.int .i64 (.ofNat 38)] cs38 := con_of_runF Lk0_ok noCon fn15 k_s38 rfl globIn (tabLt (by decide))
theorem k_s39 : conAns cs39 (runF Tryd.prog Lk0 400 15 [.int .i64 (.ofNat 39)] (Go.E.start cs39.tabs cs39.A)) = some (cs39.v, cs39.B, [], cs39.objs.map fun x => some x.2) := by kernel_rfl
theorem f_s39 [Sym] : ConFact Tryd.prog 15 [.int .i64 (.ofNat 39)] cs39 := con_of_runF Lk0_ok noCon fn15 k_s39 rfl globIn (tabLt (by decide))
theorem k_s40 : conAns cs40 (runF Tryd.prog Lk0 400 15 [.int .i64 (.ofNat 40)] (Go.E.start cs40.tabs cs40.A)) = some (cs40.v, cs40.B, [], cs40.objs.map fun x => some x.2) := by kernel_rfl
theorem f_s40 [Sym] : ConFact Tryd.prog 15 [.int .i64 (.ofNat 40)] cs40 := con_of_runF Lk0_ok noCon fn15 k_s40 rfl globIn (tabLt (by decide))
theorem k_s41 : conAns cs41 (runF Tryd.prog Lk0 400 15 [.int .i64 (.ofNat 41)] (Go.E.start cs41.tabs cs41.A)) = some (cs41.v, cs41.B, [], cs41.objs.map fun x => some x.2) := by kernel_rfl
theorem f_s41 [Sym] : ConFact Tryd.prog 15 [.int .i64 (.ofNat 41)] cs41 := con_of_runF Lk0_ok noCon fn15 k_s41 rfl globIn (tabLt (by decide))
theorem k_s42 : conAns cs42 (runF Tryd.prog Lk0 400 15 [.int .i64 (.ofNat 42)] (Go.E.start cs42.tabs cs42.A)) = some (cs42.v, cs42.B, [], cs42.objs.map fun x => some x.2) := by kernel_rfl
theorem f_s42 [Sym] : ConFact Tryd.prog 15 [.int .i64 (.ofNat 42)] cs42 := con_of_runF Lk0_ok noCon fn15 k_s42 rfl globIn (tabLt (by decide))
theorem k_s43 : conAns cs43 (runF Tryd.prog Lk0 400 15 [.int .i64 (.ofNat 43)] (Go.E.start cs43.tabs cs43.A)) = some (cs43.v, cs43.B, [], cs43.objs.map fun x => some x.2) := by kernel_rfl
theorem f_s43 [Sym] : ConFact Tryd.prog 15 [.int .i64 (.ofNat 43)] cs43 := con_of_runF Lk0_ok noCon fn15 k_s43 rfl globIn (tabLt (by decide))
theorem k_s44 : conAns cs44 (runF Tryd.prog Lk0 400 15 [.int .i64 (.ofNat 44)] (Go.E.start cs44.tabs cs44.A)) = some (cs44.v, cs44.B, [], cs44.objs.map fun x => some x.2) := by kernel_rfl
theorem f_s44 [Sym] : ConFact Tryd.prog 15 [.int .i64 (.ofNat 44)] cs44 := con_of_runF Lk0_ok noCon fn15 k_s44 rfl globIn (tabLt (by decide))
theorem k_s45 : conAns cs45 (runF Tryd.prog Lk0 400 15 [.int .i64 (.ofNat 45)] (Go.E.start cs45.tabs cs45.A)) = some (cs45.v, cs45.B, [], cs45.objs.map fun x => some x.2) := by kernel_rfl
theorem f_s45 [Sym] : ConFact Tryd.prog 15 [.int .i64 (.ofNat 45)] cs45 := con_of_runF Lk0_ok noCon fn15 k_s45 rfl globIn (tabLt (by decide))
theorem k_s46 : conAns cs46 (runF Tryd.prog Lk0 400 15 [.int .i64 (.ofNat 46)] (Go.E.start cs46.tabs cs46.A)) = some (cs46.v, cs46.B, [], cs46.objs.map fun x => some x.2) := by kernel_rfl
theorem f_s46 [Sym] : ConFact Tryd.prog 15 [.int .i64 (.ofNat 46)] cs46 := con_of_runF Lk0_ok noCon fn15 k_s46 rfl globIn (tabLt (by decide))
theorem k_s47 : conAns cs47 (runF Tryd.prog Lk0 400 15 [.int .i64 (.ofNat 47)] (Go.E.start cs47.tabs cs47.A)) = some (cs47.v, cs47.B, [], cs47.objs.map fun x => some x.2) := by kernel_rfl
theorem f_s47 [Sym] : ConFact Tryd.prog 15 [.int .i64 (.ofNat 47)] cs47 := con_of_runF Lk0_ok noCon fn15 k_s47 rfl globIn (tabLt (by decide))
theorem k_s48 : conAns cs48 (runF Tryd.prog Lk0 400 15 [.int .i64 (.ofNat 48)] (Go.E.start cs48.tabs cs48.A)) = some (cs48.v, cs48.B, [], cs48.objs.map fun x => some x.2) := by kernel_rfl
theorem f_s48 [Sym] : ConFact Tryd.prog 15 [.int .i64 (.ofNat 48)] cs48 := con_of_runF Lk0_ok noCon fn15 k_s48 rfl globIn (tabLt (by decide))
theorem k_s49 : conAns cs49 (runF Tryd.prog Lk0 400 15 [.int .i64 (.ofNat 49)] (Go.E.start cs49.tabs cs49.A)) = some (cs49.v, cs49.B, [], cs49.objs.map fun x => some x.2) := by kernel_rfl
theorem f_s49 [Sym] : ConFact Tryd.prog 15 [.int .i64 (.ofNat 49)] cs49 := con_of_runF Lk0_ok noCon fn15 k_s49 rfl globIn (tabLt (by decide))
theorem k_s50 : conAns cs50 (runF Tryd.prog Lk0 400 15 [.int .i64 (.ofNat 50)] (Go.E.start cs50.tabs cs50.A)) = some (cs50.v, cs50.B, [], cs50.objs.map fun x => some x.2) := by kernel_rfl
theorem f_s50 [Sym] : ConFact Tryd.prog 15 [.int .i64 (.ofNat 50)] cs50 := con_of_runF Lk0_ok noCon fn15 k_s50 rfl globIn (tabLt (by decide))
theorem k_s51 : conAns cs51 (runF Tryd.prog Lk0 400 15 [.int .i64 (.ofNat 51)] (Go.E.start cs51.tabs cs51.A)) = some (cs51.v, cs51.B, [], cs51.objs.map fun x => some x.2) := by kernel_rfl
theorem f_s51 [Sym] : ConFact Tryd.prog 15 [.int .i64 (.ofNat 51)] cs51 := con_of_runF Lk0_ok noCon fn15 k_s51 rfl globIn (tabLt (by decide))
theorem k_s52 : conAns cs52 (runF Tryd.prog Lk0 400 15 [.int .i64 (.ofNat 52)] (Go.E.start cs52.tabs cs52.A)) = some (cs52.v, cs52.B, [], cs52.objs.map fun x => some x.2) := by kernel_rfl
theorem f_s52 [Sym] : ConFact Tryd.prog 15 [.int .i64 (.ofNat 52)] cs52 := con_of_runF Lk0_ok noCon fn15 k_s52 rfl globIn (tabLt (by decide))
theorem k_s53 : conAns cs53 (runF Tryd.prog Lk0 400 15 [.int .i64 (.ofNat 53)] (Go.E.start cs53.tabs cs53.A)) = some (cs53.v, cs53.B, [], cs53.objs.map fun x => some x.2) := by kernel_rfl
theorem f_s53 [Sym] : ConFact Tryd.prog 15 [.int .i64 (.ofNat 53)] cs53 := con_of_runF Lk0_ok noCon fn15 k_s53 rfl globIn (tabLt (by decide))
theorem k_s54 : conAns cs54 (runF Tryd.prog Lk0 400 15 [.int .i64 (.ofNat 54)] (Go.E.start cs54.tabs cs54.A)) = some (cs54.v, cs54.B, [], cs54.objs.map fun x => some x.2) := by kernel_rfl
theorem f_s54 [Sym] : ConFact Tryd.prog 15 [.int .i64 (.ofNat 54)] cs54 := con_of_runF Lk0_ok noCon fn15 k_s54 rfl globIn (tabLt (by decide))
theorem k_s55 : conAns cs55 (runF Tryd.prog Lk0 400 15 [.int .i64 (.ofNat 55)] (Go.E.start cs55.tabs cs55.A)) = some (cs55.v, cs55.B, [], cs55.objs.map fun x => some x.2) := by kernel_rfl
theorem f_s55 [Sym] : ConFact Tryd.prog 15 [.int .i64 (.ofNat 55)] cs55 := con_of_runF Lk0_ok noCon fn15 k_s55 rfl globIn (tabLt (by decide))
theorem k_s56 : conAns cs56 (runF Tryd.prog Lk0 400 15 [.int .i64 (.ofNat 56)] (Go.E.start cs56.tabs cs56.A)) = some (cs56.v, cs56.B, [], cs56.objs.map fun x => some x.2) := by kernel_rfl
theorem f_s56 [Sym] : ConFact Tryd.prog 15 [.int .i64 (.ofNat 56)] cs56 := con_of_runF Lk0_ok noCon fn15 k_s56 rfl globIn (tabLt (by decide))
theorem k_s57 : conAns cs57 (runF Tryd.prog Lk0 400 15 [.int .i64 (.ofNat 57)] (Go.E.start cs57.tabs cs57.A)) = some (cs57.v, cs57.B, [], cs57.objs.map fun x => some x.2) := by kernel_rfl
theorem f_s57 [Sym] : ConFact Tryd.prog 15 [.int .i64 (.ofNat 57)] cs57 := con_of_runF Lk0_ok noCon fn15 k_s57 rfl globIn (tabLt (by decide))
theorem k_s58 : conAns cs58 (runF Tryd.prog Lk0 400 15 [.int .i64 (.ofNat 58)] (Go.E.start cs58.tabs cs58.A)) = some (cs58.v, cs58.B, [], cs58.objs.map fun x => some x.2) := by kernel_rfl
theorem f_s58 [Sym] : ConFact Tryd.prog 15 [.int .i64 (.ofNat 58)] cs58 := con_of_runF Lk0_ok noCon fn15 k_s58 rfl globIn (tabLt (by decide))
theorem k_s59 : conAns cs59 (runF Tryd.prog Lk0 400 15 [.int .i64 (.ofNat 59)] (Go.E.start cs59.tabs cs59.A)) = some (cs59.v, cs59.B, [], cs59.objs.map fun x => some x.2) := by kernel_rfl
theorem f_s59 [Sym] : ConFact Tryd.prog 15 [.int .i64 (.ofNat 59)] cs59 := con_of_runF Lk0_ok noCon fn15 k_s59 rfl globIn (tabLt (by decide))
theorem k_s60 : conAns cs60 (runF Tryd.prog Lk0 400 15 [.int .i64 (.ofNat 60)] (Go.E.start cs60.tabs cs60.A)) = some (cs60.v, cs60.B, [], cs60.objs.map fun x => some x.2) := by kernel_rfl
theorem f_s60 [Sym] : ConFact Tryd.prog 15 [.int .i64 (.ofNat 60)] cs60 := con_of_runF Lk0_ok noCon fn15 k_s60 rfl globIn (tabLt (by decide))
theorem k_s61 : conAns cs61 (runF Tryd.prog Lk0 400 15 [.int .i64 (.ofNat 61)] (Go.E.start cs61.tabs cs61.A)) = some (cs61.v, cs61.B, [], cs61.objs.map fun x => some x.2) := by kernel_rfl
theorem f_s61 [Sym] : ConFact Tryd.prog 15 [.int .i64 (.ofNat 61)] cs61 := con_of_runF Lk0_ok noCon fn15 k_s61 rfl globIn (tabLt (by decide))
theorem k_s62 : conAns cs62 (runF Tryd.prog Lk0 400 15 [.int .i64 (.ofNat 62)] (Go.E.start cs62.tabs cs62.A)) = some (cs62.v, cs62.B, [], cs62.objs.map fun x => some x.2) := by kernel_rfl
theorem f_s62 [Sym] : ConFact Tryd.prog 15 [.int .i64 (.ofNat 62)] cs62 := con_of_runF Lk0_ok noCon fn15 k_s62 rfl globIn (tabLt (by decide))
theorem k_s63 : conAns cs63 (runF Tryd.prog Lk0 400 15 [.int .i64 (.ofNat 63)] (Go.E.start cs63.tabs cs63.A)) = some (cs63.v, cs63.B, [], cs63.objs.map fun x => some x.2) := by kernel_rfl
theorem f_s63 [Sym] : ConFact Tryd.prog 15 [.int .i64 (.ofNat 63)] cs63 := con_of_runF Lk0_ok noCon fn15 k_s63 rfl globIn (tabLt (by decide))
end Go.Proofs.YtfgdoliihmjnoaaDoorE
