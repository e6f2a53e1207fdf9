/- Closed runs. Printed by gen_con.py. -/
import Derived.Test.YtfgdoliihmjnoaaDoorECd
set_option linter.unusedSimpArgs false
set_option linter.unusedVariables false
namespace Go.Proofs.YtfgdoliihmjnoaaDoorE
open Go Go.E Go.Proofs
set_option maxRecDepth 100000
theorem k_al : conAns cal (runF Tryd.prog Lk0 400 14 [] (Go.E.start cal.tabs cal.A)) = some (cal.v, cal.B, [], cal.objs.map fun x => some x.2) := by kernel_rfl
theorem f_al [Sym] : ConFact Tryd.prog 14 [] cal := con_of_runF Lk0_ok noCon fn14 k_al rfl globIn (tabLt (by decide))
theorem k_d0 : conAns cd0 (runF Tryd.prog Lk0 400 15 [.int .i64 (.ofNat 0)] (Go.E.start cd0.tabs cd0.A)) = some (cd0.v, cd0.B, [], cd0.objs.map fun x => some x.2) := by kernel_rfl
theorem f_d0 [Sym] : ConFact Tryd.prog 15 [.int .i64 (.ofNat 0)] cd0 := con_of_runF Lk0_ok noCon fn15 k_d0 rfl globIn (tabLt (by decide))
theorem k_d1 : conAns cd1 (runF Tryd.prog Lk0 400 15 [.int .i64 (.ofNat 1)] (Go.E.start cd1.tabs cd1.A)) = some (cd1.v, cd1.B, [], cd1.objs.map fun x => some x.2) := by kernel_rfl
theorem f_d1 [Sym] : ConFact Tryd.prog 15 [.int .i64 (.ofNat 1)] cd1 := con_of_runF Lk0_ok noCon fn15 k_d1 rfl globIn (tabLt (by decide))
theorem k_d2 : conAns cd2 (runF Tryd.prog Lk0 400 15 [.int .i64 (.ofNat 2)] (Go.E.start cd2.tabs cd2.A)) = some (cd2.v, cd2.B, [], cd2.objs.map fun x => some x.2) := by kernel_rfl
theorem f_d2 [Sym] : ConFact Tryd.prog 15 [.int .i64 (.ofNat 2)] cd2 := con_of_runF Lk0_ok noCon fn15 k_d2 rfl globIn (tabLt (by decide))
theorem k_d3 : conAns cd3 (runF Tryd.prog Lk0 400 15 [.int .i64 (.ofNat 3)] (Go.E.start cd3.tabs cd3.A)) = some (cd3.v, cd3.B, [], cd3.objs.map fun x => some x.2) := by kernel_rfl
theorem f_d3 [Sym] : ConFact Tryd.prog 15 [.int .i64 (.ofNat 3)] cd3 := con_of_runF Lk0_ok noCon fn15 k_d3 rfl globIn (tabLt (by decide))
theorem k_d4 : conAns cd4 (runF Tryd.prog Lk0 400 15 [.int .i64 (.ofNat 4)] (Go.E.start cd4.tabs cd4.A)) = some (cd4.v, cd4.B, [], cd4.objs.map fun x => some x.2) := by kernel_rfl
theorem f_d4 [Sym] : ConFact Tryd.prog 15 [.int .i64 (.ofNat 4)] cd4 := con_of_runF Lk0_ok noCon fn15 k_d4 rfl globIn (tabLt (by decide))
theorem k_d5 : conAns cd5 (runF Tryd.prog Lk0 400 15 [.int .i64 (.ofNat 5)] (Go.E.start cd5.tabs cd5.A)) = some (cd5.v, cd5.B, [], cd5.objs.map fun x => some x.2) := by kernel_rfl
theorem f_d5 [Sym] : ConFact Tryd.prog 15 [.int .i64 (.ofNat 5)] cd5 := con_of_runF Lk0_ok noCon fn15 k_d5 rfl globIn (tabLt (by decide))
theorem k_d6 : conAns cd6 (runF Tryd.prog Lk0 400 15 [.int .i64 (.ofNat 6)] (Go.E.start cd6.tabs cd6.A)) = some (cd6.v, cd6.B, [], cd6.objs.map fun x => some x.2) := by kernel_rfl
theorem f_d6 [Sym] : ConFact Tryd.prog 15 [.int .i64 (.ofNat 6)] cd6 := con_of_runF Lk0_ok noCon fn15 k_d6 rfl globIn (tabLt (by decide))
theorem k_d7 : conAns cd7 (runF Tryd.prog Lk0 400 15 [.int .i64 (.ofNat 7)] (Go.E.start cd7.tabs cd7.A)) = some (cd7.v, cd7.B, [], cd7.objs.map fun x => some x.2) := by kernel_rfl
theorem f_d7 [Sym] : ConFact Tryd.prog 15 [.int .i64 (.ofNat 7)] cd7 := con_of_runF Lk0_ok noCon fn15 k_d7 rfl globIn (tabLt (by decide))
theorem k_d8 : conAns cd8 (runF Tryd.prog Lk0 400 15 [.int .i64 (.ofNat 8)] (Go.E.start cd8.tabs cd8.A)) = some (cd8.v, cd8.B, [], cd8.objs.map fun x => some x.2) := by kernel_rfl
theorem f_d8 [Sym] : ConFact Tryd.prog 15 [.int .i64 (.ofNat 8)] cd8 := con_of_runF Lk0_ok noCon fn15 k_d8 rfl globIn (tabLt (by decide))
theorem k_d9 : conAns cd9 (runF Tryd.prog Lk0 400 15 [.int .i64 (.ofNat 9)] (Go.E.start cd9.tabs cd9.A)) = some (cd9.v, cd9.B, [], cd9.objs.map fun x => some x.2) := by kernel_rfl
theorem f_d9 [Sym] : ConFact Tryd.prog 15 [.int .i64 (.ofNat 9)] cd9 := con_of_runF Lk0_ok noCon fn15 k_d9 rfl globIn (tabLt (by decide))
theorem k_d10 : conAns cd10 (runF Tryd.prog Lk0 400 15 [.int .i64 (.ofNat 10)] (Go.E.start cd10.tabs cd10.A)) = some (cd10.v, cd10.B, [], cd10.objs.map fun x => some x.2) := by kernel_rfl
theorem f_d10 [Sym] : ConFact Tryd.prog 15 [.int .i64 (.ofNat 10)] cd10 := con_of_runF Lk0_ok noCon fn15 k_d10 rfl globIn (tabLt (by decide))
theorem k_d11 : conAns cd11 (runF Tryd.prog Lk0 400 15 [.int .i64 (.ofNat 11)] (Go.E.start cd11.tabs cd11.A)) = some (cd11.v, cd11.B, [], cd11.objs.map fun x => some x.2) := by kernel_rfl
theorem f_d11 [Sym] : ConFact Tryd.prog 15 [.int .i64 (.ofNat 11)] cd11 := con_of_runF Lk0_ok noCon fn15 k_d11 rfl globIn (tabLt (by decide))
theorem k_d12 : conAns cd12 (runF Tryd.prog Lk0 400 15 [.int .i64 (.ofNat 12)] (Go.E.start cd12.tabs cd12.A)) = some (cd12.v, cd12.B, [], cd12.objs.map fun x => some x.2) := by kernel_rfl
theorem f_d12 [Sym] : ConFact Tryd.prog 15 [.int .i64 (.ofNat 12)] cd12 := con_of_runF Lk0_ok noCon fn15 k_d12 rfl globIn (tabLt (by decide))
theorem k_d13 : conAns cd13 (runF Tryd.prog Lk0 400 15 [.int .i64 (.ofNat 13)] (Go.E.start cd13.tabs cd13.A)) = some (cd13.v, cd13.B, [], cd13.objs.map fun x => some x.2) := by kernel_rfl
theorem f_d13 [Sym] : ConFact Tryd.prog 15 [.int .i64 (.ofNat 13)] cd13 := con_of_runF Lk0_ok noCon fn15 k_d13 rfl globIn (tabLt (by decide))
theorem k_d14 : conAns cd14 (runF Tryd.prog Lk0 400 15 [.int .i64 (.ofNat 14)] (Go.E.start cd14.tabs cd14.A)) = some (cd14.v, cd14.B, [], cd14.objs.map fun x => some x.2) := by kernel_rfl
theorem f_d14 [Sym] : ConFact Tryd.prog 15 [.int .i64 (.ofNat 14)] cd14 := con_of_runF Lk0_ok noCon fn15 k_d14 rfl globIn (tabLt (by decide))
theorem k_d15 : conAns cd15 (runF Tryd.prog Lk0 400 15 [.int .i64 (.ofNat 15)] (Go.E.start cd15.tabs cd15.A)) = some (cd15.v, cd15.B, [], cd15.objs.map fun x => some x.2) := by kernel_rfl
theorem f_d15 [Sym] : ConFact Tryd.prog 15 [.int .i64 (.ofNat 15)] cd15 := con_of_runF Lk0_ok noCon fn15 k_d15 rfl globIn (tabLt (by decide))
theorem k_d16 : conAns cd16 (runF Tryd.prog Lk0 400 15 [.int .i64 (.ofNat 16)] (Go.E.start cd16.tabs cd16.A)) = some (cd16.v, cd16.B, [], cd16.objs.map fun x => some x.2) := by kernel_rfl
theorem f_d16 [Sym] : ConFact Tryd.prog 15 [.int .i64 (.ofNat 16)] cd16 := con_of_runF Lk0_ok noCon fn15 k_d16 rfl globIn (tabLt (by decide))
theorem k_d17 : conAns cd17 (runF Tryd.prog Lk0 400 15 [.int .i64 (.ofNat 17)] (Go.E.start cd17.tabs cd17.A)) = some (cd17.v, cd17.B, [], cd17.objs.map fun x => some x.2) := by kernel_rfl
theorem f_d17 [Sym] : ConFact Tryd.prog 15 [.int .i64 (.ofNat 17)] cd17 := con_of_runF Lk0_ok noCon fn15 k_d17 rfl globIn (tabLt (by decide))
theorem k_d18 : conAns cd18 (runF Tryd.prog Lk0 400 15 [.int .i64 (.ofNat 18)] (Go.E.start cd18.tabs cd18.A)) = some (cd18.v, cd18.B, [], cd18.objs.map fun x => some x.2) := by kernel_rfl
theorem f_d18 [Sym] : ConFact Tryd.prog 15 [.int .i64 (.ofNat 18)] cd18 := con_of_runF Lk0_ok noCon fn15 k_d18 rfl globIn (tabLt (by decide))
theorem k_d19 : conAns cd19 (runF Tryd.prog Lk0 400 15 [.int .i64 (.ofNat 19)] (Go.E.start cd19.tabs cd19.A)) = some (cd19.v, cd19.B, [], cd19.objs.map fun x => some x.2) := by kernel_rfl
theorem f_d19 [Sym] : ConFact Tryd.prog 15 [.int .i64 (.ofNat 19)] cd19 := con_of_runF Lk0_ok noCon fn15 k_d19 rfl globIn (tabLt (by decide))
theorem k_d20 : conAns cd20 (runF Tryd.prog Lk0 400 15 [.int .i64 (.ofNat 20)] (Go.E.start cd20.tabs cd20.A)) = some (cd20.v, cd20.B, [], cd20.objs.map fun x => some x.2) := by kernel_rfl
theorem f_d20 [Sym] : ConFact Tryd.prog 15 [.int .i64 (.ofNat 20)] cd20 := con_of_runF Lk0_ok noCon fn15 k_d20 rfl globIn (tabLt (by decide))
theorem k_d21 : conAns cd21 (runF Tryd.prog Lk0 400 15 [.int .i64 (.ofNat 21)] (Go.E.start cd21.tabs cd21.A)) = some (cd21.v, cd21.B, [], cd21.objs.map fun x => some x.2) := by kernel_rfl
theorem f_d21 [Sym] : ConFact Tryd.prog 15 [.int .i64 (.ofNat 21)] cd21 := con_of_runF Lk0_ok noCon fn15 k_d21 rfl globIn (tabLt (by decide))
theorem k_d22 : conAns cd22 (runF Tryd.prog Lk0 400 15 [.int .i64 (.ofNat 22)] (Go.E.start cd22.tabs cd22.A)) = some (cd22.v, cd22.B, [], cd22.objs.map fun x => some x.2) := by kernel_rfl
theorem f_d22 [Sym] : ConFact Tryd.prog 15 [.int .i64 (.ofNat 22)] cd22 := con_of_runF Lk0_ok noCon fn15 k_d22 rfl globIn (tabLt (by decide))
theorem k_d23 : conAns cd23 (runF Tryd.prog Lk0 400 15 [.int .i64 (.ofNat 23)] (Go.E.start cd23.tabs cd23.A)) = some (cd23.v, cd23.B, [], cd23.objs.map fun x => some x.2) := by kernel_rfl
theorem f_d23 [Sym] : ConFact Tryd.prog 15 [.int .i64 (.ofNat 23)] cd23 := con_of_runF Lk0_ok noCon fn15 k_d23 rfl globIn (tabLt (by decide))
theorem k_d24 : conAns cd24 (runF Tryd.prog Lk0 400 15 [.int .i64 (.ofNat 24)] (Go.E.start cd24.tabs cd24.A)) = some (cd24.v, cd24.B, [], cd24.objs.map fun x => some x.2) := by kernel_rfl
theorem f_d24 [Sym] : ConFact Tryd.prog 15 [.int .i64 (.ofNat 24)] cd24 := con_of_runF Lk0_ok noCon fn15 k_d24 rfl globIn (tabLt (by decide))
theorem k_d25 : conAns cd25 (runF Tryd.prog Lk0 400 15 [.int .i64 (.ofNat 25)] (Go.E.start cd25.tabs cd25.A)) = some (cd25.v, cd25.B, [], cd25.objs.map fun x => some x.2) := by kernel_rfl
theorem f_d25 [Sym] : ConFact Tryd.prog 15 [.int .i64 (.ofNat 25)] cd25 := con_of_runF Lk0_ok noCon fn15 k_d25 rfl globIn (tabLt (by decide))
theorem k_d26 : conAns cd26 (runF Tryd.prog Lk0 400 15 [.int .i64 (.ofNat 26)] (Go.E.start cd26.tabs cd26.A)) = some (cd26.v, cd26.B, [], cd26.objs.map fun x => some x.2) := by kernel_rfl
theorem f_d26 [Sym] : ConFact Tryd.prog 15 [.int .i64 (.ofNat 26)] cd26 := con_of_runF Lk0_ok noCon fn15 k_d26 rfl globIn (tabLt (by decide))
theorem k_d27 : conAns cd27 (runF Tryd.prog Lk0 400 15 [.int .i64 (.ofNat 27)] (Go.E.start cd27.tabs cd27.A)) = some (cd27.v, cd27.B, [], cd27.objs.map fun x => some x.2) := by kernel_rfl
theorem f_d27 [Sym] : ConFact Tryd.prog 15 [.int .i64 (.ofNat 27)] cd27 := con_of_runF Lk0_ok noCon fn15 k_d27 rfl globIn (tabLt (by decide))
theorem k_d28 : conAns cd28 (runF Tryd.prog Lk0 400 15 [.int .i64 (.ofNat 28)] (Go.E.start cd28.tabs cd28.A)) = some (cd28.v, cd28.B, [], cd28.objs.map fun x => some x.2) := by kernel_rfl
theorem f_d28 [Sym] : ConFact Tryd.prog 15 [.int .i64 (.ofNat 28)] cd28 := con_of_runF Lk0_ok noCon fn15 k_d28 rfl globIn (tabLt (by decide))
theorem k_d29 : conAns cd29 (runF Tryd.prog Lk0 400 15 [.int .i64 (.ofNat 29)] (Go.E.start cd29.tabs cd29.A)) = some (cd29.v, cd29.B, [], cd29.objs.map fun x => some x.2) := by kernel_rfl
theorem f_d29 [Sym] : ConFact Tryd.prog 15 [.int .i64 (.ofNat 29)] cd29 := con_of_runF Lk0_ok noCon fn15 k_d29 rfl globIn (tabLt (by decide))
theorem k_d30 : conAns cd30 (runF Tryd.prog Lk0 400 15 [.int .i64 (.ofNat 30)] (Go.E.start cd30.tabs cd30.A)) = some (cd30.v, cd30.B, [], cd30.objs.map fun x => some x.2) := by kernel_rfl
theorem f_d30 [Sym] : ConFact Tryd.prog 15 [.int .i64 (.ofNat 30)] cd30 := con_of_runF Lk0_ok noCon fn15 k_d30 rfl globIn (tabLt (by decide))
theorem k_d31 : conAns cd31 (runF Tryd.prog Lk0 400 15 [.int .i64 (.ofNat 31)] (Go.E.start cd31.tabs cd31.A)) = some (cd31.v, cd31.B, [], cd31.objs.map fun x => some x.2) := by kernel_rfl
theorem f_d31 [Sym] : ConFact Tryd.prog 15 [.int .i64 (.ofNat 31)] cd31 := con_of_runF Lk0_ok noCon fn15 k_d31 rfl globIn (tabLt (by decide))
theorem k_d32 : conAns cd32 (runF Tryd.prog Lk0 400 15 [.int .i64 (.ofNat 32)] (Go.E.start cd32.tabs cd32.A)) = some (cd32.v, cd32.B, [], cd32.objs.map fun x => some x.2) := by kernel_rfl
theorem f_d32 [Sym] : ConFact Tryd.prog 15 [.int .i64 (.ofNat 32)] cd32 := con_of_runF Lk0_ok noCon fn15 k_d32 rfl globIn (tabLt (by decide))
theorem k_d33 : conAns cd33 (runF Tryd.prog Lk0 400 15 [.int .i64 (.ofNat 33)] (Go.E.start cd33.tabs cd33.A)) = some (cd33.v, cd33.B, [], cd33.objs.map fun x => some x.2) := by kernel_rfl
theorem f_d33 [Sym] : ConFact Tryd.prog 15 [.int .i64 (.ofNat 33)] cd33 := con_of_runF Lk0_ok noCon fn15 k_d33 rfl globIn (tabLt (by decide))
theorem k_d34 : conAns cd34 (runF Tryd.prog Lk0 400 15 [.int .i64 (.ofNat 34)] (Go.E.start cd34.tabs cd34.A)) = some (cd34.v, cd34.B, [], cd34.objs.map fun x => some x.2) := by kernel_rfl
theorem f_d34 [Sym] : ConFact Tryd.prog 15 [.int .i64 (.ofNat 34)] cd34 := con_of_runF Lk0_ok noCon fn15 k_d34 rfl globIn (tabLt (by decide))
theorem k_d35 : conAns cd35 (runF Tryd.prog Lk0 400 15 [.int .i64 (.ofNat 35)] (Go.E.start cd35.tabs cd35.A)) = some (cd35.v, cd35.B, [], cd35.objs.map fun x => some x.2) := by kernel_rfl
theorem f_d35 [Sym] : ConFact Tryd.prog 15 [.int .i64 (.ofNat 35)] cd35 := con_of_runF Lk0_ok noCon fn15 k_d35 rfl globIn (tabLt (by decide))
theorem k_d36 : conAns cd36 (runF Tryd.prog Lk0 400 15 [.int .i64 (.ofNat 36)] (Go.E.start cd36.tabs cd36.A)) = some (cd36.v, cd36.B, [], cd36.objs.map fun x => some x.2) := by kernel_rfl
theorem f_d36 [Sym] : ConFact Tryd.prog 15 [.int .i64 (.ofNat 36)] cd36 := con_of_runF Lk0_ok noCon fn15 k_d36 rfl globIn (tabLt (by decide))
theorem k_d37 : conAns cd37 (runF Tryd.prog Lk0 400 15 [.int .i64 (.ofNat 37)] (Go.E.start cd37.tabs cd37.A)) = some (cd37.v, cd37.B, [], cd37.objs.map fun x => some x.2) := by kernel_rfl
theorem f_d37 [Sym] : ConFact Tryd.prog 15 [.int .i64 (.ofNat 37)] cd37 := con_of_runF Lk0_ok noCon fn15 k_d37 rfl globIn (tabLt (by decide))
theorem k_d38 : conAns cd38 (runF Tryd.prog Lk0 400 15 [.int .i64 (.ofNat 38)] (Go.E.start cd38.tabs cd38.A)) = some (cd38.v, cd38.B, [], cd38.objs.map fun x => some x.2) := by kernel_rfl
theorem f_d38 [Sym] : ConFact Tryd.prog 15 [.int .i64 (.ofNat 38)] cd38 := con_of_runF Lk0_ok noCon fn15 k_d38 rfl globIn (tabLt (by decide))
theorem k_d39 : conAns cd39 (runF Tryd.prog Lk0 400 15 [.int .i64 (.ofNat 39)] (Go.E.start cd39.tabs cd39.A)) = some (cd39.v, cd39.B, [], cd39.objs.map fun x => some x.2) := by kernel_rfl
theorem f_d39 [Sym] : ConFact Tryd.prog 15 [.int .i64 (.ofNat 39)] cd39 := con_of_runF Lk0_ok noCon fn15 k_d39 rfl globIn (tabLt (by decide))
theorem k_d40 : conAns cd40 (runF Tryd.prog Lk0 400 15 [.int .i64 (.ofNat 40)] (Go.E.start cd40.tabs cd40.A)) = some (cd40.v, cd40.B, [], cd40.objs.map fun x => some x.2) := by kernel_rfl
theorem f_d40 [Sym] : ConFact Tryd.prog 15 [.int .i64 (.ofNat 40)] cd40 := con_of_runF Lk0_ok noCon fn15 k_d40 rfl globIn (tabLt (by decide))
theorem k_d41 : conAns cd41 (runF Tryd.prog Lk0 400 15 [.int .i64 (.ofNat 41)] (Go.E.start cd41.tabs cd41.A)) = some (cd41.v, cd41.B, [], cd41.objs.map fun x => some x.2) := by kernel_rfl
theorem f_d41 [Sym] : ConFact Tryd.prog 15 [.int .i64 (.ofNat 41)] cd41 := con_of_runF Lk0_ok noCon fn15 k_d41 rfl globIn (tabLt (by decide))
theorem k_d42 : conAns cd42 (runF Tryd.prog Lk0 400 15 [.int .i64 (.ofNat 42)] (Go.E.start cd42.tabs cd42.A)) = some (cd42.v, cd42.B, [], cd42.objs.map fun x => some x.2) := by kernel_rfl
theorem f_d42 [Sym] : ConFact Tryd.prog 15 [.int .i64 (.ofNat 42)] cd42 := con_of_runF Lk0_ok noCon fn15 k_d42 rfl globIn (tabLt (by decide))
theorem k_d43 : conAns cd43 (runF Tryd.prog Lk0 400 15 [.int .i64 (.ofNat 43)] (Go.E.start cd43.tabs cd43.A)) = some (cd43.v, cd43.B, [], cd43.objs.map fun x => some x.2) := by kernel_rfl
theorem f_d43 [Sym] : ConFact Tryd.prog 15 [.int .i64 (.ofNat 43)] cd43 := con_of_runF Lk0_ok noCon fn15 k_d43 rfl globIn (tabLt (by decide))
theorem k_d44 : conAns cd44 (runF Tryd.prog Lk0 400 15 [.int .i64 (.ofNat 44)] (Go.E.start cd44.tabs cd44.A)) = some (cd44.v, cd44.B, [], cd44.objs.map fun x => some x.2) := by kernel_rfl
theorem f_d44 [Sym] : ConFact Tryd.prog 15 [.int .i64 (.ofNat 44)] cd44 := con_of_runF Lk0_ok noCon fn15 k_d44 rfl globIn (tabLt (by decide))
theorem k_d45 : conAns cd45 (runF Tryd.prog Lk0 400 15 [.int .i64 (.ofNat 45)] (Go.E.start cd45.tabs cd45.A)) = some (cd45.v, cd45.B, [], cd45.objs.map fun x => some x.2) := by kernel_rfl
theorem f_d45 [Sym] : ConFact Tryd.prog 15 [.int .i64 (.ofNat 45)] cd45 := con_of_runF Lk0_ok noCon fn15 k_d45 rfl globIn (tabLt (by decide))
theorem k_d46 : conAns cd46 (runF Tryd.prog Lk0 400 15 [.int .i64 (.ofNat 46)] (Go.E.start cd46.tabs cd46.A)) = some (cd46.v, cd46.B, [], cd46.objs.map fun x => some x.2) := by kernel_rfl
theorem f_d46 [Sym] : ConFact Tryd.prog 15 [.int .i64 (.ofNat 46)] cd46 := con_of_runF Lk0_ok noCon fn15 k_d46 rfl globIn (tabLt (by decide))
theorem k_d47 : conAns cd47 (runF Tryd.prog Lk0 400 15 [.int .i64 (.ofNat 47)] (Go.E.start cd47.tabs cd47.A)) = some (cd47.v, cd47.B, [], cd47.objs.map fun x => some x.2) := by kernel_rfl
theorem f_d47 [Sym] : ConFact Tryd.prog 15 [.int .i64 (.ofNat 47)] cd47 := con_of_runF Lk0_ok noCon fn15 k_d47 rfl globIn (tabLt (by decide))
theorem k_d48 : conAns cd48 (runF Tryd.prog Lk0 400 15 [.int .i64 (.ofNat 48)] (Go.E.start cd48.tabs cd48.A)) = some (cd48.v, cd48.B, [], cd48.objs.map fun x => some x.2) := by kernel_rfl
theorem f_d48 [Sym] : ConFact Tryd.prog 15 [.int .i64 (.ofNat 48)] cd48 := con_of_runF Lk0_ok noCon fn15 k_d48 rfl globIn (tabLt (by decide))
theorem k_d49 : conAns cd49 (runF Tryd.prog Lk0 400 15 [.int .i64 (.ofNat 49)] (Go.E.start cd49.tabs cd49.A)) = some (cd49.v, cd49.B, [], cd49.objs.map fun x => some x.2) := by kernel_rfl
theorem f_d49 [Sym] : ConFact Tryd.prog 15 [.int .i64 (.ofNat 49)] cd49 := con_of_runF Lk0_ok noCon fn15 k_d49 rfl globIn (tabLt (by decide))
theorem k_d50 : conAns cd50 (runF Tryd.prog Lk0 400 15 [.int .i64 (.ofNat 50)] (Go.E.start cd50.tabs cd50.A)) = some (cd50.v, cd50.B, [], cd50.objs.map fun x => some x.2) := by kernel_rfl
theorem f_d50 [Sym] : ConFact Tryd.prog 15 [.int .i64 (.ofNat 50)] cd50 := con_of_runF Lk0_ok noCon fn15 k_d50 rfl globIn (tabLt (by decide))
theorem k_d51 : conAns cd51 (runF Tryd.prog Lk0 400 15 [.int .i64 (.ofNat 51)] (Go.E.start cd51.tabs cd51.A)) = some (cd51.v, cd51.B, [], cd51.objs.map fun x => some x.2) := by kernel_rfl
theorem f_d51 [Sym] : ConFact Tryd.prog 15 [.int .i64 (.ofNat 51)] cd51 := con_of_runF Lk0_ok noCon fn15 k_d51 rfl globIn (tabLt (by decide))
theorem k_d52 : conAns cd52 (runF Tryd.prog Lk0 400 15 [.int .i64 (.ofNat 52)] (Go.E.start cd52.tabs cd52.A)) = some (cd52.v, cd52.B, [], cd52.objs.map fun x => some x.2) := by kernel_rfl
theorem f_d52 [Sym] : ConFact Tryd.prog 15 [.int .i64 (.ofNat 52)] cd52 := con_of_runF Lk0_ok noCon fn15 k_d52 rfl globIn (tabLt (by decide))
theorem k_d53 : conAns cd53 (runF Tryd.prog Lk0 400 15 [.int .i64 (.ofNat 53)] (Go.E.start cd53.tabs cd53.A)) = some (cd53.v, cd53.B, [], cd53.objs.map fun x => some x.2) := by kernel_rfl
theorem f_d53 [Sym] : ConFact Tryd.prog 15 [.int .i64 (.ofNat 53)] cd53 := con_of_runF Lk0_ok noCon fn15 k_d53 rfl globIn (tabLt (by decide))
theorem k_d54 : conAns cd54 (runF Tryd.prog Lk0 400 15 [.int .i64 (.ofNat 54)] (Go.E.start cd54.tabs cd54.A)) = some (cd54.v, cd54.B, [], cd54.objs.map fun x => some x.2) := by kernel_rfl
theorem f_d54 [Sym] : ConFact Tryd.prog 15 [.int .i64 (.ofNat 54)] cd54 := con_of_runF Lk0_ok noCon fn15 k_d54 rfl globIn (tabLt (by decide))
theorem k_d55 : conAns cd55 (runF Tryd.prog Lk0 400 15 [.int .i64 (.ofNat 55)] (Go.E.start cd55.tabs cd55.A)) = some (cd55.v, cd55.B, [], cd55.objs.map fun x => some x.2) := by kernel_rfl
theorem f_d55 [Sym] : ConFact Tryd.prog 15 [.int .i64 (.ofNat 55)] cd55 := con_of_runF Lk0_ok noCon fn15 k_d55 rfl globIn (tabLt (by decide))
theorem k_d56 : conAns cd56 (runF Tryd.prog Lk0 400 15 [.int .i64 (.ofNat 56)] (Go.E.start cd56.tabs cd56.A)) = some (cd56.v, cd56.B, [], cd56.objs.map fun x => some x.2) := by kernel_rfl
theorem f_d56 [Sym] : ConFact Tryd.prog 15 [.int .i64 (.ofNat 56)] cd56 := con_of_runF Lk0_ok noCon fn15 k_d56 rfl globIn (tabLt (by decide))
theorem k_d57 : conAns cd57 (runF Tryd.prog Lk0 400 15 [.int .i64 (.ofNat 57)] (Go.E.start cd57.tabs cd57.A)) = some (cd57.v, cd57.B, [], cd57.objs.map fun x => some x.2) := by kernel_rfl
theorem f_d57 [Sym] : ConFact Tryd.prog 15 [.int .i64 (.ofNat 57)] cd57 := con_of_runF Lk0_ok noCon fn15 k_d57 rfl globIn (tabLt (by decide))
theorem k_d58 : conAns cd58 (runF Tryd.prog Lk0 400 15 [.int .i64 (.ofNat 58)] (Go.E.start cd58.tabs cd58.A)) = some (cd58.v, cd58.B, [], cd58.objs.map fun x => some x.2) := by kernel_rfl
theorem f_d58 [Sym] : ConFact Tryd.prog 15 [.int .i64 (.ofNat 58)] cd58 := con_of_runF Lk0_ok noCon fn15 k_d58 rfl globIn (tabLt (by decide))
theorem k_d59 : conAns cd59 (runF Tryd.prog Lk0 400 15 [.int .i64 (.ofNat 59)] (Go.E.start cd59.tabs cd59.A)) = some (cd59.v, cd59.B, [], cd59.objs.map fun x => some x.2) := by kernel_rfl
theorem f_d59 [Sym] : ConFact Tryd.prog 15 [.int .i64 (.ofNat 59)] cd59 := con_of_runF Lk0_ok noCon fn15 k_d59 rfl globIn (tabLt (by decide))
theorem k_d60 : conAns cd60 (runF Tryd.prog Lk0 400 15 [.int .i64 (.ofNat 60)] (Go.E.start cd60.tabs cd60.A)) = some (cd60.v, cd60.B, [], cd60.objs.map fun x => some x.2) := by kernel_rfl
theorem f_d60 [Sym] : ConFact Tryd.prog 15 [.int .i64 (.ofNat 60)] cd60 := con_of_runF Lk0_ok noCon fn15 k_d60 rfl globIn (tabLt (by decide))
theorem k_d61 : conAns cd61 (runF Tryd.prog Lk0 400 15 [.int .i64 (.ofNat 61)] (Go.E.start cd61.tabs cd61.A)) = some (cd61.v, cd61.B, [], cd61.objs.map fun x => some x.2) := by kernel_rfl
theorem f_d61 [Sym] : ConFact Tryd.prog 15 [.int .i64 (.ofNat 61)] cd61 := con_of_runF Lk0_ok noCon fn15 k_d61 rfl globIn (tabLt (by decide))
theorem k_d62 : conAns cd62 (runF Tryd.prog Lk0 400 15 [.int .i64 (.ofNat 62)] (Go.E.start cd62.tabs cd62.A)) = some (cd62.v, cd62.B, [], cd62.objs.map fun x => some x.2) := by kernel_rfl
theorem f_d62 [Sym] : ConFact Tryd.prog 15 [.int .i64 (.ofNat 62)] cd62 := con_of_runF Lk0_ok noCon fn15 k_d62 rfl globIn (tabLt (by decide))
theorem k_d63 : conAns cd63 (runF Tryd.prog Lk0 400 15 [.int .i64 (.ofNat 63)] (Go.E.start cd63.tabs cd63.A)) = some (cd63.v, cd63.B, [], cd63.objs.map fun x => some x.2) := by kernel_rfl
theorem f_d63 [Sym] : ConFact Tryd.prog 15 [.int .i64 (.ofNat 63)] cd63 := con_of_runF Lk0_ok noCon fn15 k_d63 rfl globIn (tabLt (by decide))
end Go.Proofs.YtfgdoliihmjnoaaDoorE
