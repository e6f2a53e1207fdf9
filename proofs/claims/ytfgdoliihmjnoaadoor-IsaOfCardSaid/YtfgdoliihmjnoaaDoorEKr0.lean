/- Closed runs. Printed by gen_con.py. -/
import Derived.Test.YtfgdoliihmjnoaaDoorECr
set_option linter.unusedSimpArgs false
set_option linter.unusedVariables false
namespace Go.Proofs.YtfgdoliihmjnoaaDoorE
open Go Go.E Go.Proofs
set_option maxRecDepth 100000
theorem k_r0 : conAns re0.c (runF Tryd.prog Lk0 400 39 re0.args (Go.E.start re0.c.tabs re0.c.A)) = some (re0.c.v, re0.c.B, [], re0.c.objs.map fun x => some x.2) := by kernel_rfl
theorem f_r0 [Sym] : ConFact Tryd.prog 39 re0.args re0.c := con_of_runF Lk0_ok noCon fn39 k_r0 rfl globIn (tabLt (by decide))
theorem k_r1 : conAns re1.c (runF Tryd.prog Lk0 400 39 re1.args (Go.E.start re1.c.tabs re1.c.A)) = some (re1.c.v, re1.c.B, [], re1.c.objs.map fun x => some x.2) := by kernel_rfl
theorem f_r1 [Sym] : ConFact Tryd.prog 39 re1.args re1.c := con_of_runF Lk0_ok noCon fn39 k_r1 rfl globIn (tabLt (by decide))
theorem k_r2 : conAns re2.c (runF Tryd.prog Lk0 400 39 re2.args (Go.E.start re2.c.tabs re2.c.A)) = some (re2.c.v, re2.c.B, [], re2.c.objs.map fun x => some x.2) := by kernel_rfl
theorem f_r2 [Sym] : ConFact Tryd.prog 39 re2.args re2.c := con_of_runF Lk0_ok noCon fn39 k_r2 rfl globIn (tabLt (by decide))
theorem k_r3 : conAns re3.c (runF Tryd.prog Lk0 400 39 re3.args (Go.E.start re3.c.tabs re3.c.A)) = some (re3.c.v, re3.c.B, [], re3.c.objs.map fun x => some x.2) := by kernel_rfl
theorem f_r3 [Sym] : ConFact Tryd.prog 39 re3.args re3.c := con_of_runF Lk0_ok noCon fn39 k_r3 rfl globIn (tabLt (by decide))
theorem k_r4 : conAns re4.c (runF Tryd.prog Lk0 400 39 re4.args (Go.E.start re4.c.tabs re4.c.A)) = some (re4.c.v, re4.c.B, [], re4.c.objs.map fun x => some x.2) := by kernel_rfl
theorem f_r4 [Sym] : ConFact Tryd.prog 39 re4.args re4.c := con_of_runF Lk0_ok noCon fn39 k_r4 rfl globIn (tabLt (by decide))
theorem k_r5 : conAns re5.c (runF Tryd.prog Lk0 400 39 re5.args (Go.E.start re5.c.tabs re5.c.A)) = some (re5.c.v, re5.c.B, [], re5.c.objs.map fun x => some x.2) := by kernel_rfl
theorem f_r5 [Sym] : ConFact Tryd.prog 39 re5.args re5.c := con_of_runF Lk0_ok noCon fn39 k_r5 rfl globIn (tabLt (by decide))
theorem k_r6 : conAns re6.c (runF Tryd.prog Lk0 400 39 re6.args (Go.E.start re6.c.tabs re6.c.A)) = some (re6.c.v, re6.c.B, [], re6.c.objs.map fun x => some x.2) := by kernel_rfl
theorem f_r6 [Sym] : ConFact Tryd.prog 39 re6.args re6.c := con_of_runF Lk0_ok noCon fn39 k_r6 rfl globIn (tabLt (by decide))
theorem k_r7 : conAns re7.c (runF Tryd.prog Lk0 400 39 re7.args (Go.E.start re7.c.tabs re7.c.A)) = some (re7.c.v, re7.c.B, [], re7.c.objs.map fun x => some x.2) := by kernel_rfl
theorem f_r7 [Sym] : ConFact Tryd.prog 39 re7.args re7.c := con_of_runF Lk0_ok noCon fn39 k_r7 rfl globIn (tabLt (by decide))
theorem k_r8 : conAns re8.c (runF Tryd.prog Lk0 400 39 re8.args (Go.E.start re8.c.tabs re8.c.A)) = some (re8.c.v, re8.c.B, [], re8.c.objs.map fun x => some x.2) := by kernel_rfl
theorem f_r8 [Sym] : ConFact Tryd.prog 39 re8.args re8.c := con_of_runF Lk0_ok noCon fn39 k_r8 rfl globIn (tabLt (by decide))
theorem k_r9 : conAns re9.c (runF Tryd.prog Lk0 400 39 re9.args (Go.E.start re9.c.tabs re9.c.A)) = some (re9.c.v, re9.c.B, [], re9.c.objs.map fun x => some x.2) := by kernel_rfl
theorem f_r9 [Sym] : ConFact Tryd.prog 39 re9.args re9.c := con_of_runF Lk0_ok noCon fn39 k_r9 rfl globIn (tabLt (by decide))
theorem k_r10 : conAns re10.c (runF Tryd.prog Lk0 400 39 re10.args (Go.E.start re10.c.tabs re10.c.A)) = some (re10.c.v, re10.c.B, [], re10.c.objs.map fun x => some x.2) := by kernel_rfl
theorem f_r10 [Sym] : ConFact Tryd.prog 39 re10.args re10.c := con_of_runF Lk0_ok noCon fn39 k_r10 rfl globIn (tabLt (by decide))
theorem k_r11 : conAns re11.c (runF Tryd.prog Lk0 400 39 re11.args (Go.E.start re11.c.tabs re11.c.A)) = some (re11.c.v, re11.c.B, [], re11.c.objs.map fun x => some x.2) := by kernel_rfl
theorem f_r11 [Sym] : ConFact Tryd.prog 39 re11.args re11.c := con_of_runF Lk0_ok noCon fn39 k_r11 rfl globIn (tabLt (by decide))
theorem k_r12 : conAns re12.c (runF Tryd.prog Lk0 400 39 re12.args (Go.E.start re12.c.tabs re12.c.A)) = some (re12.c.v, re12.c.B, [], re12.c.objs.map fun x => some x.2) := by kernel_rfl
theorem f_r12 [Sym] : ConFact Tryd.prog 39 re12.args re12.c := con_of_runF Lk0_ok noCon fn39 k_r12 rfl globIn (tabLt (by decide))
theorem k_r13 : conAns re13.c (runF Tryd.prog Lk0 400 39 re13.args (Go.E.start re13.c.tabs re13.c.A)) = some (re13.c.v, re13.c.B, [], re13.c.objs.map fun x => some x.2) := by kernel_rfl
theorem f_r13 [Sym] : ConFact Tryd.prog 39 re13.args re13.c := con_of_runF Lk0_ok noCon fn39 k_r13 rfl globIn (tabLt (by decide))
theorem k_r14 : conAns re14.c (runF Tryd.prog Lk0 400 39 re14.args (Go.E.start re14.c.tabs re14.c.A)) = some (re14.c.v, re14.c.B, [], re14.c.objs.map fun x => some x.2) := by kernel_rfl
theorem f_r14 [Sym] : ConFact Tryd.prog 39 re14.args re14.c := con_of_runF Lk0_ok noCon fn39 k_r14 rfl globIn (tabLt (by decide))
theorem k_r15 : conAns re15.c (runF Tryd.prog Lk0 400 39 re15.args (Go.E.start re15.c.tabs re15.c.A)) = some (re15.c.v, re15.c.B, [], re15.c.objs.map fun x => some x.2) := by kernel_rfl
theorem f_r15 [Sym] : ConFact Tryd.prog 39 re15.args re15.c := con_of_runF Lk0_ok noCon fn39 k_r15 rfl globIn (tabLt (by decide))
theorem k_r16 : conAns re16.c (runF Tryd.prog Lk0 400 39 re16.args (Go.E.start re16.c.tabs re16.c.A)) = some (re16.c.v, re16.c.B, [], re16.c.objs.map fun x => some x.2) := by kernel_rfl
theorem f_r16 [Sym] : ConFact Tryd.prog 39 re16.args re16.c := con_of_runF Lk0_ok noCon fn39 k_r16 rfl globIn (tabLt (by decide))
theorem k_r17 : conAns re17.c (runF Tryd.prog Lk0 400 39 re17.args (Go.E.start re17.c.tabs re17.c.A)) = some (re17.c.v, re17.c.B, [], re17.c.objs.map fun x => some x.2) := by kernel_rfl
theorem f_r17 [Sym] : ConFact Tryd.prog 39 re17.args re17.c := con_of_runF Lk0_ok noCon fn39 k_r17 rfl globIn (tabLt (by decide))
theorem k_r18 : conAns re18.c (runF Tryd.prog Lk0 400 39 re18.args (Go.E.start re18.c.tabs re18.c.A)) = some (re18.c.v, re18.c.B, [], re18.c.objs.map fun x => some x.2) := by kernel_rfl
theorem f_r18 [Sym] : ConFact Tryd.prog 39 re18.args re18.c := con_of_runF Lk0_ok noCon fn39 k_r18 rfl globIn (tabLt (by decide))
theorem k_r19 : conAns re19.c (runF Tryd.prog Lk0 400 39 re19.args (Go.E.start re19.c.tabs re19.c.A)) = some (re19.c.v, re19.c.B, [], re19.c.objs.map fun x => some x.2) := by kernel_rfl
theorem f_r19 [Sym] : ConFact Tryd.prog 39 re19.args re19.c := con_of_runF Lk0_ok noCon fn39 k_r19 rfl globIn (tabLt (by decide))
theorem k_r20 : conAns re20.c (runF Tryd.prog Lk0 400 39 re20.args (Go.E.start re20.c.tabs re20.c.A)) = some (re20.c.v, re20.c.B, [], re20.c.objs.map fun x => some x.2) := by kernel_rfl
theorem f_r20 [Sym] : ConFact Tryd.prog 39 re20.args re20.c := con_of_runF Lk0_ok noCon fn39 k_r20 rfl globIn (tabLt (by decide))
theorem k_r21 : conAns re21.c (runF Tryd.prog Lk0 400 39 re21.args (Go.E.start re21.c.tabs re21.c.A)) = some (re21.c.v, re21.c.B, [], re21.c.objs.map fun x => some x.2) := by kernel_rfl
theorem f_r21 [Sym] : ConFact Tryd.prog 39 re21.args re21.c := con_of_runF Lk0_ok noCon fn39 k_r21 rfl globIn (tabLt (by decide))
theorem k_r22 : conAns re22.c (runF Tryd.prog Lk0 400 39 re22.args (Go.E.start re22.c.tabs re22.c.A)) = some (re22.c.v, re22.c.B, [], re22.c.objs.map fun x => some x.2) := by kernel_rfl
theorem f_r22 [Sym] : ConFact Tryd.prog 39 re22.args re22.c := con_of_runF Lk0_ok noCon fn39 k_r22 rfl globIn (tabLt (by decide))
theorem k_r23 : conAns re23.c (runF Tryd.prog Lk0 400 39 re23.args (Go.E.start re23.c.tabs re23.c.A)) = some (re23.c.v, re23.c.B, [], re23.c.objs.map fun x => some x.2) := by kernel_rfl
theorem f_r23 [Sym] : ConFact Tryd.prog 39 re23.args re23.c := con_of_runF Lk0_ok noCon fn39 k_r23 rfl globIn (tabLt (by decide))
theorem k_r24 : conAns re24.c (runF Tryd.prog Lk0 400 39 re24.args (Go.E.start re24.c.tabs re24.c.A)) = some (re24.c.v, re24.c.B, [], re24.c.objs.map fun x => some x.2) := by kernel_rfl
theorem f_r24 [Sym] : ConFact Tryd.prog 39 re24.args re24.c := con_of_runF Lk0_ok noCon fn39 k_r24 rfl globIn (tabLt (by decide))
theorem k_r25 : conAns re25.c (runF Tryd.prog Lk0 400 39 re25.args (Go.E.start re25.c.tabs re25.c.A)) = some (re25.c.v, re25.c.B, [], re25.c.objs.map fun x => some x.2) := by kernel_rfl
theorem f_r25 [Sym] : ConFact Tryd.prog 39 re25.args re25.c := con_of_runF Lk0_ok noCon fn39 k_r25 rfl globIn (tabLt (by decide))
theorem k_r26 : conAns re26.c (runF Tryd.prog Lk0 400 39 re26.args (Go.E.start re26.c.tabs re26.c.A)) = some (re26.c.v, re26.c.B, [], re26.c.objs.map fun x => some x.2) := by kernel_rfl
theorem f_r26 [Sym] : ConFact Tryd.prog 39 re26.args re26.c := con_of_runF Lk0_ok noCon fn39 k_r26 rfl globIn (tabLt (by decide))
theorem k_r27 : conAns re27.c (runF Tryd.prog Lk0 400 39 re27.args (Go.E.start re27.c.tabs re27.c.A)) = some (re27.c.v, re27.c.B, [], re27.c.objs.map fun x => some x.2) := by kernel_rfl
theorem f_r27 [Sym] : ConFact Tryd.prog 39 re27.args re27.c := con_of_runF Lk0_ok noCon fn39 k_r27 rfl globIn (tabLt (by decide))
theorem k_r28 : conAns re28.c (runF Tryd.prog Lk0 400 39 re28.args (Go.E.start re28.c.tabs re28.c.A)) = some (re28.c.v, re28.c.B, [], re28.c.objs.map fun x => some x.2) := by kernel_rfl
theorem f_r28 [Sym] : ConFact Tryd.prog 39 re28.args re28.c := con_of_runF Lk0_ok noCon fn39 k_r28 rfl globIn (tabLt (by decide))
theorem k_r29 : conAns re29.c (runF Tryd.prog Lk0 400 39 re29.args (Go.E.start re29.c.tabs re29.c.A)) = some (re29.c.v, re29.c.B, [], re29.c.objs.map fun x => some x.2) := by kernel_rfl
theorem f_r29 [Sym] : ConFact Tryd.prog 39 re29.args re29.c := con_of_runF Lk0_ok noCon fn39 k_r29 rfl globIn (tabLt (by decide))
theorem k_r30 : conAns re30.c (runF Tryd.prog Lk0 400 39 re30.args (Go.E.start re30.c.tabs re30.c.A)) = some (re30.c.v, re30.c.B, [], re30.c.objs.map fun x => some x.2) := by kernel_rfl
theorem f_r30 [Sym] : ConFact Tryd.prog 39 re30.args re30.c := con_of_runF Lk0_ok noCon fn39 k_r30 rfl globIn (tabLt (by decide))
theorem k_r31 : conAns re31.c (runF Tryd.prog Lk0 400 39 re31.args (Go.E.start re31.c.tabs re31.c.A)) = some (re31.c.v, re31.c.B, [], re31.c.objs.map fun x => some x.2) := by kernel_rfl
theorem f_r31 [Sym] : ConFact Tryd.prog 39 re31.args re31.c := con_of_runF Lk0_ok noCon fn39 k_r31 rfl globIn (tabLt (by decide))
theorem k_r32 : conAns re32.c (runF Tryd.prog Lk0 400 39 re32.args (Go.E.start re32.c.tabs re32.c.A)) = some (re32.c.v, re32.c.B, [], re32.c.objs.map fun x => some x.2) := by kernel_rfl
theorem f_r32 [Sym] : ConFact Tryd.prog 39 re32.args re32.c := con_of_runF Lk0_ok noCon fn39 k_r32 rfl globIn (tabLt (by decide))
theorem k_r33 : conAns re33.c (runF Tryd.prog Lk0 400 39 re33.args (Go.E.start re33.c.tabs re33.c.A)) = some (re33.c.v, re33.c.B, [], re33.c.objs.map fun x => some x.2) := by kernel_rfl
theorem f_r33 [Sym] : ConFact Tryd.prog 39 re33.args re33.c := con_of_runF Lk0_ok noCon fn39 k_r33 rfl globIn (tabLt (by decide))
theorem k_r34 : conAns re34.c (runF Tryd.prog Lk0 400 39 re34.args (Go.E.start re34.c.tabs re34.c.A)) = some (re34.c.v, re34.c.B, [], re34.c.objs.map fun x => some x.2) := by kernel_rfl
theorem f_r34 [Sym] : ConFact Tryd.prog 39 re34.args re34.c := con_of_runF Lk0_ok noCon fn39 k_r34 rfl globIn (tabLt (by decide))
end Go.Proofs.YtfgdoliihmjnoaaDoorE
