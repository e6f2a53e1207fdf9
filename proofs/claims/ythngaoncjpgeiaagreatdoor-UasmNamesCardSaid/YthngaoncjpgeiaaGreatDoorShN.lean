/- Shallow texts of functions, printed by a program and compared by the kernel. -/
import Derived.Test.YthngaoncjpgeiaaGreatDoorTab
set_option linter.unusedVariables false
set_option linter.unusedSimpArgs false
set_option maxRecDepth 20000
namespace Go.Proofs.YthngaoncjpgeiaaGreatDoorE
open Go Go.E Go.Proofs
def I_camshaftlaw17_UasmNames_18 : LoopI := ⟨[(10, .any), (11, .any), (62, .int .i64), (63, .int .i64)], [(.exit 2, []), (.ret, [(6, .bool)])]⟩
def I_camshaftlaw17_UasmNames_9 : LoopI := ⟨[(2, .int .i64), (4, .any), (7, .any), (8, .any), (36, .int .i64), (37, .int .i64)], [(.exit 0, [(2, .int .i64), (4, .any)]), (.ret, [(6, .bool)])]⟩
def li_camshaftlaw17_UasmNames (n : Nat) : Option LoopI := cond (Nat.beq n 9) (some I_camshaftlaw17_UasmNames_9) (cond (Nat.beq n 18) (some I_camshaftlaw17_UasmNames_18) (none))
noncomputable def camshaftlaw17_UasmNames (cf : CallS) (lf : LoopS) (field' : ByteArray) (w' : Value) (at0' : Int) (st : SS) : Option (Value × SS) :=
  let st1 : SS := st.new (.cells (w' : Value).cells.toList 0)
  (cf 16 [] st1).bind fun r2 =>
  ((some r2.1).bind asB).bind fun b3 =>
  cond (!b3) (
   some (.bool false, r2.2)) (
   cond (decide (256 < (field'.size : Int))) (
    some (.bool true, r2.2)) (
    cond (decide (at0' < 0)) (
     some (.bool true, r2.2)) (
     cond (decide (1099511627776 < at0')) (
      some (.bool true, r2.2)) (
      (cf 20 [.string field'] r2.2).bind fun r4 =>
      (cf 21 [.string field'] r4.2).bind fun r5 =>
      ((lenV r4.1).bind (asI .i64)).bind fun n6 =>
      ((lenV r5.1).bind (asI .i64)).bind fun n7 =>
      cond (!(decide (n6 = n7))) (
       some (.bool false, r5.2)) (
       ((lenV r4.1).bind (asI .i64)).bind fun n8 =>
       (lf 9 [.int .i64 at0', ptr st.next 0, r4.1, r5.1, .int .i64 n8, .int .i64 0] r5.2).bind fun r9 =>
       cond (Nat.beq r9.1 0) (
        ((r9.2.1[0]?).bind (asI .i64)).bind fun n10 =>
        (r9.2.1[1]?).bind fun v11 =>
        (addr? v11).bind fun p12 =>
        (r9.2.2.ldN p12.1 p12.2 12).bind fun v13 =>
        (cf 22 [v13, .int .i64 n10] (r9.2.2.ro r9.2.2.next)).bind fun r14 =>
        (addr? v11).bind fun p15 =>
        ((r14.2.ro r9.2.2.lim).ldN p15.1 p15.2 12).bind fun v16 =>
        (cf 23 [v16, .int .i64 n10] (r14.2.ro r9.2.2.lim)).bind fun r17 =>
        ((lenV r14.1).bind (asI .i64)).bind fun n18 =>
        ((lenV r17.1).bind (asI .i64)).bind fun n19 =>
        cond (!(decide (n18 = n19))) (
         some (.bool false, r17.2)) (
         ((lenV r14.1).bind (asI .i64)).bind fun n20 =>
         (lf 18 [r14.1, r17.1, .int .i64 n20, .int .i64 0] r17.2).bind fun r21 =>
         cond (Nat.beq r21.1 0) (
          some (.bool true, r21.2.2)) (
          ((r21.2.1[0]?).bind asB).bind fun b22 =>
          some (.bool b22, r21.2.2)))) (
        ((r9.2.1[0]?).bind asB).bind fun b23 =>
        some (.bool b23, r9.2.2)))))))
theorem camshaftlaw17_UasmNames_sh (cf : CallS) (lf : LoopS) (field' : ByteArray) (w' : Value) (at0' : Int) (st : SS) : bodyS Tryz.prog Lk0 cf lf li_camshaftlaw17_UasmNames Tryz.f4 false [.string field', w', .int .i64 at0'] st = camshaftlaw17_UasmNames cf lf field' w' at0' st := by kernel_rfl
noncomputable abbrev camshaftlaw17_UasmNames_lf : LoopS := lS Tryz.prog Lk0 Tryz.f4 li_camshaftlaw17_UasmNames
theorem camshaftlaw17_UasmNames_fn : Lk0.func 4 = some (4, Tryz.f4) := by kernel_rfl
theorem camshaftlaw17_UasmNames_eq [Sym] (field' : ByteArray) (w' : Value) (at0' : Int) (st : SS) {r : Value × SS} (h : camshaftlaw17_UasmNames cc camshaftlaw17_UasmNames_lf field' w' at0' st = some r) : cc 4 [.string field', w', .int .i64 at0'] st = some r :=
  body_sound Lk0_ok Lk0_S camshaftlaw17_UasmNames_fn rfl (fun _ => rfl) ((camshaftlaw17_UasmNames_sh _ _ field' w' at0' st).trans h)
noncomputable def camshaftlaw17_UasmNames_l9 (cf : CallS) (lf : LoopS) (at0' : Int) (w' : Value) (a' : Value) (b' : Value) (t36' : Int) (t37' : Int) (st : SS) : Option (Nat × List Value × SS) :=
  cond (decide (t37' < t36')) (
   (elemS a' t37' 1).bind fun p1 =>
   ((st.ld p1.1 p1.2).bind asS).bind fun s2 =>
   (elemS b' t37' 1).bind fun p3 =>
   ((st.ld p3.1 p3.2).bind asS).bind fun s4 =>
   cond (!(eqT s2 s4)) (
    some (1, [.bool false], st)) (
    let n5 : Int := IntKind.wrap .i64 (t37' + 1)
    lf 9 [.int .i64 at0', w', a', b', .int .i64 t36', .int .i64 n5] st)) (
   some (0, [.int .i64 at0', w'], st))
theorem camshaftlaw17_UasmNames_l9_sh (cf : CallS) (lf : LoopS) (at0' : Int) (w' : Value) (a' : Value) (b' : Value) (t36' : Int) (t37' : Int) (st : SS) : loopS Tryz.prog Lk0 cf lf li_camshaftlaw17_UasmNames (loopC Tryz.f4 9) I_camshaftlaw17_UasmNames_9 Tryz.f4.ntmps [.int .i64 at0', w', a', b', .int .i64 t36', .int .i64 t37'] st = camshaftlaw17_UasmNames_l9 cf lf at0' w' a' b' t36' t37' st := by kernel_rfl
theorem camshaftlaw17_UasmNames_l9_eq [Sym] (at0' : Int) (w' : Value) (a' : Value) (b' : Value) (t36' : Int) (t37' : Int) (st : SS) {r : Nat × List Value × SS} (h : camshaftlaw17_UasmNames_l9 cc camshaftlaw17_UasmNames_lf at0' w' a' b' t36' t37' st = some r) : camshaftlaw17_UasmNames_lf 9 [.int .i64 at0', w', a', b', .int .i64 t36', .int .i64 t37'] st = some r :=
  loop_sound Lk0_ok Lk0_S (key := 9) (I := I_camshaftlaw17_UasmNames_9) rfl (by kernel_rfl) (by kernel_rfl) rfl rfl ((camshaftlaw17_UasmNames_l9_sh _ _ at0' w' a' b' t36' t37' st).trans h)
noncomputable def camshaftlaw17_UasmNames_l18 (cf : CallS) (lf : LoopS) (x' : Value) (y' : Value) (t62' : Int) (t63' : Int) (st : SS) : Option (Nat × List Value × SS) :=
  cond (decide (t63' < t62')) (
   (elemS x' t63' 2).bind fun p1 =>
   (st.ldN p1.1 p1.2 2).bind fun v2 =>
   (elemS y' t63' 2).bind fun p3 =>
   (st.ldN p3.1 p3.2 2).bind fun v4 =>
   (((eqA Tryz.prog Lk0 27 v2 v4).bind fun r => some (.bool !r)).bind asB).bind fun b5 =>
   cond b5 (
    some (1, [.bool false], st)) (
    let n6 : Int := IntKind.wrap .i64 (t63' + 1)
    lf 18 [x', y', .int .i64 t62', .int .i64 n6] st)) (
   some (0, [], st))
theorem camshaftlaw17_UasmNames_l18_sh (cf : CallS) (lf : LoopS) (x' : Value) (y' : Value) (t62' : Int) (t63' : Int) (st : SS) : loopS Tryz.prog Lk0 cf lf li_camshaftlaw17_UasmNames (loopC Tryz.f4 18) I_camshaftlaw17_UasmNames_18 Tryz.f4.ntmps [x', y', .int .i64 t62', .int .i64 t63'] st = camshaftlaw17_UasmNames_l18 cf lf x' y' t62' t63' st := by kernel_rfl
theorem camshaftlaw17_UasmNames_l18_eq [Sym] (x' : Value) (y' : Value) (t62' : Int) (t63' : Int) (st : SS) {r : Nat × List Value × SS} (h : camshaftlaw17_UasmNames_l18 cc camshaftlaw17_UasmNames_lf x' y' t62' t63' st = some r) : camshaftlaw17_UasmNames_lf 18 [x', y', .int .i64 t62', .int .i64 t63'] st = some r :=
  loop_sound Lk0_ok Lk0_S (key := 18) (I := I_camshaftlaw17_UasmNames_18) rfl (by kernel_rfl) (by kernel_rfl) rfl rfl ((camshaftlaw17_UasmNames_l18_sh _ _ x' y' t62' t63' st).trans h)
end Go.Proofs.YthngaoncjpgeiaaGreatDoorE
