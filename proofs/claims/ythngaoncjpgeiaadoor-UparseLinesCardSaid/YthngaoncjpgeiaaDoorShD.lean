/- Shallow texts of functions, printed by a program and compared by the kernel. -/
import Derived.Test.YthngaoncjpgeiaaDoorLex7
set_option linter.unusedVariables false
set_option linter.unusedSimpArgs false
set_option maxRecDepth 20000
namespace Go.Proofs.YthngaoncjpgeiaaDoorE
open Go Go.E Go.Proofs
noncomputable def camshaftlaw15_alive (cf : CallS) (lf : LoopS)  (st : SS) : Option (Value × SS) :=
  (cf 15 [.string ⟨#[116, 111, 61, 108, 111, 111, 112]⟩] (st.ro st.next)).bind fun r1 =>
  (tupG r1.1 0).bind fun v2 =>
  (tupG r1.1 1).bind fun v3 =>
  ((tupG r1.1 2).bind (asI .i64)).bind fun n4 =>
  let st5 : SS := r1.2.new (.cells [.int .i64 0, .int .i64 0] 0)
  (st5.stV r1.2.next 0 2 v3).bind fun st6 =>
  cond (decide (n4 = 0)) (
   ((lenV v2).bind (asI .i64)).bind fun n7 =>
   cond (decide (n7 = 4)) (
    (elemS v2 0 5).bind fun p8 =>
    ((st6.ld p8.1 (p8.2 + 1)).bind asS).bind fun s9 =>
    cond (eqT s9 ⟨#[116, 111]⟩) (
     (elemS v2 1 5).bind fun p10 =>
     ((st6.ld p10.1 p10.2).bind (asI .i64)).bind fun n11 =>
     cond (decide (n11 = 3)) (
      (elemS v2 2 5).bind fun p12 =>
      ((st6.ld p12.1 p12.2).bind (asI .i64)).bind fun n13 =>
      cond (decide (n13 = 1)) (
       (elemS v2 3 5).bind fun p14 =>
       (st6.ldN p14.1 p14.2 5).bind fun v15 =>
       (((eqA Tryd.prog Lk0 36 v15 (.agg #[.int .i64 0, .string ⟨#[]⟩, .int .i64 0, .int .i64 1, .int .i64 8])).bind fun r => some (.bool r)).bind asB).bind fun b16 =>
       cond b16 (
        some (.bool true, st.adv st6.next)) (
        some (.bool false, st.adv st6.next))) (
       some (.bool false, st.adv st6.next))) (
      some (.bool false, st.adv st6.next))) (
     some (.bool false, st.adv st6.next))) (
    some (.bool false, st.adv st6.next))) (
   some (.bool false, st.adv st6.next))
theorem camshaftlaw15_alive_sh (cf : CallS) (lf : LoopS)  (st : SS) : bodyS Tryd.prog Lk0 cf lf noLi Tryd.f14 true [] st = camshaftlaw15_alive cf lf  st := by kernel_rfl
noncomputable abbrev camshaftlaw15_alive_lf : LoopS := lS Tryd.prog Lk0 Tryd.f14 noLi
theorem camshaftlaw15_alive_fn : Lk0.func 14 = some (14, Tryd.f14) := by kernel_rfl
theorem camshaftlaw15_alive_eq [Sym]  (st : SS) {r : Value × SS} (h : camshaftlaw15_alive cc camshaftlaw15_alive_lf  st = some r) : cc 14 [] st = some r :=
  body_sound Lk0_ok Lk0_S camshaftlaw15_alive_fn rfl (fun _ => rfl) ((camshaftlaw15_alive_sh _ _  st).trans h)
def I_camshaftlaw15_same_4 : LoopI := ⟨[(1, .any), (12, .any), (13, .int .i64), (14, .int .i64)], [(.exit 0, []), (.ret, [(4, .bool)])]⟩
def li_camshaftlaw15_same (n : Nat) : Option LoopI := cond (Nat.beq n 4) (some I_camshaftlaw15_same_4) (none)
noncomputable def camshaftlaw15_same (cf : CallS) (lf : LoopS) (a' : Value) (b' : Value) (st : SS) : Option (Value × SS) :=
  ((lenV a').bind (asI .i64)).bind fun n1 =>
  ((lenV b').bind (asI .i64)).bind fun n2 =>
  cond (!(decide (n1 = n2))) (
   some (.bool false, st.adv (st.ro st.next).next)) (
   ((lenV a').bind (asI .i64)).bind fun n3 =>
   (lf 4 [b', a', .int .i64 n3, .int .i64 0] (st.ro st.next)).bind fun r4 =>
   cond (Nat.beq r4.1 0) (
    some (.bool true, st.adv r4.2.2.next)) (
    ((r4.2.1[0]?).bind asB).bind fun b5 =>
    some (.bool b5, st.adv r4.2.2.next)))
theorem camshaftlaw15_same_sh (cf : CallS) (lf : LoopS) (a' : Value) (b' : Value) (st : SS) : bodyS Tryd.prog Lk0 cf lf li_camshaftlaw15_same Tryd.f17 true [a', b'] st = camshaftlaw15_same cf lf a' b' st := by kernel_rfl
noncomputable abbrev camshaftlaw15_same_lf : LoopS := lS Tryd.prog Lk0 Tryd.f17 li_camshaftlaw15_same
theorem camshaftlaw15_same_fn : Lk0.func 17 = some (17, Tryd.f17) := by kernel_rfl
theorem camshaftlaw15_same_eq [Sym] (a' : Value) (b' : Value) (st : SS) {r : Value × SS} (h : camshaftlaw15_same cc camshaftlaw15_same_lf a' b' st = some r) : cc 17 [a', b'] st = some r :=
  body_sound Lk0_ok Lk0_S camshaftlaw15_same_fn rfl (fun _ => rfl) ((camshaftlaw15_same_sh _ _ a' b' st).trans h)
noncomputable def camshaftlaw15_same_l4 (cf : CallS) (lf : LoopS) (b' : Value) (t12' : Value) (t13' : Int) (t14' : Int) (st : SS) : Option (Nat × List Value × SS) :=
  cond (decide (t14' < t13')) (
   (elemS t12' t14' 5).bind fun p1 =>
   (st.ldN p1.1 p1.2 5).bind fun v2 =>
   let st3 : SS := st.new (.cells [.int .i64 0, .string ⟨#[]⟩, .int .i64 0, .int .i64 0, .int .i64 0] 0)
   (st3.stV st.next 0 5 v2).bind fun st4 =>
   ((st4.ld st.next 0).bind (asI .i64)).bind fun n5 =>
   ((st4.ld st.next 1).bind asS).bind fun s6 =>
   ((st4.ld st.next 2).bind (asI .i64)).bind fun n7 =>
   ((st4.ld st.next 3).bind (asI .i64)).bind fun n8 =>
   ((st4.ld st.next 4).bind (asI .i64)).bind fun n9 =>
   (elemS b' t14' 5).bind fun p10 =>
   (st4.ldN p10.1 p10.2 5).bind fun v11 =>
   (((eqA Tryd.prog Lk0 73 (.agg #[.int .i64 n5, .string s6, .int .i64 n7, .int .i64 n8, .int .i64 n9]) v11).bind fun r => some (.bool !r)).bind asB).bind fun b12 =>
   cond b12 (
    some (1, [.bool false], st4)) (
    let n13 : Int := IntKind.wrap .i64 (t14' + 1)
    lf 4 [b', t12', .int .i64 t13', .int .i64 n13] st4)) (
   some (0, [], st))
theorem camshaftlaw15_same_l4_sh (cf : CallS) (lf : LoopS) (b' : Value) (t12' : Value) (t13' : Int) (t14' : Int) (st : SS) : loopS Tryd.prog Lk0 cf lf li_camshaftlaw15_same (loopC Tryd.f17 4) I_camshaftlaw15_same_4 Tryd.f17.ntmps [b', t12', .int .i64 t13', .int .i64 t14'] st = camshaftlaw15_same_l4 cf lf b' t12' t13' t14' st := by kernel_rfl
theorem camshaftlaw15_same_l4_eq [Sym] (b' : Value) (t12' : Value) (t13' : Int) (t14' : Int) (st : SS) {r : Nat × List Value × SS} (h : camshaftlaw15_same_l4 cc camshaftlaw15_same_lf b' t12' t13' t14' st = some r) : camshaftlaw15_same_lf 4 [b', t12', .int .i64 t13', .int .i64 t14'] st = some r :=
  loop_sound Lk0_ok Lk0_S (key := 4) (I := I_camshaftlaw15_same_4) rfl (by kernel_rfl) (by kernel_rfl) rfl rfl ((camshaftlaw15_same_l4_sh _ _ b' t12' t13' t14' st).trans h)
noncomputable def camshaftlaw15_UlexIs (cf : CallS) (lf : LoopS) (text' : ByteArray) (st : SS) : Option (Value × SS) :=
  (cf 14 [] st).bind fun r1 =>
  ((some r1.1).bind asB).bind fun b2 =>
  cond (!b2) (
   some (.bool false, r1.2)) (
   cond (decide (2048 < (text'.size : Int))) (
    some (.bool true, r1.2)) (
    (cf 15 [.string text'] r1.2).bind fun r3 =>
    (tupG r3.1 0).bind fun v4 =>
    (tupG r3.1 1).bind fun v5 =>
    ((tupG r3.1 2).bind (asI .i64)).bind fun n6 =>
    let st7 : SS := r3.2.new (.cells [.int .i64 0, .int .i64 0] 0)
    (st7.stV r3.2.next 0 2 v5).bind fun st8 =>
    (cf 16 [.string text'] st8).bind fun r9 =>
    (tupG r9.1 0).bind fun v10 =>
    (tupG r9.1 1).bind fun v11 =>
    let st12 : SS := r9.2.new (.cells [.int .i64 0, .int .i64 0] 0)
    (st12.stV r9.2.next 0 2 v11).bind fun st13 =>
    (elemA (ptr r9.2.next 0) 2 0 1).bind fun p14 =>
    ((st13.ld p14.1 p14.2).bind (asI .i64)).bind fun n15 =>
    cond (decide (0 < n15)) (
     cond (decide (n6 = 4)) (
      (st13.ldN r3.2.next 0 2).bind fun v16 =>
      (st13.ldN r9.2.next 0 2).bind fun v17 =>
      (((eqA Tryd.prog Lk0 24 v16 v17).bind fun r => some (.bool r)).bind asB).bind fun b18 =>
      cond b18 (
       ((lenV v4).bind (asI .i64)).bind fun n19 =>
       some (.bool (decide (n19 = 0)), st13)) (
       some (.bool false, st13))) (
      some (.bool false, st13))) (
     cond (decide (n6 = 0)) (
      (st13.ldN r3.2.next 0 2).bind fun v20 =>
      (st13.ldN r9.2.next 0 2).bind fun v21 =>
      (((eqA Tryd.prog Lk0 24 v20 v21).bind fun r => some (.bool r)).bind asB).bind fun b22 =>
      cond b22 (
       (cf 17 [v4, v10] st13).bind fun r23 =>
       ((some r23.1).bind asB).bind fun b24 =>
       some (.bool b24, r23.2)) (
       some (.bool false, st13))) (
      some (.bool false, st13)))))
theorem camshaftlaw15_UlexIs_sh (cf : CallS) (lf : LoopS) (text' : ByteArray) (st : SS) : bodyS Tryd.prog Lk0 cf lf noLi Tryd.f3 false [.string text'] st = camshaftlaw15_UlexIs cf lf text' st := by kernel_rfl
noncomputable abbrev camshaftlaw15_UlexIs_lf : LoopS := lS Tryd.prog Lk0 Tryd.f3 noLi
theorem camshaftlaw15_UlexIs_fn : Lk0.func 3 = some (3, Tryd.f3) := by kernel_rfl
theorem camshaftlaw15_UlexIs_eq [Sym] (text' : ByteArray) (st : SS) {r : Value × SS} (h : camshaftlaw15_UlexIs cc camshaftlaw15_UlexIs_lf text' st = some r) : cc 3 [.string text'] st = some r :=
  body_sound Lk0_ok Lk0_S camshaftlaw15_UlexIs_fn rfl (fun _ => rfl) ((camshaftlaw15_UlexIs_sh _ _ text' st).trans h)
end Go.Proofs.YthngaoncjpgeiaaDoorE
