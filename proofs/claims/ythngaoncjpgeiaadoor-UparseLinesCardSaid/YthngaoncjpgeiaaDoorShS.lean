/- Shallow texts of functions, printed by a program and compared by the kernel. -/
import Derived.Test.YthngaoncjpgeiaaDoorPar1
set_option linter.unusedVariables false
set_option linter.unusedSimpArgs false
set_option maxRecDepth 20000
namespace Go.Proofs.YthngaoncjpgeiaaDoorE
open Go Go.E Go.Proofs
noncomputable def camshaftlaw16_alive (cf : CallS) (lf : LoopS)  (st : SS) : Option (Value × SS) :=
  (cf 20 [.string ⟨#[103, 111, 58, 32, 97, 108, 117, 61, 97, 100, 100, 32, 116, 111, 61, 103, 111, 43, 49]⟩] (st.ro st.next)).bind fun r1 =>
  (tupG r1.1 0).bind fun v2 =>
  (tupG r1.1 1).bind fun v3 =>
  ((tupG r1.1 2).bind (asI .i64)).bind fun n4 =>
  let st5 : SS := r1.2.new (.cells [.int .i64 0, .int .i64 0] 0)
  (st5.stV r1.2.next 0 2 v3).bind fun st6 =>
  cond (decide (n4 = 0)) (
   ((lenV v2).bind (asI .i64)).bind fun n7 =>
   cond (decide (n7 = 1)) (
    (elemS v2 0 5).bind fun p8 =>
    ((st6.ld p8.1 (p8.2 + 1)).bind asS).bind fun s9 =>
    cond (eqT s9 ⟨#[103, 111]⟩) (
     (elemS v2 0 5).bind fun p10 =>
     (st6.ld p10.1 (p10.2 + 4)).bind fun v11 =>
     ((lenV v11).bind (asI .i64)).bind fun n12 =>
     cond (decide (n12 = 2)) (
      (elemS v2 0 5).bind fun p13 =>
      (st6.ld p13.1 (p13.2 + 4)).bind fun v14 =>
      (elemS v14 1 5).bind fun p15 =>
      (st6.ldN p15.1 (p15.2 + 2) 3).bind fun v16 =>
      (((eqA Tryd.prog Lk0 57 v16 (.agg #[.string ⟨#[103, 111]⟩, .int .i64 1, .int .i64 16])).bind fun r => some (.bool r)).bind asB).bind fun b17 =>
      some (.bool b17, st.adv st6.next)) (
      some (.bool false, st.adv st6.next))) (
     some (.bool false, st.adv st6.next))) (
    some (.bool false, st.adv st6.next))) (
   some (.bool false, st.adv st6.next))
theorem camshaftlaw16_alive_sh (cf : CallS) (lf : LoopS)  (st : SS) : bodyS Tryd.prog Lk0 cf lf noLi Tryd.f19 true [] st = camshaftlaw16_alive cf lf  st := by kernel_rfl
noncomputable abbrev camshaftlaw16_alive_lf : LoopS := lS Tryd.prog Lk0 Tryd.f19 noLi
theorem camshaftlaw16_alive_fn : Lk0.func 19 = some (19, Tryd.f19) := by kernel_rfl
theorem camshaftlaw16_alive_eq [Sym]  (st : SS) {r : Value × SS} (h : camshaftlaw16_alive cc camshaftlaw16_alive_lf  st = some r) : cc 19 [] st = some r :=
  body_sound Lk0_ok Lk0_S camshaftlaw16_alive_fn rfl (fun _ => rfl) ((camshaftlaw16_alive_sh _ _  st).trans h)
def I_camshaftlaw16_UparseIs_10 : LoopI := ⟨[(3, .any), (6, .any), (52, .int .i64), (53, .int .i64)], [(.exit 0, []), (.ret, [(2, .bool)])]⟩
def li_camshaftlaw16_UparseIs (n : Nat) : Option LoopI := cond (Nat.beq n 10) (some I_camshaftlaw16_UparseIs_10) (none)
noncomputable def camshaftlaw16_UparseIs (cf : CallS) (lf : LoopS) (text' : ByteArray) (st : SS) : Option (Value × SS) :=
  (cf 19 [] st).bind fun r1 =>
  ((some r1.1).bind asB).bind fun b2 =>
  cond (!b2) (
   some (.bool false, r1.2)) (
   cond (decide (2048 < (text'.size : Int))) (
    some (.bool true, r1.2)) (
    (cf 20 [.string text'] r1.2).bind fun r3 =>
    (tupG r3.1 0).bind fun v4 =>
    (tupG r3.1 1).bind fun v5 =>
    ((tupG r3.1 2).bind (asI .i64)).bind fun n6 =>
    let st7 : SS := r3.2.new (.cells [.int .i64 0, .int .i64 0] 0)
    (st7.stV r3.2.next 0 2 v5).bind fun st8 =>
    (cf 21 [.string text'] st8).bind fun r9 =>
    (tupG r9.1 0).bind fun v10 =>
    (tupG r9.1 1).bind fun v11 =>
    let st12 : SS := r9.2.new (.cells [.int .i64 0, .int .i64 0] 0)
    (st12.stV r9.2.next 0 2 v11).bind fun st13 =>
    (st13.ldN r3.2.next 0 2).bind fun v14 =>
    (st13.ldN r9.2.next 0 2).bind fun v15 =>
    (((eqA Tryd.prog Lk0 24 v14 v15).bind fun r => some (.bool !r)).bind asB).bind fun b16 =>
    cond b16 (
     some (.bool false, st13)) (
     (elemA (ptr r9.2.next 0) 2 0 1).bind fun p17 =>
     ((st13.ld p17.1 p17.2).bind (asI .i64)).bind fun n18 =>
     cond (!((decide (n6 = 0)) == (decide (n18 = 0)))) (
      some (.bool false, st13)) (
      cond (!(decide (n6 = 0))) (
       cond (!(decide (n6 = 4))) (
        some (.bool false, st13)) (
        ((lenV v4).bind (asI .i64)).bind fun n19 =>
        ((lenV v10).bind (asI .i64)).bind fun n20 =>
        cond (!(decide (n19 = n20))) (
         some (.bool false, st13)) (
         ((lenV v4).bind (asI .i64)).bind fun n21 =>
         (lf 10 [v4, v10, .int .i64 n21, .int .i64 0] st13).bind fun r22 =>
         cond (Nat.beq r22.1 0) (
          some (.bool true, r22.2.2)) (
          ((r22.2.1[0]?).bind asB).bind fun b23 =>
          some (.bool b23, r22.2.2))))) (
       ((lenV v4).bind (asI .i64)).bind fun n24 =>
       ((lenV v10).bind (asI .i64)).bind fun n25 =>
       cond (!(decide (n24 = n25))) (
        some (.bool false, st13)) (
        ((lenV v4).bind (asI .i64)).bind fun n26 =>
        (lf 10 [v4, v10, .int .i64 n26, .int .i64 0] st13).bind fun r27 =>
        cond (Nat.beq r27.1 0) (
         some (.bool true, r27.2.2)) (
         ((r27.2.1[0]?).bind asB).bind fun b28 =>
         some (.bool b28, r27.2.2))))))))
theorem camshaftlaw16_UparseIs_sh (cf : CallS) (lf : LoopS) (text' : ByteArray) (st : SS) : bodyS Tryd.prog Lk0 cf lf li_camshaftlaw16_UparseIs Tryd.f9 false [.string text'] st = camshaftlaw16_UparseIs cf lf text' st := by kernel_rfl
noncomputable abbrev camshaftlaw16_UparseIs_lf : LoopS := lS Tryd.prog Lk0 Tryd.f9 li_camshaftlaw16_UparseIs
theorem camshaftlaw16_UparseIs_fn : Lk0.func 9 = some (9, Tryd.f9) := by kernel_rfl
theorem camshaftlaw16_UparseIs_eq [Sym] (text' : ByteArray) (st : SS) {r : Value × SS} (h : camshaftlaw16_UparseIs cc camshaftlaw16_UparseIs_lf text' st = some r) : cc 9 [.string text'] st = some r :=
  body_sound Lk0_ok Lk0_S camshaftlaw16_UparseIs_fn rfl (fun _ => rfl) ((camshaftlaw16_UparseIs_sh _ _ text' st).trans h)
noncomputable def camshaftlaw16_UparseIs_l10 (cf : CallS) (lf : LoopS) (l' : Value) (m' : Value) (t52' : Int) (t53' : Int) (st : SS) : Option (Nat × List Value × SS) :=
  cond (decide (t53' < t52')) (
   (elemS l' t53' 5).bind fun p1 =>
   (st.ldN p1.1 p1.2 5).bind fun v2 =>
   (cf 23 [v2] (st.ro st.next)).bind fun r3 =>
   (elemS m' t53' 5).bind fun p4 =>
   ((r3.2.ro st.lim).ldN p4.1 p4.2 5).bind fun v5 =>
   (cf 22 [r3.1, v5, .bool true] (r3.2.ro st.lim)).bind fun r6 =>
   ((some r6.1).bind asB).bind fun b7 =>
   cond (!b7) (
    some (1, [.bool false], r6.2)) (
    let n8 : Int := IntKind.wrap .i64 (t53' + 1)
    lf 10 [l', m', .int .i64 t52', .int .i64 n8] r6.2)) (
   some (0, [], st))
theorem camshaftlaw16_UparseIs_l10_sh (cf : CallS) (lf : LoopS) (l' : Value) (m' : Value) (t52' : Int) (t53' : Int) (st : SS) : loopS Tryd.prog Lk0 cf lf li_camshaftlaw16_UparseIs (loopC Tryd.f9 10) I_camshaftlaw16_UparseIs_10 Tryd.f9.ntmps [l', m', .int .i64 t52', .int .i64 t53'] st = camshaftlaw16_UparseIs_l10 cf lf l' m' t52' t53' st := by kernel_rfl
theorem camshaftlaw16_UparseIs_l10_eq [Sym] (l' : Value) (m' : Value) (t52' : Int) (t53' : Int) (st : SS) {r : Nat × List Value × SS} (h : camshaftlaw16_UparseIs_l10 cc camshaftlaw16_UparseIs_lf l' m' t52' t53' st = some r) : camshaftlaw16_UparseIs_lf 10 [l', m', .int .i64 t52', .int .i64 t53'] st = some r :=
  loop_sound Lk0_ok Lk0_S (key := 10) (I := I_camshaftlaw16_UparseIs_10) rfl (by kernel_rfl) (by kernel_rfl) rfl rfl ((camshaftlaw16_UparseIs_l10_sh _ _ l' m' t52' t53' st).trans h)
def I_camshaftlaw16_UparseLines_10 : LoopI := ⟨[(3, .any), (6, .int .i64), (34, .any), (35, .int .i64), (36, .int .i64)], [(.exit 0, [(3, .any), (6, .int .i64)]), (.ret, [(2, .bool)])]⟩
def li_camshaftlaw16_UparseLines (n : Nat) : Option LoopI := cond (Nat.beq n 10) (some I_camshaftlaw16_UparseLines_10) (none)
noncomputable def camshaftlaw16_UparseLines (cf : CallS) (lf : LoopS) (text' : ByteArray) (st : SS) : Option (Value × SS) :=
  (cf 19 [] st).bind fun r1 =>
  ((some r1.1).bind asB).bind fun b2 =>
  cond (!b2) (
   some (.bool false, r1.2)) (
   cond (decide (2048 < (text'.size : Int))) (
    some (.bool true, r1.2)) (
    (cf 20 [.string text'] r1.2).bind fun r3 =>
    (tupG r3.1 0).bind fun v4 =>
    (tupG r3.1 1).bind fun v5 =>
    ((tupG r3.1 2).bind (asI .i64)).bind fun n6 =>
    let st7 : SS := r3.2.new (.cells [.int .i64 0, .int .i64 0] 0)
    (st7.stV r3.2.next 0 2 v5).bind fun st8 =>
    cond (!(decide (n6 = 0))) (
     ((lenV v4).bind (asI .i64)).bind fun n9 =>
     cond (decide (n9 = 0)) (
      (elemA (ptr r3.2.next 0) 2 0 1).bind fun p10 =>
      ((st8.ld p10.1 p10.2).bind (asI .i64)).bind fun n11 =>
      some (.bool (decide (0 < n11)), st8)) (
      some (.bool false, st8))) (
     (cf 18 [.string text', .int .u8 10] st8).bind fun r12 =>
     ((lenV r12.1).bind (asI .i64)).bind fun n13 =>
     (lf 10 [v4, .int .i64 0, r12.1, .int .i64 n13, .int .i64 0] r12.2).bind fun r14 =>
     cond (Nat.beq r14.1 0) (
      (r14.2.1[0]?).bind fun v15 =>
      ((r14.2.1[1]?).bind (asI .i64)).bind fun n16 =>
      ((lenV v15).bind (asI .i64)).bind fun n17 =>
      some (.bool (decide (n16 = n17)), r14.2.2)) (
      ((r14.2.1[0]?).bind asB).bind fun b18 =>
      some (.bool b18, r14.2.2)))))
theorem camshaftlaw16_UparseLines_sh (cf : CallS) (lf : LoopS) (text' : ByteArray) (st : SS) : bodyS Tryd.prog Lk0 cf lf li_camshaftlaw16_UparseLines Tryd.f10 false [.string text'] st = camshaftlaw16_UparseLines cf lf text' st := by kernel_rfl
noncomputable abbrev camshaftlaw16_UparseLines_lf : LoopS := lS Tryd.prog Lk0 Tryd.f10 li_camshaftlaw16_UparseLines
theorem camshaftlaw16_UparseLines_fn : Lk0.func 10 = some (10, Tryd.f10) := by kernel_rfl
theorem camshaftlaw16_UparseLines_eq [Sym] (text' : ByteArray) (st : SS) {r : Value × SS} (h : camshaftlaw16_UparseLines cc camshaftlaw16_UparseLines_lf text' st = some r) : cc 10 [.string text'] st = some r :=
  body_sound Lk0_ok Lk0_S camshaftlaw16_UparseLines_fn rfl (fun _ => rfl) ((camshaftlaw16_UparseLines_sh _ _ text' st).trans h)
noncomputable def camshaftlaw16_UparseLines_l10 (cf : CallS) (lf : LoopS) (all' : Value) (n' : Int) (t34' : Value) (t35' : Int) (t36' : Int) (st : SS) : Option (Nat × List Value × SS) :=
  cond (decide (t36' < t35')) (
   (elemS t34' t36' 1).bind fun p1 =>
   ((st.ld p1.1 p1.2).bind asS).bind fun s2 =>
   (cf 20 [.string s2] st).bind fun r3 =>
   (tupG r3.1 0).bind fun v4 =>
   (tupG r3.1 1).bind fun v5 =>
   ((tupG r3.1 2).bind (asI .i64)).bind fun n6 =>
   let st7 : SS := r3.2.new (.cells [.int .i64 0, .int .i64 0] 0)
   (st7.stV r3.2.next 0 2 v5).bind fun st8 =>
   cond (!(decide (n6 = 0))) (
    some (1, [.bool false], st8)) (
    ((lenV v4).bind (asI .i64)).bind fun n9 =>
    cond (decide (1 < n9)) (
     some (1, [.bool false], st8)) (
     ((lenV v4).bind (asI .i64)).bind fun n10 =>
     cond (decide (n10 = 1)) (
      ((lenV all').bind (asI .i64)).bind fun n11 =>
      cond (decide (n11 ≤ n')) (
       some (1, [.bool false], st8)) (
       (elemS all' n' 5).bind fun p12 =>
       ((st8.ld p12.1 p12.2).bind (asI .i64)).bind fun n13 =>
       let n14 : Int := IntKind.wrap .i64 (t36' + 1)
       cond (!(decide (n13 = n14))) (
        some (1, [.bool false], st8)) (
        (elemS all' n' 5).bind fun p15 =>
        (st8.ldN p15.1 p15.2 5).bind fun v16 =>
        (cf 23 [v16] (st8.ro st8.next)).bind fun r17 =>
        (elemS v4 0 5).bind fun p18 =>
        ((r17.2.ro st8.lim).ldN p18.1 p18.2 5).bind fun v19 =>
        (cf 23 [v19] (r17.2.ro st8.lim)).bind fun r20 =>
        (cf 22 [r17.1, r20.1, .bool false] r20.2).bind fun r21 =>
        ((some r21.1).bind asB).bind fun b22 =>
        cond (!b22) (
         some (1, [.bool false], r21.2)) (
         let n23 : Int := IntKind.wrap .i64 (n' + 1)
         let n24 : Int := IntKind.wrap .i64 (t36' + 1)
         lf 10 [all', .int .i64 n23, t34', .int .i64 t35', .int .i64 n24] r21.2)))) (
      let n25 : Int := IntKind.wrap .i64 (t36' + 1)
      lf 10 [all', .int .i64 n', t34', .int .i64 t35', .int .i64 n25] st8)))) (
   some (0, [all', .int .i64 n'], st))
theorem camshaftlaw16_UparseLines_l10_sh (cf : CallS) (lf : LoopS) (all' : Value) (n' : Int) (t34' : Value) (t35' : Int) (t36' : Int) (st : SS) : loopS Tryd.prog Lk0 cf lf li_camshaftlaw16_UparseLines (loopC Tryd.f10 10) I_camshaftlaw16_UparseLines_10 Tryd.f10.ntmps [all', .int .i64 n', t34', .int .i64 t35', .int .i64 t36'] st = camshaftlaw16_UparseLines_l10 cf lf all' n' t34' t35' t36' st := by kernel_rfl
theorem camshaftlaw16_UparseLines_l10_eq [Sym] (all' : Value) (n' : Int) (t34' : Value) (t35' : Int) (t36' : Int) (st : SS) {r : Nat × List Value × SS} (h : camshaftlaw16_UparseLines_l10 cc camshaftlaw16_UparseLines_lf all' n' t34' t35' t36' st = some r) : camshaftlaw16_UparseLines_lf 10 [all', .int .i64 n', t34', .int .i64 t35', .int .i64 t36'] st = some r :=
  loop_sound Lk0_ok Lk0_S (key := 10) (I := I_camshaftlaw16_UparseLines_10) rfl (by kernel_rfl) (by kernel_rfl) rfl rfl ((camshaftlaw16_UparseLines_l10_sh _ _ all' n' t34' t35' t36' st).trans h)
end Go.Proofs.YthngaoncjpgeiaaDoorE
