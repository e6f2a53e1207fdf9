/- Shallow texts of functions, printed by a program and compared by the kernel. -/
import Derived.Test.YthngaoncjpgeiaaDoorLex8
set_option linter.unusedVariables false
set_option linter.unusedSimpArgs false
set_option maxRecDepth 20000
namespace Go.Proofs.YthngaoncjpgeiaaDoorE
open Go Go.E Go.Proofs
def I_camshaftlaw15_UlexLines_15 : LoopI := ⟨[(3, .any), (4, .any), (5, .int .i64), (6, .int .i64), (7, .int .i64), (26, .any), (27, .int .i64), (28, .int .i64), (55, .any), (56, .int .i64), (57, .int .i64)], [(.exit 2, [(3, .any), (4, .any), (5, .int .i64), (6, .int .i64), (26, .any), (27, .int .i64), (28, .int .i64)]), (.ret, [(2, .bool)])]⟩
def I_camshaftlaw15_UlexLines_8 : LoopI := ⟨[(3, .any), (4, .any), (5, .int .i64), (6, .int .i64), (26, .any), (27, .int .i64), (28, .int .i64)], [(.exit 0, [(3, .any), (5, .int .i64), (6, .int .i64)]), (.ret, [(2, .bool)])]⟩
def li_camshaftlaw15_UlexLines (n : Nat) : Option LoopI := cond (Nat.beq n 8) (some I_camshaftlaw15_UlexLines_8) (cond (Nat.beq n 15) (some I_camshaftlaw15_UlexLines_15) (none))
noncomputable def camshaftlaw15_UlexLines (cf : CallS) (lf : LoopS) (text' : ByteArray) (st : SS) : Option (Value × SS) :=
  (cf 14 [] st).bind fun r1 =>
  ((some r1.1).bind asB).bind fun b2 =>
  cond (!b2) (
   some (.bool false, r1.2)) (
   cond (decide (2048 < (text'.size : Int))) (
    some (.bool true, r1.2)) (
    (cf 15 [.string text'] r1.2).bind fun r3 =>
    (tupG r3.1 0).bind fun v4 =>
    (tupG r3.1 1).bind fun v5 =>
    ((tupG r3.1 2).bind (asI .i64)).bind fun n6 =>
    let st7 : SS := r3.2.new (.cells [.int .i64 0, .int .i64 0] 0)
    (st7.stV r3.2.next 0 2 v5).bind fun st8 =>
    (cf 18 [.string text', .int .u8 10] st8).bind fun r9 =>
    ((lenV r9.1).bind (asI .i64)).bind fun n10 =>
    (lf 8 [v4, ptr r3.2.next 0, .int .i64 n6, .int .i64 0, r9.1, .int .i64 n10, .int .i64 0] r9.2).bind fun r11 =>
    cond (Nat.beq r11.1 0) (
     (r11.2.1[0]?).bind fun v12 =>
     ((r11.2.1[1]?).bind (asI .i64)).bind fun n13 =>
     ((r11.2.1[2]?).bind (asI .i64)).bind fun n14 =>
     cond (decide (n13 = 0)) (
      ((lenV v12).bind (asI .i64)).bind fun n15 =>
      some (.bool (decide (n14 = n15)), r11.2.2)) (
      some (.bool false, r11.2.2))) (
     ((r11.2.1[0]?).bind asB).bind fun b16 =>
     some (.bool b16, r11.2.2))))
theorem camshaftlaw15_UlexLines_sh (cf : CallS) (lf : LoopS) (text' : ByteArray) (st : SS) : bodyS Tryd.prog Lk0 cf lf li_camshaftlaw15_UlexLines Tryd.f4 false [.string text'] st = camshaftlaw15_UlexLines cf lf text' st := by kernel_rfl
noncomputable abbrev camshaftlaw15_UlexLines_lf : LoopS := lS Tryd.prog Lk0 Tryd.f4 li_camshaftlaw15_UlexLines
theorem camshaftlaw15_UlexLines_fn : Lk0.func 4 = some (4, Tryd.f4) := by kernel_rfl
theorem camshaftlaw15_UlexLines_eq [Sym] (text' : ByteArray) (st : SS) {r : Value × SS} (h : camshaftlaw15_UlexLines cc camshaftlaw15_UlexLines_lf text' st = some r) : cc 4 [.string text'] st = some r :=
  body_sound Lk0_ok Lk0_S camshaftlaw15_UlexLines_fn rfl (fun _ => rfl) ((camshaftlaw15_UlexLines_sh _ _ text' st).trans h)
noncomputable def camshaftlaw15_UlexLines_l8 (cf : CallS) (lf : LoopS) (all' : Value) (at0' : Value) (e' : Int) (n' : Int) (t26' : Value) (t27' : Int) (t28' : Int) (st : SS) : Option (Nat × List Value × SS) :=
  cond (decide (t28' < t27')) (
   (elemS t26' t28' 1).bind fun p1 =>
   ((st.ld p1.1 p1.2).bind asS).bind fun s2 =>
   (cf 15 [.string s2] st).bind fun r3 =>
   (tupG r3.1 0).bind fun v4 =>
   (tupG r3.1 1).bind fun v5 =>
   ((tupG r3.1 2).bind (asI .i64)).bind fun n6 =>
   let st7 : SS := r3.2.new (.cells [.int .i64 0, .int .i64 0] 0)
   (st7.stV r3.2.next 0 2 v5).bind fun st8 =>
   cond (!(decide (n6 = 0))) (
    cond (decide (e' = n6)) (
     (addr? at0').bind fun p9 =>
     (st8.ldN p9.1 p9.2 2).bind fun v10 =>
     let n11 : Int := IntKind.wrap .i64 (t28' + 1)
     (elemA (ptr r3.2.next 0) 2 1 1).bind fun p12 =>
     ((st8.ld p12.1 p12.2).bind (asI .i64)).bind fun n13 =>
     (((eqA Tryd.prog Lk0 24 v10 (.agg #[.int .i64 n11, .int .i64 n13])).bind fun r => some (.bool r)).bind asB).bind fun b14 =>
     some (1, [.bool b14], st8)) (
     some (1, [.bool false], st8))) (
    cond (decide (e' = 0)) (
     ((lenV v4).bind (asI .i64)).bind fun n15 =>
     (lf 15 [all', at0', .int .i64 e', .int .i64 n', .int .i64 t28', t26', .int .i64 t27', .int .i64 t28', v4, .int .i64 n15, .int .i64 0] st8).bind fun r16 =>
     cond (Nat.beq r16.1 0) (
      (r16.2.1[0]?).bind fun v17 =>
      (r16.2.1[1]?).bind fun v18 =>
      ((r16.2.1[2]?).bind (asI .i64)).bind fun n19 =>
      ((r16.2.1[3]?).bind (asI .i64)).bind fun n20 =>
      (r16.2.1[4]?).bind fun v21 =>
      ((r16.2.1[5]?).bind (asI .i64)).bind fun n22 =>
      ((r16.2.1[6]?).bind (asI .i64)).bind fun n23 =>
      let n24 : Int := IntKind.wrap .i64 (n23 + 1)
      lf 8 [v17, v18, .int .i64 n19, .int .i64 n20, v21, .int .i64 n22, .int .i64 n24] r16.2.2) (
      ((r16.2.1[0]?).bind asB).bind fun b25 =>
      some (1, [.bool b25], r16.2.2))) (
     let n26 : Int := IntKind.wrap .i64 (t28' + 1)
     lf 8 [all', at0', .int .i64 e', .int .i64 n', t26', .int .i64 t27', .int .i64 n26] st8))) (
   some (0, [all', .int .i64 e', .int .i64 n'], st))
theorem camshaftlaw15_UlexLines_l8_sh (cf : CallS) (lf : LoopS) (all' : Value) (at0' : Value) (e' : Int) (n' : Int) (t26' : Value) (t27' : Int) (t28' : Int) (st : SS) : loopS Tryd.prog Lk0 cf lf li_camshaftlaw15_UlexLines (loopC Tryd.f4 8) I_camshaftlaw15_UlexLines_8 Tryd.f4.ntmps [all', at0', .int .i64 e', .int .i64 n', t26', .int .i64 t27', .int .i64 t28'] st = camshaftlaw15_UlexLines_l8 cf lf all' at0' e' n' t26' t27' t28' st := by kernel_rfl
theorem camshaftlaw15_UlexLines_l8_eq [Sym] (all' : Value) (at0' : Value) (e' : Int) (n' : Int) (t26' : Value) (t27' : Int) (t28' : Int) (st : SS) {r : Nat × List Value × SS} (h : camshaftlaw15_UlexLines_l8 cc camshaftlaw15_UlexLines_lf all' at0' e' n' t26' t27' t28' st = some r) : camshaftlaw15_UlexLines_lf 8 [all', at0', .int .i64 e', .int .i64 n', t26', .int .i64 t27', .int .i64 t28'] st = some r :=
  loop_sound Lk0_ok Lk0_S (key := 8) (I := I_camshaftlaw15_UlexLines_8) rfl (by kernel_rfl) (by kernel_rfl) rfl rfl ((camshaftlaw15_UlexLines_l8_sh _ _ all' at0' e' n' t26' t27' t28' st).trans h)
noncomputable def camshaftlaw15_UlexLines_l15 (cf : CallS) (lf : LoopS) (all' : Value) (at0' : Value) (e' : Int) (n' : Int) (i' : Int) (t26' : Value) (t27' : Int) (t28' : Int) (t55' : Value) (t56' : Int) (t57' : Int) (st : SS) : Option (Nat × List Value × SS) :=
  cond (decide (t57' < t56')) (
   (elemS t55' t57' 5).bind fun p1 =>
   (st.ldN p1.1 p1.2 5).bind fun v2 =>
   let st3 : SS := st.new (.cells [.int .i64 0, .string ⟨#[]⟩, .int .i64 0, .int .i64 0, .int .i64 0] 0)
   (st3.stV st.next 0 5 v2).bind fun st4 =>
   let n5 : Int := IntKind.wrap .i64 (i' + 1)
   (st4.st st.next 3 [.int .i64 n5]).bind fun st6 =>
   ((lenV all').bind (asI .i64)).bind fun n7 =>
   cond (decide (n7 ≤ n')) (
    some (1, [.bool false], st6)) (
    (elemS all' n' 5).bind fun p8 =>
    (st6.ldN p8.1 p8.2 5).bind fun v9 =>
    (st6.ldN st.next 0 5).bind fun v10 =>
    (((eqA Tryd.prog Lk0 36 v9 v10).bind fun r => some (.bool !r)).bind asB).bind fun b11 =>
    cond b11 (
     some (1, [.bool false], st6)) (
     let n12 : Int := IntKind.wrap .i64 (n' + 1)
     let n13 : Int := IntKind.wrap .i64 (t57' + 1)
     lf 15 [all', at0', .int .i64 e', .int .i64 n12, .int .i64 i', t26', .int .i64 t27', .int .i64 t28', t55', .int .i64 t56', .int .i64 n13] st6))) (
   some (0, [all', at0', .int .i64 e', .int .i64 n', t26', .int .i64 t27', .int .i64 t28'], st))
theorem camshaftlaw15_UlexLines_l15_sh (cf : CallS) (lf : LoopS) (all' : Value) (at0' : Value) (e' : Int) (n' : Int) (i' : Int) (t26' : Value) (t27' : Int) (t28' : Int) (t55' : Value) (t56' : Int) (t57' : Int) (st : SS) : loopS Tryd.prog Lk0 cf lf li_camshaftlaw15_UlexLines (loopC Tryd.f4 15) I_camshaftlaw15_UlexLines_15 Tryd.f4.ntmps [all', at0', .int .i64 e', .int .i64 n', .int .i64 i', t26', .int .i64 t27', .int .i64 t28', t55', .int .i64 t56', .int .i64 t57'] st = camshaftlaw15_UlexLines_l15 cf lf all' at0' e' n' i' t26' t27' t28' t55' t56' t57' st := by kernel_rfl
theorem camshaftlaw15_UlexLines_l15_eq [Sym] (all' : Value) (at0' : Value) (e' : Int) (n' : Int) (i' : Int) (t26' : Value) (t27' : Int) (t28' : Int) (t55' : Value) (t56' : Int) (t57' : Int) (st : SS) {r : Nat × List Value × SS} (h : camshaftlaw15_UlexLines_l15 cc camshaftlaw15_UlexLines_lf all' at0' e' n' i' t26' t27' t28' t55' t56' t57' st = some r) : camshaftlaw15_UlexLines_lf 15 [all', at0', .int .i64 e', .int .i64 n', .int .i64 i', t26', .int .i64 t27', .int .i64 t28', t55', .int .i64 t56', .int .i64 t57'] st = some r :=
  loop_sound Lk0_ok Lk0_S (key := 15) (I := I_camshaftlaw15_UlexLines_15) rfl (by kernel_rfl) (by kernel_rfl) rfl rfl ((camshaftlaw15_UlexLines_l15_sh _ _ all' at0' e' n' i' t26' t27' t28' t55' t56' t57' st).trans h)
def I_camshaftlaw15_UlexCovers_17 : LoopI := ⟨[(5, .int .i64), (6, .any), (7, .int .i64), (10, .any), (11, .str), (12, .int .i64), (26, .any), (27, .int .i64), (28, .int .i64)], [(.exit 2, [(5, .int .i64), (6, .any), (7, .int .i64), (10, .any), (26, .any), (27, .int .i64), (28, .int .i64)]), (.ret, [(2, .bool)])]⟩
def I_camshaftlaw15_UlexCovers_9 : LoopI := ⟨[(5, .int .i64), (6, .any), (7, .int .i64), (8, .int .i64), (26, .any), (27, .int .i64), (28, .int .i64)], [(.exit 0, [(5, .int .i64), (6, .any), (7, .int .i64)]), (.ret, [(2, .bool)])]⟩
def li_camshaftlaw15_UlexCovers (n : Nat) : Option LoopI := cond (Nat.beq n 9) (some I_camshaftlaw15_UlexCovers_9) (cond (Nat.beq n 17) (some I_camshaftlaw15_UlexCovers_17) (none))
noncomputable def camshaftlaw15_UlexCovers (cf : CallS) (lf : LoopS) (text' : ByteArray) (st : SS) : Option (Value × SS) :=
  (cf 14 [] st).bind fun r1 =>
  ((some r1.1).bind asB).bind fun b2 =>
  cond (!b2) (
   some (.bool false, r1.2)) (
   cond (decide (2048 < (text'.size : Int))) (
    some (.bool true, r1.2)) (
    (cf 15 [.string text'] r1.2).bind fun r3 =>
    (tupG r3.1 0).bind fun v4 =>
    (tupG r3.1 1).bind fun v5 =>
    ((tupG r3.1 2).bind (asI .i64)).bind fun n6 =>
    let st7 : SS := r3.2.new (.cells [.int .i64 0, .int .i64 0] 0)
    (st7.stV r3.2.next 0 2 v5).bind fun st8 =>
    (cf 18 [.string text', .int .u8 10] st8).bind fun r9 =>
    ((lenV v4).bind (asI .i64)).bind fun n10 =>
    (lf 9 [.int .i64 n6, r9.1, .int .i64 1, .int .i64 1, v4, .int .i64 n10, .int .i64 0] r9.2).bind fun r11 =>
    cond (Nat.beq r11.1 0) (
     ((r11.2.1[0]?).bind (asI .i64)).bind fun n12 =>
     (r11.2.1[1]?).bind fun v13 =>
     ((r11.2.1[2]?).bind (asI .i64)).bind fun n14 =>
     cond (!(decide (n12 = 0))) (
      some (.bool true, r11.2.2)) (
      ((lenV v13).bind (asI .i64)).bind fun n15 =>
      let n16 : Int := IntKind.wrap .i64 (n15 + 1)
      some (.bool (decide (n14 = n16)), r11.2.2))) (
     ((r11.2.1[0]?).bind asB).bind fun b17 =>
     some (.bool b17, r11.2.2))))
theorem camshaftlaw15_UlexCovers_sh (cf : CallS) (lf : LoopS) (text' : ByteArray) (st : SS) : bodyS Tryd.prog Lk0 cf lf li_camshaftlaw15_UlexCovers Tryd.f5 false [.string text'] st = camshaftlaw15_UlexCovers cf lf text' st := by kernel_rfl
noncomputable abbrev camshaftlaw15_UlexCovers_lf : LoopS := lS Tryd.prog Lk0 Tryd.f5 li_camshaftlaw15_UlexCovers
theorem camshaftlaw15_UlexCovers_fn : Lk0.func 5 = some (5, Tryd.f5) := by kernel_rfl
theorem camshaftlaw15_UlexCovers_eq [Sym] (text' : ByteArray) (st : SS) {r : Value × SS} (h : camshaftlaw15_UlexCovers cc camshaftlaw15_UlexCovers_lf text' st = some r) : cc 5 [.string text'] st = some r :=
  body_sound Lk0_ok Lk0_S camshaftlaw15_UlexCovers_fn rfl (fun _ => rfl) ((camshaftlaw15_UlexCovers_sh _ _ text' st).trans h)
noncomputable def camshaftlaw15_UlexCovers_l9 (cf : CallS) (lf : LoopS) (e' : Int) (lines' : Value) (line' : Int) (col' : Int) (t26' : Value) (t27' : Int) (t28' : Int) (st : SS) : Option (Nat × List Value × SS) :=
  cond (decide (t28' < t27')) (
   (elemS t26' t28' 5).bind fun p1 =>
   (st.ldN p1.1 p1.2 5).bind fun v2 =>
   let st3 : SS := st.new (.cells [.int .i64 0, .string ⟨#[]⟩, .int .i64 0, .int .i64 0, .int .i64 0] 0)
   (st3.stV st.next 0 5 v2).bind fun st4 =>
   ((st4.ld st.next 3).bind (asI .i64)).bind fun n5 =>
   cond (!(decide (n5 = line'))) (
    some (1, [.bool false], st4)) (
    ((st4.ld st.next 4).bind (asI .i64)).bind fun n6 =>
    cond (decide (n6 < col')) (
     some (1, [.bool false], st4)) (
     let n7 : Int := IntKind.wrap .i64 (line' - 1)
     (elemS lines' n7 1).bind fun p8 =>
     ((st4.ld p8.1 p8.2).bind asS).bind fun s9 =>
     ((st4.ld st.next 4).bind (asI .i64)).bind fun n10 =>
     let n11 : Int := IntKind.wrap .i64 (n10 - 1)
     ((st4.ld st.next 1).bind asS).bind fun s12 =>
     let n13 : Int := IntKind.wrap .i64 ((s9.size : Int) - (s12.size : Int))
     cond (decide (n13 < n11)) (
      some (1, [.bool false], st4)) (
      ((st4.ld st.next 4).bind (asI .i64)).bind fun n14 =>
      let n15 : Int := IntKind.wrap .i64 (n14 - 1)
      ((st4.ld st.next 4).bind (asI .i64)).bind fun n16 =>
      let n17 : Int := IntKind.wrap .i64 (n16 - 1)
      ((st4.ld st.next 1).bind asS).bind fun s18 =>
      let n19 : Int := IntKind.wrap .i64 (n17 + (s18.size : Int))
      (subS s9 n15 n19).bind fun s20 =>
      ((st4.ld st.next 1).bind asS).bind fun s21 =>
      cond (!(eqT s20 s21)) (
       some (1, [.bool false], st4)) (
       let n22 : Int := IntKind.wrap .i64 (col' - 1)
       (lf 17 [.int .i64 e', lines', .int .i64 line', ptr st.next 0, .string s9, .int .i64 n22, t26', .int .i64 t27', .int .i64 t28'] st4).bind fun r23 =>
       cond (Nat.beq r23.1 0) (
        ((r23.2.1[0]?).bind (asI .i64)).bind fun n24 =>
        (r23.2.1[1]?).bind fun v25 =>
        ((r23.2.1[2]?).bind (asI .i64)).bind fun n26 =>
        (r23.2.1[3]?).bind fun v27 =>
        (r23.2.1[4]?).bind fun v28 =>
        ((r23.2.1[5]?).bind (asI .i64)).bind fun n29 =>
        ((r23.2.1[6]?).bind (asI .i64)).bind fun n30 =>
        (addr? v27).bind fun p31 =>
        ((r23.2.2.ld p31.1 (p31.2 + 4)).bind (asI .i64)).bind fun n32 =>
        (addr? v27).bind fun p33 =>
        ((r23.2.2.ld p33.1 (p33.2 + 1)).bind asS).bind fun s34 =>
        let n35 : Int := IntKind.wrap .i64 (n32 + (s34.size : Int))
        (addr? v27).bind fun p36 =>
        ((r23.2.2.ld p36.1 p36.2).bind (asI .i64)).bind fun n37 =>
        cond (decide (n37 = 0)) (
         let n38 : Int := IntKind.wrap .i64 (n26 + 1)
         let n39 : Int := IntKind.wrap .i64 (n30 + 1)
         lf 9 [.int .i64 n24, v25, .int .i64 n38, .int .i64 1, v28, .int .i64 n29, .int .i64 n39] r23.2.2) (
         let n40 : Int := IntKind.wrap .i64 (n30 + 1)
         lf 9 [.int .i64 n24, v25, .int .i64 n26, .int .i64 n35, v28, .int .i64 n29, .int .i64 n40] r23.2.2)) (
        ((r23.2.1[0]?).bind asB).bind fun b41 =>
        some (1, [.bool b41], r23.2.2))))))) (
   some (0, [.int .i64 e', lines', .int .i64 line'], st))
theorem camshaftlaw15_UlexCovers_l9_sh (cf : CallS) (lf : LoopS) (e' : Int) (lines' : Value) (line' : Int) (col' : Int) (t26' : Value) (t27' : Int) (t28' : Int) (st : SS) : loopS Tryd.prog Lk0 cf lf li_camshaftlaw15_UlexCovers (loopC Tryd.f5 9) I_camshaftlaw15_UlexCovers_9 Tryd.f5.ntmps [.int .i64 e', lines', .int .i64 line', .int .i64 col', t26', .int .i64 t27', .int .i64 t28'] st = camshaftlaw15_UlexCovers_l9 cf lf e' lines' line' col' t26' t27' t28' st := by kernel_rfl
theorem camshaftlaw15_UlexCovers_l9_eq [Sym] (e' : Int) (lines' : Value) (line' : Int) (col' : Int) (t26' : Value) (t27' : Int) (t28' : Int) (st : SS) {r : Nat × List Value × SS} (h : camshaftlaw15_UlexCovers_l9 cc camshaftlaw15_UlexCovers_lf e' lines' line' col' t26' t27' t28' st = some r) : camshaftlaw15_UlexCovers_lf 9 [.int .i64 e', lines', .int .i64 line', .int .i64 col', t26', .int .i64 t27', .int .i64 t28'] st = some r :=
  loop_sound Lk0_ok Lk0_S (key := 9) (I := I_camshaftlaw15_UlexCovers_9) rfl (by kernel_rfl) (by kernel_rfl) rfl rfl ((camshaftlaw15_UlexCovers_l9_sh _ _ e' lines' line' col' t26' t27' t28' st).trans h)
noncomputable def camshaftlaw15_UlexCovers_l17 (cf : CallS) (lf : LoopS) (e' : Int) (lines' : Value) (line' : Int) (t' : Value) (s' : ByteArray) (k' : Int) (t26' : Value) (t27' : Int) (t28' : Int) (st : SS) : Option (Nat × List Value × SS) :=
  (addr? t').bind fun p1 =>
  ((st.ld p1.1 (p1.2 + 4)).bind (asI .i64)).bind fun n2 =>
  let n3 : Int := IntKind.wrap .i64 (n2 - 1)
  cond (decide (k' < n3)) (
   ((idxS s' k').bind (asI .u8)).bind fun n4 =>
   cond (decide (n4 = 59)) (
    (addr? t').bind fun p5 =>
    ((st.ld p5.1 p5.2).bind (asI .i64)).bind fun n6 =>
    cond (decide (n6 = 0)) (
     some (0, [.int .i64 e', lines', .int .i64 line', t', t26', .int .i64 t27', .int .i64 t28'], st)) (
     ((idxS s' k').bind (asI .u8)).bind fun n7 =>
     cond (!(decide (n7 = 32))) (
      ((idxS s' k').bind (asI .u8)).bind fun n8 =>
      cond (!(decide (n8 = 9))) (
       ((idxS s' k').bind (asI .u8)).bind fun n9 =>
       cond (!(decide (n9 = 13))) (
        some (1, [.bool false], st)) (
        let n10 : Int := IntKind.wrap .i64 (k' + 1)
        lf 17 [.int .i64 e', lines', .int .i64 line', t', .string s', .int .i64 n10, t26', .int .i64 t27', .int .i64 t28'] st)) (
       let n11 : Int := IntKind.wrap .i64 (k' + 1)
       lf 17 [.int .i64 e', lines', .int .i64 line', t', .string s', .int .i64 n11, t26', .int .i64 t27', .int .i64 t28'] st)) (
      let n12 : Int := IntKind.wrap .i64 (k' + 1)
      lf 17 [.int .i64 e', lines', .int .i64 line', t', .string s', .int .i64 n12, t26', .int .i64 t27', .int .i64 t28'] st))) (
    ((idxS s' k').bind (asI .u8)).bind fun n13 =>
    cond (!(decide (n13 = 32))) (
     ((idxS s' k').bind (asI .u8)).bind fun n14 =>
     cond (!(decide (n14 = 9))) (
      ((idxS s' k').bind (asI .u8)).bind fun n15 =>
      cond (!(decide (n15 = 13))) (
       some (1, [.bool false], st)) (
       let n16 : Int := IntKind.wrap .i64 (k' + 1)
       lf 17 [.int .i64 e', lines', .int .i64 line', t', .string s', .int .i64 n16, t26', .int .i64 t27', .int .i64 t28'] st)) (
      let n17 : Int := IntKind.wrap .i64 (k' + 1)
      lf 17 [.int .i64 e', lines', .int .i64 line', t', .string s', .int .i64 n17, t26', .int .i64 t27', .int .i64 t28'] st)) (
     let n18 : Int := IntKind.wrap .i64 (k' + 1)
     lf 17 [.int .i64 e', lines', .int .i64 line', t', .string s', .int .i64 n18, t26', .int .i64 t27', .int .i64 t28'] st))) (
   some (0, [.int .i64 e', lines', .int .i64 line', t', t26', .int .i64 t27', .int .i64 t28'], st))
theorem camshaftlaw15_UlexCovers_l17_sh (cf : CallS) (lf : LoopS) (e' : Int) (lines' : Value) (line' : Int) (t' : Value) (s' : ByteArray) (k' : Int) (t26' : Value) (t27' : Int) (t28' : Int) (st : SS) : loopS Tryd.prog Lk0 cf lf li_camshaftlaw15_UlexCovers (loopC Tryd.f5 17) I_camshaftlaw15_UlexCovers_17 Tryd.f5.ntmps [.int .i64 e', lines', .int .i64 line', t', .string s', .int .i64 k', t26', .int .i64 t27', .int .i64 t28'] st = camshaftlaw15_UlexCovers_l17 cf lf e' lines' line' t' s' k' t26' t27' t28' st := by kernel_rfl
theorem camshaftlaw15_UlexCovers_l17_eq [Sym] (e' : Int) (lines' : Value) (line' : Int) (t' : Value) (s' : ByteArray) (k' : Int) (t26' : Value) (t27' : Int) (t28' : Int) (st : SS) {r : Nat × List Value × SS} (h : camshaftlaw15_UlexCovers_l17 cc camshaftlaw15_UlexCovers_lf e' lines' line' t' s' k' t26' t27' t28' st = some r) : camshaftlaw15_UlexCovers_lf 17 [.int .i64 e', lines', .int .i64 line', t', .string s', .int .i64 k', t26', .int .i64 t27', .int .i64 t28'] st = some r :=
  loop_sound Lk0_ok Lk0_S (key := 17) (I := I_camshaftlaw15_UlexCovers_17) rfl (by kernel_rfl) (by kernel_rfl) rfl rfl ((camshaftlaw15_UlexCovers_l17_sh _ _ e' lines' line' t' s' k' t26' t27' t28' st).trans h)
def I_camshaftlaw15_UlexBlank_18 : LoopI := ⟨[(6, .any), (9, .any), (59, .int .i64), (60, .int .i64)], [(.exit 2, []), (.ret, [(2, .bool)])]⟩
def I_camshaftlaw15_UlexBlank_7 : LoopI := ⟨[(0, .str), (3, .str), (19, .any), (20, .int .i64), (21, .int .i64)], [(.exit 0, [(0, .str), (3, .str)])]⟩
def li_camshaftlaw15_UlexBlank (n : Nat) : Option LoopI := cond (Nat.beq n 7) (some I_camshaftlaw15_UlexBlank_7) (cond (Nat.beq n 18) (some I_camshaftlaw15_UlexBlank_18) (none))
noncomputable def camshaftlaw15_UlexBlank (cf : CallS) (lf : LoopS) (text' : ByteArray) (st : SS) : Option (Value × SS) :=
  (cf 14 [] st).bind fun r1 =>
  ((some r1.1).bind asB).bind fun b2 =>
  cond (!b2) (
   some (.bool false, r1.2)) (
   cond (decide (1024 < (text'.size : Int))) (
    some (.bool true, r1.2)) (
    (cf 18 [.string text', .int .u8 10] r1.2).bind fun r3 =>
    ((lenV r3.1).bind (asI .i64)).bind fun n4 =>
    (lf 7 [.string text', .string ⟨#[]⟩, r3.1, .int .i64 n4, .int .i64 0] r3.2).bind fun r5 =>
    ((r5.2.1[0]?).bind asS).bind fun s6 =>
    ((r5.2.1[1]?).bind asS).bind fun s7 =>
    (cf 15 [.string s6] r5.2.2).bind fun r8 =>
    (tupG r8.1 0).bind fun v9 =>
    (tupG r8.1 1).bind fun v10 =>
    ((tupG r8.1 2).bind (asI .i64)).bind fun n11 =>
    let st12 : SS := r8.2.new (.cells [.int .i64 0, .int .i64 0] 0)
    (st12.stV r8.2.next 0 2 v10).bind fun st13 =>
    (cf 15 [.string s7] st13).bind fun r14 =>
    (tupG r14.1 0).bind fun v15 =>
    (tupG r14.1 1).bind fun v16 =>
    ((tupG r14.1 2).bind (asI .i64)).bind fun n17 =>
    let st18 : SS := r14.2.new (.cells [.int .i64 0, .int .i64 0] 0)
    (st18.stV r14.2.next 0 2 v16).bind fun st19 =>
    cond (!(decide (n11 = n17))) (
     some (.bool false, st19)) (
     ((lenV v9).bind (asI .i64)).bind fun n20 =>
     ((lenV v15).bind (asI .i64)).bind fun n21 =>
     cond (!(decide (n20 = n21))) (
      some (.bool false, st19)) (
      ((lenV v9).bind (asI .i64)).bind fun n22 =>
      (lf 18 [v9, v15, .int .i64 n22, .int .i64 0] st19).bind fun r23 =>
      cond (Nat.beq r23.1 0) (
       some (.bool true, r23.2.2)) (
       ((r23.2.1[0]?).bind asB).bind fun b24 =>
       some (.bool b24, r23.2.2))))))
theorem camshaftlaw15_UlexBlank_sh (cf : CallS) (lf : LoopS) (text' : ByteArray) (st : SS) : bodyS Tryd.prog Lk0 cf lf li_camshaftlaw15_UlexBlank Tryd.f8 false [.string text'] st = camshaftlaw15_UlexBlank cf lf text' st := by kernel_rfl
noncomputable abbrev camshaftlaw15_UlexBlank_lf : LoopS := lS Tryd.prog Lk0 Tryd.f8 li_camshaftlaw15_UlexBlank
theorem camshaftlaw15_UlexBlank_fn : Lk0.func 8 = some (8, Tryd.f8) := by kernel_rfl
theorem camshaftlaw15_UlexBlank_eq [Sym] (text' : ByteArray) (st : SS) {r : Value × SS} (h : camshaftlaw15_UlexBlank cc camshaftlaw15_UlexBlank_lf text' st = some r) : cc 8 [.string text'] st = some r :=
  body_sound Lk0_ok Lk0_S camshaftlaw15_UlexBlank_fn rfl (fun _ => rfl) ((camshaftlaw15_UlexBlank_sh _ _ text' st).trans h)
noncomputable def camshaftlaw15_UlexBlank_l7 (cf : CallS) (lf : LoopS) (text' : ByteArray) (t' : ByteArray) (t19' : Value) (t20' : Int) (t21' : Int) (st : SS) : Option (Nat × List Value × SS) :=
  cond (decide (t21' < t20')) (
   (elemS t19' t21' 1).bind fun p1 =>
   ((st.ld p1.1 p1.2).bind asS).bind fun s2 =>
   cond (decide (0 < t21')) (
    (((catS t' ⟨#[10]⟩).bind fun s => some (.string s)).bind asS).bind fun s3 =>
    (((catS s3 ⟨#[32, 9]⟩).bind fun s => some (.string s)).bind asS).bind fun s4 =>
    (((catS s4 s2).bind fun s => some (.string s)).bind asS).bind fun s5 =>
    (((catS s5 ⟨#[32, 59, 32, 109, 111, 114, 101, 32, 61, 32, 53]⟩).bind fun s => some (.string s)).bind asS).bind fun s6 =>
    let n7 : Int := IntKind.wrap .i64 (t21' + 1)
    lf 7 [.string text', .string s6, t19', .int .i64 t20', .int .i64 n7] st) (
    (((catS t' ⟨#[32, 9]⟩).bind fun s => some (.string s)).bind asS).bind fun s8 =>
    (((catS s8 s2).bind fun s => some (.string s)).bind asS).bind fun s9 =>
    (((catS s9 ⟨#[32, 59, 32, 109, 111, 114, 101, 32, 61, 32, 53]⟩).bind fun s => some (.string s)).bind asS).bind fun s10 =>
    let n11 : Int := IntKind.wrap .i64 (t21' + 1)
    lf 7 [.string text', .string s10, t19', .int .i64 t20', .int .i64 n11] st)) (
   some (0, [.string text', .string t'], st))
theorem camshaftlaw15_UlexBlank_l7_sh (cf : CallS) (lf : LoopS) (text' : ByteArray) (t' : ByteArray) (t19' : Value) (t20' : Int) (t21' : Int) (st : SS) : loopS Tryd.prog Lk0 cf lf li_camshaftlaw15_UlexBlank (loopC Tryd.f8 7) I_camshaftlaw15_UlexBlank_7 Tryd.f8.ntmps [.string text', .string t', t19', .int .i64 t20', .int .i64 t21'] st = camshaftlaw15_UlexBlank_l7 cf lf text' t' t19' t20' t21' st := by kernel_rfl
theorem camshaftlaw15_UlexBlank_l7_eq [Sym] (text' : ByteArray) (t' : ByteArray) (t19' : Value) (t20' : Int) (t21' : Int) (st : SS) {r : Nat × List Value × SS} (h : camshaftlaw15_UlexBlank_l7 cc camshaftlaw15_UlexBlank_lf text' t' t19' t20' t21' st = some r) : camshaftlaw15_UlexBlank_lf 7 [.string text', .string t', t19', .int .i64 t20', .int .i64 t21'] st = some r :=
  loop_sound Lk0_ok Lk0_S (key := 7) (I := I_camshaftlaw15_UlexBlank_7) rfl (by kernel_rfl) (by kernel_rfl) rfl rfl ((camshaftlaw15_UlexBlank_l7_sh _ _ text' t' t19' t20' t21' st).trans h)
noncomputable def camshaftlaw15_UlexBlank_l18 (cf : CallS) (lf : LoopS) (a' : Value) (b' : Value) (t59' : Int) (t60' : Int) (st : SS) : Option (Nat × List Value × SS) :=
  cond (decide (t60' < t59')) (
   (elemS a' t60' 5).bind fun p1 =>
   ((st.ld p1.1 p1.2).bind (asI .i64)).bind fun n2 =>
   (elemS b' t60' 5).bind fun p3 =>
   ((st.ld p3.1 p3.2).bind (asI .i64)).bind fun n4 =>
   cond (!(decide (n2 = n4))) (
    some (1, [.bool false], st)) (
    (elemS a' t60' 5).bind fun p5 =>
    ((st.ld p5.1 (p5.2 + 1)).bind asS).bind fun s6 =>
    (elemS b' t60' 5).bind fun p7 =>
    ((st.ld p7.1 (p7.2 + 1)).bind asS).bind fun s8 =>
    cond (!(eqT s6 s8)) (
     some (1, [.bool false], st)) (
     (elemS a' t60' 5).bind fun p9 =>
     ((st.ld p9.1 (p9.2 + 2)).bind (asI .i64)).bind fun n10 =>
     (elemS b' t60' 5).bind fun p11 =>
     ((st.ld p11.1 (p11.2 + 2)).bind (asI .i64)).bind fun n12 =>
     cond (!(decide (n10 = n12))) (
      some (1, [.bool false], st)) (
      (elemS a' t60' 5).bind fun p13 =>
      ((st.ld p13.1 (p13.2 + 3)).bind (asI .i64)).bind fun n14 =>
      (elemS b' t60' 5).bind fun p15 =>
      ((st.ld p15.1 (p15.2 + 3)).bind (asI .i64)).bind fun n16 =>
      cond (!(decide (n14 = n16))) (
       some (1, [.bool false], st)) (
       let n17 : Int := IntKind.wrap .i64 (t60' + 1)
       lf 18 [a', b', .int .i64 t59', .int .i64 n17] st))))) (
   some (0, [], st))
theorem camshaftlaw15_UlexBlank_l18_sh (cf : CallS) (lf : LoopS) (a' : Value) (b' : Value) (t59' : Int) (t60' : Int) (st : SS) : loopS Tryd.prog Lk0 cf lf li_camshaftlaw15_UlexBlank (loopC Tryd.f8 18) I_camshaftlaw15_UlexBlank_18 Tryd.f8.ntmps [a', b', .int .i64 t59', .int .i64 t60'] st = camshaftlaw15_UlexBlank_l18 cf lf a' b' t59' t60' st := by kernel_rfl
theorem camshaftlaw15_UlexBlank_l18_eq [Sym] (a' : Value) (b' : Value) (t59' : Int) (t60' : Int) (st : SS) {r : Nat × List Value × SS} (h : camshaftlaw15_UlexBlank_l18 cc camshaftlaw15_UlexBlank_lf a' b' t59' t60' st = some r) : camshaftlaw15_UlexBlank_lf 18 [a', b', .int .i64 t59', .int .i64 t60'] st = some r :=
  loop_sound Lk0_ok Lk0_S (key := 18) (I := I_camshaftlaw15_UlexBlank_18) rfl (by kernel_rfl) (by kernel_rfl) rfl rfl ((camshaftlaw15_UlexBlank_l18_sh _ _ a' b' t59' t60' st).trans h)
end Go.Proofs.YthngaoncjpgeiaaDoorE
