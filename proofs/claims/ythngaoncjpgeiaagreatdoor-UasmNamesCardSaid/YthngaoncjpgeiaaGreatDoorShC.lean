/- Shallow texts of functions, printed by a program and compared by the kernel. -/
import Derived.Test.YthngaoncjpgeiaaGreatDoorTab
set_option linter.unusedVariables false
set_option linter.unusedSimpArgs false
set_option maxRecDepth 20000
namespace Go.Proofs.YthngaoncjpgeiaaGreatDoorE
open Go Go.E Go.Proofs
def I_ulex_line_3 : LoopI := ⟨[(0, .str), (1, .int .i64), (7, .any), (8, .int .i64)], [(.exit 0, [(0, .str), (1, .int .i64), (7, .any)]), (.ret, [(4, .any), (5, .int .i64), (6, .bool)])]⟩
def li_ulex_line (n : Nat) : Option LoopI := cond (Nat.beq n 3) (some I_ulex_line_3) (none)
noncomputable def ulex_line (cf : CallS) (lf : LoopS) (s' : ByteArray) (at0' : Int) (st : SS) : Option (Value × SS) :=
  (lf 3 [.string s', .int .i64 at0', .slice none 0 0, .int .i64 0] st).bind fun r1 =>
  cond (Nat.beq r1.1 0) (
   ((r1.2.1[0]?).bind asS).bind fun s2 =>
   ((r1.2.1[1]?).bind (asI .i64)).bind fun n3 =>
   (r1.2.1[2]?).bind fun v4 =>
   let n5 : Int := IntKind.wrap .i64 ((s2.size : Int) + 1)
   let st6 : SS := r1.2.2.new (.cells ([.int .i64 0, .string ⟨#[]⟩, .int .i64 0, .int .i64 n3, .int .i64 n5]) 5)
   (st6.app 5 48 v4 (.slice (some ⟨r1.2.2.next, 0, none⟩) 1 1)).bind fun r7 =>
   some (.tuple #[r7.1, .int .i64 0, .bool true], r7.2)) (
   (r1.2.1[0]?).bind fun v8 =>
   ((r1.2.1[1]?).bind (asI .i64)).bind fun n9 =>
   ((r1.2.1[2]?).bind asB).bind fun b10 =>
   some (.tuple #[v8, .int .i64 n9, .bool b10], r1.2.2))
theorem ulex_line_sh (cf : CallS) (lf : LoopS) (s' : ByteArray) (at0' : Int) (st : SS) : bodyS Tryz.prog Lk0 cf lf li_ulex_line Tryz.f96 false [.string s', .int .i64 at0'] st = ulex_line cf lf s' at0' st := by kernel_rfl
noncomputable abbrev ulex_line_lf : LoopS := lS Tryz.prog Lk0 Tryz.f96 li_ulex_line
theorem ulex_line_fn : Lk0.func 96 = some (96, Tryz.f96) := by kernel_rfl
theorem ulex_line_eq [Sym] (s' : ByteArray) (at0' : Int) (st : SS) {r : Value × SS} (h : ulex_line cc ulex_line_lf s' at0' st = some r) : cc 96 [.string s', .int .i64 at0'] st = some r :=
  body_sound Lk0_ok Lk0_S ulex_line_fn rfl (fun _ => rfl) ((ulex_line_sh _ _ s' at0' st).trans h)
noncomputable def ulex_line_l3 (cf : CallS) (lf : LoopS) (s' : ByteArray) (at0' : Int) (out' : Value) (col' : Int) (st : SS) : Option (Nat × List Value × SS) :=
  cond (decide (col' < (s'.size : Int))) (
   let n1 : Int := IntKind.wrap .i64 (col' + 1)
   let st2 : SS := st.new (.cells [.int .i64 0, .string ⟨#[]⟩, .int .i64 0, .int .i64 0, .int .i64 0] 0)
   (st2.st st.next 0 [.int .i64 0, .string ⟨#[]⟩, .int .i64 0, .int .i64 at0', .int .i64 n1]).bind fun st3 =>
   ((idxS s' col').bind (asI .u8)).bind fun n4 =>
   cond (decide (n4 = 59)) (
    lf 3 [.string s', .int .i64 at0', out', .int .i64 (s'.size : Int)] st3) (
    cond (decide (n4 = 32)) (
     let n5 : Int := IntKind.wrap .i64 (col' + 1)
     lf 3 [.string s', .int .i64 at0', out', .int .i64 n5] st3) (
     cond (decide (n4 = 9)) (
      let n6 : Int := IntKind.wrap .i64 (col' + 1)
      lf 3 [.string s', .int .i64 at0', out', .int .i64 n6] st3) (
      cond (decide (n4 = 13)) (
       let n7 : Int := IntKind.wrap .i64 (col' + 1)
       lf 3 [.string s', .int .i64 at0', out', .int .i64 n7] st3) (
       (cf 114 [.int .u8 n4] st3).bind fun r8 =>
       ((some r8.1).bind asB).bind fun b9 =>
       cond b9 (
        (subS s' col' (s'.size : Int)).bind fun s10 =>
        (cf 115 [.string s10] r8.2).bind fun r11 =>
        ((some r11.1).bind (asI .i64)).bind fun n12 =>
        let n13 : Int := IntKind.wrap .i64 (col' + n12)
        (subS s' col' n13).bind fun s14 =>
        (r11.2.st st.next 0 [.int .i64 1]).bind fun st15 =>
        (st15.st st.next 1 [.string s14]).bind fun st16 =>
        ((st16.ld st.next 1).bind asS).bind fun s17 =>
        cond (decide (24 < (s17.size : Int))) (
         ((st16.ld st.next 4).bind (asI .i64)).bind fun n18 =>
         some (1, [.slice none 0 0, .int .i64 n18, .bool false], st16)) (
         ((st16.ld st.next 1).bind asS).bind fun s19 =>
         let n20 : Int := IntKind.wrap .i64 (col' + (s19.size : Int))
         (st16.ldN st.next 0 5).bind fun v21 =>
         (cellsN v21 5).bind fun c22 =>
         let st23 : SS := st16.new (.cells (c22 ++ ([])) 5)
         (st23.app 5 48 out' (.slice (some ⟨st16.next, 0, none⟩) 1 1)).bind fun r24 =>
         lf 3 [.string s', .int .i64 at0', r24.1, .int .i64 n20] r24.2)) (
        (cf 116 [.int .u8 n4] r8.2).bind fun r25 =>
        ((some r25.1).bind asB).bind fun b26 =>
        cond b26 (
         (subS s' col' (s'.size : Int)).bind fun s27 =>
         (cf 115 [.string s27] r25.2).bind fun r28 =>
         ((some r28.1).bind (asI .i64)).bind fun n29 =>
         let n30 : Int := IntKind.wrap .i64 (col' + n29)
         (subS s' col' n30).bind fun s31 =>
         (r28.2.st st.next 0 [.int .i64 2]).bind fun st32 =>
         (st32.st st.next 1 [.string s31]).bind fun st33 =>
         ((st33.ld st.next 1).bind asS).bind fun s34 =>
         (cf 117 [.string s34] st33).bind fun r35 =>
         ((tupG r35.1 0).bind (asI .i64)).bind fun n36 =>
         ((tupG r35.1 1).bind asB).bind fun b37 =>
         (r35.2.st st.next 2 [.int .i64 n36]).bind fun st38 =>
         cond (!b37) (
          ((st38.ld st.next 4).bind (asI .i64)).bind fun n39 =>
          some (1, [.slice none 0 0, .int .i64 n39, .bool false], st38)) (
          ((st38.ld st.next 1).bind asS).bind fun s40 =>
          let n41 : Int := IntKind.wrap .i64 (col' + (s40.size : Int))
          (st38.ldN st.next 0 5).bind fun v42 =>
          (cellsN v42 5).bind fun c43 =>
          let st44 : SS := st38.new (.cells (c43 ++ ([])) 5)
          (st44.app 5 48 out' (.slice (some ⟨st38.next, 0, none⟩) 1 1)).bind fun r45 =>
          lf 3 [.string s', .int .i64 at0', r45.1, .int .i64 n41] r45.2)) (
         (cf 118 [.string ⟨#[58, 61, 46, 43, 45]⟩, .int .u8 n4] r25.2).bind fun r46 =>
         ((some r46.1).bind (asI .i64)).bind fun n47 =>
         cond (decide (0 ≤ n47)) (
          let n48 : Int := IntKind.wrap .i64 (col' + 1)
          (subS s' col' n48).bind fun s49 =>
          (r46.2.st st.next 0 [.int .i64 3]).bind fun st50 =>
          (st50.st st.next 1 [.string s49]).bind fun st51 =>
          ((st51.ld st.next 1).bind asS).bind fun s52 =>
          let n53 : Int := IntKind.wrap .i64 (col' + (s52.size : Int))
          (st51.ldN st.next 0 5).bind fun v54 =>
          (cellsN v54 5).bind fun c55 =>
          let st56 : SS := st51.new (.cells (c55 ++ ([])) 5)
          (st56.app 5 48 out' (.slice (some ⟨st51.next, 0, none⟩) 1 1)).bind fun r57 =>
          lf 3 [.string s', .int .i64 at0', r57.1, .int .i64 n53] r57.2) (
          ((r46.2.ld st.next 4).bind (asI .i64)).bind fun n58 =>
          some (1, [.slice none 0 0, .int .i64 n58, .bool false], r46.2))))))))) (
   some (0, [.string s', .int .i64 at0', out'], st))
theorem ulex_line_l3_sh (cf : CallS) (lf : LoopS) (s' : ByteArray) (at0' : Int) (out' : Value) (col' : Int) (st : SS) : loopS Tryz.prog Lk0 cf lf li_ulex_line (loopC Tryz.f96 3) I_ulex_line_3 Tryz.f96.ntmps [.string s', .int .i64 at0', out', .int .i64 col'] st = ulex_line_l3 cf lf s' at0' out' col' st := by kernel_rfl
theorem ulex_line_l3_eq [Sym] (s' : ByteArray) (at0' : Int) (out' : Value) (col' : Int) (st : SS) {r : Nat × List Value × SS} (h : ulex_line_l3 cc ulex_line_lf s' at0' out' col' st = some r) : ulex_line_lf 3 [.string s', .int .i64 at0', out', .int .i64 col'] st = some r :=
  loop_sound Lk0_ok Lk0_S (key := 3) (I := I_ulex_line_3) rfl (by kernel_rfl) (by kernel_rfl) rfl rfl ((ulex_line_l3_sh _ _ s' at0' out' col' st).trans h)
def I_ulex_Lex_5 : LoopI := ⟨[(3, .any), (5, .any), (16, .any), (17, .int .i64), (18, .int .i64)], [(.exit 0, [(3, .any), (5, .any)]), (.ret, [(2, .any), (3, .any), (4, .int .i64)])]⟩
def li_ulex_Lex (n : Nat) : Option LoopI := cond (Nat.beq n 5) (some I_ulex_Lex_5) (none)
noncomputable def ulex_Lex (cf : CallS) (lf : LoopS) (text' : ByteArray) (st : SS) : Option (Value × SS) :=
  let st1 : SS := st.new (.cells [.int .i64 0, .int .i64 0] 0)
  cond (decide (131072 < (text'.size : Int))) (
   (st1.st st.next 0 [.int .i64 0, .int .i64 0]).bind fun st2 =>
   (st2.rdN st.next 0 2).bind fun v3 =>
   some (.tuple #[.slice none 0 0, v3, .int .i64 3], st2)) (
   (cf 95 [.string text', .string ⟨#[10]⟩] st1).bind fun r4 =>
   ((lenV r4.1).bind (asI .i64)).bind fun n5 =>
   (lf 5 [ptr st.next 0, .slice none 0 0, r4.1, .int .i64 n5, .int .i64 0] r4.2).bind fun r6 =>
   cond (Nat.beq r6.1 0) (
    (r6.2.1[0]?).bind fun v7 =>
    (r6.2.1[1]?).bind fun v8 =>
    (addr? v7).bind fun p9 =>
    (r6.2.2.st p9.1 p9.2 [.int .i64 0, .int .i64 0]).bind fun st10 =>
    (addr? v7).bind fun p11 =>
    (st10.rdN p11.1 p11.2 2).bind fun v12 =>
    some (.tuple #[v8, v12, .int .i64 0], st10)) (
    (r6.2.1[0]?).bind fun v13 =>
    (r6.2.1[1]?).bind fun v14 =>
    ((r6.2.1[2]?).bind (asI .i64)).bind fun n15 =>
    (addr? v14).bind fun p16 =>
    (r6.2.2.rdN p16.1 p16.2 2).bind fun v17 =>
    some (.tuple #[v13, v17, .int .i64 n15], r6.2.2)))
theorem ulex_Lex_sh (cf : CallS) (lf : LoopS) (text' : ByteArray) (st : SS) : bodyS Tryz.prog Lk0 cf lf li_ulex_Lex Tryz.f72 false [.string text'] st = ulex_Lex cf lf text' st := by kernel_rfl
noncomputable abbrev ulex_Lex_lf : LoopS := lS Tryz.prog Lk0 Tryz.f72 li_ulex_Lex
theorem ulex_Lex_fn : Lk0.func 72 = some (72, Tryz.f72) := by kernel_rfl
theorem ulex_Lex_eq [Sym] (text' : ByteArray) (st : SS) {r : Value × SS} (h : ulex_Lex cc ulex_Lex_lf text' st = some r) : cc 72 [.string text'] st = some r :=
  body_sound Lk0_ok Lk0_S ulex_Lex_fn rfl (fun _ => rfl) ((ulex_Lex_sh _ _ text' st).trans h)
noncomputable def ulex_Lex_l5 (cf : CallS) (lf : LoopS) (t3' : Value) (out' : Value) (t16' : Value) (t17' : Int) (t18' : Int) (st : SS) : Option (Nat × List Value × SS) :=
  cond (decide (t18' < t17')) (
   (elemS t16' t18' 1).bind fun p1 =>
   ((st.ld p1.1 p1.2).bind asS).bind fun s2 =>
   let n3 : Int := IntKind.wrap .i64 (t18' + 1)
   (cf 96 [.string s2, .int .i64 n3] st).bind fun r4 =>
   (tupG r4.1 0).bind fun v5 =>
   ((tupG r4.1 1).bind (asI .i64)).bind fun n6 =>
   ((tupG r4.1 2).bind asB).bind fun b7 =>
   cond (!b7) (
    let n8 : Int := IntKind.wrap .i64 (t18' + 1)
    (addr? t3').bind fun p9 =>
    (r4.2.st p9.1 p9.2 [.int .i64 n8, .int .i64 n6]).bind fun st10 =>
    some (1, [.slice none 0 0, t3', .int .i64 4], st10)) (
    (r4.2.app 5 48 out' v5).bind fun r11 =>
    let n12 : Int := IntKind.wrap .i64 (t18' + 1)
    lf 5 [t3', r11.1, t16', .int .i64 t17', .int .i64 n12] r11.2)) (
   some (0, [t3', out'], st))
theorem ulex_Lex_l5_sh (cf : CallS) (lf : LoopS) (t3' : Value) (out' : Value) (t16' : Value) (t17' : Int) (t18' : Int) (st : SS) : loopS Tryz.prog Lk0 cf lf li_ulex_Lex (loopC Tryz.f72 5) I_ulex_Lex_5 Tryz.f72.ntmps [t3', out', t16', .int .i64 t17', .int .i64 t18'] st = ulex_Lex_l5 cf lf t3' out' t16' t17' t18' st := by kernel_rfl
theorem ulex_Lex_l5_eq [Sym] (t3' : Value) (out' : Value) (t16' : Value) (t17' : Int) (t18' : Int) (st : SS) {r : Nat × List Value × SS} (h : ulex_Lex_l5 cc ulex_Lex_lf t3' out' t16' t17' t18' st = some r) : ulex_Lex_lf 5 [t3', out', t16', .int .i64 t17', .int .i64 t18'] st = some r :=
  loop_sound Lk0_ok Lk0_S (key := 5) (I := I_ulex_Lex_5) rfl (by kernel_rfl) (by kernel_rfl) rfl rfl ((ulex_Lex_l5_sh _ _ t3' out' t16' t17' t18' st).trans h)
noncomputable def camshaftref15_letter (cf : CallS) (lf : LoopS) (c' : Int) (st : SS) : Option (Value × SS) :=
  cond (decide (97 ≤ c')) (
   cond (decide (c' ≤ 122)) (
    some (.bool true, st)) (
    cond (decide (65 ≤ c')) (
     cond (decide (c' ≤ 90)) (
      some (.bool true, st)) (
      some (.bool (decide (c' = 95)), st))) (
     some (.bool (decide (c' = 95)), st)))) (
   cond (decide (65 ≤ c')) (
    cond (decide (c' ≤ 90)) (
     some (.bool true, st)) (
     some (.bool (decide (c' = 95)), st))) (
    some (.bool (decide (c' = 95)), st)))
theorem camshaftref15_letter_sh (cf : CallS) (lf : LoopS) (c' : Int) (st : SS) : bodyS Tryz.prog Lk0 cf lf noLi Tryz.f84 false [.int .u8 c'] st = camshaftref15_letter cf lf c' st := by kernel_rfl
noncomputable abbrev camshaftref15_letter_lf : LoopS := lS Tryz.prog Lk0 Tryz.f84 noLi
theorem camshaftref15_letter_fn : Lk0.func 84 = some (84, Tryz.f84) := by kernel_rfl
theorem camshaftref15_letter_eq [Sym] (c' : Int) (st : SS) {r : Value × SS} (h : camshaftref15_letter cc camshaftref15_letter_lf c' st = some r) : cc 84 [.int .u8 c'] st = some r :=
  body_sound Lk0_ok Lk0_S camshaftref15_letter_fn rfl (fun _ => rfl) ((camshaftref15_letter_sh _ _ c' st).trans h)
noncomputable def camshaftref15_digit (cf : CallS) (lf : LoopS) (c' : Int) (base' : Int) (st : SS) : Option (Value × SS) :=
  cond (decide (48 ≤ c')) (
   cond (decide (c' ≤ 57)) (
    let n1 : Int := IntKind.wrap .u8 (c' - 48)
    let n2 : Int := IntKind.wrap .i64 n1
    cond (decide (97 ≤ c')) (
     cond (decide (c' ≤ 102)) (
      let n3 : Int := IntKind.wrap .u8 (c' - 97)
      let n4 : Int := IntKind.wrap .i64 n3
      let n5 : Int := IntKind.wrap .i64 (n4 + 10)
      cond (decide (65 ≤ c')) (
       cond (decide (c' ≤ 70)) (
        let n6 : Int := IntKind.wrap .u8 (c' - 65)
        let n7 : Int := IntKind.wrap .i64 n6
        let n8 : Int := IntKind.wrap .i64 (n7 + 10)
        cond (decide (base' ≤ n8)) (
         some (.int .i64 (-1), st)) (
         some (.int .i64 n8, st))) (
        cond (decide (base' ≤ n5)) (
         some (.int .i64 (-1), st)) (
         some (.int .i64 n5, st)))) (
       cond (decide (base' ≤ n5)) (
        some (.int .i64 (-1), st)) (
        some (.int .i64 n5, st)))) (
      cond (decide (65 ≤ c')) (
       cond (decide (c' ≤ 70)) (
        let n9 : Int := IntKind.wrap .u8 (c' - 65)
        let n10 : Int := IntKind.wrap .i64 n9
        let n11 : Int := IntKind.wrap .i64 (n10 + 10)
        cond (decide (base' ≤ n11)) (
         some (.int .i64 (-1), st)) (
         some (.int .i64 n11, st))) (
        cond (decide (base' ≤ n2)) (
         some (.int .i64 (-1), st)) (
         some (.int .i64 n2, st)))) (
       cond (decide (base' ≤ n2)) (
        some (.int .i64 (-1), st)) (
        some (.int .i64 n2, st))))) (
     cond (decide (65 ≤ c')) (
      cond (decide (c' ≤ 70)) (
       let n12 : Int := IntKind.wrap .u8 (c' - 65)
       let n13 : Int := IntKind.wrap .i64 n12
       let n14 : Int := IntKind.wrap .i64 (n13 + 10)
       cond (decide (base' ≤ n14)) (
        some (.int .i64 (-1), st)) (
        some (.int .i64 n14, st))) (
       cond (decide (base' ≤ n2)) (
        some (.int .i64 (-1), st)) (
        some (.int .i64 n2, st)))) (
      cond (decide (base' ≤ n2)) (
       some (.int .i64 (-1), st)) (
       some (.int .i64 n2, st))))) (
    cond (decide (97 ≤ c')) (
     cond (decide (c' ≤ 102)) (
      let n15 : Int := IntKind.wrap .u8 (c' - 97)
      let n16 : Int := IntKind.wrap .i64 n15
      let n17 : Int := IntKind.wrap .i64 (n16 + 10)
      cond (decide (65 ≤ c')) (
       cond (decide (c' ≤ 70)) (
        let n18 : Int := IntKind.wrap .u8 (c' - 65)
        let n19 : Int := IntKind.wrap .i64 n18
        let n20 : Int := IntKind.wrap .i64 (n19 + 10)
        cond (decide (base' ≤ n20)) (
         some (.int .i64 (-1), st)) (
         some (.int .i64 n20, st))) (
        cond (decide (base' ≤ n17)) (
         some (.int .i64 (-1), st)) (
         some (.int .i64 n17, st)))) (
       cond (decide (base' ≤ n17)) (
        some (.int .i64 (-1), st)) (
        some (.int .i64 n17, st)))) (
      cond (decide (65 ≤ c')) (
       cond (decide (c' ≤ 70)) (
        let n21 : Int := IntKind.wrap .u8 (c' - 65)
        let n22 : Int := IntKind.wrap .i64 n21
        let n23 : Int := IntKind.wrap .i64 (n22 + 10)
        cond (decide (base' ≤ n23)) (
         some (.int .i64 (-1), st)) (
         some (.int .i64 n23, st))) (
        cond (decide (base' ≤ (-1))) (
         some (.int .i64 (-1), st)) (
         some (.int .i64 (-1), st)))) (
       cond (decide (base' ≤ (-1))) (
        some (.int .i64 (-1), st)) (
        some (.int .i64 (-1), st))))) (
     cond (decide (65 ≤ c')) (
      cond (decide (c' ≤ 70)) (
       let n24 : Int := IntKind.wrap .u8 (c' - 65)
       let n25 : Int := IntKind.wrap .i64 n24
       let n26 : Int := IntKind.wrap .i64 (n25 + 10)
       cond (decide (base' ≤ n26)) (
        some (.int .i64 (-1), st)) (
        some (.int .i64 n26, st))) (
       cond (decide (base' ≤ (-1))) (
        some (.int .i64 (-1), st)) (
        some (.int .i64 (-1), st)))) (
      cond (decide (base' ≤ (-1))) (
       some (.int .i64 (-1), st)) (
       some (.int .i64 (-1), st)))))) (
   cond (decide (97 ≤ c')) (
    cond (decide (c' ≤ 102)) (
     let n27 : Int := IntKind.wrap .u8 (c' - 97)
     let n28 : Int := IntKind.wrap .i64 n27
     let n29 : Int := IntKind.wrap .i64 (n28 + 10)
     cond (decide (65 ≤ c')) (
      cond (decide (c' ≤ 70)) (
       let n30 : Int := IntKind.wrap .u8 (c' - 65)
       let n31 : Int := IntKind.wrap .i64 n30
       let n32 : Int := IntKind.wrap .i64 (n31 + 10)
       cond (decide (base' ≤ n32)) (
        some (.int .i64 (-1), st)) (
        some (.int .i64 n32, st))) (
       cond (decide (base' ≤ n29)) (
        some (.int .i64 (-1), st)) (
        some (.int .i64 n29, st)))) (
      cond (decide (base' ≤ n29)) (
       some (.int .i64 (-1), st)) (
       some (.int .i64 n29, st)))) (
     cond (decide (65 ≤ c')) (
      cond (decide (c' ≤ 70)) (
       let n33 : Int := IntKind.wrap .u8 (c' - 65)
       let n34 : Int := IntKind.wrap .i64 n33
       let n35 : Int := IntKind.wrap .i64 (n34 + 10)
       cond (decide (base' ≤ n35)) (
        some (.int .i64 (-1), st)) (
        some (.int .i64 n35, st))) (
       cond (decide (base' ≤ (-1))) (
        some (.int .i64 (-1), st)) (
        some (.int .i64 (-1), st)))) (
      cond (decide (base' ≤ (-1))) (
       some (.int .i64 (-1), st)) (
       some (.int .i64 (-1), st))))) (
    cond (decide (65 ≤ c')) (
     cond (decide (c' ≤ 70)) (
      let n36 : Int := IntKind.wrap .u8 (c' - 65)
      let n37 : Int := IntKind.wrap .i64 n36
      let n38 : Int := IntKind.wrap .i64 (n37 + 10)
      cond (decide (base' ≤ n38)) (
       some (.int .i64 (-1), st)) (
       some (.int .i64 n38, st))) (
      cond (decide (base' ≤ (-1))) (
       some (.int .i64 (-1), st)) (
       some (.int .i64 (-1), st)))) (
     cond (decide (base' ≤ (-1))) (
      some (.int .i64 (-1), st)) (
      some (.int .i64 (-1), st)))))
theorem camshaftref15_digit_sh (cf : CallS) (lf : LoopS) (c' : Int) (base' : Int) (st : SS) : bodyS Tryz.prog Lk0 cf lf noLi Tryz.f85 false [.int .u8 c', .int .i64 base'] st = camshaftref15_digit cf lf c' base' st := by kernel_rfl
noncomputable abbrev camshaftref15_digit_lf : LoopS := lS Tryz.prog Lk0 Tryz.f85 noLi
theorem camshaftref15_digit_fn : Lk0.func 85 = some (85, Tryz.f85) := by kernel_rfl
theorem camshaftref15_digit_eq [Sym] (c' : Int) (base' : Int) (st : SS) {r : Value × SS} (h : camshaftref15_digit cc camshaftref15_digit_lf c' base' st = some r) : cc 85 [.int .u8 c', .int .i64 base'] st = some r :=
  body_sound Lk0_ok Lk0_S camshaftref15_digit_fn rfl (fun _ => rfl) ((camshaftref15_digit_sh _ _ c' base' st).trans h)
def I_camshaftref15_Number_7 : LoopI := ⟨[(0, .str), (3, .int .i64), (4, .int .i64), (5, .int .i64)], [(.exit 0, [(0, .str), (4, .int .i64)]), (.ret, [(2, .int .i64)])]⟩
def li_camshaftref15_Number (n : Nat) : Option LoopI := cond (Nat.beq n 7) (some I_camshaftref15_Number_7) (none)
noncomputable def camshaftref15_Number (cf : CallS) (lf : LoopS) (s' : ByteArray) (st : SS) : Option (Value × SS) :=
  cond (decide (2 ≤ (s'.size : Int))) (
   (subS s' 0 2).bind fun s1 =>
   cond (eqT s1 ⟨#[48, 120]⟩) (
    (subS s' 2 (s'.size : Int)).bind fun s2 =>
    (lf 7 [.string s2, .int .i64 16, .int .i64 0, .int .i64 0] st).bind fun r3 =>
    cond (Nat.beq r3.1 0) (
     ((r3.2.1[0]?).bind asS).bind fun s4 =>
     ((r3.2.1[1]?).bind (asI .i64)).bind fun n5 =>
     cond (eqT s4 ⟨#[]⟩) (
      some (.int .i64 (-1), r3.2.2)) (
      cond (decide (2147483647 < n5)) (
       some (.int .i64 (-1), r3.2.2)) (
       some (.int .i64 n5, r3.2.2)))) (
     ((r3.2.1[0]?).bind (asI .i64)).bind fun n6 =>
     some (.int .i64 n6, r3.2.2))) (
    (lf 7 [.string s', .int .i64 10, .int .i64 0, .int .i64 0] st).bind fun r7 =>
    cond (Nat.beq r7.1 0) (
     ((r7.2.1[0]?).bind asS).bind fun s8 =>
     ((r7.2.1[1]?).bind (asI .i64)).bind fun n9 =>
     cond (eqT s8 ⟨#[]⟩) (
      some (.int .i64 (-1), r7.2.2)) (
      cond (decide (2147483647 < n9)) (
       some (.int .i64 (-1), r7.2.2)) (
       some (.int .i64 n9, r7.2.2)))) (
     ((r7.2.1[0]?).bind (asI .i64)).bind fun n10 =>
     some (.int .i64 n10, r7.2.2)))) (
   (lf 7 [.string s', .int .i64 10, .int .i64 0, .int .i64 0] st).bind fun r11 =>
   cond (Nat.beq r11.1 0) (
    ((r11.2.1[0]?).bind asS).bind fun s12 =>
    ((r11.2.1[1]?).bind (asI .i64)).bind fun n13 =>
    cond (eqT s12 ⟨#[]⟩) (
     some (.int .i64 (-1), r11.2.2)) (
     cond (decide (2147483647 < n13)) (
      some (.int .i64 (-1), r11.2.2)) (
      some (.int .i64 n13, r11.2.2)))) (
    ((r11.2.1[0]?).bind (asI .i64)).bind fun n14 =>
    some (.int .i64 n14, r11.2.2)))
theorem camshaftref15_Number_sh (cf : CallS) (lf : LoopS) (s' : ByteArray) (st : SS) : bodyS Tryz.prog Lk0 cf lf li_camshaftref15_Number Tryz.f86 false [.string s'] st = camshaftref15_Number cf lf s' st := by kernel_rfl
noncomputable abbrev camshaftref15_Number_lf : LoopS := lS Tryz.prog Lk0 Tryz.f86 li_camshaftref15_Number
theorem camshaftref15_Number_fn : Lk0.func 86 = some (86, Tryz.f86) := by kernel_rfl
theorem camshaftref15_Number_eq [Sym] (s' : ByteArray) (st : SS) {r : Value × SS} (h : camshaftref15_Number cc camshaftref15_Number_lf s' st = some r) : cc 86 [.string s'] st = some r :=
  body_sound Lk0_ok Lk0_S camshaftref15_Number_fn rfl (fun _ => rfl) ((camshaftref15_Number_sh _ _ s' st).trans h)
noncomputable def camshaftref15_Number_l7 (cf : CallS) (lf : LoopS) (s' : ByteArray) (base' : Int) (n' : Int) (i' : Int) (st : SS) : Option (Nat × List Value × SS) :=
  cond (decide (i' < (s'.size : Int))) (
   ((idxS s' i').bind (asI .u8)).bind fun n1 =>
   (cf 85 [.int .u8 n1, .int .i64 base'] st).bind fun r2 =>
   ((some r2.1).bind (asI .i64)).bind fun n3 =>
   cond (decide (n3 < 0)) (
    some (1, [.int .i64 (-1)], r2.2)) (
    ((aI .quo .i64 2147483647 base').bind (asI .i64)).bind fun n4 =>
    cond (decide (n4 < n')) (
     some (1, [.int .i64 (-1)], r2.2)) (
     let n5 : Int := IntKind.wrap .i64 (n' * base')
     let n6 : Int := IntKind.wrap .i64 (n5 + n3)
     let n7 : Int := IntKind.wrap .i64 (i' + 1)
     lf 7 [.string s', .int .i64 base', .int .i64 n6, .int .i64 n7] r2.2))) (
   some (0, [.string s', .int .i64 n'], st))
theorem camshaftref15_Number_l7_sh (cf : CallS) (lf : LoopS) (s' : ByteArray) (base' : Int) (n' : Int) (i' : Int) (st : SS) : loopS Tryz.prog Lk0 cf lf li_camshaftref15_Number (loopC Tryz.f86 7) I_camshaftref15_Number_7 Tryz.f86.ntmps [.string s', .int .i64 base', .int .i64 n', .int .i64 i'] st = camshaftref15_Number_l7 cf lf s' base' n' i' st := by kernel_rfl
theorem camshaftref15_Number_l7_eq [Sym] (s' : ByteArray) (base' : Int) (n' : Int) (i' : Int) (st : SS) {r : Nat × List Value × SS} (h : camshaftref15_Number_l7 cc camshaftref15_Number_lf s' base' n' i' st = some r) : camshaftref15_Number_lf 7 [.string s', .int .i64 base', .int .i64 n', .int .i64 i'] st = some r :=
  loop_sound Lk0_ok Lk0_S (key := 7) (I := I_camshaftref15_Number_7) rfl (by kernel_rfl) (by kernel_rfl) rfl rfl ((camshaftref15_Number_l7_sh _ _ s' base' n' i' st).trans h)
def I_camshaftref15_Line_6 : LoopI := ⟨[(0, .str), (1, .int .i64), (6, .any), (7, .int .i64), (8, .int .u8), (9, .int .i64)], [(.exit 2, [(0, .str), (1, .int .i64), (6, .any), (7, .int .i64), (8, .int .u8), (9, .int .i64)])]⟩
def I_camshaftref15_Line_3 : LoopI := ⟨[(0, .str), (1, .int .i64), (6, .any), (7, .int .i64)], [(.exit 0, [(0, .str), (1, .int .i64), (6, .any)]), (.ret, [(4, .any), (5, .int .i64)])]⟩
def li_camshaftref15_Line (n : Nat) : Option LoopI := cond (Nat.beq n 3) (some I_camshaftref15_Line_3) (cond (Nat.beq n 6) (some I_camshaftref15_Line_6) (none))
noncomputable def camshaftref15_Line (cf : CallS) (lf : LoopS) (s' : ByteArray) (at0' : Int) (st : SS) : Option (Value × SS) :=
  (lf 3 [.string s', .int .i64 at0', .slice none 0 0, .int .i64 0] st).bind fun r1 =>
  cond (Nat.beq r1.1 0) (
   ((r1.2.1[0]?).bind asS).bind fun s2 =>
   ((r1.2.1[1]?).bind (asI .i64)).bind fun n3 =>
   (r1.2.1[2]?).bind fun v4 =>
   let n5 : Int := IntKind.wrap .i64 ((s2.size : Int) + 1)
   let st6 : SS := r1.2.2.new (.cells ([.int .i64 0, .string ⟨#[]⟩, .int .i64 0, .int .i64 n3, .int .i64 n5]) 5)
   (st6.app 5 48 v4 (.slice (some ⟨r1.2.2.next, 0, none⟩) 1 1)).bind fun r7 =>
   some (.tuple #[r7.1, .int .i64 0], r7.2)) (
   (r1.2.1[0]?).bind fun v8 =>
   ((r1.2.1[1]?).bind (asI .i64)).bind fun n9 =>
   some (.tuple #[v8, .int .i64 n9], r1.2.2))
theorem camshaftref15_Line_sh (cf : CallS) (lf : LoopS) (s' : ByteArray) (at0' : Int) (st : SS) : bodyS Tryz.prog Lk0 cf lf li_camshaftref15_Line Tryz.f57 false [.string s', .int .i64 at0'] st = camshaftref15_Line cf lf s' at0' st := by kernel_rfl
noncomputable abbrev camshaftref15_Line_lf : LoopS := lS Tryz.prog Lk0 Tryz.f57 li_camshaftref15_Line
theorem camshaftref15_Line_fn : Lk0.func 57 = some (57, Tryz.f57) := by kernel_rfl
theorem camshaftref15_Line_eq [Sym] (s' : ByteArray) (at0' : Int) (st : SS) {r : Value × SS} (h : camshaftref15_Line cc camshaftref15_Line_lf s' at0' st = some r) : cc 57 [.string s', .int .i64 at0'] st = some r :=
  body_sound Lk0_ok Lk0_S camshaftref15_Line_fn rfl (fun _ => rfl) ((camshaftref15_Line_sh _ _ s' at0' st).trans h)
noncomputable def camshaftref15_Line_l3 (cf : CallS) (lf : LoopS) (s' : ByteArray) (at0' : Int) (out' : Value) (i' : Int) (st : SS) : Option (Nat × List Value × SS) :=
  cond (decide (i' < (s'.size : Int))) (
   ((idxS s' i').bind (asI .u8)).bind fun n1 =>
   cond (!(decide (n1 = 59))) (
    ((idxS s' i').bind (asI .u8)).bind fun n2 =>
    (lf 6 [.string s', .int .i64 at0', out', .int .i64 i', .int .u8 n2, .int .i64 0] st).bind fun r3 =>
    ((r3.2.1[0]?).bind asS).bind fun s4 =>
    ((r3.2.1[1]?).bind (asI .i64)).bind fun n5 =>
    (r3.2.1[2]?).bind fun v6 =>
    ((r3.2.1[3]?).bind (asI .i64)).bind fun n7 =>
    ((r3.2.1[4]?).bind (asI .u8)).bind fun n8 =>
    ((r3.2.1[5]?).bind (asI .i64)).bind fun n9 =>
    cond (decide (n8 = 32)) (
     let n10 : Int := IntKind.wrap .i64 (n7 + 1)
     lf 3 [.string s4, .int .i64 n5, v6, .int .i64 n10] r3.2.2) (
     cond (decide (n8 = 9)) (
      let n11 : Int := IntKind.wrap .i64 (n7 + 1)
      lf 3 [.string s4, .int .i64 n5, v6, .int .i64 n11] r3.2.2) (
      cond (decide (n8 = 13)) (
       let n12 : Int := IntKind.wrap .i64 (n7 + 1)
       lf 3 [.string s4, .int .i64 n5, v6, .int .i64 n12] r3.2.2) (
       let n13 : Int := IntKind.wrap .i64 (n7 + 1)
       let st14 : SS := r3.2.2.new (.cells [.int .i64 0, .string ⟨#[]⟩, .int .i64 0, .int .i64 0, .int .i64 0] 0)
       (st14.st r3.2.2.next 0 [.int .i64 0, .string ⟨#[]⟩, .int .i64 0, .int .i64 n5, .int .i64 n13]).bind fun st15 =>
       cond (decide (0 < n9)) (
        (cf 84 [.int .u8 n8] st15).bind fun r16 =>
        ((some r16.1).bind asB).bind fun b17 =>
        cond b17 (
         (r16.2.st r3.2.2.next 0 [.int .i64 1]).bind fun st18 =>
         let n19 : Int := IntKind.wrap .i64 (n7 + n9)
         (subS s4 n7 n19).bind fun s20 =>
         (st18.st r3.2.2.next 1 [.string s20]).bind fun st21 =>
         cond (decide (24 < n9)) (
          let n22 : Int := IntKind.wrap .i64 (n7 + 1)
          some (1, [.slice none 0 0, .int .i64 n22], st21)) (
          (st21.ldN r3.2.2.next 0 5).bind fun v23 =>
          (cellsN v23 5).bind fun c24 =>
          let st25 : SS := st21.new (.cells (c24 ++ ([])) 5)
          (st25.app 5 48 v6 (.slice (some ⟨st21.next, 0, none⟩) 1 1)).bind fun r26 =>
          ((r26.2.ld r3.2.2.next 1).bind asS).bind fun s27 =>
          let n28 : Int := IntKind.wrap .i64 (n7 + (s27.size : Int))
          lf 3 [.string s4, .int .i64 n5, r26.1, .int .i64 n28] r26.2)) (
         cond (decide (0 < n9)) (
          (r16.2.st r3.2.2.next 0 [.int .i64 2]).bind fun st29 =>
          let n30 : Int := IntKind.wrap .i64 (n7 + n9)
          (subS s4 n7 n30).bind fun s31 =>
          (st29.st r3.2.2.next 1 [.string s31]).bind fun st32 =>
          ((st32.ld r3.2.2.next 1).bind asS).bind fun s33 =>
          (cf 86 [.string s33] st32).bind fun r34 =>
          ((some r34.1).bind (asI .i64)).bind fun n35 =>
          (r34.2.st r3.2.2.next 2 [.int .i64 n35]).bind fun st36 =>
          ((st36.ld r3.2.2.next 2).bind (asI .i64)).bind fun n37 =>
          cond (decide (n37 < 0)) (
           let n38 : Int := IntKind.wrap .i64 (n7 + 1)
           some (1, [.slice none 0 0, .int .i64 n38], st36)) (
           (st36.ldN r3.2.2.next 0 5).bind fun v39 =>
           (cellsN v39 5).bind fun c40 =>
           let st41 : SS := st36.new (.cells (c40 ++ ([])) 5)
           (st41.app 5 48 v6 (.slice (some ⟨st36.next, 0, none⟩) 1 1)).bind fun r42 =>
           ((r42.2.ld r3.2.2.next 1).bind asS).bind fun s43 =>
           let n44 : Int := IntKind.wrap .i64 (n7 + (s43.size : Int))
           lf 3 [.string s4, .int .i64 n5, r42.1, .int .i64 n44] r42.2)) (
          cond (decide (n8 = 58)) (
           (r16.2.st r3.2.2.next 0 [.int .i64 3]).bind fun st45 =>
           let n46 : Int := IntKind.wrap .i64 (n7 + 1)
           (subS s4 n7 n46).bind fun s47 =>
           (st45.st r3.2.2.next 1 [.string s47]).bind fun st48 =>
           (st48.ldN r3.2.2.next 0 5).bind fun v49 =>
           (cellsN v49 5).bind fun c50 =>
           let st51 : SS := st48.new (.cells (c50 ++ ([])) 5)
           (st51.app 5 48 v6 (.slice (some ⟨st48.next, 0, none⟩) 1 1)).bind fun r52 =>
           ((r52.2.ld r3.2.2.next 1).bind asS).bind fun s53 =>
           let n54 : Int := IntKind.wrap .i64 (n7 + (s53.size : Int))
           lf 3 [.string s4, .int .i64 n5, r52.1, .int .i64 n54] r52.2) (
           cond (decide (n8 = 61)) (
            (r16.2.st r3.2.2.next 0 [.int .i64 3]).bind fun st55 =>
            let n56 : Int := IntKind.wrap .i64 (n7 + 1)
            (subS s4 n7 n56).bind fun s57 =>
            (st55.st r3.2.2.next 1 [.string s57]).bind fun st58 =>
            (st58.ldN r3.2.2.next 0 5).bind fun v59 =>
            (cellsN v59 5).bind fun c60 =>
            let st61 : SS := st58.new (.cells (c60 ++ ([])) 5)
            (st61.app 5 48 v6 (.slice (some ⟨st58.next, 0, none⟩) 1 1)).bind fun r62 =>
            ((r62.2.ld r3.2.2.next 1).bind asS).bind fun s63 =>
            let n64 : Int := IntKind.wrap .i64 (n7 + (s63.size : Int))
            lf 3 [.string s4, .int .i64 n5, r62.1, .int .i64 n64] r62.2) (
            cond (decide (n8 = 46)) (
             (r16.2.st r3.2.2.next 0 [.int .i64 3]).bind fun st65 =>
             let n66 : Int := IntKind.wrap .i64 (n7 + 1)
             (subS s4 n7 n66).bind fun s67 =>
             (st65.st r3.2.2.next 1 [.string s67]).bind fun st68 =>
             (st68.ldN r3.2.2.next 0 5).bind fun v69 =>
             (cellsN v69 5).bind fun c70 =>
             let st71 : SS := st68.new (.cells (c70 ++ ([])) 5)
             (st71.app 5 48 v6 (.slice (some ⟨st68.next, 0, none⟩) 1 1)).bind fun r72 =>
             ((r72.2.ld r3.2.2.next 1).bind asS).bind fun s73 =>
             let n74 : Int := IntKind.wrap .i64 (n7 + (s73.size : Int))
             lf 3 [.string s4, .int .i64 n5, r72.1, .int .i64 n74] r72.2) (
             cond (decide (n8 = 43)) (
              (r16.2.st r3.2.2.next 0 [.int .i64 3]).bind fun st75 =>
              let n76 : Int := IntKind.wrap .i64 (n7 + 1)
              (subS s4 n7 n76).bind fun s77 =>
              (st75.st r3.2.2.next 1 [.string s77]).bind fun st78 =>
              (st78.ldN r3.2.2.next 0 5).bind fun v79 =>
              (cellsN v79 5).bind fun c80 =>
              let st81 : SS := st78.new (.cells (c80 ++ ([])) 5)
              (st81.app 5 48 v6 (.slice (some ⟨st78.next, 0, none⟩) 1 1)).bind fun r82 =>
              ((r82.2.ld r3.2.2.next 1).bind asS).bind fun s83 =>
              let n84 : Int := IntKind.wrap .i64 (n7 + (s83.size : Int))
              lf 3 [.string s4, .int .i64 n5, r82.1, .int .i64 n84] r82.2) (
              cond (decide (n8 = 45)) (
               (r16.2.st r3.2.2.next 0 [.int .i64 3]).bind fun st85 =>
               let n86 : Int := IntKind.wrap .i64 (n7 + 1)
               (subS s4 n7 n86).bind fun s87 =>
               (st85.st r3.2.2.next 1 [.string s87]).bind fun st88 =>
               (st88.ldN r3.2.2.next 0 5).bind fun v89 =>
               (cellsN v89 5).bind fun c90 =>
               let st91 : SS := st88.new (.cells (c90 ++ ([])) 5)
               (st91.app 5 48 v6 (.slice (some ⟨st88.next, 0, none⟩) 1 1)).bind fun r92 =>
               ((r92.2.ld r3.2.2.next 1).bind asS).bind fun s93 =>
               let n94 : Int := IntKind.wrap .i64 (n7 + (s93.size : Int))
               lf 3 [.string s4, .int .i64 n5, r92.1, .int .i64 n94] r92.2) (
               let n95 : Int := IntKind.wrap .i64 (n7 + 1)
               some (1, [.slice none 0 0, .int .i64 n95], r16.2))))))))) (
        cond (decide (0 < n9)) (
         (st15.st r3.2.2.next 0 [.int .i64 2]).bind fun st96 =>
         let n97 : Int := IntKind.wrap .i64 (n7 + n9)
         (subS s4 n7 n97).bind fun s98 =>
         (st96.st r3.2.2.next 1 [.string s98]).bind fun st99 =>
         ((st99.ld r3.2.2.next 1).bind asS).bind fun s100 =>
         (cf 86 [.string s100] st99).bind fun r101 =>
         ((some r101.1).bind (asI .i64)).bind fun n102 =>
         (r101.2.st r3.2.2.next 2 [.int .i64 n102]).bind fun st103 =>
         ((st103.ld r3.2.2.next 2).bind (asI .i64)).bind fun n104 =>
         cond (decide (n104 < 0)) (
          let n105 : Int := IntKind.wrap .i64 (n7 + 1)
          some (1, [.slice none 0 0, .int .i64 n105], st103)) (
          (st103.ldN r3.2.2.next 0 5).bind fun v106 =>
          (cellsN v106 5).bind fun c107 =>
          let st108 : SS := st103.new (.cells (c107 ++ ([])) 5)
          (st108.app 5 48 v6 (.slice (some ⟨st103.next, 0, none⟩) 1 1)).bind fun r109 =>
          ((r109.2.ld r3.2.2.next 1).bind asS).bind fun s110 =>
          let n111 : Int := IntKind.wrap .i64 (n7 + (s110.size : Int))
          lf 3 [.string s4, .int .i64 n5, r109.1, .int .i64 n111] r109.2)) (
         cond (decide (n8 = 58)) (
          (st15.st r3.2.2.next 0 [.int .i64 3]).bind fun st112 =>
          let n113 : Int := IntKind.wrap .i64 (n7 + 1)
          (subS s4 n7 n113).bind fun s114 =>
          (st112.st r3.2.2.next 1 [.string s114]).bind fun st115 =>
          (st115.ldN r3.2.2.next 0 5).bind fun v116 =>
          (cellsN v116 5).bind fun c117 =>
          let st118 : SS := st115.new (.cells (c117 ++ ([])) 5)
          (st118.app 5 48 v6 (.slice (some ⟨st115.next, 0, none⟩) 1 1)).bind fun r119 =>
          ((r119.2.ld r3.2.2.next 1).bind asS).bind fun s120 =>
          let n121 : Int := IntKind.wrap .i64 (n7 + (s120.size : Int))
          lf 3 [.string s4, .int .i64 n5, r119.1, .int .i64 n121] r119.2) (
          cond (decide (n8 = 61)) (
           (st15.st r3.2.2.next 0 [.int .i64 3]).bind fun st122 =>
           let n123 : Int := IntKind.wrap .i64 (n7 + 1)
           (subS s4 n7 n123).bind fun s124 =>
           (st122.st r3.2.2.next 1 [.string s124]).bind fun st125 =>
           (st125.ldN r3.2.2.next 0 5).bind fun v126 =>
           (cellsN v126 5).bind fun c127 =>
           let st128 : SS := st125.new (.cells (c127 ++ ([])) 5)
           (st128.app 5 48 v6 (.slice (some ⟨st125.next, 0, none⟩) 1 1)).bind fun r129 =>
           ((r129.2.ld r3.2.2.next 1).bind asS).bind fun s130 =>
           let n131 : Int := IntKind.wrap .i64 (n7 + (s130.size : Int))
           lf 3 [.string s4, .int .i64 n5, r129.1, .int .i64 n131] r129.2) (
           cond (decide (n8 = 46)) (
            (st15.st r3.2.2.next 0 [.int .i64 3]).bind fun st132 =>
            let n133 : Int := IntKind.wrap .i64 (n7 + 1)
            (subS s4 n7 n133).bind fun s134 =>
            (st132.st r3.2.2.next 1 [.string s134]).bind fun st135 =>
            (st135.ldN r3.2.2.next 0 5).bind fun v136 =>
            (cellsN v136 5).bind fun c137 =>
            let st138 : SS := st135.new (.cells (c137 ++ ([])) 5)
            (st138.app 5 48 v6 (.slice (some ⟨st135.next, 0, none⟩) 1 1)).bind fun r139 =>
            ((r139.2.ld r3.2.2.next 1).bind asS).bind fun s140 =>
            let n141 : Int := IntKind.wrap .i64 (n7 + (s140.size : Int))
            lf 3 [.string s4, .int .i64 n5, r139.1, .int .i64 n141] r139.2) (
            cond (decide (n8 = 43)) (
             (st15.st r3.2.2.next 0 [.int .i64 3]).bind fun st142 =>
             let n143 : Int := IntKind.wrap .i64 (n7 + 1)
             (subS s4 n7 n143).bind fun s144 =>
             (st142.st r3.2.2.next 1 [.string s144]).bind fun st145 =>
             (st145.ldN r3.2.2.next 0 5).bind fun v146 =>
             (cellsN v146 5).bind fun c147 =>
             let st148 : SS := st145.new (.cells (c147 ++ ([])) 5)
             (st148.app 5 48 v6 (.slice (some ⟨st145.next, 0, none⟩) 1 1)).bind fun r149 =>
             ((r149.2.ld r3.2.2.next 1).bind asS).bind fun s150 =>
             let n151 : Int := IntKind.wrap .i64 (n7 + (s150.size : Int))
             lf 3 [.string s4, .int .i64 n5, r149.1, .int .i64 n151] r149.2) (
             cond (decide (n8 = 45)) (
              (st15.st r3.2.2.next 0 [.int .i64 3]).bind fun st152 =>
              let n153 : Int := IntKind.wrap .i64 (n7 + 1)
              (subS s4 n7 n153).bind fun s154 =>
              (st152.st r3.2.2.next 1 [.string s154]).bind fun st155 =>
              (st155.ldN r3.2.2.next 0 5).bind fun v156 =>
              (cellsN v156 5).bind fun c157 =>
              let st158 : SS := st155.new (.cells (c157 ++ ([])) 5)
              (st158.app 5 48 v6 (.slice (some ⟨st155.next, 0, none⟩) 1 1)).bind fun r159 =>
              ((r159.2.ld r3.2.2.next 1).bind asS).bind fun s160 =>
              let n161 : Int := IntKind.wrap .i64 (n7 + (s160.size : Int))
              lf 3 [.string s4, .int .i64 n5, r159.1, .int .i64 n161] r159.2) (
              let n162 : Int := IntKind.wrap .i64 (n7 + 1)
              some (1, [.slice none 0 0, .int .i64 n162], st15)))))))))))) (
    some (0, [.string s', .int .i64 at0', out'], st))) (
   some (0, [.string s', .int .i64 at0', out'], st))
theorem camshaftref15_Line_l3_sh (cf : CallS) (lf : LoopS) (s' : ByteArray) (at0' : Int) (out' : Value) (i' : Int) (st : SS) : loopS Tryz.prog Lk0 cf lf li_camshaftref15_Line (loopC Tryz.f57 3) I_camshaftref15_Line_3 Tryz.f57.ntmps [.string s', .int .i64 at0', out', .int .i64 i'] st = camshaftref15_Line_l3 cf lf s' at0' out' i' st := by kernel_rfl
theorem camshaftref15_Line_l3_eq [Sym] (s' : ByteArray) (at0' : Int) (out' : Value) (i' : Int) (st : SS) {r : Nat × List Value × SS} (h : camshaftref15_Line_l3 cc camshaftref15_Line_lf s' at0' out' i' st = some r) : camshaftref15_Line_lf 3 [.string s', .int .i64 at0', out', .int .i64 i'] st = some r :=
  loop_sound Lk0_ok Lk0_S (key := 3) (I := I_camshaftref15_Line_3) rfl (by kernel_rfl) (by kernel_rfl) rfl rfl ((camshaftref15_Line_l3_sh _ _ s' at0' out' i' st).trans h)
noncomputable def camshaftref15_Line_l6 (cf : CallS) (lf : LoopS) (s' : ByteArray) (at0' : Int) (out' : Value) (i' : Int) (c' : Int) (n' : Int) (st : SS) : Option (Nat × List Value × SS) :=
  let n1 : Int := IntKind.wrap .i64 (i' + n')
  cond (decide (n1 < (s'.size : Int))) (
   let n2 : Int := IntKind.wrap .i64 (i' + n')
   ((idxS s' n2).bind (asI .u8)).bind fun n3 =>
   (cf 84 [.int .u8 n3] st).bind fun r4 =>
   ((some r4.1).bind asB).bind fun b5 =>
   cond b5 (
    let n6 : Int := IntKind.wrap .i64 (n' + 1)
    lf 6 [.string s', .int .i64 at0', out', .int .i64 i', .int .u8 c', .int .i64 n6] r4.2) (
    let n7 : Int := IntKind.wrap .i64 (i' + n')
    ((idxS s' n7).bind (asI .u8)).bind fun n8 =>
    (cf 85 [.int .u8 n8, .int .i64 10] r4.2).bind fun r9 =>
    ((some r9.1).bind (asI .i64)).bind fun n10 =>
    cond (decide (0 ≤ n10)) (
     let n11 : Int := IntKind.wrap .i64 (n' + 1)
     lf 6 [.string s', .int .i64 at0', out', .int .i64 i', .int .u8 c', .int .i64 n11] r9.2) (
     some (0, [.string s', .int .i64 at0', out', .int .i64 i', .int .u8 c', .int .i64 n'], r9.2)))) (
   some (0, [.string s', .int .i64 at0', out', .int .i64 i', .int .u8 c', .int .i64 n'], st))
theorem camshaftref15_Line_l6_sh (cf : CallS) (lf : LoopS) (s' : ByteArray) (at0' : Int) (out' : Value) (i' : Int) (c' : Int) (n' : Int) (st : SS) : loopS Tryz.prog Lk0 cf lf li_camshaftref15_Line (loopC Tryz.f57 6) I_camshaftref15_Line_6 Tryz.f57.ntmps [.string s', .int .i64 at0', out', .int .i64 i', .int .u8 c', .int .i64 n'] st = camshaftref15_Line_l6 cf lf s' at0' out' i' c' n' st := by kernel_rfl
theorem camshaftref15_Line_l6_eq [Sym] (s' : ByteArray) (at0' : Int) (out' : Value) (i' : Int) (c' : Int) (n' : Int) (st : SS) {r : Nat × List Value × SS} (h : camshaftref15_Line_l6 cc camshaftref15_Line_lf s' at0' out' i' c' n' st = some r) : camshaftref15_Line_lf 6 [.string s', .int .i64 at0', out', .int .i64 i', .int .u8 c', .int .i64 n'] st = some r :=
  loop_sound Lk0_ok Lk0_S (key := 6) (I := I_camshaftref15_Line_6) rfl (by kernel_rfl) (by kernel_rfl) rfl rfl ((camshaftref15_Line_l6_sh _ _ s' at0' out' i' c' n' st).trans h)
def I_camshaftref15_Lex_3 : LoopI := ⟨[(3, .any), (4, .any), (10, .any), (11, .int .i64), (12, .int .i64)], [(.exit 0, [(3, .any), (4, .any)]), (.ret, [(2, .any), (3, .any)])]⟩
def li_camshaftref15_Lex (n : Nat) : Option LoopI := cond (Nat.beq n 3) (some I_camshaftref15_Lex_3) (none)
noncomputable def camshaftref15_Lex (cf : CallS) (lf : LoopS) (text' : ByteArray) (st : SS) : Option (Value × SS) :=
  let st1 : SS := st.new (.cells [.int .i64 0, .int .i64 0] 0)
  (cf 54 [.string text', .int .u8 10] st1).bind fun r2 =>
  ((lenV r2.1).bind (asI .i64)).bind fun n3 =>
  (lf 3 [ptr st.next 0, .slice none 0 0, r2.1, .int .i64 n3, .int .i64 0] r2.2).bind fun r4 =>
  cond (Nat.beq r4.1 0) (
   (r4.2.1[0]?).bind fun v5 =>
   (r4.2.1[1]?).bind fun v6 =>
   (addr? v5).bind fun p7 =>
   (r4.2.2.st p7.1 p7.2 [.int .i64 0, .int .i64 0]).bind fun st8 =>
   (addr? v5).bind fun p9 =>
   (st8.rdN p9.1 p9.2 2).bind fun v10 =>
   some (.tuple #[v6, v10], st8)) (
   (r4.2.1[0]?).bind fun v11 =>
   (r4.2.1[1]?).bind fun v12 =>
   (addr? v12).bind fun p13 =>
   (r4.2.2.rdN p13.1 p13.2 2).bind fun v14 =>
   some (.tuple #[v11, v14], r4.2.2))
theorem camshaftref15_Lex_sh (cf : CallS) (lf : LoopS) (text' : ByteArray) (st : SS) : bodyS Tryz.prog Lk0 cf lf li_camshaftref15_Lex Tryz.f56 false [.string text'] st = camshaftref15_Lex cf lf text' st := by kernel_rfl
noncomputable abbrev camshaftref15_Lex_lf : LoopS := lS Tryz.prog Lk0 Tryz.f56 li_camshaftref15_Lex
theorem camshaftref15_Lex_fn : Lk0.func 56 = some (56, Tryz.f56) := by kernel_rfl
theorem camshaftref15_Lex_eq [Sym] (text' : ByteArray) (st : SS) {r : Value × SS} (h : camshaftref15_Lex cc camshaftref15_Lex_lf text' st = some r) : cc 56 [.string text'] st = some r :=
  body_sound Lk0_ok Lk0_S camshaftref15_Lex_fn rfl (fun _ => rfl) ((camshaftref15_Lex_sh _ _ text' st).trans h)
noncomputable def camshaftref15_Lex_l3 (cf : CallS) (lf : LoopS) (t3' : Value) (out' : Value) (t10' : Value) (t11' : Int) (t12' : Int) (st : SS) : Option (Nat × List Value × SS) :=
  cond (decide (t12' < t11')) (
   (elemS t10' t12' 1).bind fun p1 =>
   ((st.ld p1.1 p1.2).bind asS).bind fun s2 =>
   let n3 : Int := IntKind.wrap .i64 (t12' + 1)
   (cf 57 [.string s2, .int .i64 n3] st).bind fun r4 =>
   (tupG r4.1 0).bind fun v5 =>
   ((tupG r4.1 1).bind (asI .i64)).bind fun n6 =>
   cond (decide (0 < n6)) (
    let n7 : Int := IntKind.wrap .i64 (t12' + 1)
    (addr? t3').bind fun p8 =>
    (r4.2.st p8.1 p8.2 [.int .i64 n7, .int .i64 n6]).bind fun st9 =>
    some (1, [.slice none 0 0, t3'], st9)) (
    (r4.2.app 5 48 out' v5).bind fun r10 =>
    let n11 : Int := IntKind.wrap .i64 (t12' + 1)
    lf 3 [t3', r10.1, t10', .int .i64 t11', .int .i64 n11] r10.2)) (
   some (0, [t3', out'], st))
theorem camshaftref15_Lex_l3_sh (cf : CallS) (lf : LoopS) (t3' : Value) (out' : Value) (t10' : Value) (t11' : Int) (t12' : Int) (st : SS) : loopS Tryz.prog Lk0 cf lf li_camshaftref15_Lex (loopC Tryz.f56 3) I_camshaftref15_Lex_3 Tryz.f56.ntmps [t3', out', t10', .int .i64 t11', .int .i64 t12'] st = camshaftref15_Lex_l3 cf lf t3' out' t10' t11' t12' st := by kernel_rfl
theorem camshaftref15_Lex_l3_eq [Sym] (t3' : Value) (out' : Value) (t10' : Value) (t11' : Int) (t12' : Int) (st : SS) {r : Nat × List Value × SS} (h : camshaftref15_Lex_l3 cc camshaftref15_Lex_lf t3' out' t10' t11' t12' st = some r) : camshaftref15_Lex_lf 3 [t3', out', t10', .int .i64 t11', .int .i64 t12'] st = some r :=
  loop_sound Lk0_ok Lk0_S (key := 3) (I := I_camshaftref15_Lex_3) rfl (by kernel_rfl) (by kernel_rfl) rfl rfl ((camshaftref15_Lex_l3_sh _ _ t3' out' t10' t11' t12' st).trans h)
end Go.Proofs.YthngaoncjpgeiaaGreatDoorE
