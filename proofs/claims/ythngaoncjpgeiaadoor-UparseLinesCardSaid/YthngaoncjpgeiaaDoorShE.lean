/- Shallow texts of functions, printed by a program and compared by the kernel. -/
import Derived.Test.YthngaoncjpgeiaaDoorLex8
set_option linter.unusedVariables false
set_option linter.unusedSimpArgs false
set_option maxRecDepth 20000
namespace Go.Proofs.YthngaoncjpgeiaaDoorE
open Go Go.E Go.Proofs
def I_camshaftlaw15_UlexLong_7 : LoopI := ⟨[(0, .int .i64), (3, .any), (20, .int .i64), (21, .int .i64)], [(.exit 0, [(0, .int .i64), (3, .any)])]⟩
def li_camshaftlaw15_UlexLong (n : Nat) : Option LoopI := cond (Nat.beq n 7) (some I_camshaftlaw15_UlexLong_7) (none)
noncomputable def camshaftlaw15_UlexLong (cf : CallS) (lf : LoopS) (more' : Int) (st : SS) : Option (Value × SS) :=
  (cf 14 [] st).bind fun r1 =>
  ((some r1.1).bind asB).bind fun b2 =>
  cond (!b2) (
   some (.bool false, r1.2)) (
   cond (decide (more' < (-2))) (
    some (.bool true, r1.2)) (
    cond (decide (2 < more')) (
     some (.bool true, r1.2)) (
     let n3 : Int := IntKind.wrap .i64 (131072 + more')
     (mkLen n3 n3 1).bind fun _ =>
     let st4 : SS := r1.2.new (.cells (zerosS [.int .u8 0] n3) 1)
     (lf 7 [.int .i64 more', .slice (some ⟨r1.2.next, 0, none⟩) ((n3 : Int).toNat) ((n3 : Int).toNat), .int .i64 (((n3 : Int).toNat : Nat) : Int), .int .i64 0] st4).bind fun r5 =>
     ((r5.2.1[0]?).bind (asI .i64)).bind fun n6 =>
     (r5.2.1[1]?).bind fun v7 =>
     (r5.2.2.bytes v7).bind fun s8 =>
     (cf 15 [.string s8] r5.2.2).bind fun r9 =>
     (tupG r9.1 0).bind fun v10 =>
     (tupG r9.1 1).bind fun v11 =>
     ((tupG r9.1 2).bind (asI .i64)).bind fun n12 =>
     let st13 : SS := r9.2.new (.cells [.int .i64 0, .int .i64 0] 0)
     (st13.stV r9.2.next 0 2 v11).bind fun st14 =>
     cond (decide (0 < n6)) (
      cond (decide (n12 = 3)) (
       ((lenV v10).bind (asI .i64)).bind fun n15 =>
       cond (decide (n15 = 0)) (
        (st14.ldN r9.2.next 0 2).bind fun v16 =>
        (((eqA Tryd.prog Lk0 24 v16 (.agg #[.int .i64 0, .int .i64 0])).bind fun r => some (.bool r)).bind asB).bind fun b17 =>
        some (.bool b17, st14)) (
        some (.bool false, st14))) (
       some (.bool false, st14))) (
      cond (decide (n12 = 0)) (
       ((lenV v10).bind (asI .i64)).bind fun n18 =>
       some (.bool (decide (n18 = 1)), st14)) (
       some (.bool false, st14))))))
theorem camshaftlaw15_UlexLong_sh (cf : CallS) (lf : LoopS) (more' : Int) (st : SS) : bodyS Tryd.prog Lk0 cf lf li_camshaftlaw15_UlexLong Tryd.f6 false [.int .i64 more'] st = camshaftlaw15_UlexLong cf lf more' st := by kernel_rfl
noncomputable abbrev camshaftlaw15_UlexLong_lf : LoopS := lS Tryd.prog Lk0 Tryd.f6 li_camshaftlaw15_UlexLong
theorem camshaftlaw15_UlexLong_fn : Lk0.func 6 = some (6, Tryd.f6) := by kernel_rfl
theorem camshaftlaw15_UlexLong_eq [Sym] (more' : Int) (st : SS) {r : Value × SS} (h : camshaftlaw15_UlexLong cc camshaftlaw15_UlexLong_lf more' st = some r) : cc 6 [.int .i64 more'] st = some r :=
  body_sound Lk0_ok Lk0_S camshaftlaw15_UlexLong_fn rfl (fun _ => rfl) ((camshaftlaw15_UlexLong_sh _ _ more' st).trans h)
noncomputable def camshaftlaw15_UlexLong_l7 (cf : CallS) (lf : LoopS) (more' : Int) (b' : Value) (t20' : Int) (t21' : Int) (st : SS) : Option (Nat × List Value × SS) :=
  cond (decide (t21' < t20')) (
   (elemS b' t21' 1).bind fun p1 =>
   (st.st p1.1 p1.2 [.int .u8 59]).bind fun st2 =>
   let n3 : Int := IntKind.wrap .i64 (t21' + 1)
   lf 7 [.int .i64 more', b', .int .i64 t20', .int .i64 n3] st2) (
   some (0, [.int .i64 more', b'], st))
theorem camshaftlaw15_UlexLong_l7_sh (cf : CallS) (lf : LoopS) (more' : Int) (b' : Value) (t20' : Int) (t21' : Int) (st : SS) : loopS Tryd.prog Lk0 cf lf li_camshaftlaw15_UlexLong (loopC Tryd.f6 7) I_camshaftlaw15_UlexLong_7 Tryd.f6.ntmps [.int .i64 more', b', .int .i64 t20', .int .i64 t21'] st = camshaftlaw15_UlexLong_l7 cf lf more' b' t20' t21' st := by kernel_rfl
theorem camshaftlaw15_UlexLong_l7_eq [Sym] (more' : Int) (b' : Value) (t20' : Int) (t21' : Int) (st : SS) {r : Nat × List Value × SS} (h : camshaftlaw15_UlexLong_l7 cc camshaftlaw15_UlexLong_lf more' b' t20' t21' st = some r) : camshaftlaw15_UlexLong_lf 7 [.int .i64 more', b', .int .i64 t20', .int .i64 t21'] st = some r :=
  loop_sound Lk0_ok Lk0_S (key := 7) (I := I_camshaftlaw15_UlexLong_7) rfl (by kernel_rfl) (by kernel_rfl) rfl rfl ((camshaftlaw15_UlexLong_l7_sh _ _ more' b' t20' t21' st).trans h)
def I_camshaftlaw15_UlexNumbers_11 : LoopI := ⟨[(0, .int .i64), (3, .str), (4, .str), (6, .int .i64)], [(.exit 2, [(0, .int .i64), (3, .str), (4, .str)])]⟩
def I_camshaftlaw15_UlexNumbers_7 : LoopI := ⟨[(0, .int .i64), (3, .str), (4, .str), (5, .int .i64)], [(.exit 0, [(0, .int .i64), (3, .str), (4, .str)])]⟩
def li_camshaftlaw15_UlexNumbers (n : Nat) : Option LoopI := cond (Nat.beq n 7) (some I_camshaftlaw15_UlexNumbers_7) (cond (Nat.beq n 11) (some I_camshaftlaw15_UlexNumbers_11) (none))
noncomputable def camshaftlaw15_UlexNumbers (cf : CallS) (lf : LoopS) (n' : Int) (st : SS) : Option (Value × SS) :=
  (cf 14 [] st).bind fun r1 =>
  ((some r1.1).bind asB).bind fun b2 =>
  cond (!b2) (
   some (.bool false, r1.2)) (
   cond (decide (n' < 0)) (
    some (.bool true, r1.2)) (
    cond (decide (8589934592 < n')) (
     some (.bool true, r1.2)) (
     (lf 7 [.int .i64 n', .string ⟨#[]⟩, .string ⟨#[]⟩, .int .i64 n'] r1.2).bind fun r3 =>
     ((r3.2.1[0]?).bind (asI .i64)).bind fun n4 =>
     ((r3.2.1[1]?).bind asS).bind fun s5 =>
     ((r3.2.1[2]?).bind asS).bind fun s6 =>
     (lf 11 [.int .i64 n4, .string s5, .string s6, .int .i64 n4] r3.2.2).bind fun r7 =>
     ((r7.2.1[0]?).bind (asI .i64)).bind fun n8 =>
     ((r7.2.1[1]?).bind asS).bind fun s9 =>
     ((r7.2.1[2]?).bind asS).bind fun s10 =>
     (cf 15 [.string s9] r7.2.2).bind fun r11 =>
     (tupG r11.1 0).bind fun v12 =>
     (tupG r11.1 1).bind fun v13 =>
     ((tupG r11.1 2).bind (asI .i64)).bind fun n14 =>
     let st15 : SS := r11.2.new (.cells [.int .i64 0, .int .i64 0] 0)
     (st15.stV r11.2.next 0 2 v13).bind fun st16 =>
     (((catS ⟨#[48, 120]⟩ s10).bind fun s => some (.string s)).bind asS).bind fun s17 =>
     (cf 15 [.string s17] st16).bind fun r18 =>
     (tupG r18.1 0).bind fun v19 =>
     (tupG r18.1 1).bind fun v20 =>
     ((tupG r18.1 2).bind (asI .i64)).bind fun n21 =>
     let st22 : SS := r18.2.new (.cells [.int .i64 0, .int .i64 0] 0)
     (st22.stV r18.2.next 0 2 v20).bind fun st23 =>
     cond (decide (2147483648 ≤ n8)) (
      cond (decide (n14 = 4)) (
       some (.bool (decide (n21 = 4)), st23)) (
       some (.bool false, st23))) (
      cond (decide (n14 = 0)) (
       cond (decide (n21 = 0)) (
        ((lenV v12).bind (asI .i64)).bind fun n24 =>
        cond (decide (n24 = 2)) (
         ((lenV v19).bind (asI .i64)).bind fun n25 =>
         cond (decide (n25 = 2)) (
          (elemS v12 0 5).bind fun p26 =>
          ((st23.ld p26.1 (p26.2 + 2)).bind (asI .i64)).bind fun n27 =>
          cond (decide (n27 = n8)) (
           (elemS v19 0 5).bind fun p28 =>
           ((st23.ld p28.1 (p28.2 + 2)).bind (asI .i64)).bind fun n29 =>
           cond (decide (n29 = n8)) (
            (elemS v12 0 5).bind fun p30 =>
            ((st23.ld p30.1 p30.2).bind (asI .i64)).bind fun n31 =>
            cond (decide (n31 = 2)) (
             (elemS v12 0 5).bind fun p32 =>
             ((st23.ld p32.1 (p32.2 + 1)).bind asS).bind fun s33 =>
             cond (eqT s33 s9) (
              (elemS v19 0 5).bind fun p34 =>
              ((st23.ld p34.1 (p34.2 + 1)).bind asS).bind fun s35 =>
              (((catS ⟨#[48, 120]⟩ s10).bind fun s => some (.string s)).bind asS).bind fun s36 =>
              some (.bool (eqT s35 s36), st23)) (
              some (.bool false, st23))) (
             some (.bool false, st23))) (
            some (.bool false, st23))) (
           some (.bool false, st23))) (
          some (.bool false, st23))) (
         some (.bool false, st23))) (
        some (.bool false, st23))) (
       some (.bool false, st23))))))
theorem camshaftlaw15_UlexNumbers_sh (cf : CallS) (lf : LoopS) (n' : Int) (st : SS) : bodyS Tryd.prog Lk0 cf lf li_camshaftlaw15_UlexNumbers Tryd.f7 false [.int .i64 n'] st = camshaftlaw15_UlexNumbers cf lf n' st := by kernel_rfl
noncomputable abbrev camshaftlaw15_UlexNumbers_lf : LoopS := lS Tryd.prog Lk0 Tryd.f7 li_camshaftlaw15_UlexNumbers
theorem camshaftlaw15_UlexNumbers_fn : Lk0.func 7 = some (7, Tryd.f7) := by kernel_rfl
theorem camshaftlaw15_UlexNumbers_eq [Sym] (n' : Int) (st : SS) {r : Value × SS} (h : camshaftlaw15_UlexNumbers cc camshaftlaw15_UlexNumbers_lf n' st = some r) : cc 7 [.int .i64 n'] st = some r :=
  body_sound Lk0_ok Lk0_S camshaftlaw15_UlexNumbers_fn rfl (fun _ => rfl) ((camshaftlaw15_UlexNumbers_sh _ _ n' st).trans h)
noncomputable def camshaftlaw15_UlexNumbers_l7 (cf : CallS) (lf : LoopS) (n' : Int) (s' : ByteArray) (t' : ByteArray) (k' : Int) (st : SS) : Option (Nat × List Value × SS) :=
  cond (decide (0 < k')) (
   let n1 : Int := Int.tmod k' 10
   let n2 : Int := IntKind.wrap .i64 (48 + n1)
   let n3 : Int := IntKind.wrap .u8 n2
   let st4 : SS := st.new (.cells ([.int .u8 n3]) 1)
   (st4.bytes (.slice (some ⟨st.next, 0, none⟩) 1 1)).bind fun s5 =>
   (((catS s5 s').bind fun s => some (.string s)).bind asS).bind fun s6 =>
   let n7 : Int := IntKind.wrap .i64 (Int.tdiv k' 10)
   lf 7 [.int .i64 n', .string s6, .string t', .int .i64 n7] st4) (
   cond (eqT s' ⟨#[]⟩) (
    let n8 : Int := Int.tmod k' 10
    let n9 : Int := IntKind.wrap .i64 (48 + n8)
    let n10 : Int := IntKind.wrap .u8 n9
    let st11 : SS := st.new (.cells ([.int .u8 n10]) 1)
    (st11.bytes (.slice (some ⟨st.next, 0, none⟩) 1 1)).bind fun s12 =>
    (((catS s12 s').bind fun s => some (.string s)).bind asS).bind fun s13 =>
    let n14 : Int := IntKind.wrap .i64 (Int.tdiv k' 10)
    lf 7 [.int .i64 n', .string s13, .string t', .int .i64 n14] st11) (
    some (0, [.int .i64 n', .string s', .string t'], st)))
theorem camshaftlaw15_UlexNumbers_l7_sh (cf : CallS) (lf : LoopS) (n' : Int) (s' : ByteArray) (t' : ByteArray) (k' : Int) (st : SS) : loopS Tryd.prog Lk0 cf lf li_camshaftlaw15_UlexNumbers (loopC Tryd.f7 7) I_camshaftlaw15_UlexNumbers_7 Tryd.f7.ntmps [.int .i64 n', .string s', .string t', .int .i64 k'] st = camshaftlaw15_UlexNumbers_l7 cf lf n' s' t' k' st := by kernel_rfl
theorem camshaftlaw15_UlexNumbers_l7_eq [Sym] (n' : Int) (s' : ByteArray) (t' : ByteArray) (k' : Int) (st : SS) {r : Nat × List Value × SS} (h : camshaftlaw15_UlexNumbers_l7 cc camshaftlaw15_UlexNumbers_lf n' s' t' k' st = some r) : camshaftlaw15_UlexNumbers_lf 7 [.int .i64 n', .string s', .string t', .int .i64 k'] st = some r :=
  loop_sound Lk0_ok Lk0_S (key := 7) (I := I_camshaftlaw15_UlexNumbers_7) rfl (by kernel_rfl) (by kernel_rfl) rfl rfl ((camshaftlaw15_UlexNumbers_l7_sh _ _ n' s' t' k' st).trans h)
noncomputable def camshaftlaw15_UlexNumbers_l11 (cf : CallS) (lf : LoopS) (n' : Int) (s' : ByteArray) (t' : ByteArray) (k' : Int) (st : SS) : Option (Nat × List Value × SS) :=
  cond (decide (0 < k')) (
   let n1 : Int := Int.tmod k' 16
   let n2 : Int := Int.tmod k' 16
   let n3 : Int := IntKind.wrap .i64 (n2 + 1)
   (subS ⟨#[48, 49, 50, 51, 52, 53, 54, 55, 56, 57, 97, 98, 99, 100, 101, 102]⟩ n1 n3).bind fun s4 =>
   (((catS s4 t').bind fun s => some (.string s)).bind asS).bind fun s5 =>
   let n6 : Int := IntKind.wrap .i64 (Int.tdiv k' 16)
   lf 11 [.int .i64 n', .string s', .string s5, .int .i64 n6] st) (
   cond (eqT t' ⟨#[]⟩) (
    let n7 : Int := Int.tmod k' 16
    let n8 : Int := Int.tmod k' 16
    let n9 : Int := IntKind.wrap .i64 (n8 + 1)
    (subS ⟨#[48, 49, 50, 51, 52, 53, 54, 55, 56, 57, 97, 98, 99, 100, 101, 102]⟩ n7 n9).bind fun s10 =>
    (((catS s10 t').bind fun s => some (.string s)).bind asS).bind fun s11 =>
    let n12 : Int := IntKind.wrap .i64 (Int.tdiv k' 16)
    lf 11 [.int .i64 n', .string s', .string s11, .int .i64 n12] st) (
    some (0, [.int .i64 n', .string s', .string t'], st)))
theorem camshaftlaw15_UlexNumbers_l11_sh (cf : CallS) (lf : LoopS) (n' : Int) (s' : ByteArray) (t' : ByteArray) (k' : Int) (st : SS) : loopS Tryd.prog Lk0 cf lf li_camshaftlaw15_UlexNumbers (loopC Tryd.f7 11) I_camshaftlaw15_UlexNumbers_11 Tryd.f7.ntmps [.int .i64 n', .string s', .string t', .int .i64 k'] st = camshaftlaw15_UlexNumbers_l11 cf lf n' s' t' k' st := by kernel_rfl
theorem camshaftlaw15_UlexNumbers_l11_eq [Sym] (n' : Int) (s' : ByteArray) (t' : ByteArray) (k' : Int) (st : SS) {r : Nat × List Value × SS} (h : camshaftlaw15_UlexNumbers_l11 cc camshaftlaw15_UlexNumbers_lf n' s' t' k' st = some r) : camshaftlaw15_UlexNumbers_lf 11 [.int .i64 n', .string s', .string t', .int .i64 k'] st = some r :=
  loop_sound Lk0_ok Lk0_S (key := 11) (I := I_camshaftlaw15_UlexNumbers_11) rfl (by kernel_rfl) (by kernel_rfl) rfl rfl ((camshaftlaw15_UlexNumbers_l11_sh _ _ n' s' t' k' st).trans h)
end Go.Proofs.YthngaoncjpgeiaaDoorE
