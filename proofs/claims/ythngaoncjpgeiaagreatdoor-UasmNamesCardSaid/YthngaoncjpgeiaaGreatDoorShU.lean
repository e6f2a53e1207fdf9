/- Shallow texts of functions, printed by a program and compared by the kernel. -/
import Derived.Test.YthngaoncjpgeiaaGreatDoorTab
set_option linter.unusedVariables false
set_option linter.unusedSimpArgs false
set_option maxRecDepth 20000
namespace Go.Proofs.YthngaoncjpgeiaaGreatDoorE
open Go Go.E Go.Proofs
def I_strings_Fields_27 : LoopI := ⟨[(0, .str), (9, .any), (10, .int .i64), (12, .int .i64)], [(.exit 6, [(0, .str), (9, .any), (10, .int .i64), (12, .int .i64)])]⟩
def I_strings_Fields_21 : LoopI := ⟨[(0, .str), (9, .any), (10, .int .i64), (11, .int .i64), (12, .int .i64)], [(.exit 4, [(0, .str), (9, .any), (10, .int .i64), (11, .int .i64)])]⟩
def I_strings_Fields_18 : LoopI := ⟨[(0, .str), (9, .any), (10, .int .i64), (12, .int .i64)], [(.exit 2, [(0, .str), (9, .any), (10, .int .i64), (12, .int .i64)])]⟩
def I_strings_Fields_5 : LoopI := ⟨[(0, .str), (3, .int .i64), (4, .int .i64), (5, .int .u8), (6, .int .i64)], [(.exit 0, [(0, .str), (3, .int .i64), (5, .int .u8)])]⟩
def li_strings_Fields (n : Nat) : Option LoopI := cond (Nat.beq n 5) (some I_strings_Fields_5) (cond (Nat.beq n 18) (some I_strings_Fields_18) (cond (Nat.beq n 21) (some I_strings_Fields_21) (cond (Nat.beq n 27) (some I_strings_Fields_27) (none))))
noncomputable def strings_Fields (cf : CallS) (lf : LoopS) (s' : ByteArray) (st : SS) : Option (Value × SS) :=
  (lf 5 [.string s', .int .i64 0, .int .i64 1, .int .u8 0, .int .i64 0] st).bind fun r1 =>
  ((r1.2.1[0]?).bind asS).bind fun s2 =>
  ((r1.2.1[1]?).bind (asI .i64)).bind fun n3 =>
  ((r1.2.1[2]?).bind (asI .u8)).bind fun n4 =>
  cond (decide (128 ≤ n4)) (
   (cf 108 [.string s2, .func (.func 109) #[] #[]] r1.2.2).bind fun r5 =>
   some (r5.1, r5.2)) (
   (mkLen n3 n3 16).bind fun _ =>
   let st6 : SS := r1.2.2.new (.cells (zerosS [.string ⟨#[]⟩] n3) 1)
   (lf 18 [.string s2, .slice (some ⟨r1.2.2.next, 0, none⟩) ((n3 : Int).toNat) ((n3 : Int).toNat), .int .i64 0, .int .i64 0] st6).bind fun r7 =>
   ((r7.2.1[0]?).bind asS).bind fun s8 =>
   (r7.2.1[1]?).bind fun v9 =>
   ((r7.2.1[2]?).bind (asI .i64)).bind fun n10 =>
   ((r7.2.1[3]?).bind (asI .i64)).bind fun n11 =>
   (lf 21 [.string s8, v9, .int .i64 n10, .int .i64 n11, .int .i64 n11] r7.2.2).bind fun r12 =>
   ((r12.2.1[0]?).bind asS).bind fun s13 =>
   (r12.2.1[1]?).bind fun v14 =>
   ((r12.2.1[2]?).bind (asI .i64)).bind fun n15 =>
   ((r12.2.1[3]?).bind (asI .i64)).bind fun n16 =>
   cond (decide (n16 < (s13.size : Int))) (
    (subS s13 n16 (s13.size : Int)).bind fun s17 =>
    (elemS v14 n15 1).bind fun p18 =>
    (r12.2.2.st p18.1 p18.2 [.string s17]).bind fun st19 =>
    some (v14, st19)) (
    some (v14, r12.2.2)))
theorem strings_Fields_sh (cf : CallS) (lf : LoopS) (s' : ByteArray) (st : SS) : bodyS Tryz.prog Lk0 cf lf li_strings_Fields Tryz.f82 false [.string s'] st = strings_Fields cf lf s' st := by kernel_rfl
noncomputable abbrev strings_Fields_lf : LoopS := lS Tryz.prog Lk0 Tryz.f82 li_strings_Fields
theorem strings_Fields_fn : Lk0.func 82 = some (82, Tryz.f82) := by kernel_rfl
theorem strings_Fields_eq [Sym] (s' : ByteArray) (st : SS) {r : Value × SS} (h : strings_Fields cc strings_Fields_lf s' st = some r) : cc 82 [.string s'] st = some r :=
  body_sound Lk0_ok Lk0_S strings_Fields_fn rfl (fun _ => rfl) ((strings_Fields_sh _ _ s' st).trans h)
noncomputable def strings_Fields_l5 (cf : CallS) (lf : LoopS) (s' : ByteArray) (n' : Int) (wasSpace' : Int) (setBits' : Int) (i' : Int) (st : SS) : Option (Nat × List Value × SS) :=
  cond (decide (i' < (s'.size : Int))) (
   ((idxS s' i').bind (asI .u8)).bind fun n1 =>
   let n2 : Int := orI .u8 setBits' n1
   (elemA (ptr 1 0) 256 n1 1).bind fun p3 =>
   ((st.ld p3.1 p3.2).bind (asI .u8)).bind fun n4 =>
   let n5 : Int := IntKind.wrap .i64 n4
   let n6 : Int := xorI .i64 (-1) n5
   let n7 : Int := andI .i64 wasSpace' n6
   let n8 : Int := IntKind.wrap .i64 (n' + n7)
   let n9 : Int := IntKind.wrap .i64 (i' + 1)
   lf 5 [.string s', .int .i64 n8, .int .i64 n5, .int .u8 n2, .int .i64 n9] st) (
   some (0, [.string s', .int .i64 n', .int .u8 setBits'], st))
theorem strings_Fields_l5_sh (cf : CallS) (lf : LoopS) (s' : ByteArray) (n' : Int) (wasSpace' : Int) (setBits' : Int) (i' : Int) (st : SS) : loopS Tryz.prog Lk0 cf lf li_strings_Fields (loopC Tryz.f82 5) I_strings_Fields_5 Tryz.f82.ntmps [.string s', .int .i64 n', .int .i64 wasSpace', .int .u8 setBits', .int .i64 i'] st = strings_Fields_l5 cf lf s' n' wasSpace' setBits' i' st := by kernel_rfl
theorem strings_Fields_l5_eq [Sym] (s' : ByteArray) (n' : Int) (wasSpace' : Int) (setBits' : Int) (i' : Int) (st : SS) {r : Nat × List Value × SS} (h : strings_Fields_l5 cc strings_Fields_lf s' n' wasSpace' setBits' i' st = some r) : strings_Fields_lf 5 [.string s', .int .i64 n', .int .i64 wasSpace', .int .u8 setBits', .int .i64 i'] st = some r :=
  loop_sound Lk0_ok Lk0_S (key := 5) (I := I_strings_Fields_5) rfl (by kernel_rfl) (by kernel_rfl) rfl rfl ((strings_Fields_l5_sh _ _ s' n' wasSpace' setBits' i' st).trans h)
noncomputable def strings_Fields_l18 (cf : CallS) (lf : LoopS) (s' : ByteArray) (a' : Value) (na' : Int) (i' : Int) (st : SS) : Option (Nat × List Value × SS) :=
  cond (decide (i' < (s'.size : Int))) (
   ((idxS s' i').bind (asI .u8)).bind fun n1 =>
   (elemA (ptr 1 0) 256 n1 1).bind fun p2 =>
   ((st.ld p2.1 p2.2).bind (asI .u8)).bind fun n3 =>
   cond (!(decide (n3 = 0))) (
    let n4 : Int := IntKind.wrap .i64 (i' + 1)
    lf 18 [.string s', a', .int .i64 na', .int .i64 n4] st) (
    some (0, [.string s', a', .int .i64 na', .int .i64 i'], st))) (
   some (0, [.string s', a', .int .i64 na', .int .i64 i'], st))
theorem strings_Fields_l18_sh (cf : CallS) (lf : LoopS) (s' : ByteArray) (a' : Value) (na' : Int) (i' : Int) (st : SS) : loopS Tryz.prog Lk0 cf lf li_strings_Fields (loopC Tryz.f82 18) I_strings_Fields_18 Tryz.f82.ntmps [.string s', a', .int .i64 na', .int .i64 i'] st = strings_Fields_l18 cf lf s' a' na' i' st := by kernel_rfl
theorem strings_Fields_l18_eq [Sym] (s' : ByteArray) (a' : Value) (na' : Int) (i' : Int) (st : SS) {r : Nat × List Value × SS} (h : strings_Fields_l18 cc strings_Fields_lf s' a' na' i' st = some r) : strings_Fields_lf 18 [.string s', a', .int .i64 na', .int .i64 i'] st = some r :=
  loop_sound Lk0_ok Lk0_S (key := 18) (I := I_strings_Fields_18) rfl (by kernel_rfl) (by kernel_rfl) rfl rfl ((strings_Fields_l18_sh _ _ s' a' na' i' st).trans h)
noncomputable def strings_Fields_l21 (cf : CallS) (lf : LoopS) (s' : ByteArray) (a' : Value) (na' : Int) (fieldStart' : Int) (i' : Int) (st : SS) : Option (Nat × List Value × SS) :=
  cond (decide (i' < (s'.size : Int))) (
   ((idxS s' i').bind (asI .u8)).bind fun n1 =>
   (elemA (ptr 1 0) 256 n1 1).bind fun p2 =>
   ((st.ld p2.1 p2.2).bind (asI .u8)).bind fun n3 =>
   cond (decide (n3 = 0)) (
    let n4 : Int := IntKind.wrap .i64 (i' + 1)
    lf 21 [.string s', a', .int .i64 na', .int .i64 fieldStart', .int .i64 n4] st) (
    (subS s' fieldStart' i').bind fun s5 =>
    (elemS a' na' 1).bind fun p6 =>
    (st.st p6.1 p6.2 [.string s5]).bind fun st7 =>
    let n8 : Int := IntKind.wrap .i64 (na' + 1)
    let n9 : Int := IntKind.wrap .i64 (i' + 1)
    (lf 27 [.string s', a', .int .i64 n8, .int .i64 n9] st7).bind fun r10 =>
    ((r10.2.1[0]?).bind asS).bind fun s11 =>
    (r10.2.1[1]?).bind fun v12 =>
    ((r10.2.1[2]?).bind (asI .i64)).bind fun n13 =>
    ((r10.2.1[3]?).bind (asI .i64)).bind fun n14 =>
    lf 21 [.string s11, v12, .int .i64 n13, .int .i64 n14, .int .i64 n14] r10.2.2)) (
   some (0, [.string s', a', .int .i64 na', .int .i64 fieldStart'], st))
theorem strings_Fields_l21_sh (cf : CallS) (lf : LoopS) (s' : ByteArray) (a' : Value) (na' : Int) (fieldStart' : Int) (i' : Int) (st : SS) : loopS Tryz.prog Lk0 cf lf li_strings_Fields (loopC Tryz.f82 21) I_strings_Fields_21 Tryz.f82.ntmps [.string s', a', .int .i64 na', .int .i64 fieldStart', .int .i64 i'] st = strings_Fields_l21 cf lf s' a' na' fieldStart' i' st := by kernel_rfl
theorem strings_Fields_l21_eq [Sym] (s' : ByteArray) (a' : Value) (na' : Int) (fieldStart' : Int) (i' : Int) (st : SS) {r : Nat × List Value × SS} (h : strings_Fields_l21 cc strings_Fields_lf s' a' na' fieldStart' i' st = some r) : strings_Fields_lf 21 [.string s', a', .int .i64 na', .int .i64 fieldStart', .int .i64 i'] st = some r :=
  loop_sound Lk0_ok Lk0_S (key := 21) (I := I_strings_Fields_21) rfl (by kernel_rfl) (by kernel_rfl) rfl rfl ((strings_Fields_l21_sh _ _ s' a' na' fieldStart' i' st).trans h)
noncomputable def strings_Fields_l27 (cf : CallS) (lf : LoopS) (s' : ByteArray) (a' : Value) (na' : Int) (i' : Int) (st : SS) : Option (Nat × List Value × SS) :=
  cond (decide (i' < (s'.size : Int))) (
   ((idxS s' i').bind (asI .u8)).bind fun n1 =>
   (elemA (ptr 1 0) 256 n1 1).bind fun p2 =>
   ((st.ld p2.1 p2.2).bind (asI .u8)).bind fun n3 =>
   cond (!(decide (n3 = 0))) (
    let n4 : Int := IntKind.wrap .i64 (i' + 1)
    lf 27 [.string s', a', .int .i64 na', .int .i64 n4] st) (
    some (0, [.string s', a', .int .i64 na', .int .i64 i'], st))) (
   some (0, [.string s', a', .int .i64 na', .int .i64 i'], st))
theorem strings_Fields_l27_sh (cf : CallS) (lf : LoopS) (s' : ByteArray) (a' : Value) (na' : Int) (i' : Int) (st : SS) : loopS Tryz.prog Lk0 cf lf li_strings_Fields (loopC Tryz.f82 27) I_strings_Fields_27 Tryz.f82.ntmps [.string s', a', .int .i64 na', .int .i64 i'] st = strings_Fields_l27 cf lf s' a' na' i' st := by kernel_rfl
theorem strings_Fields_l27_eq [Sym] (s' : ByteArray) (a' : Value) (na' : Int) (i' : Int) (st : SS) {r : Nat × List Value × SS} (h : strings_Fields_l27 cc strings_Fields_lf s' a' na' i' st = some r) : strings_Fields_lf 27 [.string s', a', .int .i64 na', .int .i64 i'] st = some r :=
  loop_sound Lk0_ok Lk0_S (key := 27) (I := I_strings_Fields_27) rfl (by kernel_rfl) (by kernel_rfl) rfl rfl ((strings_Fields_l27_sh _ _ s' a' na' i' st).trans h)
noncomputable def uasm_row (cf : CallS) (lf : LoopS) (s' : ByteArray) (st : SS) : Option (Value × SS) :=
  (cf 82 [.string s'] st).bind fun r1 =>
  some (r1.1, r1.2)
theorem uasm_row_sh (cf : CallS) (lf : LoopS) (s' : ByteArray) (st : SS) : bodyS Tryz.prog Lk0 cf lf noLi Tryz.f53 false [.string s'] st = uasm_row cf lf s' st := by kernel_rfl
noncomputable abbrev uasm_row_lf : LoopS := lS Tryz.prog Lk0 Tryz.f53 noLi
theorem uasm_row_fn : Lk0.func 53 = some (53, Tryz.f53) := by kernel_rfl
theorem uasm_row_eq [Sym] (s' : ByteArray) (st : SS) {r : Value × SS} (h : uasm_row cc uasm_row_lf s' st = some r) : cc 53 [.string s'] st = some r :=
  body_sound Lk0_ok Lk0_S uasm_row_fn rfl (fun _ => rfl) ((uasm_row_sh _ _ s' st).trans h)
noncomputable def uasm_Names (cf : CallS) (lf : LoopS) (field' : ByteArray) (st : SS) : Option (Value × SS) :=
  cond (eqT field' ⟨#[97, 108, 117]⟩) (
   (cf 53 [.string ⟨#[110, 111, 110, 101, 32, 109, 111, 118, 32, 110, 111, 116, 32, 110, 101, 103, 32, 105, 110, 99, 32, 100, 101, 99, 32, 97, 100, 100, 32, 115, 117, 98, 32, 97, 100, 100, 99, 32, 115, 117, 98, 99, 32, 109, 117, 108, 32, 100, 105, 118, 32, 111, 114, 32, 98, 105, 99, 32, 120, 111, 114, 32, 97, 110, 100, 32, 99, 109, 112, 32, 116, 101, 115, 116, 32, 99, 108, 101, 97, 114, 32, 115, 120, 98, 32, 115, 120, 119, 32, 122, 120, 98, 32, 122, 120, 119, 32, 115, 104, 108, 32, 115, 104, 114, 32, 97, 115, 104, 32, 114, 111, 116, 32, 111, 112, 32, 115, 120, 111, 32, 101, 120, 116, 32, 105, 110, 115, 32, 99, 118, 116]⟩] st).bind fun r1 =>
   some (r1.1, r1.2)) (
   cond (eqT field' ⟨#[97]⟩) (
    cond (eqT field' ⟨#[97]⟩) (
     (cf 53 [.string ⟨#[114, 48, 32, 114, 49, 32, 114, 50, 32, 114, 51, 32, 114, 52, 32, 114, 53, 32, 114, 54, 32, 114, 55, 32, 114, 56, 32, 114, 57, 32, 114, 49, 48, 32, 114, 49, 49, 32, 114, 49, 50, 32, 114, 49, 51, 32, 114, 49, 52, 32, 114, 49, 53, 32, 116, 48, 32, 116, 49, 32, 116, 50, 32, 116, 51, 32, 116, 52, 32, 116, 53, 32, 116, 54, 32, 116, 55, 32, 118, 48, 32, 118, 49, 32, 118, 50, 32, 118, 51, 32, 118, 52, 32, 118, 53, 32, 97, 48, 32, 97, 49, 32, 97, 50, 32, 97, 51, 32, 97, 52, 32, 97, 53, 32, 109, 100, 32, 118, 97, 32, 112, 115, 108, 32, 114, 110, 32, 114, 120, 32, 108, 105, 116, 32, 122, 101, 114, 111, 32, 118, 101, 99, 32, 112, 48, 32, 112, 49, 32, 115, 116, 97, 114, 116, 32, 115, 99, 98, 98, 32, 107, 115, 112, 32, 117, 115, 112, 32, 100, 105, 115, 112, 32, 111, 115, 105, 122, 101, 32, 105, 108, 101, 110, 32, 108, 101, 118, 101, 108, 32, 118, 99, 32, 97, 99, 32, 97, 108, 32, 107, 108, 32, 99, 110, 116, 32, 110, 112]⟩] st).bind fun r2 =>
     some (r2.1, r2.2)) (
     cond (eqT field' ⟨#[115, 105, 122, 101]⟩) (
      (cf 53 [.string ⟨#[98, 121, 116, 101, 32, 119, 111, 114, 100, 32, 108, 111, 110, 103, 32, 111, 119, 110]⟩] st).bind fun r3 =>
      some (r3.1, r3.2)) (
      cond (eqT field' ⟨#[99, 99]⟩) (
       (cf 53 [.string ⟨#[107, 101, 101, 112, 32, 115, 101, 116, 32, 115, 101, 116, 107]⟩] st).bind fun r4 =>
       some (r4.1, r4.2)) (
       cond (eqT field' ⟨#[109, 101, 109]⟩) (
        (cf 53 [.string ⟨#[110, 111, 110, 101, 32, 114, 100, 32, 119, 114, 32, 112, 114, 111, 98, 101, 32, 98, 108, 100, 32, 98, 115, 116, 32, 98, 112, 117, 116, 32, 98, 103, 101, 116, 32, 98, 99, 108, 114, 32, 105, 102, 32, 114, 100, 112, 32, 107, 115, 116, 32, 114, 111, 119, 32, 117, 110, 114, 111, 119, 32, 114, 111, 119, 97, 32, 102, 108, 117, 115, 104]⟩] st).bind fun r5 =>
        some (r5.1, r5.2)) (
        cond (eqT field' ⟨#[115, 101, 113]⟩) (
         (cf 53 [.string ⟨#[110, 101, 120, 116, 32, 106, 109, 112, 32, 99, 106, 32, 99, 97, 108, 108, 32, 114, 101, 116, 32, 115, 112, 101, 99, 32, 109, 111, 100, 101, 32, 101, 110, 100]⟩] st).bind fun r6 =>
         some (r6.1, r6.2)) (
         cond (eqT field' ⟨#[99, 111, 110, 100]⟩) (
          (cf 53 [.string ⟨#[97, 108, 119, 97, 121, 115, 32, 122, 32, 110, 122, 32, 110, 101, 103, 32, 112, 111, 115, 32, 99, 32, 110, 99, 32, 117, 115, 101, 114, 32, 107, 101, 114, 110, 101, 108, 32, 102, 112, 100, 32, 110, 111, 102, 112, 100, 32, 116, 97, 107, 101, 110, 32, 109, 97, 116, 99, 104, 32, 107, 49, 32, 107, 50, 32, 107, 51, 32, 108, 97, 115, 116, 114, 101, 103, 32, 102, 32, 114, 101, 97, 100, 115, 32, 105, 110, 100, 101, 120, 32, 100, 105, 118, 32, 108, 101, 115, 115, 97, 108, 117, 32, 97, 108, 117, 49, 32, 115, 116, 114, 105, 110, 103, 32, 110, 111, 105, 110, 100, 101, 120, 32, 110, 111, 114, 101, 97, 100, 115, 32, 111, 118, 101, 114]⟩] st).bind fun r7 =>
          some (r7.1, r7.2)) (
          cond (eqT field' ⟨#[109, 105, 115, 99]⟩) (
           (cf 53 [.string ⟨#[110, 111, 110, 101, 32, 115, 116, 101, 112, 32, 117, 110, 100, 111, 32, 115, 101, 116, 102, 112, 100, 32, 99, 108, 114, 102, 112, 100, 32, 114, 97, 105, 115, 101, 32, 108, 97, 116, 99, 104, 107, 32, 108, 97, 116, 99, 104, 120, 32, 109, 116, 112, 114, 32, 109, 102, 112, 114, 32, 101, 110, 116, 101, 114, 32, 112, 117, 116, 112, 115, 108, 32, 104, 97, 108, 116, 32, 98, 97, 99, 107, 32, 100, 101, 99, 111, 100, 101, 32, 115, 101, 108, 32, 115, 101, 108, 107, 32, 111, 119, 110, 108, 97, 115, 116, 32, 112, 105, 99, 107, 32, 112, 105, 99, 107, 116, 111, 112, 32, 112, 97, 114, 97, 109, 115, 32, 99, 111, 117, 110, 116]⟩] st).bind fun r8 =>
           some (r8.1, r8.2)) (
           some (.slice none 0 0, st))))))))) (
    cond (eqT field' ⟨#[98]⟩) (
     cond (eqT field' ⟨#[98]⟩) (
      (cf 53 [.string ⟨#[114, 48, 32, 114, 49, 32, 114, 50, 32, 114, 51, 32, 114, 52, 32, 114, 53, 32, 114, 54, 32, 114, 55, 32, 114, 56, 32, 114, 57, 32, 114, 49, 48, 32, 114, 49, 49, 32, 114, 49, 50, 32, 114, 49, 51, 32, 114, 49, 52, 32, 114, 49, 53, 32, 116, 48, 32, 116, 49, 32, 116, 50, 32, 116, 51, 32, 116, 52, 32, 116, 53, 32, 116, 54, 32, 116, 55, 32, 118, 48, 32, 118, 49, 32, 118, 50, 32, 118, 51, 32, 118, 52, 32, 118, 53, 32, 97, 48, 32, 97, 49, 32, 97, 50, 32, 97, 51, 32, 97, 52, 32, 97, 53, 32, 109, 100, 32, 118, 97, 32, 112, 115, 108, 32, 114, 110, 32, 114, 120, 32, 108, 105, 116, 32, 122, 101, 114, 111, 32, 118, 101, 99, 32, 112, 48, 32, 112, 49, 32, 115, 116, 97, 114, 116, 32, 115, 99, 98, 98, 32, 107, 115, 112, 32, 117, 115, 112, 32, 100, 105, 115, 112, 32, 111, 115, 105, 122, 101, 32, 105, 108, 101, 110, 32, 108, 101, 118, 101, 108, 32, 118, 99, 32, 97, 99, 32, 97, 108, 32, 107, 108, 32, 99, 110, 116, 32, 110, 112]⟩] st).bind fun r9 =>
      some (r9.1, r9.2)) (
      cond (eqT field' ⟨#[115, 105, 122, 101]⟩) (
       (cf 53 [.string ⟨#[98, 121, 116, 101, 32, 119, 111, 114, 100, 32, 108, 111, 110, 103, 32, 111, 119, 110]⟩] st).bind fun r10 =>
       some (r10.1, r10.2)) (
       cond (eqT field' ⟨#[99, 99]⟩) (
        (cf 53 [.string ⟨#[107, 101, 101, 112, 32, 115, 101, 116, 32, 115, 101, 116, 107]⟩] st).bind fun r11 =>
        some (r11.1, r11.2)) (
        cond (eqT field' ⟨#[109, 101, 109]⟩) (
         (cf 53 [.string ⟨#[110, 111, 110, 101, 32, 114, 100, 32, 119, 114, 32, 112, 114, 111, 98, 101, 32, 98, 108, 100, 32, 98, 115, 116, 32, 98, 112, 117, 116, 32, 98, 103, 101, 116, 32, 98, 99, 108, 114, 32, 105, 102, 32, 114, 100, 112, 32, 107, 115, 116, 32, 114, 111, 119, 32, 117, 110, 114, 111, 119, 32, 114, 111, 119, 97, 32, 102, 108, 117, 115, 104]⟩] st).bind fun r12 =>
         some (r12.1, r12.2)) (
         cond (eqT field' ⟨#[115, 101, 113]⟩) (
          (cf 53 [.string ⟨#[110, 101, 120, 116, 32, 106, 109, 112, 32, 99, 106, 32, 99, 97, 108, 108, 32, 114, 101, 116, 32, 115, 112, 101, 99, 32, 109, 111, 100, 101, 32, 101, 110, 100]⟩] st).bind fun r13 =>
          some (r13.1, r13.2)) (
          cond (eqT field' ⟨#[99, 111, 110, 100]⟩) (
           (cf 53 [.string ⟨#[97, 108, 119, 97, 121, 115, 32, 122, 32, 110, 122, 32, 110, 101, 103, 32, 112, 111, 115, 32, 99, 32, 110, 99, 32, 117, 115, 101, 114, 32, 107, 101, 114, 110, 101, 108, 32, 102, 112, 100, 32, 110, 111, 102, 112, 100, 32, 116, 97, 107, 101, 110, 32, 109, 97, 116, 99, 104, 32, 107, 49, 32, 107, 50, 32, 107, 51, 32, 108, 97, 115, 116, 114, 101, 103, 32, 102, 32, 114, 101, 97, 100, 115, 32, 105, 110, 100, 101, 120, 32, 100, 105, 118, 32, 108, 101, 115, 115, 97, 108, 117, 32, 97, 108, 117, 49, 32, 115, 116, 114, 105, 110, 103, 32, 110, 111, 105, 110, 100, 101, 120, 32, 110, 111, 114, 101, 97, 100, 115, 32, 111, 118, 101, 114]⟩] st).bind fun r14 =>
           some (r14.1, r14.2)) (
           cond (eqT field' ⟨#[109, 105, 115, 99]⟩) (
            (cf 53 [.string ⟨#[110, 111, 110, 101, 32, 115, 116, 101, 112, 32, 117, 110, 100, 111, 32, 115, 101, 116, 102, 112, 100, 32, 99, 108, 114, 102, 112, 100, 32, 114, 97, 105, 115, 101, 32, 108, 97, 116, 99, 104, 107, 32, 108, 97, 116, 99, 104, 120, 32, 109, 116, 112, 114, 32, 109, 102, 112, 114, 32, 101, 110, 116, 101, 114, 32, 112, 117, 116, 112, 115, 108, 32, 104, 97, 108, 116, 32, 98, 97, 99, 107, 32, 100, 101, 99, 111, 100, 101, 32, 115, 101, 108, 32, 115, 101, 108, 107, 32, 111, 119, 110, 108, 97, 115, 116, 32, 112, 105, 99, 107, 32, 112, 105, 99, 107, 116, 111, 112, 32, 112, 97, 114, 97, 109, 115, 32, 99, 111, 117, 110, 116]⟩] st).bind fun r15 =>
            some (r15.1, r15.2)) (
            some (.slice none 0 0, st))))))))) (
     cond (eqT field' ⟨#[100]⟩) (
      (cf 53 [.string ⟨#[114, 48, 32, 114, 49, 32, 114, 50, 32, 114, 51, 32, 114, 52, 32, 114, 53, 32, 114, 54, 32, 114, 55, 32, 114, 56, 32, 114, 57, 32, 114, 49, 48, 32, 114, 49, 49, 32, 114, 49, 50, 32, 114, 49, 51, 32, 114, 49, 52, 32, 114, 49, 53, 32, 116, 48, 32, 116, 49, 32, 116, 50, 32, 116, 51, 32, 116, 52, 32, 116, 53, 32, 116, 54, 32, 116, 55, 32, 118, 48, 32, 118, 49, 32, 118, 50, 32, 118, 51, 32, 118, 52, 32, 118, 53, 32, 97, 48, 32, 97, 49, 32, 97, 50, 32, 97, 51, 32, 97, 52, 32, 97, 53, 32, 109, 100, 32, 118, 97, 32, 112, 115, 108, 32, 114, 110, 32, 114, 120, 32, 108, 105, 116, 32, 122, 101, 114, 111, 32, 118, 101, 99, 32, 112, 48, 32, 112, 49, 32, 115, 116, 97, 114, 116, 32, 115, 99, 98, 98, 32, 107, 115, 112, 32, 117, 115, 112, 32, 100, 105, 115, 112, 32, 111, 115, 105, 122, 101, 32, 105, 108, 101, 110, 32, 108, 101, 118, 101, 108, 32, 118, 99, 32, 97, 99, 32, 97, 108, 32, 107, 108, 32, 99, 110, 116, 32, 110, 112]⟩] st).bind fun r16 =>
      some (r16.1, r16.2)) (
      cond (eqT field' ⟨#[115, 105, 122, 101]⟩) (
       (cf 53 [.string ⟨#[98, 121, 116, 101, 32, 119, 111, 114, 100, 32, 108, 111, 110, 103, 32, 111, 119, 110]⟩] st).bind fun r17 =>
       some (r17.1, r17.2)) (
       cond (eqT field' ⟨#[99, 99]⟩) (
        (cf 53 [.string ⟨#[107, 101, 101, 112, 32, 115, 101, 116, 32, 115, 101, 116, 107]⟩] st).bind fun r18 =>
        some (r18.1, r18.2)) (
        cond (eqT field' ⟨#[109, 101, 109]⟩) (
         (cf 53 [.string ⟨#[110, 111, 110, 101, 32, 114, 100, 32, 119, 114, 32, 112, 114, 111, 98, 101, 32, 98, 108, 100, 32, 98, 115, 116, 32, 98, 112, 117, 116, 32, 98, 103, 101, 116, 32, 98, 99, 108, 114, 32, 105, 102, 32, 114, 100, 112, 32, 107, 115, 116, 32, 114, 111, 119, 32, 117, 110, 114, 111, 119, 32, 114, 111, 119, 97, 32, 102, 108, 117, 115, 104]⟩] st).bind fun r19 =>
         some (r19.1, r19.2)) (
         cond (eqT field' ⟨#[115, 101, 113]⟩) (
          (cf 53 [.string ⟨#[110, 101, 120, 116, 32, 106, 109, 112, 32, 99, 106, 32, 99, 97, 108, 108, 32, 114, 101, 116, 32, 115, 112, 101, 99, 32, 109, 111, 100, 101, 32, 101, 110, 100]⟩] st).bind fun r20 =>
          some (r20.1, r20.2)) (
          cond (eqT field' ⟨#[99, 111, 110, 100]⟩) (
           (cf 53 [.string ⟨#[97, 108, 119, 97, 121, 115, 32, 122, 32, 110, 122, 32, 110, 101, 103, 32, 112, 111, 115, 32, 99, 32, 110, 99, 32, 117, 115, 101, 114, 32, 107, 101, 114, 110, 101, 108, 32, 102, 112, 100, 32, 110, 111, 102, 112, 100, 32, 116, 97, 107, 101, 110, 32, 109, 97, 116, 99, 104, 32, 107, 49, 32, 107, 50, 32, 107, 51, 32, 108, 97, 115, 116, 114, 101, 103, 32, 102, 32, 114, 101, 97, 100, 115, 32, 105, 110, 100, 101, 120, 32, 100, 105, 118, 32, 108, 101, 115, 115, 97, 108, 117, 32, 97, 108, 117, 49, 32, 115, 116, 114, 105, 110, 103, 32, 110, 111, 105, 110, 100, 101, 120, 32, 110, 111, 114, 101, 97, 100, 115, 32, 111, 118, 101, 114]⟩] st).bind fun r21 =>
           some (r21.1, r21.2)) (
           cond (eqT field' ⟨#[109, 105, 115, 99]⟩) (
            (cf 53 [.string ⟨#[110, 111, 110, 101, 32, 115, 116, 101, 112, 32, 117, 110, 100, 111, 32, 115, 101, 116, 102, 112, 100, 32, 99, 108, 114, 102, 112, 100, 32, 114, 97, 105, 115, 101, 32, 108, 97, 116, 99, 104, 107, 32, 108, 97, 116, 99, 104, 120, 32, 109, 116, 112, 114, 32, 109, 102, 112, 114, 32, 101, 110, 116, 101, 114, 32, 112, 117, 116, 112, 115, 108, 32, 104, 97, 108, 116, 32, 98, 97, 99, 107, 32, 100, 101, 99, 111, 100, 101, 32, 115, 101, 108, 32, 115, 101, 108, 107, 32, 111, 119, 110, 108, 97, 115, 116, 32, 112, 105, 99, 107, 32, 112, 105, 99, 107, 116, 111, 112, 32, 112, 97, 114, 97, 109, 115, 32, 99, 111, 117, 110, 116]⟩] st).bind fun r22 =>
            some (r22.1, r22.2)) (
            some (.slice none 0 0, st)))))))))))
theorem uasm_Names_sh (cf : CallS) (lf : LoopS) (field' : ByteArray) (st : SS) : bodyS Tryz.prog Lk0 cf lf noLi Tryz.f20 false [.string field'] st = uasm_Names cf lf field' st := by kernel_rfl
noncomputable abbrev uasm_Names_lf : LoopS := lS Tryz.prog Lk0 Tryz.f20 noLi
theorem uasm_Names_fn : Lk0.func 20 = some (20, Tryz.f20) := by kernel_rfl
theorem uasm_Names_eq [Sym] (field' : ByteArray) (st : SS) {r : Value × SS} (h : uasm_Names cc uasm_Names_lf field' st = some r) : cc 20 [.string field'] st = some r :=
  body_sound Lk0_ok Lk0_S uasm_Names_fn rfl (fun _ => rfl) ((uasm_Names_sh _ _ field' st).trans h)
noncomputable def uasm_Reach (cf : CallS) (lf : LoopS) (w' : Value) (at0' : Int) (st : SS) : Option (Value × SS) :=
  let st1 : SS := st.new (.cells (w' : Value).cells.toList 0)
  ((st1.ld st.next 8).bind (asI .i64)).bind fun n2 =>
  cond (decide (n2 = 0)) (
   let n3 : Int := IntKind.wrap .i64 (at0' + 1)
   let st4 : SS := st1.new (.cells ([.int .i64 n3, .int .i64 1]) 2)
   some (.slice (some ⟨st1.next, 0, none⟩) 1 1, st4)) (
   cond (decide (n2 = 1)) (
    ((st1.ld st.next 10).bind (asI .i64)).bind fun n5 =>
    let st6 : SS := st1.new (.cells ([.int .i64 n5, .int .i64 1]) 2)
    some (.slice (some ⟨st1.next, 0, none⟩) 1 1, st6)) (
    cond (decide (n2 = 2)) (
     cond (decide (n2 = 2)) (
      let n7 : Int := IntKind.wrap .i64 (at0' + 1)
      ((st1.ld st.next 10).bind (asI .i64)).bind fun n8 =>
      let st9 : SS := st1.new (.cells ([.int .i64 n7, .int .i64 1, .int .i64 n8, .int .i64 1]) 2)
      some (.slice (some ⟨st1.next, 0, none⟩) 2 2, st9)) (
      cond (decide (n2 = 5)) (
       ((st1.ld st.next 10).bind (asI .i64)).bind fun n10 =>
       let st11 : SS := st1.new (.cells ([.int .i64 n10, .int .i64 64]) 2)
       some (.slice (some ⟨st1.next, 0, none⟩) 1 1, st11)) (
       cond (decide (n2 = 6)) (
        ((st1.ld st.next 10).bind (asI .i64)).bind fun n12 =>
        let st13 : SS := st1.new (.cells ([.int .i64 n12, .int .i64 16]) 2)
        some (.slice (some ⟨st1.next, 0, none⟩) 1 1, st13)) (
        some (.slice none 0 0, st1))))) (
     cond (decide (n2 = 3)) (
      let n14 : Int := IntKind.wrap .i64 (at0' + 1)
      ((st1.ld st.next 10).bind (asI .i64)).bind fun n15 =>
      let st16 : SS := st1.new (.cells ([.int .i64 n14, .int .i64 1, .int .i64 n15, .int .i64 1]) 2)
      some (.slice (some ⟨st1.next, 0, none⟩) 2 2, st16)) (
      cond (decide (n2 = 5)) (
       ((st1.ld st.next 10).bind (asI .i64)).bind fun n17 =>
       let st18 : SS := st1.new (.cells ([.int .i64 n17, .int .i64 64]) 2)
       some (.slice (some ⟨st1.next, 0, none⟩) 1 1, st18)) (
       cond (decide (n2 = 6)) (
        ((st1.ld st.next 10).bind (asI .i64)).bind fun n19 =>
        let st20 : SS := st1.new (.cells ([.int .i64 n19, .int .i64 16]) 2)
        some (.slice (some ⟨st1.next, 0, none⟩) 1 1, st20)) (
        some (.slice none 0 0, st1)))))))
theorem uasm_Reach_sh (cf : CallS) (lf : LoopS) (w' : Value) (at0' : Int) (st : SS) : bodyS Tryz.prog Lk0 cf lf noLi Tryz.f22 false [w', .int .i64 at0'] st = uasm_Reach cf lf w' at0' st := by kernel_rfl
noncomputable abbrev uasm_Reach_lf : LoopS := lS Tryz.prog Lk0 Tryz.f22 noLi
theorem uasm_Reach_fn : Lk0.func 22 = some (22, Tryz.f22) := by kernel_rfl
theorem uasm_Reach_eq [Sym] (w' : Value) (at0' : Int) (st : SS) {r : Value × SS} (h : uasm_Reach cc uasm_Reach_lf w' at0' st = some r) : cc 22 [w', .int .i64 at0'] st = some r :=
  body_sound Lk0_ok Lk0_S uasm_Reach_fn rfl (fun _ => rfl) ((uasm_Reach_sh _ _ w' at0' st).trans h)
end Go.Proofs.YthngaoncjpgeiaaGreatDoorE
