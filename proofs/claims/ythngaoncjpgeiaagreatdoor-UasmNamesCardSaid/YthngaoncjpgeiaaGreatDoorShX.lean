/- Shallow texts of functions, printed by a program and compared by the kernel. -/
import Derived.Test.YthngaoncjpgeiaaGreatDoorTab
set_option linter.unusedVariables false
set_option linter.unusedSimpArgs false
set_option maxRecDepth 20000
namespace Go.Proofs.YthngaoncjpgeiaaGreatDoorE
open Go Go.E Go.Proofs
def I_camshaftref17_Names_24 : LoopI := ⟨[(3, .any), (4, .int .i64), (5, .int .i64), (6, .int .i64), (33, .any), (34, .int .i64)], [(.exit 3, [(3, .any), (33, .any), (34, .int .i64)])]⟩
def I_camshaftref17_Names_21 : LoopI := ⟨[(3, .any), (33, .any), (34, .int .i64)], [(.exit 1, [(3, .any)])]⟩
def li_camshaftref17_Names (n : Nat) : Option LoopI := cond (Nat.beq n 21) (some I_camshaftref17_Names_21) (cond (Nat.beq n 24) (some I_camshaftref17_Names_24) (none))
noncomputable def camshaftref17_Names (cf : CallS) (lf : LoopS) (field' : ByteArray) (st : SS) : Option (Value × SS) :=
  cond (eqT field' ⟨#[97, 108, 117]⟩) (
   (cf 54 [.string ⟨#[110, 111, 110, 101, 32, 109, 111, 118, 32, 110, 111, 116, 32, 110, 101, 103, 32, 105, 110, 99, 32, 100, 101, 99, 32, 97, 100, 100, 32, 115, 117, 98, 32, 97, 100, 100, 99, 32, 115, 117, 98, 99, 32, 109, 117, 108, 32, 100, 105, 118, 32, 111, 114, 32, 98, 105, 99, 32, 120, 111, 114, 32, 97, 110, 100, 32, 99, 109, 112, 32, 116, 101, 115, 116, 32, 99, 108, 101, 97, 114, 32, 115, 120, 98, 32, 115, 120, 119, 32, 122, 120, 98, 32, 122, 120, 119, 32, 115, 104, 108, 32, 115, 104, 114, 32, 97, 115, 104, 32, 114, 111, 116, 32, 111, 112, 32, 115, 120, 111, 32, 101, 120, 116, 32, 105, 110, 115, 32, 99, 118, 116]⟩, .int .u8 32] st).bind fun r1 =>
   some (r1.1, r1.2)) (
   cond (eqT field' ⟨#[115, 105, 122, 101]⟩) (
    (cf 54 [.string ⟨#[98, 121, 116, 101, 32, 119, 111, 114, 100, 32, 108, 111, 110, 103, 32, 111, 119, 110]⟩, .int .u8 32] st).bind fun r2 =>
    some (r2.1, r2.2)) (
    cond (eqT field' ⟨#[99, 99]⟩) (
     (cf 54 [.string ⟨#[107, 101, 101, 112, 32, 115, 101, 116, 32, 115, 101, 116, 107]⟩, .int .u8 32] st).bind fun r3 =>
     some (r3.1, r3.2)) (
     cond (eqT field' ⟨#[109, 101, 109]⟩) (
      (cf 54 [.string ⟨#[110, 111, 110, 101, 32, 114, 100, 32, 119, 114, 32, 112, 114, 111, 98, 101, 32, 98, 108, 100, 32, 98, 115, 116, 32, 98, 112, 117, 116, 32, 98, 103, 101, 116, 32, 98, 99, 108, 114, 32, 105, 102, 32, 114, 100, 112, 32, 107, 115, 116, 32, 114, 111, 119, 32, 117, 110, 114, 111, 119, 32, 114, 111, 119, 97, 32, 102, 108, 117, 115, 104]⟩, .int .u8 32] st).bind fun r4 =>
      some (r4.1, r4.2)) (
      cond (eqT field' ⟨#[115, 101, 113]⟩) (
       (cf 54 [.string ⟨#[110, 101, 120, 116, 32, 106, 109, 112, 32, 99, 106, 32, 99, 97, 108, 108, 32, 114, 101, 116, 32, 115, 112, 101, 99, 32, 109, 111, 100, 101, 32, 101, 110, 100]⟩, .int .u8 32] st).bind fun r5 =>
       some (r5.1, r5.2)) (
       cond (eqT field' ⟨#[99, 111, 110, 100]⟩) (
        (cf 54 [.string ⟨#[97, 108, 119, 97, 121, 115, 32, 122, 32, 110, 122, 32, 110, 101, 103, 32, 112, 111, 115, 32, 99, 32, 110, 99, 32, 117, 115, 101, 114, 32, 107, 101, 114, 110, 101, 108, 32, 102, 112, 100, 32, 110, 111, 102, 112, 100, 32, 116, 97, 107, 101, 110, 32, 109, 97, 116, 99, 104, 32, 107, 49, 32, 107, 50, 32, 107, 51, 32, 108, 97, 115, 116, 114, 101, 103, 32, 102, 32, 114, 101, 97, 100, 115, 32, 105, 110, 100, 101, 120, 32, 100, 105, 118, 32, 108, 101, 115, 115, 97, 108, 117, 32, 97, 108, 117, 49, 32, 115, 116, 114, 105, 110, 103, 32, 110, 111, 105, 110, 100, 101, 120, 32, 110, 111, 114, 101, 97, 100, 115, 32, 111, 118, 101, 114]⟩, .int .u8 32] st).bind fun r6 =>
        some (r6.1, r6.2)) (
        cond (eqT field' ⟨#[109, 105, 115, 99]⟩) (
         (cf 54 [.string ⟨#[110, 111, 110, 101, 32, 115, 116, 101, 112, 32, 117, 110, 100, 111, 32, 115, 101, 116, 102, 112, 100, 32, 99, 108, 114, 102, 112, 100, 32, 114, 97, 105, 115, 101, 32, 108, 97, 116, 99, 104, 107, 32, 108, 97, 116, 99, 104, 120, 32, 109, 116, 112, 114, 32, 109, 102, 112, 114, 32, 101, 110, 116, 101, 114, 32, 112, 117, 116, 112, 115, 108, 32, 104, 97, 108, 116, 32, 98, 97, 99, 107, 32, 100, 101, 99, 111, 100, 101, 32, 115, 101, 108, 32, 115, 101, 108, 107, 32, 111, 119, 110, 108, 97, 115, 116, 32, 112, 105, 99, 107, 32, 112, 105, 99, 107, 116, 111, 112, 32, 112, 97, 114, 97, 109, 115, 32, 99, 111, 117, 110, 116]⟩, .int .u8 32] st).bind fun r7 =>
         some (r7.1, r7.2)) (
         cond (eqT field' ⟨#[97]⟩) (
          cond (eqT field' ⟨#[97]⟩) (
           (lf 21 [.slice none 0 0, .agg #[.int .i64 16, .int .i64 8, .int .i64 6, .int .i64 6], .int .i64 0] st).bind fun r8 =>
           (r8.2.1[0]?).bind fun v9 =>
           (cf 54 [.string ⟨#[109, 100, 32, 118, 97, 32, 112, 115, 108, 32, 114, 110, 32, 114, 120, 32, 108, 105, 116, 32, 122, 101, 114, 111, 32, 118, 101, 99, 32, 112, 48, 32, 112, 49, 32, 115, 116, 97, 114, 116, 32, 115, 99, 98, 98, 32, 107, 115, 112, 32, 117, 115, 112, 32, 100, 105, 115, 112, 32, 111, 115, 105, 122, 101, 32, 105, 108, 101, 110, 32, 108, 101, 118, 101, 108, 32, 118, 99, 32, 97, 99, 32, 97, 108, 32, 107, 108, 32, 99, 110, 116, 32, 110, 112]⟩, .int .u8 32] r8.2.2).bind fun r10 =>
           (r10.2.app 1 16 v9 r10.1).bind fun r11 =>
           some (r11.1, r11.2)) (
           some (.slice none 0 0, st))) (
          cond (eqT field' ⟨#[98]⟩) (
           cond (eqT field' ⟨#[98]⟩) (
            (lf 21 [.slice none 0 0, .agg #[.int .i64 16, .int .i64 8, .int .i64 6, .int .i64 6], .int .i64 0] st).bind fun r12 =>
            (r12.2.1[0]?).bind fun v13 =>
            (cf 54 [.string ⟨#[109, 100, 32, 118, 97, 32, 112, 115, 108, 32, 114, 110, 32, 114, 120, 32, 108, 105, 116, 32, 122, 101, 114, 111, 32, 118, 101, 99, 32, 112, 48, 32, 112, 49, 32, 115, 116, 97, 114, 116, 32, 115, 99, 98, 98, 32, 107, 115, 112, 32, 117, 115, 112, 32, 100, 105, 115, 112, 32, 111, 115, 105, 122, 101, 32, 105, 108, 101, 110, 32, 108, 101, 118, 101, 108, 32, 118, 99, 32, 97, 99, 32, 97, 108, 32, 107, 108, 32, 99, 110, 116, 32, 110, 112]⟩, .int .u8 32] r12.2.2).bind fun r14 =>
            (r14.2.app 1 16 v13 r14.1).bind fun r15 =>
            some (r15.1, r15.2)) (
            some (.slice none 0 0, st))) (
           cond (eqT field' ⟨#[100]⟩) (
            (lf 21 [.slice none 0 0, .agg #[.int .i64 16, .int .i64 8, .int .i64 6, .int .i64 6], .int .i64 0] st).bind fun r16 =>
            (r16.2.1[0]?).bind fun v17 =>
            (cf 54 [.string ⟨#[109, 100, 32, 118, 97, 32, 112, 115, 108, 32, 114, 110, 32, 114, 120, 32, 108, 105, 116, 32, 122, 101, 114, 111, 32, 118, 101, 99, 32, 112, 48, 32, 112, 49, 32, 115, 116, 97, 114, 116, 32, 115, 99, 98, 98, 32, 107, 115, 112, 32, 117, 115, 112, 32, 100, 105, 115, 112, 32, 111, 115, 105, 122, 101, 32, 105, 108, 101, 110, 32, 108, 101, 118, 101, 108, 32, 118, 99, 32, 97, 99, 32, 97, 108, 32, 107, 108, 32, 99, 110, 116, 32, 110, 112]⟩, .int .u8 32] r16.2.2).bind fun r18 =>
            (r18.2.app 1 16 v17 r18.1).bind fun r19 =>
            some (r19.1, r19.2)) (
            some (.slice none 0 0, st)))))))))))
theorem camshaftref17_Names_sh (cf : CallS) (lf : LoopS) (field' : ByteArray) (st : SS) : bodyS Tryz.prog Lk0 cf lf li_camshaftref17_Names Tryz.f21 false [.string field'] st = camshaftref17_Names cf lf field' st := by kernel_rfl
noncomputable abbrev camshaftref17_Names_lf : LoopS := lS Tryz.prog Lk0 Tryz.f21 li_camshaftref17_Names
theorem camshaftref17_Names_fn : Lk0.func 21 = some (21, Tryz.f21) := by kernel_rfl
theorem camshaftref17_Names_eq [Sym] (field' : ByteArray) (st : SS) {r : Value × SS} (h : camshaftref17_Names cc camshaftref17_Names_lf field' st = some r) : cc 21 [.string field'] st = some r :=
  body_sound Lk0_ok Lk0_S camshaftref17_Names_fn rfl (fun _ => rfl) ((camshaftref17_Names_sh _ _ field' st).trans h)
noncomputable def camshaftref17_Names_l21 (cf : CallS) (lf : LoopS) (out' : Value) (t33' : Value) (t34' : Int) (st : SS) : Option (Nat × List Value × SS) :=
  cond (decide (t34' < 4)) (
   ((aggI Lk0 4 3 t33' t34').bind (asI .i64)).bind fun n1 =>
   (lf 24 [out', .int .i64 t34', .int .i64 n1, .int .i64 0, t33', .int .i64 t34'] st).bind fun r2 =>
   (r2.2.1[0]?).bind fun v3 =>
   (r2.2.1[1]?).bind fun v4 =>
   ((r2.2.1[2]?).bind (asI .i64)).bind fun n5 =>
   let n6 : Int := IntKind.wrap .i64 (n5 + 1)
   lf 21 [v3, v4, .int .i64 n6] r2.2.2) (
   some (0, [out'], st))
theorem camshaftref17_Names_l21_sh (cf : CallS) (lf : LoopS) (out' : Value) (t33' : Value) (t34' : Int) (st : SS) : loopS Tryz.prog Lk0 cf lf li_camshaftref17_Names (loopC Tryz.f21 21) I_camshaftref17_Names_21 Tryz.f21.ntmps [out', t33', .int .i64 t34'] st = camshaftref17_Names_l21 cf lf out' t33' t34' st := by kernel_rfl
theorem camshaftref17_Names_l21_eq [Sym] (out' : Value) (t33' : Value) (t34' : Int) (st : SS) {r : Nat × List Value × SS} (h : camshaftref17_Names_l21 cc camshaftref17_Names_lf out' t33' t34' st = some r) : camshaftref17_Names_lf 21 [out', t33', .int .i64 t34'] st = some r :=
  loop_sound Lk0_ok Lk0_S (key := 21) (I := I_camshaftref17_Names_21) rfl (by kernel_rfl) (by kernel_rfl) rfl rfl ((camshaftref17_Names_l21_sh _ _ out' t33' t34' st).trans h)
noncomputable def camshaftref17_Names_l24 (cf : CallS) (lf : LoopS) (out' : Value) (i' : Int) (n' : Int) (k' : Int) (t33' : Value) (t34' : Int) (st : SS) : Option (Nat × List Value × SS) :=
  cond (decide (k' < n')) (
   ((aggI Lk0 4 9 (.agg #[.string ⟨#[114]⟩, .string ⟨#[116]⟩, .string ⟨#[118]⟩, .string ⟨#[97]⟩]) i').bind asS).bind fun s1 =>
   (cf 55 [.int .i64 k'] st).bind fun r2 =>
   ((some r2.1).bind asS).bind fun s3 =>
   (((catS s1 s3).bind fun s => some (.string s)).bind asS).bind fun s4 =>
   let st5 : SS := r2.2.new (.cells ([.string s4]) 1)
   (st5.app 1 16 out' (.slice (some ⟨r2.2.next, 0, none⟩) 1 1)).bind fun r6 =>
   let n7 : Int := IntKind.wrap .i64 (k' + 1)
   lf 24 [r6.1, .int .i64 i', .int .i64 n', .int .i64 n7, t33', .int .i64 t34'] r6.2) (
   some (0, [out', t33', .int .i64 t34'], st))
theorem camshaftref17_Names_l24_sh (cf : CallS) (lf : LoopS) (out' : Value) (i' : Int) (n' : Int) (k' : Int) (t33' : Value) (t34' : Int) (st : SS) : loopS Tryz.prog Lk0 cf lf li_camshaftref17_Names (loopC Tryz.f21 24) I_camshaftref17_Names_24 Tryz.f21.ntmps [out', .int .i64 i', .int .i64 n', .int .i64 k', t33', .int .i64 t34'] st = camshaftref17_Names_l24 cf lf out' i' n' k' t33' t34' st := by kernel_rfl
theorem camshaftref17_Names_l24_eq [Sym] (out' : Value) (i' : Int) (n' : Int) (k' : Int) (t33' : Value) (t34' : Int) (st : SS) {r : Nat × List Value × SS} (h : camshaftref17_Names_l24 cc camshaftref17_Names_lf out' i' n' k' t33' t34' st = some r) : camshaftref17_Names_lf 24 [out', .int .i64 i', .int .i64 n', .int .i64 k', t33', .int .i64 t34'] st = some r :=
  loop_sound Lk0_ok Lk0_S (key := 24) (I := I_camshaftref17_Names_24) rfl (by kernel_rfl) (by kernel_rfl) rfl rfl ((camshaftref17_Names_l24_sh _ _ out' i' n' k' t33' t34' st).trans h)
def I_camshaftref17_In_2 : LoopI := ⟨[(1, .str), (7, .any), (8, .int .i64), (9, .int .i64)], [(.exit 0, []), (.ret, [(4, .int .i64)])]⟩
def li_camshaftref17_In (n : Nat) : Option LoopI := cond (Nat.beq n 2) (some I_camshaftref17_In_2) (none)
noncomputable def camshaftref17_In (cf : CallS) (lf : LoopS) (l' : Value) (s' : ByteArray) (st : SS) : Option (Value × SS) :=
  ((lenV l').bind (asI .i64)).bind fun n1 =>
  (lf 2 [.string s', l', .int .i64 n1, .int .i64 0] (st.ro st.next)).bind fun r2 =>
  cond (Nat.beq r2.1 0) (
   some (.int .i64 (-1), st.adv r2.2.2.next)) (
   ((r2.2.1[0]?).bind (asI .i64)).bind fun n3 =>
   some (.int .i64 n3, st.adv r2.2.2.next))
theorem camshaftref17_In_sh (cf : CallS) (lf : LoopS) (l' : Value) (s' : ByteArray) (st : SS) : bodyS Tryz.prog Lk0 cf lf li_camshaftref17_In Tryz.f51 true [l', .string s'] st = camshaftref17_In cf lf l' s' st := by kernel_rfl
noncomputable abbrev camshaftref17_In_lf : LoopS := lS Tryz.prog Lk0 Tryz.f51 li_camshaftref17_In
theorem camshaftref17_In_fn : Lk0.func 51 = some (51, Tryz.f51) := by kernel_rfl
theorem camshaftref17_In_eq [Sym] (l' : Value) (s' : ByteArray) (st : SS) {r : Value × SS} (h : camshaftref17_In cc camshaftref17_In_lf l' s' st = some r) : cc 51 [l', .string s'] st = some r :=
  body_sound Lk0_ok Lk0_S camshaftref17_In_fn rfl (fun _ => rfl) ((camshaftref17_In_sh _ _ l' s' st).trans h)
noncomputable def camshaftref17_In_l2 (cf : CallS) (lf : LoopS) (s' : ByteArray) (t7' : Value) (t8' : Int) (t9' : Int) (st : SS) : Option (Nat × List Value × SS) :=
  cond (decide (t9' < t8')) (
   (elemS t7' t9' 1).bind fun p1 =>
   ((st.ld p1.1 p1.2).bind asS).bind fun s2 =>
   cond (eqT s2 s') (
    some (1, [.int .i64 t9'], st)) (
    let n3 : Int := IntKind.wrap .i64 (t9' + 1)
    lf 2 [.string s', t7', .int .i64 t8', .int .i64 n3] st)) (
   some (0, [], st))
theorem camshaftref17_In_l2_sh (cf : CallS) (lf : LoopS) (s' : ByteArray) (t7' : Value) (t8' : Int) (t9' : Int) (st : SS) : loopS Tryz.prog Lk0 cf lf li_camshaftref17_In (loopC Tryz.f51 2) I_camshaftref17_In_2 Tryz.f51.ntmps [.string s', t7', .int .i64 t8', .int .i64 t9'] st = camshaftref17_In_l2 cf lf s' t7' t8' t9' st := by kernel_rfl
theorem camshaftref17_In_l2_eq [Sym] (s' : ByteArray) (t7' : Value) (t8' : Int) (t9' : Int) (st : SS) {r : Nat × List Value × SS} (h : camshaftref17_In_l2 cc camshaftref17_In_lf s' t7' t8' t9' st = some r) : camshaftref17_In_lf 2 [.string s', t7', .int .i64 t8', .int .i64 t9'] st = some r :=
  loop_sound Lk0_ok Lk0_S (key := 2) (I := I_camshaftref17_In_2) rfl (by kernel_rfl) (by kernel_rfl) rfl rfl ((camshaftref17_In_l2_sh _ _ s' t7' t8' t9' st).trans h)
noncomputable def camshaftref17_Reach (cf : CallS) (lf : LoopS) (w' : Value) (at0' : Int) (st : SS) : Option (Value × SS) :=
  let st1 : SS := st.new (.cells (w' : Value).cells.toList 0)
  ((st1.ld st.next 8).bind (asI .i64)).bind fun n2 =>
  cond (decide (n2 = 0)) (
   let n3 : Int := IntKind.wrap .i64 (at0' + 1)
   let st4 : SS := st1.new (.cells ([.int .i64 n3, .int .i64 1]) 2)
   some (.slice (some ⟨st1.next, 0, none⟩) 1 1, st4)) (
   ((st1.ld st.next 8).bind (asI .i64)).bind fun n5 =>
   cond (decide (n5 = 1)) (
    ((st1.ld st.next 10).bind (asI .i64)).bind fun n6 =>
    let st7 : SS := st1.new (.cells ([.int .i64 n6, .int .i64 1]) 2)
    some (.slice (some ⟨st1.next, 0, none⟩) 1 1, st7)) (
    ((st1.ld st.next 8).bind (asI .i64)).bind fun n8 =>
    cond (decide (n8 = 2)) (
     let n9 : Int := IntKind.wrap .i64 (at0' + 1)
     ((st1.ld st.next 10).bind (asI .i64)).bind fun n10 =>
     let st11 : SS := st1.new (.cells ([.int .i64 n9, .int .i64 1, .int .i64 n10, .int .i64 1]) 2)
     some (.slice (some ⟨st1.next, 0, none⟩) 2 2, st11)) (
     ((st1.ld st.next 8).bind (asI .i64)).bind fun n12 =>
     cond (decide (n12 = 3)) (
      let n13 : Int := IntKind.wrap .i64 (at0' + 1)
      ((st1.ld st.next 10).bind (asI .i64)).bind fun n14 =>
      let st15 : SS := st1.new (.cells ([.int .i64 n13, .int .i64 1, .int .i64 n14, .int .i64 1]) 2)
      some (.slice (some ⟨st1.next, 0, none⟩) 2 2, st15)) (
      ((st1.ld st.next 8).bind (asI .i64)).bind fun n16 =>
      cond (decide (n16 = 5)) (
       ((st1.ld st.next 10).bind (asI .i64)).bind fun n17 =>
       let st18 : SS := st1.new (.cells ([.int .i64 n17, .int .i64 64]) 2)
       some (.slice (some ⟨st1.next, 0, none⟩) 1 1, st18)) (
       ((st1.ld st.next 8).bind (asI .i64)).bind fun n19 =>
       cond (decide (n19 = 6)) (
        ((st1.ld st.next 10).bind (asI .i64)).bind fun n20 =>
        let st21 : SS := st1.new (.cells ([.int .i64 n20, .int .i64 16]) 2)
        some (.slice (some ⟨st1.next, 0, none⟩) 1 1, st21)) (
        some (.slice none 0 0, st1)))))))
theorem camshaftref17_Reach_sh (cf : CallS) (lf : LoopS) (w' : Value) (at0' : Int) (st : SS) : bodyS Tryz.prog Lk0 cf lf noLi Tryz.f23 false [w', .int .i64 at0'] st = camshaftref17_Reach cf lf w' at0' st := by kernel_rfl
noncomputable abbrev camshaftref17_Reach_lf : LoopS := lS Tryz.prog Lk0 Tryz.f23 noLi
theorem camshaftref17_Reach_fn : Lk0.func 23 = some (23, Tryz.f23) := by kernel_rfl
theorem camshaftref17_Reach_eq [Sym] (w' : Value) (at0' : Int) (st : SS) {r : Value × SS} (h : camshaftref17_Reach cc camshaftref17_Reach_lf w' at0' st = some r) : cc 23 [w', .int .i64 at0'] st = some r :=
  body_sound Lk0_ok Lk0_S camshaftref17_Reach_fn rfl (fun _ => rfl) ((camshaftref17_Reach_sh _ _ w' at0' st).trans h)
end Go.Proofs.YthngaoncjpgeiaaGreatDoorE
