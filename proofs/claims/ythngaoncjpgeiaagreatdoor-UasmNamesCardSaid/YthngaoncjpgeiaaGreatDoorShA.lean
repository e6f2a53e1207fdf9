/- Shallow texts of functions, printed by a program and compared by the kernel. -/
import Derived.Test.YthngaoncjpgeiaaGreatDoorTab
set_option linter.unusedVariables false
set_option linter.unusedSimpArgs false
set_option maxRecDepth 20000
namespace Go.Proofs.YthngaoncjpgeiaaGreatDoorE
open Go Go.E Go.Proofs
noncomputable def ulex_letter (cf : CallS) (lf : LoopS) (c' : Int) (st : SS) : Option (Value × SS) :=
  cond (decide (97 ≤ c')) (
   cond (decide (c' ≤ 122)) (
    some (.bool true, st)) (
    cond (decide (65 ≤ c')) (
     cond (decide (c' ≤ 90)) (
      some (.bool true, st)) (
      some (.bool (decide (c' = 95)), st))) (
     some (.bool (decide (c' = 95)), st)))) (
   cond (decide (65 ≤ c')) (
    cond (decide (c' ≤ 90)) (
     some (.bool true, st)) (
     some (.bool (decide (c' = 95)), st))) (
    some (.bool (decide (c' = 95)), st)))
theorem ulex_letter_sh (cf : CallS) (lf : LoopS) (c' : Int) (st : SS) : bodyS Tryz.prog Lk0 cf lf noLi Tryz.f114 false [.int .u8 c'] st = ulex_letter cf lf c' st := by kernel_rfl
noncomputable abbrev ulex_letter_lf : LoopS := lS Tryz.prog Lk0 Tryz.f114 noLi
theorem ulex_letter_fn : Lk0.func 114 = some (114, Tryz.f114) := by kernel_rfl
theorem ulex_letter_eq [Sym] (c' : Int) (st : SS) {r : Value × SS} (h : ulex_letter cc ulex_letter_lf c' st = some r) : cc 114 [.int .u8 c'] st = some r :=
  body_sound Lk0_ok Lk0_S ulex_letter_fn rfl (fun _ => rfl) ((ulex_letter_sh _ _ c' st).trans h)
noncomputable def ulex_digit (cf : CallS) (lf : LoopS) (c' : Int) (st : SS) : Option (Value × SS) :=
  cond (decide (48 ≤ c')) (
   some (.bool (decide (c' ≤ 57)), st)) (
   some (.bool false, st))
theorem ulex_digit_sh (cf : CallS) (lf : LoopS) (c' : Int) (st : SS) : bodyS Tryz.prog Lk0 cf lf noLi Tryz.f116 false [.int .u8 c'] st = ulex_digit cf lf c' st := by kernel_rfl
noncomputable abbrev ulex_digit_lf : LoopS := lS Tryz.prog Lk0 Tryz.f116 noLi
theorem ulex_digit_fn : Lk0.func 116 = some (116, Tryz.f116) := by kernel_rfl
theorem ulex_digit_eq [Sym] (c' : Int) (st : SS) {r : Value × SS} (h : ulex_digit cc ulex_digit_lf c' st = some r) : cc 116 [.int .u8 c'] st = some r :=
  body_sound Lk0_ok Lk0_S ulex_digit_fn rfl (fun _ => rfl) ((ulex_digit_sh _ _ c' st).trans h)
def I_ulex_run_2 : LoopI := ⟨[(0, .str), (6, .any)], [(.exit 0, [(0, .str)]), (.ret, [(2, .int .i64)])]⟩
def li_ulex_run (n : Nat) : Option LoopI := cond (Nat.beq n 2) (some I_ulex_run_2) (none)
noncomputable def ulex_run (cf : CallS) (lf : LoopS) (s' : ByteArray) (st : SS) : Option (Value × SS) :=
  let st1 : SS := (st.ro st.next).new (.iter s' 0)
  (lf 2 [.string s', ptr ((st.ro st.next).next) 0] st1).bind fun r2 =>
  cond (Nat.beq r2.1 0) (
   ((r2.2.1[0]?).bind asS).bind fun s3 =>
   some (.int .i64 (s3.size : Int), st.adv r2.2.2.next)) (
   ((r2.2.1[0]?).bind (asI .i64)).bind fun n4 =>
   some (.int .i64 n4, st.adv r2.2.2.next))
theorem ulex_run_sh (cf : CallS) (lf : LoopS) (s' : ByteArray) (st : SS) : bodyS Tryz.prog Lk0 cf lf li_ulex_run Tryz.f115 true [.string s'] st = ulex_run cf lf s' st := by kernel_rfl
noncomputable abbrev ulex_run_lf : LoopS := lS Tryz.prog Lk0 Tryz.f115 li_ulex_run
theorem ulex_run_fn : Lk0.func 115 = some (115, Tryz.f115) := by kernel_rfl
theorem ulex_run_eq [Sym] (s' : ByteArray) (st : SS) {r : Value × SS} (h : ulex_run cc ulex_run_lf s' st = some r) : cc 115 [.string s'] st = some r :=
  body_sound Lk0_ok Lk0_S ulex_run_fn rfl (fun _ => rfl) ((ulex_run_sh _ _ s' st).trans h)
noncomputable def ulex_run_l2 (cf : CallS) (lf : LoopS) (s' : ByteArray) (t6' : Value) (st : SS) : Option (Nat × List Value × SS) :=
  (addr? t6').bind fun p1 =>
  cond (Nat.beq p1.2 0) (
   (st.iterG p1.1).bind fun q2 =>
   cond (Nat.ble st.lim p1.1) (
   cond (decide (q2.2 < q2.1.size)) (
    let st3 : SS := st.set p1.1 (some (.iter q2.1 (q2.2 + (Utf8.decode q2.1 q2.2).2)))
    cond (decide (128 ≤ ((Utf8.decode q2.1 q2.2).1 : Int))) (
     some (1, [.int .i64 (q2.2 : Int)], st3)) (
     let n4 : Int := IntKind.wrap .u8 ((Utf8.decode q2.1 q2.2).1 : Int)
     (cf 114 [.int .u8 n4] st3).bind fun r5 =>
     ((some r5.1).bind asB).bind fun b6 =>
     cond (!b6) (
      let n7 : Int := IntKind.wrap .u8 ((Utf8.decode q2.1 q2.2).1 : Int)
      (cf 116 [.int .u8 n7] r5.2).bind fun r8 =>
      ((some r8.1).bind asB).bind fun b9 =>
      cond (!b9) (
       some (1, [.int .i64 (q2.2 : Int)], r8.2)) (
       lf 2 [.string s', t6'] r8.2)) (
      lf 2 [.string s', t6'] r5.2))) (
    some (0, [.string s'], st))) none) none
theorem ulex_run_l2_sh (cf : CallS) (lf : LoopS) (s' : ByteArray) (t6' : Value) (st : SS) : loopS Tryz.prog Lk0 cf lf li_ulex_run (loopC Tryz.f115 2) I_ulex_run_2 Tryz.f115.ntmps [.string s', t6'] st = ulex_run_l2 cf lf s' t6' st := by kernel_rfl
theorem ulex_run_l2_eq [Sym] (s' : ByteArray) (t6' : Value) (st : SS) {r : Nat × List Value × SS} (h : ulex_run_l2 cc ulex_run_lf s' t6' st = some r) : ulex_run_lf 2 [.string s', t6'] st = some r :=
  loop_sound Lk0_ok Lk0_S (key := 2) (I := I_ulex_run_2) rfl (by kernel_rfl) (by kernel_rfl) rfl rfl ((ulex_run_l2_sh _ _ s' t6' st).trans h)
def I_camshaftref10_Cut_4 : LoopI := ⟨[(0, .str), (1, .int .u8), (5, .any), (6, .int .i64), (7, .int .i64)], [(.exit 0, [(5, .any)])]⟩
def li_camshaftref10_Cut (n : Nat) : Option LoopI := cond (Nat.beq n 4) (some I_camshaftref10_Cut_4) (none)
noncomputable def camshaftref10_Cut (cf : CallS) (lf : LoopS) (s' : ByteArray) (c' : Int) (st : SS) : Option (Value × SS) :=
  (lf 4 [.string s', .int .u8 c', .slice none 0 0, .int .i64 0, .int .i64 0] st).bind fun r1 =>
  (r1.2.1[0]?).bind fun v2 =>
  some (v2, r1.2.2)
theorem camshaftref10_Cut_sh (cf : CallS) (lf : LoopS) (s' : ByteArray) (c' : Int) (st : SS) : bodyS Tryz.prog Lk0 cf lf li_camshaftref10_Cut Tryz.f54 false [.string s', .int .u8 c'] st = camshaftref10_Cut cf lf s' c' st := by kernel_rfl
noncomputable abbrev camshaftref10_Cut_lf : LoopS := lS Tryz.prog Lk0 Tryz.f54 li_camshaftref10_Cut
theorem camshaftref10_Cut_fn : Lk0.func 54 = some (54, Tryz.f54) := by kernel_rfl
theorem camshaftref10_Cut_eq [Sym] (s' : ByteArray) (c' : Int) (st : SS) {r : Value × SS} (h : camshaftref10_Cut cc camshaftref10_Cut_lf s' c' st = some r) : cc 54 [.string s', .int .u8 c'] st = some r :=
  body_sound Lk0_ok Lk0_S camshaftref10_Cut_fn rfl (fun _ => rfl) ((camshaftref10_Cut_sh _ _ s' c' st).trans h)
noncomputable def camshaftref10_Cut_l4 (cf : CallS) (lf : LoopS) (s' : ByteArray) (c' : Int) (out' : Value) (from0' : Int) (i' : Int) (st : SS) : Option (Nat × List Value × SS) :=
  cond (decide (i' ≤ (s'.size : Int))) (
   cond (decide (i' = (s'.size : Int))) (
    (subS s' from0' i').bind fun s1 =>
    let st2 : SS := st.new (.cells ([.string s1]) 1)
    (st2.app 1 16 out' (.slice (some ⟨st.next, 0, none⟩) 1 1)).bind fun r3 =>
    let n4 : Int := IntKind.wrap .i64 (i' + 1)
    let n5 : Int := IntKind.wrap .i64 (i' + 1)
    lf 4 [.string s', .int .u8 c', r3.1, .int .i64 n4, .int .i64 n5] r3.2) (
    ((idxS s' i').bind (asI .u8)).bind fun n6 =>
    cond (decide (n6 = c')) (
     (subS s' from0' i').bind fun s7 =>
     let st8 : SS := st.new (.cells ([.string s7]) 1)
     (st8.app 1 16 out' (.slice (some ⟨st.next, 0, none⟩) 1 1)).bind fun r9 =>
     let n10 : Int := IntKind.wrap .i64 (i' + 1)
     let n11 : Int := IntKind.wrap .i64 (i' + 1)
     lf 4 [.string s', .int .u8 c', r9.1, .int .i64 n10, .int .i64 n11] r9.2) (
     let n12 : Int := IntKind.wrap .i64 (i' + 1)
     lf 4 [.string s', .int .u8 c', out', .int .i64 from0', .int .i64 n12] st))) (
   some (0, [out'], st))
theorem camshaftref10_Cut_l4_sh (cf : CallS) (lf : LoopS) (s' : ByteArray) (c' : Int) (out' : Value) (from0' : Int) (i' : Int) (st : SS) : loopS Tryz.prog Lk0 cf lf li_camshaftref10_Cut (loopC Tryz.f54 4) I_camshaftref10_Cut_4 Tryz.f54.ntmps [.string s', .int .u8 c', out', .int .i64 from0', .int .i64 i'] st = camshaftref10_Cut_l4 cf lf s' c' out' from0' i' st := by kernel_rfl
theorem camshaftref10_Cut_l4_eq [Sym] (s' : ByteArray) (c' : Int) (out' : Value) (from0' : Int) (i' : Int) (st : SS) {r : Nat × List Value × SS} (h : camshaftref10_Cut_l4 cc camshaftref10_Cut_lf s' c' out' from0' i' st = some r) : camshaftref10_Cut_lf 4 [.string s', .int .u8 c', out', .int .i64 from0', .int .i64 i'] st = some r :=
  loop_sound Lk0_ok Lk0_S (key := 4) (I := I_camshaftref10_Cut_4) rfl (by kernel_rfl) (by kernel_rfl) rfl rfl ((camshaftref10_Cut_l4_sh _ _ s' c' out' from0' i' st).trans h)
end Go.Proofs.YthngaoncjpgeiaaGreatDoorE
