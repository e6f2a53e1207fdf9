/- Shallow texts of functions, printed by a program and compared by the kernel. -/
import Derived.Test.YthngaoncjpgeiaaGreatDoorTab
set_option linter.unusedVariables false
set_option linter.unusedSimpArgs false
set_option maxRecDepth 20000
namespace Go.Proofs.YthngaoncjpgeiaaGreatDoorE
open Go Go.E Go.Proofs
noncomputable def strings_Split (cf : CallS) (lf : LoopS) (s' : ByteArray) (sep' : ByteArray) (st : SS) : Option (Value × SS) :=
  (cf 113 [.string s', .string sep', .int .i64 0, .int .i64 (-1)] st).bind fun r1 =>
  some (r1.1, r1.2)
theorem strings_Split_sh (cf : CallS) (lf : LoopS) (s' : ByteArray) (sep' : ByteArray) (st : SS) : bodyS Tryz.prog Lk0 cf lf noLi Tryz.f95 false [.string s', .string sep'] st = strings_Split cf lf s' sep' st := by kernel_rfl
noncomputable abbrev strings_Split_lf : LoopS := lS Tryz.prog Lk0 Tryz.f95 noLi
theorem strings_Split_fn : Lk0.func 95 = some (95, Tryz.f95) := by kernel_rfl
theorem strings_Split_eq [Sym] (s' : ByteArray) (sep' : ByteArray) (st : SS) {r : Value × SS} (h : strings_Split cc strings_Split_lf s' sep' st = some r) : cc 95 [.string s', .string sep'] st = some r :=
  body_sound Lk0_ok Lk0_S strings_Split_fn rfl (fun _ => rfl) ((strings_Split_sh _ _ s' sep' st).trans h)
def I_strings_genSplit_11 : LoopI := ⟨[(0, .str), (1, .str), (2, .int .i64), (3, .int .i64), (9, .any), (10, .int .i64)], [(.exit 0, [(0, .str), (9, .any), (10, .int .i64)])]⟩
def li_strings_genSplit (n : Nat) : Option LoopI := cond (Nat.beq n 11) (some I_strings_genSplit_11) (none)
noncomputable def strings_genSplit (cf : CallS) (lf : LoopS) (s' : ByteArray) (sep' : ByteArray) (sepSave' : Int) (n' : Int) (st : SS) : Option (Value × SS) :=
  cond (decide (n' = 0)) (
   some (.slice none 0 0, st)) (
   cond (eqT sep' ⟨#[]⟩) (
    (cf 138 [.string s', .int .i64 n'] st).bind fun r1 =>
    some (r1.1, r1.2)) (
    cond (decide (n' < 0)) (
     (cf 139 [.string s', .string sep'] st).bind fun r2 =>
     ((some r2.1).bind (asI .i64)).bind fun n3 =>
     let n4 : Int := IntKind.wrap .i64 (n3 + 1)
     let n5 : Int := IntKind.wrap .i64 ((s'.size : Int) + 1)
     let n6 : Int := if n5 < n4 then n5 else n4
     (mkLen n6 n6 16).bind fun _ =>
     let st7 : SS := r2.2.new (.cells (zerosS [.string ⟨#[]⟩] n6) 1)
     let n8 : Int := IntKind.wrap .i64 (n6 - 1)
     (lf 11 [.string s', .string sep', .int .i64 sepSave', .int .i64 n8, .slice (some ⟨r2.2.next, 0, none⟩) ((n6 : Int).toNat) ((n6 : Int).toNat), .int .i64 0] st7).bind fun r9 =>
     ((r9.2.1[0]?).bind asS).bind fun s10 =>
     (r9.2.1[1]?).bind fun v11 =>
     ((r9.2.1[2]?).bind (asI .i64)).bind fun n12 =>
     (elemS v11 n12 1).bind fun p13 =>
     (r9.2.2.st p13.1 p13.2 [.string s10]).bind fun st14 =>
     let n15 : Int := IntKind.wrap .i64 (n12 + 1)
     (st14.resl v11 1 0 n15).bind fun v16 =>
     some (v16, st14)) (
     let n17 : Int := IntKind.wrap .i64 ((s'.size : Int) + 1)
     let n18 : Int := if n17 < n' then n17 else n'
     (mkLen n18 n18 16).bind fun _ =>
     let st19 : SS := st.new (.cells (zerosS [.string ⟨#[]⟩] n18) 1)
     let n20 : Int := IntKind.wrap .i64 (n18 - 1)
     (lf 11 [.string s', .string sep', .int .i64 sepSave', .int .i64 n20, .slice (some ⟨st.next, 0, none⟩) ((n18 : Int).toNat) ((n18 : Int).toNat), .int .i64 0] st19).bind fun r21 =>
     ((r21.2.1[0]?).bind asS).bind fun s22 =>
     (r21.2.1[1]?).bind fun v23 =>
     ((r21.2.1[2]?).bind (asI .i64)).bind fun n24 =>
     (elemS v23 n24 1).bind fun p25 =>
     (r21.2.2.st p25.1 p25.2 [.string s22]).bind fun st26 =>
     let n27 : Int := IntKind.wrap .i64 (n24 + 1)
     (st26.resl v23 1 0 n27).bind fun v28 =>
     some (v28, st26))))
theorem strings_genSplit_sh (cf : CallS) (lf : LoopS) (s' : ByteArray) (sep' : ByteArray) (sepSave' : Int) (n' : Int) (st : SS) : bodyS Tryz.prog Lk0 cf lf li_strings_genSplit Tryz.f113 false [.string s', .string sep', .int .i64 sepSave', .int .i64 n'] st = strings_genSplit cf lf s' sep' sepSave' n' st := by kernel_rfl
noncomputable abbrev strings_genSplit_lf : LoopS := lS Tryz.prog Lk0 Tryz.f113 li_strings_genSplit
theorem strings_genSplit_fn : Lk0.func 113 = some (113, Tryz.f113) := by kernel_rfl
theorem strings_genSplit_eq [Sym] (s' : ByteArray) (sep' : ByteArray) (sepSave' : Int) (n' : Int) (st : SS) {r : Value × SS} (h : strings_genSplit cc strings_genSplit_lf s' sep' sepSave' n' st = some r) : cc 113 [.string s', .string sep', .int .i64 sepSave', .int .i64 n'] st = some r :=
  body_sound Lk0_ok Lk0_S strings_genSplit_fn rfl (fun _ => rfl) ((strings_genSplit_sh _ _ s' sep' sepSave' n' st).trans h)
noncomputable def strings_genSplit_l11 (cf : CallS) (lf : LoopS) (s' : ByteArray) (sep' : ByteArray) (sepSave' : Int) (n' : Int) (a' : Value) (i' : Int) (st : SS) : Option (Nat × List Value × SS) :=
  cond (decide (i' < n')) (
   (cf 140 [.string s', .string sep'] st).bind fun r1 =>
   ((some r1.1).bind (asI .i64)).bind fun n2 =>
   cond (decide (n2 < 0)) (
    some (0, [.string s', a', .int .i64 i'], r1.2)) (
    let n3 : Int := IntKind.wrap .i64 (n2 + sepSave')
    (subS s' 0 n3).bind fun s4 =>
    (elemS a' i' 1).bind fun p5 =>
    (r1.2.st p5.1 p5.2 [.string s4]).bind fun st6 =>
    let n7 : Int := IntKind.wrap .i64 (n2 + (sep'.size : Int))
    (subS s' n7 (s'.size : Int)).bind fun s8 =>
    let n9 : Int := IntKind.wrap .i64 (i' + 1)
    lf 11 [.string s8, .string sep', .int .i64 sepSave', .int .i64 n', a', .int .i64 n9] st6)) (
   some (0, [.string s', a', .int .i64 i'], st))
theorem strings_genSplit_l11_sh (cf : CallS) (lf : LoopS) (s' : ByteArray) (sep' : ByteArray) (sepSave' : Int) (n' : Int) (a' : Value) (i' : Int) (st : SS) : loopS Tryz.prog Lk0 cf lf li_strings_genSplit (loopC Tryz.f113 11) I_strings_genSplit_11 Tryz.f113.ntmps [.string s', .string sep', .int .i64 sepSave', .int .i64 n', a', .int .i64 i'] st = strings_genSplit_l11 cf lf s' sep' sepSave' n' a' i' st := by kernel_rfl
theorem strings_genSplit_l11_eq [Sym] (s' : ByteArray) (sep' : ByteArray) (sepSave' : Int) (n' : Int) (a' : Value) (i' : Int) (st : SS) {r : Nat × List Value × SS} (h : strings_genSplit_l11 cc strings_genSplit_lf s' sep' sepSave' n' a' i' st = some r) : strings_genSplit_lf 11 [.string s', .string sep', .int .i64 sepSave', .int .i64 n', a', .int .i64 i'] st = some r :=
  loop_sound Lk0_ok Lk0_S (key := 11) (I := I_strings_genSplit_11) rfl (by kernel_rfl) (by kernel_rfl) rfl rfl ((strings_genSplit_l11_sh _ _ s' sep' sepSave' n' a' i' st).trans h)
noncomputable def istringslite_CutPrefix (cf : CallS) (lf : LoopS) (s' : ByteArray) (prefix0' : ByteArray) (st : SS) : Option (Value × SS) :=
  (cf 173 [.string s', .string prefix0'] st).bind fun r1 =>
  ((some r1.1).bind asB).bind fun b2 =>
  cond (!b2) (
   some (.tuple #[.string s', .bool false], r1.2)) (
   (subS s' (prefix0'.size : Int) (s'.size : Int)).bind fun s3 =>
   some (.tuple #[.string s3, .bool true], r1.2))
theorem istringslite_CutPrefix_sh (cf : CallS) (lf : LoopS) (s' : ByteArray) (prefix0' : ByteArray) (st : SS) : bodyS Tryz.prog Lk0 cf lf noLi Tryz.f161 false [.string s', .string prefix0'] st = istringslite_CutPrefix cf lf s' prefix0' st := by kernel_rfl
noncomputable abbrev istringslite_CutPrefix_lf : LoopS := lS Tryz.prog Lk0 Tryz.f161 noLi
theorem istringslite_CutPrefix_fn : Lk0.func 161 = some (161, Tryz.f161) := by kernel_rfl
theorem istringslite_CutPrefix_eq [Sym] (s' : ByteArray) (prefix0' : ByteArray) (st : SS) {r : Value × SS} (h : istringslite_CutPrefix cc istringslite_CutPrefix_lf s' prefix0' st = some r) : cc 161 [.string s', .string prefix0'] st = some r :=
  body_sound Lk0_ok Lk0_S istringslite_CutPrefix_fn rfl (fun _ => rfl) ((istringslite_CutPrefix_sh _ _ s' prefix0' st).trans h)
noncomputable def istringslite_HasPrefix (cf : CallS) (lf : LoopS) (s' : ByteArray) (prefix0' : ByteArray) (st : SS) : Option (Value × SS) :=
  cond (decide ((prefix0'.size : Int) ≤ (s'.size : Int))) (
   (subS s' 0 (prefix0'.size : Int)).bind fun s1 =>
   some (.bool (eqT s1 prefix0'), st)) (
   some (.bool false, st))
theorem istringslite_HasPrefix_sh (cf : CallS) (lf : LoopS) (s' : ByteArray) (prefix0' : ByteArray) (st : SS) : bodyS Tryz.prog Lk0 cf lf noLi Tryz.f173 false [.string s', .string prefix0'] st = istringslite_HasPrefix cf lf s' prefix0' st := by kernel_rfl
noncomputable abbrev istringslite_HasPrefix_lf : LoopS := lS Tryz.prog Lk0 Tryz.f173 noLi
theorem istringslite_HasPrefix_fn : Lk0.func 173 = some (173, Tryz.f173) := by kernel_rfl
theorem istringslite_HasPrefix_eq [Sym] (s' : ByteArray) (prefix0' : ByteArray) (st : SS) {r : Value × SS} (h : istringslite_HasPrefix cc istringslite_HasPrefix_lf s' prefix0' st = some r) : cc 173 [.string s', .string prefix0'] st = some r :=
  body_sound Lk0_ok Lk0_S istringslite_HasPrefix_fn rfl (fun _ => rfl) ((istringslite_HasPrefix_sh _ _ s' prefix0' st).trans h)
noncomputable def strings_CutPrefix (cf : CallS) (lf : LoopS) (s' : ByteArray) (prefix0' : ByteArray) (st : SS) : Option (Value × SS) :=
  (cf 161 [.string s', .string prefix0'] st).bind fun r1 =>
  ((tupG r1.1 0).bind asS).bind fun s2 =>
  ((tupG r1.1 1).bind asB).bind fun b3 =>
  some (.tuple #[.string s2, .bool b3], r1.2)
theorem strings_CutPrefix_sh (cf : CallS) (lf : LoopS) (s' : ByteArray) (prefix0' : ByteArray) (st : SS) : bodyS Tryz.prog Lk0 cf lf noLi Tryz.f141 false [.string s', .string prefix0'] st = strings_CutPrefix cf lf s' prefix0' st := by kernel_rfl
noncomputable abbrev strings_CutPrefix_lf : LoopS := lS Tryz.prog Lk0 Tryz.f141 noLi
theorem strings_CutPrefix_fn : Lk0.func 141 = some (141, Tryz.f141) := by kernel_rfl
theorem strings_CutPrefix_eq [Sym] (s' : ByteArray) (prefix0' : ByteArray) (st : SS) {r : Value × SS} (h : strings_CutPrefix cc strings_CutPrefix_lf s' prefix0' st = some r) : cc 141 [.string s', .string prefix0'] st = some r :=
  body_sound Lk0_ok Lk0_S strings_CutPrefix_fn rfl (fun _ => rfl) ((strings_CutPrefix_sh _ _ s' prefix0' st).trans h)
noncomputable def strconv_ParseUint (cf : CallS) (lf : LoopS) (s' : ByteArray) (base' : Int) (bitSize' : Int) (st : SS) : Option (Value × SS) :=
  (cf 162 [.string s', .int .i64 base', .int .i64 bitSize'] st).bind fun r1 =>
  ((tupG r1.1 0).bind (asI .u64)).bind fun n2 =>
  (tupG r1.1 1).bind fun v3 =>
  (((isNilI v3).bind fun r => some (.bool !r)).bind asB).bind fun b4 =>
  cond b4 (
   (cf 163 [.string ⟨#[80, 97, 114, 115, 101, 85, 105, 110, 116]⟩, .string s', .int .i64 base', .int .i64 bitSize', v3] r1.2).bind fun r5 =>
   some (.tuple #[.int .u64 n2, r5.1], r5.2)) (
   some (.tuple #[.int .u64 n2, .nilIface], r1.2))
theorem strconv_ParseUint_sh (cf : CallS) (lf : LoopS) (s' : ByteArray) (base' : Int) (bitSize' : Int) (st : SS) : bodyS Tryz.prog Lk0 cf lf noLi Tryz.f142 false [.string s', .int .i64 base', .int .i64 bitSize'] st = strconv_ParseUint cf lf s' base' bitSize' st := by kernel_rfl
noncomputable abbrev strconv_ParseUint_lf : LoopS := lS Tryz.prog Lk0 Tryz.f142 noLi
theorem strconv_ParseUint_fn : Lk0.func 142 = some (142, Tryz.f142) := by kernel_rfl
theorem strconv_ParseUint_eq [Sym] (s' : ByteArray) (base' : Int) (bitSize' : Int) (st : SS) {r : Value × SS} (h : strconv_ParseUint cc strconv_ParseUint_lf s' base' bitSize' st = some r) : cc 142 [.string s', .int .i64 base', .int .i64 bitSize'] st = some r :=
  body_sound Lk0_ok Lk0_S strconv_ParseUint_fn rfl (fun _ => rfl) ((strconv_ParseUint_sh _ _ s' base' bitSize' st).trans h)
noncomputable def istrconv_lower (cf : CallS) (lf : LoopS) (c' : Int) (st : SS) : Option (Value × SS) :=
  let n1 : Int := orI .u8 c' 32
  some (.int .u8 n1, st)
theorem istrconv_lower_sh (cf : CallS) (lf : LoopS) (c' : Int) (st : SS) : bodyS Tryz.prog Lk0 cf lf noLi Tryz.f174 false [.int .u8 c'] st = istrconv_lower cf lf c' st := by kernel_rfl
noncomputable abbrev istrconv_lower_lf : LoopS := lS Tryz.prog Lk0 Tryz.f174 noLi
theorem istrconv_lower_fn : Lk0.func 174 = some (174, Tryz.f174) := by kernel_rfl
theorem istrconv_lower_eq [Sym] (c' : Int) (st : SS) {r : Value × SS} (h : istrconv_lower cc istrconv_lower_lf c' st = some r) : cc 174 [.int .u8 c'] st = some r :=
  body_sound Lk0_ok Lk0_S istrconv_lower_fn rfl (fun _ => rfl) ((istrconv_lower_sh _ _ c' st).trans h)
def I_pu10_36 : LoopI := ⟨[(1, .int .i64), (8, .bool), (9, .str), (10, .int .u64), (11, .int .u64), (12, .bool), (13, .int .u64), (99, .any), (100, .int .i64), (101, .int .i64)], [(.exit 3, [(9, .str), (12, .bool), (13, .int .u64)]), (.ret, [(6, .int .u64), (7, .any)])]⟩
def li_pu10 (n : Nat) : Option LoopI := cond (Nat.beq n 36) (some I_pu10_36) (none)
noncomputable def pu10 (cf : CallS) (lf : LoopS) (s' : ByteArray)   (st : SS) : Option (Value × SS) :=
  cond (eqT s' ⟨#[]⟩) (
   some (.tuple #[.int .u64 0, .iface 256 (.int .i64 2)], st)) (
   let n1 : Int := shlI .u64 1 31
   let n2 : Int := IntKind.wrap .u64 (n1 - 1)
   let st3 : SS := st.new (.cells (s'.data.toList.map fun b => .int .u8 b.toNat) 1)
   (lf 36 [.int .i64 10, .bool false, .string s', .int .u64 1844674407370955162, .int .u64 n2, .bool false, .int .u64 0, .slice (some ⟨st.next, 0, none⟩) s'.size s'.size, .int .i64 ((s'.size : Nat) : Int), .int .i64 0] st3).bind fun r4 =>
   cond (Nat.beq r4.1 0) (
    ((r4.2.1[0]?).bind asS).bind fun s5 =>
    ((r4.2.1[1]?).bind asB).bind fun b6 =>
    ((r4.2.1[2]?).bind (asI .u64)).bind fun n7 =>
    cond b6 (
     (cf 175 [.string s5] r4.2.2).bind fun r8 =>
     ((some r8.1).bind asB).bind fun b9 =>
     cond (!b9) (
      some (.tuple #[.int .u64 0, .iface 256 (.int .i64 2)], r8.2)) (
      some (.tuple #[.int .u64 n7, .nilIface], r8.2))) (
     some (.tuple #[.int .u64 n7, .nilIface], r4.2.2))) (
    ((r4.2.1[0]?).bind (asI .u64)).bind fun n10 =>
    (r4.2.1[1]?).bind fun v11 =>
    some (.tuple #[.int .u64 n10, v11], r4.2.2)))
theorem pu10_sh (cf : CallS) (lf : LoopS) (s' : ByteArray)   (st : SS) : bodyS Tryz.prog Lk0 cf lf li_pu10 Tryz.f162 false [.string s', .int .i64 10, .int .i64 31] st = pu10 cf lf s' st := by kernel_rfl
noncomputable abbrev pu10_lf : LoopS := lS Tryz.prog Lk0 Tryz.f162 li_pu10
theorem pu10_fn : Lk0.func 162 = some (162, Tryz.f162) := by kernel_rfl
theorem pu10_eq [Sym] (s' : ByteArray)   (st : SS) {r : Value × SS} (h : pu10 cc pu10_lf s' st = some r) : cc 162 [.string s', .int .i64 10, .int .i64 31] st = some r :=
  body_sound Lk0_ok Lk0_S pu10_fn rfl (fun _ => rfl) ((pu10_sh _ _ s' st).trans h)
noncomputable def pu10_l36 (cf : CallS) (lf : LoopS) (base' : Int)  (s0' : ByteArray) (cutoff' : Int) (maxVal' : Int) (underscores' : Bool) (n' : Int) (t99' : Value) (t100' : Int) (t101' : Int) (st : SS) : Option (Nat × List Value × SS) :=
  cond (decide (t101' < t100')) (
   (elemS t99' t101' 1).bind fun p1 =>
   ((st.ld p1.1 p1.2).bind (asI .u8)).bind fun n2 =>
   cond (decide (n2 = 95)) (
    cond (decide (48 ≤ n2)) (
     cond (decide (n2 ≤ 57)) (
      let n3 : Int := IntKind.wrap .u8 (n2 - 48)
      let n4 : Int := IntKind.wrap .u8 base'
      cond (decide (n4 ≤ n3)) (
       some (1, [.int .u64 0, .iface 256 (.int .i64 2)], st)) (
       cond (decide (cutoff' ≤ n')) (
        some (1, [.int .u64 maxVal', .iface 256 (.int .i64 1)], st)) (
        let n5 : Int := IntKind.wrap .u64 base'
        let n6 : Int := IntKind.wrap .u64 (n' * n5)
        let n7 : Int := IntKind.wrap .u64 n3
        let n8 : Int := IntKind.wrap .u64 (n6 + n7)
        cond (decide (n8 < n6)) (
         some (1, [.int .u64 maxVal', .iface 256 (.int .i64 1)], st)) (
         cond (decide (maxVal' < n8)) (
          some (1, [.int .u64 maxVal', .iface 256 (.int .i64 1)], st)) (
          let n9 : Int := IntKind.wrap .i64 (t101' + 1)
          lf 36 [.int .i64 base', .bool false, .string s0', .int .u64 cutoff', .int .u64 maxVal', .bool underscores', .int .u64 n8, t99', .int .i64 t100', .int .i64 n9] st))))) (
      (cf 174 [.int .u8 n2] st).bind fun r10 =>
      ((some r10.1).bind (asI .u8)).bind fun n11 =>
      cond (decide (97 ≤ n11)) (
       (cf 174 [.int .u8 n2] r10.2).bind fun r12 =>
       ((some r12.1).bind (asI .u8)).bind fun n13 =>
       cond (decide (n13 ≤ 122)) (
        (cf 174 [.int .u8 n2] r12.2).bind fun r14 =>
        ((some r14.1).bind (asI .u8)).bind fun n15 =>
        let n16 : Int := IntKind.wrap .u8 (n15 - 97)
        let n17 : Int := IntKind.wrap .u8 (n16 + 10)
        let n18 : Int := IntKind.wrap .u8 base'
        cond (decide (n18 ≤ n17)) (
         some (1, [.int .u64 0, .iface 256 (.int .i64 2)], r14.2)) (
         cond (decide (cutoff' ≤ n')) (
          some (1, [.int .u64 maxVal', .iface 256 (.int .i64 1)], r14.2)) (
          let n19 : Int := IntKind.wrap .u64 base'
          let n20 : Int := IntKind.wrap .u64 (n' * n19)
          let n21 : Int := IntKind.wrap .u64 n17
          let n22 : Int := IntKind.wrap .u64 (n20 + n21)
          cond (decide (n22 < n20)) (
           some (1, [.int .u64 maxVal', .iface 256 (.int .i64 1)], r14.2)) (
           cond (decide (maxVal' < n22)) (
            some (1, [.int .u64 maxVal', .iface 256 (.int .i64 1)], r14.2)) (
            let n23 : Int := IntKind.wrap .i64 (t101' + 1)
            lf 36 [.int .i64 base', .bool false, .string s0', .int .u64 cutoff', .int .u64 maxVal', .bool underscores', .int .u64 n22, t99', .int .i64 t100', .int .i64 n23] r14.2))))) (
        some (1, [.int .u64 0, .iface 256 (.int .i64 2)], r12.2))) (
       some (1, [.int .u64 0, .iface 256 (.int .i64 2)], r10.2)))) (
     (cf 174 [.int .u8 n2] st).bind fun r24 =>
     ((some r24.1).bind (asI .u8)).bind fun n25 =>
     cond (decide (97 ≤ n25)) (
      (cf 174 [.int .u8 n2] r24.2).bind fun r26 =>
      ((some r26.1).bind (asI .u8)).bind fun n27 =>
      cond (decide (n27 ≤ 122)) (
       (cf 174 [.int .u8 n2] r26.2).bind fun r28 =>
       ((some r28.1).bind (asI .u8)).bind fun n29 =>
       let n30 : Int := IntKind.wrap .u8 (n29 - 97)
       let n31 : Int := IntKind.wrap .u8 (n30 + 10)
       let n32 : Int := IntKind.wrap .u8 base'
       cond (decide (n32 ≤ n31)) (
        some (1, [.int .u64 0, .iface 256 (.int .i64 2)], r28.2)) (
        cond (decide (cutoff' ≤ n')) (
         some (1, [.int .u64 maxVal', .iface 256 (.int .i64 1)], r28.2)) (
         let n33 : Int := IntKind.wrap .u64 base'
         let n34 : Int := IntKind.wrap .u64 (n' * n33)
         let n35 : Int := IntKind.wrap .u64 n31
         let n36 : Int := IntKind.wrap .u64 (n34 + n35)
         cond (decide (n36 < n34)) (
          some (1, [.int .u64 maxVal', .iface 256 (.int .i64 1)], r28.2)) (
          cond (decide (maxVal' < n36)) (
           some (1, [.int .u64 maxVal', .iface 256 (.int .i64 1)], r28.2)) (
           let n37 : Int := IntKind.wrap .i64 (t101' + 1)
           lf 36 [.int .i64 base', .bool false, .string s0', .int .u64 cutoff', .int .u64 maxVal', .bool underscores', .int .u64 n36, t99', .int .i64 t100', .int .i64 n37] r28.2))))) (
       some (1, [.int .u64 0, .iface 256 (.int .i64 2)], r26.2))) (
      some (1, [.int .u64 0, .iface 256 (.int .i64 2)], r24.2)))) (
    cond (decide (48 ≤ n2)) (
     cond (decide (n2 ≤ 57)) (
      let n38 : Int := IntKind.wrap .u8 (n2 - 48)
      let n39 : Int := IntKind.wrap .u8 base'
      cond (decide (n39 ≤ n38)) (
       some (1, [.int .u64 0, .iface 256 (.int .i64 2)], st)) (
       cond (decide (cutoff' ≤ n')) (
        some (1, [.int .u64 maxVal', .iface 256 (.int .i64 1)], st)) (
        let n40 : Int := IntKind.wrap .u64 base'
        let n41 : Int := IntKind.wrap .u64 (n' * n40)
        let n42 : Int := IntKind.wrap .u64 n38
        let n43 : Int := IntKind.wrap .u64 (n41 + n42)
        cond (decide (n43 < n41)) (
         some (1, [.int .u64 maxVal', .iface 256 (.int .i64 1)], st)) (
         cond (decide (maxVal' < n43)) (
          some (1, [.int .u64 maxVal', .iface 256 (.int .i64 1)], st)) (
          let n44 : Int := IntKind.wrap .i64 (t101' + 1)
          lf 36 [.int .i64 base', .bool false, .string s0', .int .u64 cutoff', .int .u64 maxVal', .bool underscores', .int .u64 n43, t99', .int .i64 t100', .int .i64 n44] st))))) (
      (cf 174 [.int .u8 n2] st).bind fun r45 =>
      ((some r45.1).bind (asI .u8)).bind fun n46 =>
      cond (decide (97 ≤ n46)) (
       (cf 174 [.int .u8 n2] r45.2).bind fun r47 =>
       ((some r47.1).bind (asI .u8)).bind fun n48 =>
       cond (decide (n48 ≤ 122)) (
        (cf 174 [.int .u8 n2] r47.2).bind fun r49 =>
        ((some r49.1).bind (asI .u8)).bind fun n50 =>
        let n51 : Int := IntKind.wrap .u8 (n50 - 97)
        let n52 : Int := IntKind.wrap .u8 (n51 + 10)
        let n53 : Int := IntKind.wrap .u8 base'
        cond (decide (n53 ≤ n52)) (
         some (1, [.int .u64 0, .iface 256 (.int .i64 2)], r49.2)) (
         cond (decide (cutoff' ≤ n')) (
          some (1, [.int .u64 maxVal', .iface 256 (.int .i64 1)], r49.2)) (
          let n54 : Int := IntKind.wrap .u64 base'
          let n55 : Int := IntKind.wrap .u64 (n' * n54)
          let n56 : Int := IntKind.wrap .u64 n52
          let n57 : Int := IntKind.wrap .u64 (n55 + n56)
          cond (decide (n57 < n55)) (
           some (1, [.int .u64 maxVal', .iface 256 (.int .i64 1)], r49.2)) (
           cond (decide (maxVal' < n57)) (
            some (1, [.int .u64 maxVal', .iface 256 (.int .i64 1)], r49.2)) (
            let n58 : Int := IntKind.wrap .i64 (t101' + 1)
            lf 36 [.int .i64 base', .bool false, .string s0', .int .u64 cutoff', .int .u64 maxVal', .bool underscores', .int .u64 n57, t99', .int .i64 t100', .int .i64 n58] r49.2))))) (
        some (1, [.int .u64 0, .iface 256 (.int .i64 2)], r47.2))) (
       some (1, [.int .u64 0, .iface 256 (.int .i64 2)], r45.2)))) (
     (cf 174 [.int .u8 n2] st).bind fun r59 =>
     ((some r59.1).bind (asI .u8)).bind fun n60 =>
     cond (decide (97 ≤ n60)) (
      (cf 174 [.int .u8 n2] r59.2).bind fun r61 =>
      ((some r61.1).bind (asI .u8)).bind fun n62 =>
      cond (decide (n62 ≤ 122)) (
       (cf 174 [.int .u8 n2] r61.2).bind fun r63 =>
       ((some r63.1).bind (asI .u8)).bind fun n64 =>
       let n65 : Int := IntKind.wrap .u8 (n64 - 97)
       let n66 : Int := IntKind.wrap .u8 (n65 + 10)
       let n67 : Int := IntKind.wrap .u8 base'
       cond (decide (n67 ≤ n66)) (
        some (1, [.int .u64 0, .iface 256 (.int .i64 2)], r63.2)) (
        cond (decide (cutoff' ≤ n')) (
         some (1, [.int .u64 maxVal', .iface 256 (.int .i64 1)], r63.2)) (
         let n68 : Int := IntKind.wrap .u64 base'
         let n69 : Int := IntKind.wrap .u64 (n' * n68)
         let n70 : Int := IntKind.wrap .u64 n66
         let n71 : Int := IntKind.wrap .u64 (n69 + n70)
         cond (decide (n71 < n69)) (
          some (1, [.int .u64 maxVal', .iface 256 (.int .i64 1)], r63.2)) (
          cond (decide (maxVal' < n71)) (
           some (1, [.int .u64 maxVal', .iface 256 (.int .i64 1)], r63.2)) (
           let n72 : Int := IntKind.wrap .i64 (t101' + 1)
           lf 36 [.int .i64 base', .bool false, .string s0', .int .u64 cutoff', .int .u64 maxVal', .bool underscores', .int .u64 n71, t99', .int .i64 t100', .int .i64 n72] r63.2))))) (
       some (1, [.int .u64 0, .iface 256 (.int .i64 2)], r61.2))) (
      some (1, [.int .u64 0, .iface 256 (.int .i64 2)], r59.2))))) (
   some (0, [.string s0', .bool underscores', .int .u64 n'], st))
theorem pu10_l36_sh (cf : CallS) (lf : LoopS) (base' : Int)  (s0' : ByteArray) (cutoff' : Int) (maxVal' : Int) (underscores' : Bool) (n' : Int) (t99' : Value) (t100' : Int) (t101' : Int) (st : SS) : loopS Tryz.prog Lk0 cf lf li_pu10 (loopC Tryz.f162 36) I_pu10_36 Tryz.f162.ntmps [.int .i64 base', .bool false, .string s0', .int .u64 cutoff', .int .u64 maxVal', .bool underscores', .int .u64 n', t99', .int .i64 t100', .int .i64 t101'] st = pu10_l36 cf lf base' s0' cutoff' maxVal' underscores' n' t99' t100' t101' st := by kernel_rfl
theorem pu10_l36_eq [Sym] (base' : Int)  (s0' : ByteArray) (cutoff' : Int) (maxVal' : Int) (underscores' : Bool) (n' : Int) (t99' : Value) (t100' : Int) (t101' : Int) (st : SS) {r : Nat × List Value × SS} (h : pu10_l36 cc pu10_lf base' s0' cutoff' maxVal' underscores' n' t99' t100' t101' st = some r) : pu10_lf 36 [.int .i64 base', .bool false, .string s0', .int .u64 cutoff', .int .u64 maxVal', .bool underscores', .int .u64 n', t99', .int .i64 t100', .int .i64 t101'] st = some r :=
  loop_sound Lk0_ok Lk0_S (key := 36) (I := I_pu10_36) rfl (by kernel_rfl) (by kernel_rfl) rfl rfl ((pu10_l36_sh _ _ base' s0' cutoff' maxVal' underscores' n' t99' t100' t101' st).trans h)
def I_pu16_36 : LoopI := ⟨[(1, .int .i64), (8, .bool), (9, .str), (10, .int .u64), (11, .int .u64), (12, .bool), (13, .int .u64), (99, .any), (100, .int .i64), (101, .int .i64)], [(.exit 3, [(9, .str), (12, .bool), (13, .int .u64)]), (.ret, [(6, .int .u64), (7, .any)])]⟩
def li_pu16 (n : Nat) : Option LoopI := cond (Nat.beq n 36) (some I_pu16_36) (none)
noncomputable def pu16 (cf : CallS) (lf : LoopS) (s' : ByteArray)   (st : SS) : Option (Value × SS) :=
  cond (eqT s' ⟨#[]⟩) (
   some (.tuple #[.int .u64 0, .iface 256 (.int .i64 2)], st)) (
   let n1 : Int := shlI .u64 1 31
   let n2 : Int := IntKind.wrap .u64 (n1 - 1)
   let st3 : SS := st.new (.cells (s'.data.toList.map fun b => .int .u8 b.toNat) 1)
   (lf 36 [.int .i64 16, .bool false, .string s', .int .u64 1152921504606846976, .int .u64 n2, .bool false, .int .u64 0, .slice (some ⟨st.next, 0, none⟩) s'.size s'.size, .int .i64 ((s'.size : Nat) : Int), .int .i64 0] st3).bind fun r4 =>
   cond (Nat.beq r4.1 0) (
    ((r4.2.1[0]?).bind asS).bind fun s5 =>
    ((r4.2.1[1]?).bind asB).bind fun b6 =>
    ((r4.2.1[2]?).bind (asI .u64)).bind fun n7 =>
    cond b6 (
     (cf 175 [.string s5] r4.2.2).bind fun r8 =>
     ((some r8.1).bind asB).bind fun b9 =>
     cond (!b9) (
      some (.tuple #[.int .u64 0, .iface 256 (.int .i64 2)], r8.2)) (
      some (.tuple #[.int .u64 n7, .nilIface], r8.2))) (
     some (.tuple #[.int .u64 n7, .nilIface], r4.2.2))) (
    ((r4.2.1[0]?).bind (asI .u64)).bind fun n10 =>
    (r4.2.1[1]?).bind fun v11 =>
    some (.tuple #[.int .u64 n10, v11], r4.2.2)))
theorem pu16_sh (cf : CallS) (lf : LoopS) (s' : ByteArray)   (st : SS) : bodyS Tryz.prog Lk0 cf lf li_pu16 Tryz.f162 false [.string s', .int .i64 16, .int .i64 31] st = pu16 cf lf s' st := by kernel_rfl
noncomputable abbrev pu16_lf : LoopS := lS Tryz.prog Lk0 Tryz.f162 li_pu16
theorem pu16_fn : Lk0.func 162 = some (162, Tryz.f162) := by kernel_rfl
theorem pu16_eq [Sym] (s' : ByteArray)   (st : SS) {r : Value × SS} (h : pu16 cc pu16_lf s' st = some r) : cc 162 [.string s', .int .i64 16, .int .i64 31] st = some r :=
  body_sound Lk0_ok Lk0_S pu16_fn rfl (fun _ => rfl) ((pu16_sh _ _ s' st).trans h)
noncomputable def pu16_l36 (cf : CallS) (lf : LoopS) (base' : Int)  (s0' : ByteArray) (cutoff' : Int) (maxVal' : Int) (underscores' : Bool) (n' : Int) (t99' : Value) (t100' : Int) (t101' : Int) (st : SS) : Option (Nat × List Value × SS) :=
  cond (decide (t101' < t100')) (
   (elemS t99' t101' 1).bind fun p1 =>
   ((st.ld p1.1 p1.2).bind (asI .u8)).bind fun n2 =>
   cond (decide (n2 = 95)) (
    cond (decide (48 ≤ n2)) (
     cond (decide (n2 ≤ 57)) (
      let n3 : Int := IntKind.wrap .u8 (n2 - 48)
      let n4 : Int := IntKind.wrap .u8 base'
      cond (decide (n4 ≤ n3)) (
       some (1, [.int .u64 0, .iface 256 (.int .i64 2)], st)) (
       cond (decide (cutoff' ≤ n')) (
        some (1, [.int .u64 maxVal', .iface 256 (.int .i64 1)], st)) (
        let n5 : Int := IntKind.wrap .u64 base'
        let n6 : Int := IntKind.wrap .u64 (n' * n5)
        let n7 : Int := IntKind.wrap .u64 n3
        let n8 : Int := IntKind.wrap .u64 (n6 + n7)
        cond (decide (n8 < n6)) (
         some (1, [.int .u64 maxVal', .iface 256 (.int .i64 1)], st)) (
         cond (decide (maxVal' < n8)) (
          some (1, [.int .u64 maxVal', .iface 256 (.int .i64 1)], st)) (
          let n9 : Int := IntKind.wrap .i64 (t101' + 1)
          lf 36 [.int .i64 base', .bool false, .string s0', .int .u64 cutoff', .int .u64 maxVal', .bool underscores', .int .u64 n8, t99', .int .i64 t100', .int .i64 n9] st))))) (
      (cf 174 [.int .u8 n2] st).bind fun r10 =>
      ((some r10.1).bind (asI .u8)).bind fun n11 =>
      cond (decide (97 ≤ n11)) (
       (cf 174 [.int .u8 n2] r10.2).bind fun r12 =>
       ((some r12.1).bind (asI .u8)).bind fun n13 =>
       cond (decide (n13 ≤ 122)) (
        (cf 174 [.int .u8 n2] r12.2).bind fun r14 =>
        ((some r14.1).bind (asI .u8)).bind fun n15 =>
        let n16 : Int := IntKind.wrap .u8 (n15 - 97)
        let n17 : Int := IntKind.wrap .u8 (n16 + 10)
        let n18 : Int := IntKind.wrap .u8 base'
        cond (decide (n18 ≤ n17)) (
         some (1, [.int .u64 0, .iface 256 (.int .i64 2)], r14.2)) (
         cond (decide (cutoff' ≤ n')) (
          some (1, [.int .u64 maxVal', .iface 256 (.int .i64 1)], r14.2)) (
          let n19 : Int := IntKind.wrap .u64 base'
          let n20 : Int := IntKind.wrap .u64 (n' * n19)
          let n21 : Int := IntKind.wrap .u64 n17
          let n22 : Int := IntKind.wrap .u64 (n20 + n21)
          cond (decide (n22 < n20)) (
           some (1, [.int .u64 maxVal', .iface 256 (.int .i64 1)], r14.2)) (
           cond (decide (maxVal' < n22)) (
            some (1, [.int .u64 maxVal', .iface 256 (.int .i64 1)], r14.2)) (
            let n23 : Int := IntKind.wrap .i64 (t101' + 1)
            lf 36 [.int .i64 base', .bool false, .string s0', .int .u64 cutoff', .int .u64 maxVal', .bool underscores', .int .u64 n22, t99', .int .i64 t100', .int .i64 n23] r14.2))))) (
        some (1, [.int .u64 0, .iface 256 (.int .i64 2)], r12.2))) (
       some (1, [.int .u64 0, .iface 256 (.int .i64 2)], r10.2)))) (
     (cf 174 [.int .u8 n2] st).bind fun r24 =>
     ((some r24.1).bind (asI .u8)).bind fun n25 =>
     cond (decide (97 ≤ n25)) (
      (cf 174 [.int .u8 n2] r24.2).bind fun r26 =>
      ((some r26.1).bind (asI .u8)).bind fun n27 =>
      cond (decide (n27 ≤ 122)) (
       (cf 174 [.int .u8 n2] r26.2).bind fun r28 =>
       ((some r28.1).bind (asI .u8)).bind fun n29 =>
       let n30 : Int := IntKind.wrap .u8 (n29 - 97)
       let n31 : Int := IntKind.wrap .u8 (n30 + 10)
       let n32 : Int := IntKind.wrap .u8 base'
       cond (decide (n32 ≤ n31)) (
        some (1, [.int .u64 0, .iface 256 (.int .i64 2)], r28.2)) (
        cond (decide (cutoff' ≤ n')) (
         some (1, [.int .u64 maxVal', .iface 256 (.int .i64 1)], r28.2)) (
         let n33 : Int := IntKind.wrap .u64 base'
         let n34 : Int := IntKind.wrap .u64 (n' * n33)
         let n35 : Int := IntKind.wrap .u64 n31
         let n36 : Int := IntKind.wrap .u64 (n34 + n35)
         cond (decide (n36 < n34)) (
          some (1, [.int .u64 maxVal', .iface 256 (.int .i64 1)], r28.2)) (
          cond (decide (maxVal' < n36)) (
           some (1, [.int .u64 maxVal', .iface 256 (.int .i64 1)], r28.2)) (
           let n37 : Int := IntKind.wrap .i64 (t101' + 1)
           lf 36 [.int .i64 base', .bool false, .string s0', .int .u64 cutoff', .int .u64 maxVal', .bool underscores', .int .u64 n36, t99', .int .i64 t100', .int .i64 n37] r28.2))))) (
       some (1, [.int .u64 0, .iface 256 (.int .i64 2)], r26.2))) (
      some (1, [.int .u64 0, .iface 256 (.int .i64 2)], r24.2)))) (
    cond (decide (48 ≤ n2)) (
     cond (decide (n2 ≤ 57)) (
      let n38 : Int := IntKind.wrap .u8 (n2 - 48)
      let n39 : Int := IntKind.wrap .u8 base'
      cond (decide (n39 ≤ n38)) (
       some (1, [.int .u64 0, .iface 256 (.int .i64 2)], st)) (
       cond (decide (cutoff' ≤ n')) (
        some (1, [.int .u64 maxVal', .iface 256 (.int .i64 1)], st)) (
        let n40 : Int := IntKind.wrap .u64 base'
        let n41 : Int := IntKind.wrap .u64 (n' * n40)
        let n42 : Int := IntKind.wrap .u64 n38
        let n43 : Int := IntKind.wrap .u64 (n41 + n42)
        cond (decide (n43 < n41)) (
         some (1, [.int .u64 maxVal', .iface 256 (.int .i64 1)], st)) (
         cond (decide (maxVal' < n43)) (
          some (1, [.int .u64 maxVal', .iface 256 (.int .i64 1)], st)) (
          let n44 : Int := IntKind.wrap .i64 (t101' + 1)
          lf 36 [.int .i64 base', .bool false, .string s0', .int .u64 cutoff', .int .u64 maxVal', .bool underscores', .int .u64 n43, t99', .int .i64 t100', .int .i64 n44] st))))) (
      (cf 174 [.int .u8 n2] st).bind fun r45 =>
      ((some r45.1).bind (asI .u8)).bind fun n46 =>
      cond (decide (97 ≤ n46)) (
       (cf 174 [.int .u8 n2] r45.2).bind fun r47 =>
       ((some r47.1).bind (asI .u8)).bind fun n48 =>
       cond (decide (n48 ≤ 122)) (
        (cf 174 [.int .u8 n2] r47.2).bind fun r49 =>
        ((some r49.1).bind (asI .u8)).bind fun n50 =>
        let n51 : Int := IntKind.wrap .u8 (n50 - 97)
        let n52 : Int := IntKind.wrap .u8 (n51 + 10)
        let n53 : Int := IntKind.wrap .u8 base'
        cond (decide (n53 ≤ n52)) (
         some (1, [.int .u64 0, .iface 256 (.int .i64 2)], r49.2)) (
         cond (decide (cutoff' ≤ n')) (
          some (1, [.int .u64 maxVal', .iface 256 (.int .i64 1)], r49.2)) (
          let n54 : Int := IntKind.wrap .u64 base'
          let n55 : Int := IntKind.wrap .u64 (n' * n54)
          let n56 : Int := IntKind.wrap .u64 n52
          let n57 : Int := IntKind.wrap .u64 (n55 + n56)
          cond (decide (n57 < n55)) (
           some (1, [.int .u64 maxVal', .iface 256 (.int .i64 1)], r49.2)) (
           cond (decide (maxVal' < n57)) (
            some (1, [.int .u64 maxVal', .iface 256 (.int .i64 1)], r49.2)) (
            let n58 : Int := IntKind.wrap .i64 (t101' + 1)
            lf 36 [.int .i64 base', .bool false, .string s0', .int .u64 cutoff', .int .u64 maxVal', .bool underscores', .int .u64 n57, t99', .int .i64 t100', .int .i64 n58] r49.2))))) (
        some (1, [.int .u64 0, .iface 256 (.int .i64 2)], r47.2))) (
       some (1, [.int .u64 0, .iface 256 (.int .i64 2)], r45.2)))) (
     (cf 174 [.int .u8 n2] st).bind fun r59 =>
     ((some r59.1).bind (asI .u8)).bind fun n60 =>
     cond (decide (97 ≤ n60)) (
      (cf 174 [.int .u8 n2] r59.2).bind fun r61 =>
      ((some r61.1).bind (asI .u8)).bind fun n62 =>
      cond (decide (n62 ≤ 122)) (
       (cf 174 [.int .u8 n2] r61.2).bind fun r63 =>
       ((some r63.1).bind (asI .u8)).bind fun n64 =>
       let n65 : Int := IntKind.wrap .u8 (n64 - 97)
       let n66 : Int := IntKind.wrap .u8 (n65 + 10)
       let n67 : Int := IntKind.wrap .u8 base'
       cond (decide (n67 ≤ n66)) (
        some (1, [.int .u64 0, .iface 256 (.int .i64 2)], r63.2)) (
        cond (decide (cutoff' ≤ n')) (
         some (1, [.int .u64 maxVal', .iface 256 (.int .i64 1)], r63.2)) (
         let n68 : Int := IntKind.wrap .u64 base'
         let n69 : Int := IntKind.wrap .u64 (n' * n68)
         let n70 : Int := IntKind.wrap .u64 n66
         let n71 : Int := IntKind.wrap .u64 (n69 + n70)
         cond (decide (n71 < n69)) (
          some (1, [.int .u64 maxVal', .iface 256 (.int .i64 1)], r63.2)) (
          cond (decide (maxVal' < n71)) (
           some (1, [.int .u64 maxVal', .iface 256 (.int .i64 1)], r63.2)) (
           let n72 : Int := IntKind.wrap .i64 (t101' + 1)
           lf 36 [.int .i64 base', .bool false, .string s0', .int .u64 cutoff', .int .u64 maxVal', .bool underscores', .int .u64 n71, t99', .int .i64 t100', .int .i64 n72] r63.2))))) (
       some (1, [.int .u64 0, .iface 256 (.int .i64 2)], r61.2))) (
      some (1, [.int .u64 0, .iface 256 (.int .i64 2)], r59.2))))) (
   some (0, [.string s0', .bool underscores', .int .u64 n'], st))
theorem pu16_l36_sh (cf : CallS) (lf : LoopS) (base' : Int)  (s0' : ByteArray) (cutoff' : Int) (maxVal' : Int) (underscores' : Bool) (n' : Int) (t99' : Value) (t100' : Int) (t101' : Int) (st : SS) : loopS Tryz.prog Lk0 cf lf li_pu16 (loopC Tryz.f162 36) I_pu16_36 Tryz.f162.ntmps [.int .i64 base', .bool false, .string s0', .int .u64 cutoff', .int .u64 maxVal', .bool underscores', .int .u64 n', t99', .int .i64 t100', .int .i64 t101'] st = pu16_l36 cf lf base' s0' cutoff' maxVal' underscores' n' t99' t100' t101' st := by kernel_rfl
theorem pu16_l36_eq [Sym] (base' : Int)  (s0' : ByteArray) (cutoff' : Int) (maxVal' : Int) (underscores' : Bool) (n' : Int) (t99' : Value) (t100' : Int) (t101' : Int) (st : SS) {r : Nat × List Value × SS} (h : pu16_l36 cc pu16_lf base' s0' cutoff' maxVal' underscores' n' t99' t100' t101' st = some r) : pu16_lf 36 [.int .i64 base', .bool false, .string s0', .int .u64 cutoff', .int .u64 maxVal', .bool underscores', .int .u64 n', t99', .int .i64 t100', .int .i64 t101'] st = some r :=
  loop_sound Lk0_ok Lk0_S (key := 36) (I := I_pu16_36) rfl (by kernel_rfl) (by kernel_rfl) rfl rfl ((pu16_l36_sh _ _ base' s0' cutoff' maxVal' underscores' n' t99' t100' t101' st).trans h)
noncomputable def ulex_number (cf : CallS) (lf : LoopS) (s' : ByteArray) (st : SS) : Option (Value × SS) :=
  (cf 141 [.string s', .string ⟨#[48, 120]⟩] (st.ro st.next)).bind fun r1 =>
  ((tupG r1.1 0).bind asS).bind fun s2 =>
  ((tupG r1.1 1).bind asB).bind fun b3 =>
  cond b3 (
   (cf 142 [.string s2, .int .i64 16, .int .i64 31] r1.2).bind fun r4 =>
   ((tupG r4.1 0).bind (asI .u64)).bind fun n5 =>
   (tupG r4.1 1).bind fun v6 =>
   let n7 : Int := IntKind.wrap .i64 n5
   (((isNilI v6).bind fun r => some (.bool r)).bind asB).bind fun b8 =>
   cond b8 (
    (cf 118 [.string s2, .int .u8 95] r4.2).bind fun r9 =>
    ((some r9.1).bind (asI .i64)).bind fun n10 =>
    some (.tuple #[.int .i64 n7, .bool (decide (n10 < 0))], st.adv r9.2.next)) (
    some (.tuple #[.int .i64 n7, .bool false], st.adv r4.2.next))) (
   (cf 142 [.string s', .int .i64 10, .int .i64 31] r1.2).bind fun r11 =>
   ((tupG r11.1 0).bind (asI .u64)).bind fun n12 =>
   (tupG r11.1 1).bind fun v13 =>
   let n14 : Int := IntKind.wrap .i64 n12
   (((isNilI v13).bind fun r => some (.bool r)).bind asB).bind fun b15 =>
   cond b15 (
    (cf 118 [.string s', .int .u8 95] r11.2).bind fun r16 =>
    ((some r16.1).bind (asI .i64)).bind fun n17 =>
    some (.tuple #[.int .i64 n14, .bool (decide (n17 < 0))], st.adv r16.2.next)) (
    some (.tuple #[.int .i64 n14, .bool false], st.adv r11.2.next)))
theorem ulex_number_sh (cf : CallS) (lf : LoopS) (s' : ByteArray) (st : SS) : bodyS Tryz.prog Lk0 cf lf noLi Tryz.f117 true [.string s'] st = ulex_number cf lf s' st := by kernel_rfl
noncomputable abbrev ulex_number_lf : LoopS := lS Tryz.prog Lk0 Tryz.f117 noLi
theorem ulex_number_fn : Lk0.func 117 = some (117, Tryz.f117) := by kernel_rfl
theorem ulex_number_eq [Sym] (s' : ByteArray) (st : SS) {r : Value × SS} (h : ulex_number cc ulex_number_lf s' st = some r) : cc 117 [.string s'] st = some r :=
  body_sound Lk0_ok Lk0_S ulex_number_fn rfl (fun _ => rfl) ((ulex_number_sh _ _ s' st).trans h)
end Go.Proofs.YthngaoncjpgeiaaGreatDoorE
