/- Shallow texts of functions, printed by a program and compared by the kernel. -/
import Derived.Test.YthngaoncjpgeiaaDoorPar1
set_option linter.unusedVariables false
set_option linter.unusedSimpArgs false
set_option maxRecDepth 20000
namespace Go.Proofs.YthngaoncjpgeiaaDoorE
open Go Go.E Go.Proofs
noncomputable def camshaftref16_is (cf : CallS) (lf : LoopS) (l' : Value) (i' : Int) (kind' : Int) (text' : ByteArray) (st : SS) : Option (Value × SS) :=
  ((lenV l').bind (asI .i64)).bind fun n1 =>
  cond (decide (i' < n1)) (
   (elemS l' i' 5).bind fun p2 =>
   (((st.ro st.next).ld p2.1 p2.2).bind (asI .i64)).bind fun n3 =>
   cond (decide (n3 = kind')) (
    (elemS l' i' 5).bind fun p4 =>
    (((st.ro st.next).ld p4.1 (p4.2 + 1)).bind asS).bind fun s5 =>
    some (.bool (eqT s5 text'), st.adv (st.ro st.next).next)) (
    some (.bool false, st.adv (st.ro st.next).next))) (
   some (.bool false, st.adv (st.ro st.next).next))
theorem camshaftref16_is_sh (cf : CallS) (lf : LoopS) (l' : Value) (i' : Int) (kind' : Int) (text' : ByteArray) (st : SS) : bodyS Tryd.prog Lk0 cf lf noLi Tryd.f50 true [l', .int .i64 i', .int .i64 kind', .string text'] st = camshaftref16_is cf lf l' i' kind' text' st := by kernel_rfl
noncomputable abbrev camshaftref16_is_lf : LoopS := lS Tryd.prog Lk0 Tryd.f50 noLi
theorem camshaftref16_is_fn : Lk0.func 50 = some (50, Tryd.f50) := by kernel_rfl
theorem camshaftref16_is_eq [Sym] (l' : Value) (i' : Int) (kind' : Int) (text' : ByteArray) (st : SS) {r : Value × SS} (h : camshaftref16_is cc camshaftref16_is_lf l' i' kind' text' st = some r) : cc 50 [l', .int .i64 i', .int .i64 kind', .string text'] st = some r :=
  body_sound Lk0_ok Lk0_S camshaftref16_is_fn rfl (fun _ => rfl) ((camshaftref16_is_sh _ _ l' i' kind' text' st).trans h)
noncomputable def camshaftref16_Take (cf : CallS) (lf : LoopS) (l' : Value) (i' : Int) (st : SS) : Option (Value × SS) :=
  let st1 : SS := (st.ro st.next).new (.cells [.string ⟨#[]⟩, .int .i64 0, .int .i64 0] 0)
  (elemS l' i' 5).bind fun p2 =>
  ((st1.ld p2.1 (p2.2 + 4)).bind (asI .i64)).bind fun n3 =>
  let st4 : SS := st1.new (.cells [.string ⟨#[]⟩, .int .i64 0, .int .i64 0] 0)
  (st4.st st1.next 0 [.string ⟨#[]⟩, .int .i64 0, .int .i64 n3]).bind fun st5 =>
  (elemS l' i' 5).bind fun p6 =>
  ((st5.ld p6.1 p6.2).bind (asI .i64)).bind fun n7 =>
  cond (decide (n7 = 2)) (
   (elemS l' i' 5).bind fun p8 =>
   ((st5.ld p8.1 (p8.2 + 2)).bind (asI .i64)).bind fun n9 =>
   (st5.st st1.next 1 [.int .i64 n9]).bind fun st10 =>
   (st10.ldN st1.next 0 3).bind fun v11 =>
   (st10.stV ((st.ro st.next).next) 0 3 v11).bind fun st12 =>
   (st12.rdN ((st.ro st.next).next) 0 3).bind fun v13 =>
   cond (flat3 (.tuple #[v13, .int .i64 1])) (some (.tuple #[v13, .int .i64 1], st.adv st12.next)) none) (
   (elemS l' i' 5).bind fun p14 =>
   ((st5.ld p14.1 p14.2).bind (asI .i64)).bind fun n15 =>
   cond (!(decide (n15 = 1))) (
    (st5.ldN st1.next 0 3).bind fun v16 =>
    (st5.stV ((st.ro st.next).next) 0 3 v16).bind fun st17 =>
    (st17.rdN ((st.ro st.next).next) 0 3).bind fun v18 =>
    cond (flat3 (.tuple #[v18, .int .i64 (-1)])) (some (.tuple #[v18, .int .i64 (-1)], st.adv st17.next)) none) (
    (elemS l' i' 5).bind fun p19 =>
    ((st5.ld p19.1 (p19.2 + 1)).bind asS).bind fun s20 =>
    (st5.st st1.next 0 [.string s20]).bind fun st21 =>
    let n22 : Int := IntKind.wrap .i64 (i' + 1)
    (cf 50 [l', .int .i64 n22, .int .i64 3, .string ⟨#[43]⟩] st21).bind fun r23 =>
    ((some r23.1).bind asB).bind fun b24 =>
    cond (!b24) (
     let n25 : Int := IntKind.wrap .i64 (i' + 1)
     (cf 50 [l', .int .i64 n25, .int .i64 3, .string ⟨#[45]⟩] r23.2).bind fun r26 =>
     ((some r26.1).bind asB).bind fun b27 =>
     cond (!b27) (
      (r26.2.ldN st1.next 0 3).bind fun v28 =>
      (r26.2.stV ((st.ro st.next).next) 0 3 v28).bind fun st29 =>
      (st29.rdN ((st.ro st.next).next) 0 3).bind fun v30 =>
      cond (flat3 (.tuple #[v30, .int .i64 1])) (some (.tuple #[v30, .int .i64 1], st.adv st29.next)) none) (
      let n31 : Int := IntKind.wrap .i64 (i' + 2)
      (elemS l' n31 5).bind fun p32 =>
      ((r26.2.ld p32.1 p32.2).bind (asI .i64)).bind fun n33 =>
      cond (!(decide (n33 = 2))) (
       (r26.2.ldN st1.next 0 3).bind fun v34 =>
       (r26.2.stV ((st.ro st.next).next) 0 3 v34).bind fun st35 =>
       (st35.rdN ((st.ro st.next).next) 0 3).bind fun v36 =>
       cond (flat3 (.tuple #[v36, .int .i64 (-3)])) (some (.tuple #[v36, .int .i64 (-3)], st.adv st35.next)) none) (
       let n37 : Int := IntKind.wrap .i64 (i' + 2)
       (elemS l' n37 5).bind fun p38 =>
       ((r26.2.ld p38.1 (p38.2 + 2)).bind (asI .i64)).bind fun n39 =>
       (r26.2.st st1.next 1 [.int .i64 n39]).bind fun st40 =>
       cond (!b24) (
        ((st40.ld st1.next 1).bind (asI .i64)).bind fun n41 =>
        let n42 : Int := IntKind.wrap .i64 (0 - n41)
        (st40.st st1.next 1 [.int .i64 n42]).bind fun st43 =>
        (st43.ldN st1.next 0 3).bind fun v44 =>
        (st43.stV ((st.ro st.next).next) 0 3 v44).bind fun st45 =>
        (st45.rdN ((st.ro st.next).next) 0 3).bind fun v46 =>
        cond (flat3 (.tuple #[v46, .int .i64 3])) (some (.tuple #[v46, .int .i64 3], st.adv st45.next)) none) (
        (st40.ldN st1.next 0 3).bind fun v47 =>
        (st40.stV ((st.ro st.next).next) 0 3 v47).bind fun st48 =>
        (st48.rdN ((st.ro st.next).next) 0 3).bind fun v49 =>
        cond (flat3 (.tuple #[v49, .int .i64 3])) (some (.tuple #[v49, .int .i64 3], st.adv st48.next)) none)))) (
     let n50 : Int := IntKind.wrap .i64 (i' + 2)
     (elemS l' n50 5).bind fun p51 =>
     ((r23.2.ld p51.1 p51.2).bind (asI .i64)).bind fun n52 =>
     cond (!(decide (n52 = 2))) (
      (r23.2.ldN st1.next 0 3).bind fun v53 =>
      (r23.2.stV ((st.ro st.next).next) 0 3 v53).bind fun st54 =>
      (st54.rdN ((st.ro st.next).next) 0 3).bind fun v55 =>
      cond (flat3 (.tuple #[v55, .int .i64 (-3)])) (some (.tuple #[v55, .int .i64 (-3)], st.adv st54.next)) none) (
      let n56 : Int := IntKind.wrap .i64 (i' + 2)
      (elemS l' n56 5).bind fun p57 =>
      ((r23.2.ld p57.1 (p57.2 + 2)).bind (asI .i64)).bind fun n58 =>
      (r23.2.st st1.next 1 [.int .i64 n58]).bind fun st59 =>
      cond (!b24) (
       ((st59.ld st1.next 1).bind (asI .i64)).bind fun n60 =>
       let n61 : Int := IntKind.wrap .i64 (0 - n60)
       (st59.st st1.next 1 [.int .i64 n61]).bind fun st62 =>
       (st62.ldN st1.next 0 3).bind fun v63 =>
       (st62.stV ((st.ro st.next).next) 0 3 v63).bind fun st64 =>
       (st64.rdN ((st.ro st.next).next) 0 3).bind fun v65 =>
       cond (flat3 (.tuple #[v65, .int .i64 3])) (some (.tuple #[v65, .int .i64 3], st.adv st64.next)) none) (
       (st59.ldN st1.next 0 3).bind fun v66 =>
       (st59.stV ((st.ro st.next).next) 0 3 v66).bind fun st67 =>
       (st67.rdN ((st.ro st.next).next) 0 3).bind fun v68 =>
       cond (flat3 (.tuple #[v68, .int .i64 3])) (some (.tuple #[v68, .int .i64 3], st.adv st67.next)) none)))))
theorem camshaftref16_Take_sh (cf : CallS) (lf : LoopS) (l' : Value) (i' : Int) (st : SS) : bodyS Tryd.prog Lk0 cf lf noLi Tryd.f51 true [l', .int .i64 i'] st = camshaftref16_Take cf lf l' i' st := by kernel_rfl
noncomputable abbrev camshaftref16_Take_lf : LoopS := lS Tryd.prog Lk0 Tryd.f51 noLi
theorem camshaftref16_Take_fn : Lk0.func 51 = some (51, Tryd.f51) := by kernel_rfl
theorem camshaftref16_Take_eq [Sym] (l' : Value) (i' : Int) (st : SS) {r : Value × SS} (h : camshaftref16_Take cc camshaftref16_Take_lf l' i' st = some r) : cc 51 [l', .int .i64 i'] st = some r :=
  body_sound Lk0_ok Lk0_S camshaftref16_Take_fn rfl (fun _ => rfl) ((camshaftref16_Take_sh _ _ l' i' st).trans h)
def I_camshaftref16_Read_21 : LoopI := ⟨[(0, .any), (2, .any), (4, .any), (5, .int .i64), (8, .bool), (90, .any), (91, .int .i64), (92, .int .i64)], [(.exit 4, [(0, .any), (2, .any), (4, .any), (5, .int .i64), (8, .bool)])]⟩
def I_camshaftref16_Read_18 : LoopI := ⟨[(0, .any), (2, .any), (4, .any), (5, .int .i64)], [(.exit 2, [(2, .any), (4, .any)]), (.ret, [(2, .any), (3, .int .i64)])]⟩
def I_camshaftref16_Read_11 : LoopI := ⟨[(0, .any), (2, .any), (4, .any), (5, .int .i64)], [(.exit 0, [(2, .any), (4, .any)]), (.ret, [(2, .any), (3, .int .i64)])]⟩
def li_camshaftref16_Read (n : Nat) : Option LoopI := cond (Nat.beq n 11) (some I_camshaftref16_Read_11) (cond (Nat.beq n 18) (some I_camshaftref16_Read_18) (cond (Nat.beq n 21) (some I_camshaftref16_Read_21) (none)))
noncomputable def camshaftref16_Read (cf : CallS) (lf : LoopS) (l' : Value) (st : SS) : Option (Value × SS) :=
  let st1 : SS := st.new (.cells [.int .i64 0, .string ⟨#[]⟩, .string ⟨#[]⟩, .slice none 0 0, .slice none 0 0] 0)
  (elemS l' 0 5).bind fun p2 =>
  ((st1.ld p2.1 (p2.2 + 3)).bind (asI .i64)).bind fun n3 =>
  let st4 : SS := st1.new (.cells [.int .i64 0, .string ⟨#[]⟩, .string ⟨#[]⟩, .slice none 0 0, .slice none 0 0] 0)
  (st4.st st1.next 0 [.int .i64 n3, .string ⟨#[]⟩, .string ⟨#[]⟩, .slice none 0 0, .slice none 0 0]).bind fun st5 =>
  (elemS l' 0 5).bind fun p6 =>
  ((st5.ld p6.1 p6.2).bind (asI .i64)).bind fun n7 =>
  cond (decide (n7 = 1)) (
   (cf 50 [l', .int .i64 1, .int .i64 3, .string ⟨#[58]⟩] st5).bind fun r8 =>
   ((some r8.1).bind asB).bind fun b9 =>
   cond b9 (
    (elemS l' 0 5).bind fun p10 =>
    ((r8.2.ld p10.1 (p10.2 + 1)).bind asS).bind fun s11 =>
    (r8.2.st st1.next 1 [.string s11]).bind fun st12 =>
    (cf 50 [l', .int .i64 2, .int .i64 3, .string ⟨#[46]⟩] st12).bind fun r13 =>
    ((some r13.1).bind asB).bind fun b14 =>
    cond b14 (
     (elemS l' 3 5).bind fun p15 =>
     ((r13.2.ld p15.1 p15.2).bind (asI .i64)).bind fun n16 =>
     cond (!(decide (n16 = 1))) (
      (r13.2.ldN st1.next 0 5).bind fun v17 =>
      (r13.2.stV st.next 0 5 v17).bind fun st18 =>
      (st18.rdN st.next 0 5).bind fun v19 =>
      some (.tuple #[v19, .int .i64 3], st18)) (
      (elemS l' 3 5).bind fun p20 =>
      ((r13.2.ld p20.1 (p20.2 + 1)).bind asS).bind fun s21 =>
      (r13.2.st st1.next 2 [.string s21]).bind fun st22 =>
      (lf 11 [l', ptr st.next 0, ptr st1.next 0, .int .i64 4] st22).bind fun r23 =>
      cond (Nat.beq r23.1 0) (
       (r23.2.1[0]?).bind fun v24 =>
       (r23.2.1[1]?).bind fun v25 =>
       (addr? v25).bind fun p26 =>
       (r23.2.2.ldN p26.1 p26.2 5).bind fun v27 =>
       (addr? v24).bind fun p28 =>
       (r23.2.2.stV p28.1 p28.2 5 v27).bind fun st29 =>
       (addr? v24).bind fun p30 =>
       (st29.rdN p30.1 p30.2 5).bind fun v31 =>
       some (.tuple #[v31, .int .i64 (-1)], st29)) (
       (r23.2.1[0]?).bind fun v32 =>
       ((r23.2.1[1]?).bind (asI .i64)).bind fun n33 =>
       (addr? v32).bind fun p34 =>
       (r23.2.2.rdN p34.1 p34.2 5).bind fun v35 =>
       some (.tuple #[v35, .int .i64 n33], r23.2.2)))) (
     (lf 18 [l', ptr st.next 0, ptr st1.next 0, .int .i64 2] r13.2).bind fun r36 =>
     cond (Nat.beq r36.1 0) (
      (r36.2.1[0]?).bind fun v37 =>
      (r36.2.1[1]?).bind fun v38 =>
      (addr? v38).bind fun p39 =>
      (r36.2.2.ldN p39.1 p39.2 5).bind fun v40 =>
      (addr? v37).bind fun p41 =>
      (r36.2.2.stV p41.1 p41.2 5 v40).bind fun st42 =>
      (addr? v37).bind fun p43 =>
      (st42.rdN p43.1 p43.2 5).bind fun v44 =>
      some (.tuple #[v44, .int .i64 (-1)], st42)) (
      (r36.2.1[0]?).bind fun v45 =>
      ((r36.2.1[1]?).bind (asI .i64)).bind fun n46 =>
      (addr? v45).bind fun p47 =>
      (r36.2.2.rdN p47.1 p47.2 5).bind fun v48 =>
      some (.tuple #[v48, .int .i64 n46], r36.2.2)))) (
    (cf 50 [l', .int .i64 0, .int .i64 3, .string ⟨#[46]⟩] r8.2).bind fun r49 =>
    ((some r49.1).bind asB).bind fun b50 =>
    cond b50 (
     (elemS l' 1 5).bind fun p51 =>
     ((r49.2.ld p51.1 p51.2).bind (asI .i64)).bind fun n52 =>
     cond (!(decide (n52 = 1))) (
      (r49.2.ldN st1.next 0 5).bind fun v53 =>
      (r49.2.stV st.next 0 5 v53).bind fun st54 =>
      (st54.rdN st.next 0 5).bind fun v55 =>
      some (.tuple #[v55, .int .i64 1], st54)) (
      (elemS l' 1 5).bind fun p56 =>
      ((r49.2.ld p56.1 (p56.2 + 1)).bind asS).bind fun s57 =>
      (r49.2.st st1.next 2 [.string s57]).bind fun st58 =>
      (lf 11 [l', ptr st.next 0, ptr st1.next 0, .int .i64 2] st58).bind fun r59 =>
      cond (Nat.beq r59.1 0) (
       (r59.2.1[0]?).bind fun v60 =>
       (r59.2.1[1]?).bind fun v61 =>
       (addr? v61).bind fun p62 =>
       (r59.2.2.ldN p62.1 p62.2 5).bind fun v63 =>
       (addr? v60).bind fun p64 =>
       (r59.2.2.stV p64.1 p64.2 5 v63).bind fun st65 =>
       (addr? v60).bind fun p66 =>
       (st65.rdN p66.1 p66.2 5).bind fun v67 =>
       some (.tuple #[v67, .int .i64 (-1)], st65)) (
       (r59.2.1[0]?).bind fun v68 =>
       ((r59.2.1[1]?).bind (asI .i64)).bind fun n69 =>
       (addr? v68).bind fun p70 =>
       (r59.2.2.rdN p70.1 p70.2 5).bind fun v71 =>
       some (.tuple #[v71, .int .i64 n69], r59.2.2)))) (
     (lf 18 [l', ptr st.next 0, ptr st1.next 0, .int .i64 0] r49.2).bind fun r72 =>
     cond (Nat.beq r72.1 0) (
      (r72.2.1[0]?).bind fun v73 =>
      (r72.2.1[1]?).bind fun v74 =>
      (addr? v74).bind fun p75 =>
      (r72.2.2.ldN p75.1 p75.2 5).bind fun v76 =>
      (addr? v73).bind fun p77 =>
      (r72.2.2.stV p77.1 p77.2 5 v76).bind fun st78 =>
      (addr? v73).bind fun p79 =>
      (st78.rdN p79.1 p79.2 5).bind fun v80 =>
      some (.tuple #[v80, .int .i64 (-1)], st78)) (
      (r72.2.1[0]?).bind fun v81 =>
      ((r72.2.1[1]?).bind (asI .i64)).bind fun n82 =>
      (addr? v81).bind fun p83 =>
      (r72.2.2.rdN p83.1 p83.2 5).bind fun v84 =>
      some (.tuple #[v84, .int .i64 n82], r72.2.2))))) (
   (cf 50 [l', .int .i64 0, .int .i64 3, .string ⟨#[46]⟩] st5).bind fun r85 =>
   ((some r85.1).bind asB).bind fun b86 =>
   cond b86 (
    (elemS l' 1 5).bind fun p87 =>
    ((r85.2.ld p87.1 p87.2).bind (asI .i64)).bind fun n88 =>
    cond (!(decide (n88 = 1))) (
     (r85.2.ldN st1.next 0 5).bind fun v89 =>
     (r85.2.stV st.next 0 5 v89).bind fun st90 =>
     (st90.rdN st.next 0 5).bind fun v91 =>
     some (.tuple #[v91, .int .i64 1], st90)) (
     (elemS l' 1 5).bind fun p92 =>
     ((r85.2.ld p92.1 (p92.2 + 1)).bind asS).bind fun s93 =>
     (r85.2.st st1.next 2 [.string s93]).bind fun st94 =>
     (lf 11 [l', ptr st.next 0, ptr st1.next 0, .int .i64 2] st94).bind fun r95 =>
     cond (Nat.beq r95.1 0) (
      (r95.2.1[0]?).bind fun v96 =>
      (r95.2.1[1]?).bind fun v97 =>
      (addr? v97).bind fun p98 =>
      (r95.2.2.ldN p98.1 p98.2 5).bind fun v99 =>
      (addr? v96).bind fun p100 =>
      (r95.2.2.stV p100.1 p100.2 5 v99).bind fun st101 =>
      (addr? v96).bind fun p102 =>
      (st101.rdN p102.1 p102.2 5).bind fun v103 =>
      some (.tuple #[v103, .int .i64 (-1)], st101)) (
      (r95.2.1[0]?).bind fun v104 =>
      ((r95.2.1[1]?).bind (asI .i64)).bind fun n105 =>
      (addr? v104).bind fun p106 =>
      (r95.2.2.rdN p106.1 p106.2 5).bind fun v107 =>
      some (.tuple #[v107, .int .i64 n105], r95.2.2)))) (
    (lf 18 [l', ptr st.next 0, ptr st1.next 0, .int .i64 0] r85.2).bind fun r108 =>
    cond (Nat.beq r108.1 0) (
     (r108.2.1[0]?).bind fun v109 =>
     (r108.2.1[1]?).bind fun v110 =>
     (addr? v110).bind fun p111 =>
     (r108.2.2.ldN p111.1 p111.2 5).bind fun v112 =>
     (addr? v109).bind fun p113 =>
     (r108.2.2.stV p113.1 p113.2 5 v112).bind fun st114 =>
     (addr? v109).bind fun p115 =>
     (st114.rdN p115.1 p115.2 5).bind fun v116 =>
     some (.tuple #[v116, .int .i64 (-1)], st114)) (
     (r108.2.1[0]?).bind fun v117 =>
     ((r108.2.1[1]?).bind (asI .i64)).bind fun n118 =>
     (addr? v117).bind fun p119 =>
     (r108.2.2.rdN p119.1 p119.2 5).bind fun v120 =>
     some (.tuple #[v120, .int .i64 n118], r108.2.2))))
theorem camshaftref16_Read_sh (cf : CallS) (lf : LoopS) (l' : Value) (st : SS) : bodyS Tryd.prog Lk0 cf lf li_camshaftref16_Read Tryd.f32 false [l'] st = camshaftref16_Read cf lf l' st := by kernel_rfl
noncomputable abbrev camshaftref16_Read_lf : LoopS := lS Tryd.prog Lk0 Tryd.f32 li_camshaftref16_Read
theorem camshaftref16_Read_fn : Lk0.func 32 = some (32, Tryd.f32) := by kernel_rfl
theorem camshaftref16_Read_eq [Sym] (l' : Value) (st : SS) {r : Value × SS} (h : camshaftref16_Read cc camshaftref16_Read_lf l' st = some r) : cc 32 [l'] st = some r :=
  body_sound Lk0_ok Lk0_S camshaftref16_Read_fn rfl (fun _ => rfl) ((camshaftref16_Read_sh _ _ l' st).trans h)
noncomputable def camshaftref16_Read_l11 (cf : CallS) (lf : LoopS) (l' : Value) (t2' : Value) (x' : Value) (i' : Int) (st : SS) : Option (Nat × List Value × SS) :=
  (elemS l' i' 5).bind fun p1 =>
  ((st.ld p1.1 p1.2).bind (asI .i64)).bind fun n2 =>
  cond (!(decide (n2 = 0))) (
   (cf 51 [l', .int .i64 i'] st).bind fun r3 =>
   (tupG r3.1 0).bind fun v4 =>
   ((tupG r3.1 1).bind (asI .i64)).bind fun n5 =>
   let st6 : SS := r3.2.new (.cells [.string ⟨#[]⟩, .int .i64 0, .int .i64 0] 0)
   (st6.stV r3.2.next 0 3 v4).bind fun st7 =>
   cond (decide (n5 < 0)) (
    (addr? x').bind fun p8 =>
    (st7.ldN p8.1 p8.2 5).bind fun v9 =>
    let n10 : Int := IntKind.wrap .i64 (i' - n5)
    let n11 : Int := IntKind.wrap .i64 (n10 - 1)
    (addr? t2').bind fun p12 =>
    (st7.stV p12.1 p12.2 5 v9).bind fun st13 =>
    some (1, [t2', .int .i64 n11], st13)) (
    (addr? x').bind fun p14 =>
    (st7.ld p14.1 (p14.2 + 3)).bind fun v15 =>
    (st7.ldN r3.2.next 0 3).bind fun v16 =>
    (cellsN v16 3).bind fun c17 =>
    let st18 : SS := st7.new (.cells (c17 ++ ([])) 3)
    (st18.app 3 32 v15 (.slice (some ⟨st7.next, 0, none⟩) 1 1)).bind fun r19 =>
    (addr? x').bind fun p20 =>
    (r19.2.stV p20.1 (p20.2 + 3) 1 r19.1).bind fun st21 =>
    let n22 : Int := IntKind.wrap .i64 (i' + n5)
    lf 11 [l', t2', x', .int .i64 n22] st21)) (
   some (0, [t2', x'], st))
theorem camshaftref16_Read_l11_sh (cf : CallS) (lf : LoopS) (l' : Value) (t2' : Value) (x' : Value) (i' : Int) (st : SS) : loopS Tryd.prog Lk0 cf lf li_camshaftref16_Read (loopC Tryd.f32 11) I_camshaftref16_Read_11 Tryd.f32.ntmps [l', t2', x', .int .i64 i'] st = camshaftref16_Read_l11 cf lf l' t2' x' i' st := by kernel_rfl
theorem camshaftref16_Read_l11_eq [Sym] (l' : Value) (t2' : Value) (x' : Value) (i' : Int) (st : SS) {r : Nat × List Value × SS} (h : camshaftref16_Read_l11 cc camshaftref16_Read_lf l' t2' x' i' st = some r) : camshaftref16_Read_lf 11 [l', t2', x', .int .i64 i'] st = some r :=
  loop_sound Lk0_ok Lk0_S (key := 11) (I := I_camshaftref16_Read_11) rfl (by kernel_rfl) (by kernel_rfl) rfl rfl ((camshaftref16_Read_l11_sh _ _ l' t2' x' i' st).trans h)
noncomputable def camshaftref16_Read_l18 (cf : CallS) (lf : LoopS) (l' : Value) (t2' : Value) (x' : Value) (i' : Int) (st : SS) : Option (Nat × List Value × SS) :=
  (elemS l' i' 5).bind fun p1 =>
  ((st.ld p1.1 p1.2).bind (asI .i64)).bind fun n2 =>
  cond (!(decide (n2 = 0))) (
   (addr? x').bind fun p3 =>
   (st.ld p3.1 (p3.2 + 4)).bind fun v4 =>
   ((lenV v4).bind (asI .i64)).bind fun n5 =>
   (lf 21 [l', t2', x', .int .i64 i', .bool false, v4, .int .i64 n5, .int .i64 0] st).bind fun r6 =>
   (r6.2.1[0]?).bind fun v7 =>
   (r6.2.1[1]?).bind fun v8 =>
   (r6.2.1[2]?).bind fun v9 =>
   ((r6.2.1[3]?).bind (asI .i64)).bind fun n10 =>
   ((r6.2.1[4]?).bind asB).bind fun b11 =>
   (elemS v7 n10 5).bind fun p12 =>
   ((r6.2.2.ld p12.1 p12.2).bind (asI .i64)).bind fun n13 =>
   cond (!(decide (n13 = 1))) (
    (addr? v9).bind fun p14 =>
    (r6.2.2.ldN p14.1 p14.2 5).bind fun v15 =>
    (addr? v8).bind fun p16 =>
    (r6.2.2.stV p16.1 p16.2 5 v15).bind fun st17 =>
    some (1, [v8, .int .i64 n10], st17)) (
    cond b11 (
     (addr? v9).bind fun p18 =>
     (r6.2.2.ldN p18.1 p18.2 5).bind fun v19 =>
     (addr? v8).bind fun p20 =>
     (r6.2.2.stV p20.1 p20.2 5 v19).bind fun st21 =>
     some (1, [v8, .int .i64 n10], st21)) (
     let n22 : Int := IntKind.wrap .i64 (n10 + 1)
     (cf 50 [v7, .int .i64 n22, .int .i64 3, .string ⟨#[61]⟩] r6.2.2).bind fun r23 =>
     ((some r23.1).bind asB).bind fun b24 =>
     cond (!b24) (
      (addr? v9).bind fun p25 =>
      (r23.2.ldN p25.1 p25.2 5).bind fun v26 =>
      let n27 : Int := IntKind.wrap .i64 (n10 + 1)
      (addr? v8).bind fun p28 =>
      (r23.2.stV p28.1 p28.2 5 v26).bind fun st29 =>
      some (1, [v8, .int .i64 n27], st29)) (
      let n30 : Int := IntKind.wrap .i64 (n10 + 2)
      (cf 51 [v7, .int .i64 n30] r23.2).bind fun r31 =>
      (tupG r31.1 0).bind fun v32 =>
      ((tupG r31.1 1).bind (asI .i64)).bind fun n33 =>
      let st34 : SS := r31.2.new (.cells [.string ⟨#[]⟩, .int .i64 0, .int .i64 0] 0)
      (st34.stV r31.2.next 0 3 v32).bind fun st35 =>
      cond (decide (n33 < 0)) (
       (addr? v9).bind fun p36 =>
       (st35.ldN p36.1 p36.2 5).bind fun v37 =>
       let n38 : Int := IntKind.wrap .i64 (n10 + 2)
       let n39 : Int := IntKind.wrap .i64 (n38 - n33)
       let n40 : Int := IntKind.wrap .i64 (n39 - 1)
       (addr? v8).bind fun p41 =>
       (st35.stV p41.1 p41.2 5 v37).bind fun st42 =>
       some (1, [v8, .int .i64 n40], st42)) (
       (addr? v9).bind fun p43 =>
       (st35.ld p43.1 (p43.2 + 4)).bind fun v44 =>
       (elemS v7 n10 5).bind fun p45 =>
       ((st35.ld p45.1 (p45.2 + 1)).bind asS).bind fun s46 =>
       (elemS v7 n10 5).bind fun p47 =>
       ((st35.ld p47.1 (p47.2 + 4)).bind (asI .i64)).bind fun n48 =>
       (st35.ldN r31.2.next 0 3).bind fun v49 =>
       (cellsN v49 3).bind fun c50 =>
       (cellsN (.agg ⟨spl [.string s46, .int .i64 n48, .string ⟨#[]⟩, .int .i64 0, .int .i64 0] 2 c50⟩) 5).bind fun c51 =>
       let st52 : SS := st35.new (.cells (c51 ++ ([])) 5)
       (st52.app 5 56 v44 (.slice (some ⟨st35.next, 0, none⟩) 1 1)).bind fun r53 =>
       (addr? v9).bind fun p54 =>
       (r53.2.stV p54.1 (p54.2 + 4) 1 r53.1).bind fun st55 =>
       let n56 : Int := IntKind.wrap .i64 (n10 + 2)
       let n57 : Int := IntKind.wrap .i64 (n56 + n33)
       lf 18 [v7, v8, v9, .int .i64 n57] st55))))) (
   some (0, [t2', x'], st))
theorem camshaftref16_Read_l18_sh (cf : CallS) (lf : LoopS) (l' : Value) (t2' : Value) (x' : Value) (i' : Int) (st : SS) : loopS Tryd.prog Lk0 cf lf li_camshaftref16_Read (loopC Tryd.f32 18) I_camshaftref16_Read_18 Tryd.f32.ntmps [l', t2', x', .int .i64 i'] st = camshaftref16_Read_l18 cf lf l' t2' x' i' st := by kernel_rfl
theorem camshaftref16_Read_l18_eq [Sym] (l' : Value) (t2' : Value) (x' : Value) (i' : Int) (st : SS) {r : Nat × List Value × SS} (h : camshaftref16_Read_l18 cc camshaftref16_Read_lf l' t2' x' i' st = some r) : camshaftref16_Read_lf 18 [l', t2', x', .int .i64 i'] st = some r :=
  loop_sound Lk0_ok Lk0_S (key := 18) (I := I_camshaftref16_Read_18) rfl (by kernel_rfl) (by kernel_rfl) rfl rfl ((camshaftref16_Read_l18_sh _ _ l' t2' x' i' st).trans h)
noncomputable def camshaftref16_Read_l21 (cf : CallS) (lf : LoopS) (l' : Value) (t2' : Value) (x' : Value) (i' : Int) (known' : Bool) (t90' : Value) (t91' : Int) (t92' : Int) (st : SS) : Option (Nat × List Value × SS) :=
  cond (decide (t92' < t91')) (
   (elemS t90' t92' 5).bind fun p1 =>
   (st.ldN p1.1 p1.2 5).bind fun v2 =>
   let st3 : SS := st.new (.cells [.string ⟨#[]⟩, .int .i64 0, .string ⟨#[]⟩, .int .i64 0, .int .i64 0] 0)
   (st3.stV st.next 0 5 v2).bind fun st4 =>
   cond known' (
    let n5 : Int := IntKind.wrap .i64 (t92' + 1)
    lf 21 [l', t2', x', .int .i64 i', .bool true, t90', .int .i64 t91', .int .i64 n5] st4) (
    ((st4.ld st.next 0).bind asS).bind fun s6 =>
    (elemS l' i' 5).bind fun p7 =>
    ((st4.ld p7.1 (p7.2 + 1)).bind asS).bind fun s8 =>
    let n9 : Int := IntKind.wrap .i64 (t92' + 1)
    lf 21 [l', t2', x', .int .i64 i', .bool (eqT s6 s8), t90', .int .i64 t91', .int .i64 n9] st4)) (
   some (0, [l', t2', x', .int .i64 i', .bool known'], st))
theorem camshaftref16_Read_l21_sh (cf : CallS) (lf : LoopS) (l' : Value) (t2' : Value) (x' : Value) (i' : Int) (known' : Bool) (t90' : Value) (t91' : Int) (t92' : Int) (st : SS) : loopS Tryd.prog Lk0 cf lf li_camshaftref16_Read (loopC Tryd.f32 21) I_camshaftref16_Read_21 Tryd.f32.ntmps [l', t2', x', .int .i64 i', .bool known', t90', .int .i64 t91', .int .i64 t92'] st = camshaftref16_Read_l21 cf lf l' t2' x' i' known' t90' t91' t92' st := by kernel_rfl
theorem camshaftref16_Read_l21_eq [Sym] (l' : Value) (t2' : Value) (x' : Value) (i' : Int) (known' : Bool) (t90' : Value) (t91' : Int) (t92' : Int) (st : SS) {r : Nat × List Value × SS} (h : camshaftref16_Read_l21 cc camshaftref16_Read_lf l' t2' x' i' known' t90' t91' t92' st = some r) : camshaftref16_Read_lf 21 [l', t2', x', .int .i64 i', .bool known', t90', .int .i64 t91', .int .i64 t92'] st = some r :=
  loop_sound Lk0_ok Lk0_S (key := 21) (I := I_camshaftref16_Read_21) rfl (by kernel_rfl) (by kernel_rfl) rfl rfl ((camshaftref16_Read_l21_sh _ _ l' t2' x' i' known' t90' t91' t92' st).trans h)
def I_camshaftref16_Parse_6 : LoopI := ⟨[(3, .any), (6, .any), (23, .any), (24, .int .i64), (25, .int .i64)], [(.exit 0, [(3, .any), (6, .any)]), (.ret, [(2, .any), (3, .any)])]⟩
def li_camshaftref16_Parse (n : Nat) : Option LoopI := cond (Nat.beq n 6) (some I_camshaftref16_Parse_6) (none)
noncomputable def camshaftref16_Parse (cf : CallS) (lf : LoopS) (text' : ByteArray) (st : SS) : Option (Value × SS) :=
  let st1 : SS := st.new (.cells [.int .i64 0, .int .i64 0] 0)
  (cf 16 [.string text'] st1).bind fun r2 =>
  (tupG r2.1 0).bind fun v3 =>
  (tupG r2.1 1).bind fun v4 =>
  let st5 : SS := r2.2.new (.cells [.int .i64 0, .int .i64 0] 0)
  (st5.stV r2.2.next 0 2 v4).bind fun st6 =>
  (elemA (ptr r2.2.next 0) 2 0 1).bind fun p7 =>
  ((st6.ld p7.1 p7.2).bind (asI .i64)).bind fun n8 =>
  cond (decide (0 < n8)) (
   (st6.ldN r2.2.next 0 2).bind fun v9 =>
   (st6.stV st.next 0 2 v9).bind fun st10 =>
   (st10.rdN st.next 0 2).bind fun v11 =>
   some (.tuple #[.slice none 0 0, v11], st10)) (
   (cf 18 [.string text', .int .u8 10] st6).bind fun r12 =>
   ((lenV r12.1).bind (asI .i64)).bind fun n13 =>
   (lf 6 [ptr st.next 0, .slice none 0 0, r12.1, .int .i64 n13, .int .i64 0] r12.2).bind fun r14 =>
   cond (Nat.beq r14.1 0) (
    (r14.2.1[0]?).bind fun v15 =>
    (r14.2.1[1]?).bind fun v16 =>
    (addr? v15).bind fun p17 =>
    (r14.2.2.st p17.1 p17.2 [.int .i64 0, .int .i64 0]).bind fun st18 =>
    (addr? v15).bind fun p19 =>
    (st18.rdN p19.1 p19.2 2).bind fun v20 =>
    some (.tuple #[v16, v20], st18)) (
    (r14.2.1[0]?).bind fun v21 =>
    (r14.2.1[1]?).bind fun v22 =>
    (addr? v22).bind fun p23 =>
    (r14.2.2.rdN p23.1 p23.2 2).bind fun v24 =>
    some (.tuple #[v21, v24], r14.2.2)))
theorem camshaftref16_Parse_sh (cf : CallS) (lf : LoopS) (text' : ByteArray) (st : SS) : bodyS Tryd.prog Lk0 cf lf li_camshaftref16_Parse Tryd.f21 false [.string text'] st = camshaftref16_Parse cf lf text' st := by kernel_rfl
noncomputable abbrev camshaftref16_Parse_lf : LoopS := lS Tryd.prog Lk0 Tryd.f21 li_camshaftref16_Parse
theorem camshaftref16_Parse_fn : Lk0.func 21 = some (21, Tryd.f21) := by kernel_rfl
theorem camshaftref16_Parse_eq [Sym] (text' : ByteArray) (st : SS) {r : Value × SS} (h : camshaftref16_Parse cc camshaftref16_Parse_lf text' st = some r) : cc 21 [.string text'] st = some r :=
  body_sound Lk0_ok Lk0_S camshaftref16_Parse_fn rfl (fun _ => rfl) ((camshaftref16_Parse_sh _ _ text' st).trans h)
noncomputable def camshaftref16_Parse_l6 (cf : CallS) (lf : LoopS) (t3' : Value) (out' : Value) (t23' : Value) (t24' : Int) (t25' : Int) (st : SS) : Option (Nat × List Value × SS) :=
  cond (decide (t25' < t24')) (
   (elemS t23' t25' 1).bind fun p1 =>
   ((st.ld p1.1 p1.2).bind asS).bind fun s2 =>
   let n3 : Int := IntKind.wrap .i64 (t25' + 1)
   (cf 29 [.string s2, .int .i64 n3] st).bind fun r4 =>
   (tupG r4.1 0).bind fun v5 =>
   ((tupG r4.1 1).bind (asI .i64)).bind fun n6 =>
   (cf 32 [v5] r4.2).bind fun r7 =>
   (tupG r7.1 0).bind fun v8 =>
   ((tupG r7.1 1).bind (asI .i64)).bind fun n9 =>
   let st10 : SS := r7.2.new (.cells [.int .i64 0, .string ⟨#[]⟩, .string ⟨#[]⟩, .slice none 0 0, .slice none 0 0] 0)
   (st10.stV r7.2.next 0 5 v8).bind fun st11 =>
   cond (decide (0 ≤ n9)) (
    let n12 : Int := IntKind.wrap .i64 (t25' + 1)
    (elemS v5 n9 5).bind fun p13 =>
    ((st11.ld p13.1 (p13.2 + 4)).bind (asI .i64)).bind fun n14 =>
    (addr? t3').bind fun p15 =>
    (st11.st p15.1 p15.2 [.int .i64 n12, .int .i64 n14]).bind fun st16 =>
    some (1, [.slice none 0 0, t3'], st16)) (
    ((lenV v5).bind (asI .i64)).bind fun n17 =>
    cond (decide (1 < n17)) (
     (st11.ldN r7.2.next 0 5).bind fun v18 =>
     (cellsN v18 5).bind fun c19 =>
     let st20 : SS := st11.new (.cells (c19 ++ ([])) 5)
     (st20.app 5 88 out' (.slice (some ⟨st11.next, 0, none⟩) 1 1)).bind fun r21 =>
     let n22 : Int := IntKind.wrap .i64 (t25' + 1)
     lf 6 [t3', r21.1, t23', .int .i64 t24', .int .i64 n22] r21.2) (
     let n23 : Int := IntKind.wrap .i64 (t25' + 1)
     lf 6 [t3', out', t23', .int .i64 t24', .int .i64 n23] st11))) (
   some (0, [t3', out'], st))
theorem camshaftref16_Parse_l6_sh (cf : CallS) (lf : LoopS) (t3' : Value) (out' : Value) (t23' : Value) (t24' : Int) (t25' : Int) (st : SS) : loopS Tryd.prog Lk0 cf lf li_camshaftref16_Parse (loopC Tryd.f21 6) I_camshaftref16_Parse_6 Tryd.f21.ntmps [t3', out', t23', .int .i64 t24', .int .i64 t25'] st = camshaftref16_Parse_l6 cf lf t3' out' t23' t24' t25' st := by kernel_rfl
theorem camshaftref16_Parse_l6_eq [Sym] (t3' : Value) (out' : Value) (t23' : Value) (t24' : Int) (t25' : Int) (st : SS) {r : Nat × List Value × SS} (h : camshaftref16_Parse_l6 cc camshaftref16_Parse_lf t3' out' t23' t24' t25' st = some r) : camshaftref16_Parse_lf 6 [t3', out', t23', .int .i64 t24', .int .i64 t25'] st = some r :=
  loop_sound Lk0_ok Lk0_S (key := 6) (I := I_camshaftref16_Parse_6) rfl (by kernel_rfl) (by kernel_rfl) rfl rfl ((camshaftref16_Parse_l6_sh _ _ t3' out' t23' t24' t25' st).trans h)
def I_camshaftref16_Same_11 : LoopI := ⟨[(2, .bool), (4, .any), (90, .any), (91, .int .i64), (92, .int .i64)], [(.exit 2, []), (.ret, [(6, .bool)])]⟩
def I_camshaftref16_Same_4 : LoopI := ⟨[(2, .bool), (3, .any), (4, .any), (54, .any), (55, .int .i64), (56, .int .i64)], [(.exit 0, [(2, .bool), (3, .any), (4, .any)]), (.ret, [(6, .bool)])]⟩
def li_camshaftref16_Same (n : Nat) : Option LoopI := cond (Nat.beq n 4) (some I_camshaftref16_Same_4) (cond (Nat.beq n 11) (some I_camshaftref16_Same_11) (none))
noncomputable def camshaftref16_Same (cf : CallS) (lf : LoopS) (a' : Value) (b' : Value) (places' : Bool) (st : SS) : Option (Value × SS) :=
  let st1 : SS := (st.ro st.next).new (.cells (a' : Value).cells.toList 0)
  let st2 : SS := st1.new (.cells (b' : Value).cells.toList 0)
  cond places' (
   ((st2.ld ((st.ro st.next).next) 0).bind (asI .i64)).bind fun n3 =>
   ((st2.ld st1.next 0).bind (asI .i64)).bind fun n4 =>
   cond (!(decide (n3 = n4))) (
    some (.bool false, st.adv st2.next)) (
    ((st2.ld ((st.ro st.next).next) 1).bind asS).bind fun s5 =>
    ((st2.ld st1.next 1).bind asS).bind fun s6 =>
    cond (!(eqT s5 s6)) (
     some (.bool false, st.adv st2.next)) (
     ((st2.ld ((st.ro st.next).next) 2).bind asS).bind fun s7 =>
     ((st2.ld st1.next 2).bind asS).bind fun s8 =>
     cond (!(eqT s7 s8)) (
      some (.bool false, st.adv st2.next)) (
      (st2.ld ((st.ro st.next).next) 3).bind fun v9 =>
      ((lenV v9).bind (asI .i64)).bind fun n10 =>
      (st2.ld st1.next 3).bind fun v11 =>
      ((lenV v11).bind (asI .i64)).bind fun n12 =>
      cond (!(decide (n10 = n12))) (
       some (.bool false, st.adv st2.next)) (
       (st2.ld ((st.ro st.next).next) 4).bind fun v13 =>
       ((lenV v13).bind (asI .i64)).bind fun n14 =>
       (st2.ld st1.next 4).bind fun v15 =>
       ((lenV v15).bind (asI .i64)).bind fun n16 =>
       cond (!(decide (n14 = n16))) (
        some (.bool false, st.adv st2.next)) (
        (st2.ld ((st.ro st.next).next) 3).bind fun v17 =>
        ((lenV v17).bind (asI .i64)).bind fun n18 =>
        (lf 4 [.bool places', ptr ((st.ro st.next).next) 0, ptr st1.next 0, v17, .int .i64 n18, .int .i64 0] st2).bind fun r19 =>
        cond (Nat.beq r19.1 0) (
         ((r19.2.1[0]?).bind asB).bind fun b20 =>
         (r19.2.1[1]?).bind fun v21 =>
         (r19.2.1[2]?).bind fun v22 =>
         (addr? v21).bind fun p23 =>
         (r19.2.2.ld p23.1 (p23.2 + 4)).bind fun v24 =>
         ((lenV v24).bind (asI .i64)).bind fun n25 =>
         (lf 11 [.bool b20, v22, v24, .int .i64 n25, .int .i64 0] r19.2.2).bind fun r26 =>
         cond (Nat.beq r26.1 0) (
          some (.bool true, st.adv r26.2.2.next)) (
          ((r26.2.1[0]?).bind asB).bind fun b27 =>
          some (.bool b27, st.adv r26.2.2.next))) (
         ((r19.2.1[0]?).bind asB).bind fun b28 =>
         some (.bool b28, st.adv r19.2.2.next)))))))) (
   ((st2.ld ((st.ro st.next).next) 1).bind asS).bind fun s29 =>
   ((st2.ld st1.next 1).bind asS).bind fun s30 =>
   cond (!(eqT s29 s30)) (
    some (.bool false, st.adv st2.next)) (
    ((st2.ld ((st.ro st.next).next) 2).bind asS).bind fun s31 =>
    ((st2.ld st1.next 2).bind asS).bind fun s32 =>
    cond (!(eqT s31 s32)) (
     some (.bool false, st.adv st2.next)) (
     (st2.ld ((st.ro st.next).next) 3).bind fun v33 =>
     ((lenV v33).bind (asI .i64)).bind fun n34 =>
     (st2.ld st1.next 3).bind fun v35 =>
     ((lenV v35).bind (asI .i64)).bind fun n36 =>
     cond (!(decide (n34 = n36))) (
      some (.bool false, st.adv st2.next)) (
      (st2.ld ((st.ro st.next).next) 4).bind fun v37 =>
      ((lenV v37).bind (asI .i64)).bind fun n38 =>
      (st2.ld st1.next 4).bind fun v39 =>
      ((lenV v39).bind (asI .i64)).bind fun n40 =>
      cond (!(decide (n38 = n40))) (
       some (.bool false, st.adv st2.next)) (
       (st2.ld ((st.ro st.next).next) 3).bind fun v41 =>
       ((lenV v41).bind (asI .i64)).bind fun n42 =>
       (lf 4 [.bool places', ptr ((st.ro st.next).next) 0, ptr st1.next 0, v41, .int .i64 n42, .int .i64 0] st2).bind fun r43 =>
       cond (Nat.beq r43.1 0) (
        ((r43.2.1[0]?).bind asB).bind fun b44 =>
        (r43.2.1[1]?).bind fun v45 =>
        (r43.2.1[2]?).bind fun v46 =>
        (addr? v45).bind fun p47 =>
        (r43.2.2.ld p47.1 (p47.2 + 4)).bind fun v48 =>
        ((lenV v48).bind (asI .i64)).bind fun n49 =>
        (lf 11 [.bool b44, v46, v48, .int .i64 n49, .int .i64 0] r43.2.2).bind fun r50 =>
        cond (Nat.beq r50.1 0) (
         some (.bool true, st.adv r50.2.2.next)) (
         ((r50.2.1[0]?).bind asB).bind fun b51 =>
         some (.bool b51, st.adv r50.2.2.next))) (
        ((r43.2.1[0]?).bind asB).bind fun b52 =>
        some (.bool b52, st.adv r43.2.2.next)))))))
theorem camshaftref16_Same_sh (cf : CallS) (lf : LoopS) (a' : Value) (b' : Value) (places' : Bool) (st : SS) : bodyS Tryd.prog Lk0 cf lf li_camshaftref16_Same Tryd.f22 true [a', b', .bool places'] st = camshaftref16_Same cf lf a' b' places' st := by kernel_rfl
noncomputable abbrev camshaftref16_Same_lf : LoopS := lS Tryd.prog Lk0 Tryd.f22 li_camshaftref16_Same
theorem camshaftref16_Same_fn : Lk0.func 22 = some (22, Tryd.f22) := by kernel_rfl
theorem camshaftref16_Same_eq [Sym] (a' : Value) (b' : Value) (places' : Bool) (st : SS) {r : Value × SS} (h : camshaftref16_Same cc camshaftref16_Same_lf a' b' places' st = some r) : cc 22 [a', b', .bool places'] st = some r :=
  body_sound Lk0_ok Lk0_S camshaftref16_Same_fn rfl (fun _ => rfl) ((camshaftref16_Same_sh _ _ a' b' places' st).trans h)
noncomputable def camshaftref16_Same_l4 (cf : CallS) (lf : LoopS) (places' : Bool) (a' : Value) (b' : Value) (t54' : Value) (t55' : Int) (t56' : Int) (st : SS) : Option (Nat × List Value × SS) :=
  cond (decide (t56' < t55')) (
   (elemS t54' t56' 3).bind fun p1 =>
   (st.ldN p1.1 p1.2 3).bind fun v2 =>
   let st3 : SS := st.new (.cells [.string ⟨#[]⟩, .int .i64 0, .int .i64 0] 0)
   (st3.stV st.next 0 3 v2).bind fun st4 =>
   (addr? b').bind fun p5 =>
   (st4.ld p5.1 (p5.2 + 3)).bind fun v6 =>
   (elemS v6 t56' 3).bind fun p7 =>
   (st4.ldN p7.1 p7.2 3).bind fun v8 =>
   let st9 : SS := st4.new (.cells [.string ⟨#[]⟩, .int .i64 0, .int .i64 0] 0)
   (st9.stV st4.next 0 3 v8).bind fun st10 =>
   ((st10.ld st.next 0).bind asS).bind fun s11 =>
   ((st10.ld st4.next 0).bind asS).bind fun s12 =>
   cond (!(eqT s11 s12)) (
    some (1, [.bool false], st10)) (
    ((st10.ld st.next 1).bind (asI .i64)).bind fun n13 =>
    ((st10.ld st4.next 1).bind (asI .i64)).bind fun n14 =>
    cond (!(decide (n13 = n14))) (
     some (1, [.bool false], st10)) (
     cond places' (
      ((st10.ld st.next 2).bind (asI .i64)).bind fun n15 =>
      ((st10.ld st4.next 2).bind (asI .i64)).bind fun n16 =>
      cond (!(decide (n15 = n16))) (
       some (1, [.bool false], st10)) (
       let n17 : Int := IntKind.wrap .i64 (t56' + 1)
       lf 4 [.bool places', a', b', t54', .int .i64 t55', .int .i64 n17] st10)) (
      let n18 : Int := IntKind.wrap .i64 (t56' + 1)
      lf 4 [.bool places', a', b', t54', .int .i64 t55', .int .i64 n18] st10)))) (
   some (0, [.bool places', a', b'], st))
theorem camshaftref16_Same_l4_sh (cf : CallS) (lf : LoopS) (places' : Bool) (a' : Value) (b' : Value) (t54' : Value) (t55' : Int) (t56' : Int) (st : SS) : loopS Tryd.prog Lk0 cf lf li_camshaftref16_Same (loopC Tryd.f22 4) I_camshaftref16_Same_4 Tryd.f22.ntmps [.bool places', a', b', t54', .int .i64 t55', .int .i64 t56'] st = camshaftref16_Same_l4 cf lf places' a' b' t54' t55' t56' st := by kernel_rfl
theorem camshaftref16_Same_l4_eq [Sym] (places' : Bool) (a' : Value) (b' : Value) (t54' : Value) (t55' : Int) (t56' : Int) (st : SS) {r : Nat × List Value × SS} (h : camshaftref16_Same_l4 cc camshaftref16_Same_lf places' a' b' t54' t55' t56' st = some r) : camshaftref16_Same_lf 4 [.bool places', a', b', t54', .int .i64 t55', .int .i64 t56'] st = some r :=
  loop_sound Lk0_ok Lk0_S (key := 4) (I := I_camshaftref16_Same_4) rfl (by kernel_rfl) (by kernel_rfl) rfl rfl ((camshaftref16_Same_l4_sh _ _ places' a' b' t54' t55' t56' st).trans h)
noncomputable def camshaftref16_Same_l11 (cf : CallS) (lf : LoopS) (places' : Bool) (b' : Value) (t90' : Value) (t91' : Int) (t92' : Int) (st : SS) : Option (Nat × List Value × SS) :=
  cond (decide (t92' < t91')) (
   (elemS t90' t92' 5).bind fun p1 =>
   (st.ldN p1.1 p1.2 5).bind fun v2 =>
   let st3 : SS := st.new (.cells [.string ⟨#[]⟩, .int .i64 0, .string ⟨#[]⟩, .int .i64 0, .int .i64 0] 0)
   (st3.stV st.next 0 5 v2).bind fun st4 =>
   (addr? b').bind fun p5 =>
   (st4.ld p5.1 (p5.2 + 4)).bind fun v6 =>
   (elemS v6 t92' 5).bind fun p7 =>
   (st4.ldN p7.1 p7.2 5).bind fun v8 =>
   let st9 : SS := st4.new (.cells [.string ⟨#[]⟩, .int .i64 0, .string ⟨#[]⟩, .int .i64 0, .int .i64 0] 0)
   (st9.stV st4.next 0 5 v8).bind fun st10 =>
   ((st10.ld st.next 0).bind asS).bind fun s11 =>
   ((st10.ld st4.next 0).bind asS).bind fun s12 =>
   cond (!(eqT s11 s12)) (
    some (1, [.bool false], st10)) (
    ((st10.ld st.next 2).bind asS).bind fun s13 =>
    ((st10.ld st4.next 2).bind asS).bind fun s14 =>
    cond (!(eqT s13 s14)) (
     some (1, [.bool false], st10)) (
     ((st10.ld st.next 3).bind (asI .i64)).bind fun n15 =>
     ((st10.ld st4.next 3).bind (asI .i64)).bind fun n16 =>
     cond (!(decide (n15 = n16))) (
      some (1, [.bool false], st10)) (
      cond places' (
       ((st10.ld st.next 1).bind (asI .i64)).bind fun n17 =>
       ((st10.ld st4.next 1).bind (asI .i64)).bind fun n18 =>
       cond (!(decide (n17 = n18))) (
        some (1, [.bool false], st10)) (
        ((st10.ld st.next 4).bind (asI .i64)).bind fun n19 =>
        ((st10.ld st4.next 4).bind (asI .i64)).bind fun n20 =>
        cond (!(decide (n19 = n20))) (
         some (1, [.bool false], st10)) (
         let n21 : Int := IntKind.wrap .i64 (t92' + 1)
         lf 11 [.bool places', b', t90', .int .i64 t91', .int .i64 n21] st10))) (
       let n22 : Int := IntKind.wrap .i64 (t92' + 1)
       lf 11 [.bool places', b', t90', .int .i64 t91', .int .i64 n22] st10))))) (
   some (0, [], st))
theorem camshaftref16_Same_l11_sh (cf : CallS) (lf : LoopS) (places' : Bool) (b' : Value) (t90' : Value) (t91' : Int) (t92' : Int) (st : SS) : loopS Tryd.prog Lk0 cf lf li_camshaftref16_Same (loopC Tryd.f22 11) I_camshaftref16_Same_11 Tryd.f22.ntmps [.bool places', b', t90', .int .i64 t91', .int .i64 t92'] st = camshaftref16_Same_l11 cf lf places' b' t90' t91' t92' st := by kernel_rfl
theorem camshaftref16_Same_l11_eq [Sym] (places' : Bool) (b' : Value) (t90' : Value) (t91' : Int) (t92' : Int) (st : SS) {r : Nat × List Value × SS} (h : camshaftref16_Same_l11 cc camshaftref16_Same_lf places' b' t90' t91' t92' st = some r) : camshaftref16_Same_lf 11 [.bool places', b', t90', .int .i64 t91', .int .i64 t92'] st = some r :=
  loop_sound Lk0_ok Lk0_S (key := 11) (I := I_camshaftref16_Same_11) rfl (by kernel_rfl) (by kernel_rfl) rfl rfl ((camshaftref16_Same_l11_sh _ _ places' b' t90' t91' t92' st).trans h)
def I_camshaftlaw16_line_8 : LoopI := ⟨[(2, .any), (3, .any), (37, .any), (38, .int .i64), (39, .int .i64)], [(.exit 2, [(2, .any), (3, .any)])]⟩
def I_camshaftlaw16_line_3 : LoopI := ⟨[(1, .any), (2, .any), (3, .any), (17, .any), (18, .int .i64), (19, .int .i64)], [(.exit 0, [(1, .any), (2, .any), (3, .any)])]⟩
def li_camshaftlaw16_line (n : Nat) : Option LoopI := cond (Nat.beq n 3) (some I_camshaftlaw16_line_3) (cond (Nat.beq n 8) (some I_camshaftlaw16_line_8) (none))
noncomputable def camshaftlaw16_line (cf : CallS) (lf : LoopS) (l' : Value) (st : SS) : Option (Value × SS) :=
  let st1 : SS := st.new (.cells (l' : Value).cells.toList 0)
  let st2 : SS := st1.new (.cells [.int .i64 0, .string ⟨#[]⟩, .string ⟨#[]⟩, .slice none 0 0, .slice none 0 0] 0)
  ((st2.ld st.next 0).bind (asI .i64)).bind fun n3 =>
  ((st2.ld st.next 1).bind asS).bind fun s4 =>
  ((st2.ld st.next 2).bind asS).bind fun s5 =>
  let st6 : SS := st2.new (.cells [.int .i64 0, .string ⟨#[]⟩, .string ⟨#[]⟩, .slice none 0 0, .slice none 0 0] 0)
  (st6.st st2.next 0 [.int .i64 n3, .string s4, .string s5, .slice none 0 0, .slice none 0 0]).bind fun st7 =>
  (st7.ld st.next 3).bind fun v8 =>
  ((lenV v8).bind (asI .i64)).bind fun n9 =>
  (lf 3 [ptr st.next 0, ptr st1.next 0, ptr st2.next 0, v8, .int .i64 n9, .int .i64 0] st7).bind fun r10 =>
  (r10.2.1[0]?).bind fun v11 =>
  (r10.2.1[1]?).bind fun v12 =>
  (r10.2.1[2]?).bind fun v13 =>
  (addr? v11).bind fun p14 =>
  (r10.2.2.ld p14.1 (p14.2 + 4)).bind fun v15 =>
  ((lenV v15).bind (asI .i64)).bind fun n16 =>
  (lf 8 [v12, v13, v15, .int .i64 n16, .int .i64 0] r10.2.2).bind fun r17 =>
  (r17.2.1[0]?).bind fun v18 =>
  (r17.2.1[1]?).bind fun v19 =>
  (addr? v19).bind fun p20 =>
  (r17.2.2.ldN p20.1 p20.2 5).bind fun v21 =>
  (addr? v18).bind fun p22 =>
  (r17.2.2.stV p22.1 p22.2 5 v21).bind fun st23 =>
  (addr? v18).bind fun p24 =>
  (st23.rdN p24.1 p24.2 5).bind fun v25 =>
  some (v25, st23)
theorem camshaftlaw16_line_sh (cf : CallS) (lf : LoopS) (l' : Value) (st : SS) : bodyS Tryd.prog Lk0 cf lf li_camshaftlaw16_line Tryd.f23 false [l'] st = camshaftlaw16_line cf lf l' st := by kernel_rfl
noncomputable abbrev camshaftlaw16_line_lf : LoopS := lS Tryd.prog Lk0 Tryd.f23 li_camshaftlaw16_line
theorem camshaftlaw16_line_fn : Lk0.func 23 = some (23, Tryd.f23) := by kernel_rfl
theorem camshaftlaw16_line_eq [Sym] (l' : Value) (st : SS) {r : Value × SS} (h : camshaftlaw16_line cc camshaftlaw16_line_lf l' st = some r) : cc 23 [l'] st = some r :=
  body_sound Lk0_ok Lk0_S camshaftlaw16_line_fn rfl (fun _ => rfl) ((camshaftlaw16_line_sh _ _ l' st).trans h)
noncomputable def camshaftlaw16_line_l3 (cf : CallS) (lf : LoopS) (l' : Value) (t2' : Value) (x' : Value) (t17' : Value) (t18' : Int) (t19' : Int) (st : SS) : Option (Nat × List Value × SS) :=
  cond (decide (t19' < t18')) (
   (elemS t17' t19' 3).bind fun p1 =>
   (st.ldN p1.1 p1.2 3).bind fun v2 =>
   let st3 : SS := st.new (.cells [.string ⟨#[]⟩, .int .i64 0, .int .i64 0] 0)
   (st3.stV st.next 0 3 v2).bind fun st4 =>
   (addr? x').bind fun p5 =>
   (st4.ld p5.1 (p5.2 + 3)).bind fun v6 =>
   ((st4.ld st.next 0).bind asS).bind fun s7 =>
   ((st4.ld st.next 1).bind (asI .i64)).bind fun n8 =>
   ((st4.ld st.next 2).bind (asI .i64)).bind fun n9 =>
   let st10 : SS := st4.new (.cells ([.string s7, .int .i64 n8, .int .i64 n9]) 3)
   (st10.app 3 32 v6 (.slice (some ⟨st4.next, 0, none⟩) 1 1)).bind fun r11 =>
   (addr? x').bind fun p12 =>
   (r11.2.stV p12.1 (p12.2 + 3) 1 r11.1).bind fun st13 =>
   let n14 : Int := IntKind.wrap .i64 (t19' + 1)
   lf 3 [l', t2', x', t17', .int .i64 t18', .int .i64 n14] st13) (
   some (0, [l', t2', x'], st))
theorem camshaftlaw16_line_l3_sh (cf : CallS) (lf : LoopS) (l' : Value) (t2' : Value) (x' : Value) (t17' : Value) (t18' : Int) (t19' : Int) (st : SS) : loopS Tryd.prog Lk0 cf lf li_camshaftlaw16_line (loopC Tryd.f23 3) I_camshaftlaw16_line_3 Tryd.f23.ntmps [l', t2', x', t17', .int .i64 t18', .int .i64 t19'] st = camshaftlaw16_line_l3 cf lf l' t2' x' t17' t18' t19' st := by kernel_rfl
theorem camshaftlaw16_line_l3_eq [Sym] (l' : Value) (t2' : Value) (x' : Value) (t17' : Value) (t18' : Int) (t19' : Int) (st : SS) {r : Nat × List Value × SS} (h : camshaftlaw16_line_l3 cc camshaftlaw16_line_lf l' t2' x' t17' t18' t19' st = some r) : camshaftlaw16_line_lf 3 [l', t2', x', t17', .int .i64 t18', .int .i64 t19'] st = some r :=
  loop_sound Lk0_ok Lk0_S (key := 3) (I := I_camshaftlaw16_line_3) rfl (by kernel_rfl) (by kernel_rfl) rfl rfl ((camshaftlaw16_line_l3_sh _ _ l' t2' x' t17' t18' t19' st).trans h)
noncomputable def camshaftlaw16_line_l8 (cf : CallS) (lf : LoopS) (t2' : Value) (x' : Value) (t37' : Value) (t38' : Int) (t39' : Int) (st : SS) : Option (Nat × List Value × SS) :=
  cond (decide (t39' < t38')) (
   (elemS t37' t39' 5).bind fun p1 =>
   (st.ldN p1.1 p1.2 5).bind fun v2 =>
   let st3 : SS := st.new (.cells [.string ⟨#[]⟩, .int .i64 0, .string ⟨#[]⟩, .int .i64 0, .int .i64 0] 0)
   (st3.stV st.next 0 5 v2).bind fun st4 =>
   ((st4.ld st.next 2).bind asS).bind fun s5 =>
   ((st4.ld st.next 3).bind (asI .i64)).bind fun n6 =>
   ((st4.ld st.next 4).bind (asI .i64)).bind fun n7 =>
   let st8 : SS := st4.new (.cells [.string ⟨#[]⟩, .int .i64 0, .int .i64 0] 0)
   (st8.st st4.next 0 [.string s5, .int .i64 n6, .int .i64 n7]).bind fun st9 =>
   (addr? x').bind fun p10 =>
   (st9.ld p10.1 (p10.2 + 4)).bind fun v11 =>
   ((st9.ld st.next 0).bind asS).bind fun s12 =>
   ((st9.ld st.next 1).bind (asI .i64)).bind fun n13 =>
   (st9.ldN st4.next 0 3).bind fun v14 =>
   (cellsN v14 3).bind fun c15 =>
   (cellsN (.agg ⟨spl [.string s12, .int .i64 n13, .string ⟨#[]⟩, .int .i64 0, .int .i64 0] 2 c15⟩) 5).bind fun c16 =>
   let st17 : SS := st9.new (.cells (c16 ++ ([])) 5)
   (st17.app 5 56 v11 (.slice (some ⟨st9.next, 0, none⟩) 1 1)).bind fun r18 =>
   (addr? x').bind fun p19 =>
   (r18.2.stV p19.1 (p19.2 + 4) 1 r18.1).bind fun st20 =>
   let n21 : Int := IntKind.wrap .i64 (t39' + 1)
   lf 8 [t2', x', t37', .int .i64 t38', .int .i64 n21] st20) (
   some (0, [t2', x'], st))
theorem camshaftlaw16_line_l8_sh (cf : CallS) (lf : LoopS) (t2' : Value) (x' : Value) (t37' : Value) (t38' : Int) (t39' : Int) (st : SS) : loopS Tryd.prog Lk0 cf lf li_camshaftlaw16_line (loopC Tryd.f23 8) I_camshaftlaw16_line_8 Tryd.f23.ntmps [t2', x', t37', .int .i64 t38', .int .i64 t39'] st = camshaftlaw16_line_l8 cf lf t2' x' t37' t38' t39' st := by kernel_rfl
theorem camshaftlaw16_line_l8_eq [Sym] (t2' : Value) (x' : Value) (t37' : Value) (t38' : Int) (t39' : Int) (st : SS) {r : Nat × List Value × SS} (h : camshaftlaw16_line_l8 cc camshaftlaw16_line_lf t2' x' t37' t38' t39' st = some r) : camshaftlaw16_line_lf 8 [t2', x', t37', .int .i64 t38', .int .i64 t39'] st = some r :=
  loop_sound Lk0_ok Lk0_S (key := 8) (I := I_camshaftlaw16_line_8) rfl (by kernel_rfl) (by kernel_rfl) rfl rfl ((camshaftlaw16_line_l8_sh _ _ t2' x' t37' t38' t39' st).trans h)
end Go.Proofs.YthngaoncjpgeiaaDoorE
