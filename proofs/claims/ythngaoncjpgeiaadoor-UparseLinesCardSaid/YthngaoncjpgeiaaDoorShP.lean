/- Shallow texts of functions, printed by a program and compared by the kernel. -/
import Derived.Test.YthngaoncjpgeiaaDoorPar1
set_option linter.unusedVariables false
set_option linter.unusedSimpArgs false
set_option maxRecDepth 20000
namespace Go.Proofs.YthngaoncjpgeiaaDoorE
open Go Go.E Go.Proofs
noncomputable def uparse_parser_now (cf : CallS) (lf : LoopS) (p' : Value) (st : SS) : Option (Value × SS) :=
  let st1 : SS := (st.ro st.next).new (.cells [.int .i64 0, .string ⟨#[]⟩, .int .i64 0, .int .i64 0, .int .i64 0] 0)
  (nilC p').bind fun v2 =>
  (addr? v2).bind fun p3 =>
  (st1.ld p3.1 p3.2).bind fun v4 =>
  (nilC p').bind fun v5 =>
  (addr? v5).bind fun p6 =>
  ((st1.ld p6.1 (p6.2 + 1)).bind (asI .i64)).bind fun n7 =>
  (elemS v4 n7 5).bind fun p8 =>
  (st1.ldN p8.1 p8.2 5).bind fun v9 =>
  (st1.stV ((st.ro st.next).next) 0 5 v9).bind fun st10 =>
  (st10.rdN ((st.ro st.next).next) 0 5).bind fun v11 =>
  cond (flat3 v11) (some (v11, st.adv st10.next)) none
theorem uparse_parser_now_sh (cf : CallS) (lf : LoopS) (p' : Value) (st : SS) : bodyS Tryd.prog Lk0 cf lf noLi Tryd.f31 true [p'] st = uparse_parser_now cf lf p' st := by kernel_rfl
noncomputable abbrev uparse_parser_now_lf : LoopS := lS Tryd.prog Lk0 Tryd.f31 noLi
theorem uparse_parser_now_fn : Lk0.func 31 = some (31, Tryd.f31) := by kernel_rfl
theorem uparse_parser_now_eq [Sym] (p' : Value) (st : SS) {r : Value × SS} (h : uparse_parser_now cc uparse_parser_now_lf p' st = some r) : cc 31 [p'] st = some r :=
  body_sound Lk0_ok Lk0_S uparse_parser_now_fn rfl (fun _ => rfl) ((uparse_parser_now_sh _ _ p' st).trans h)
noncomputable def uparse_parser_next (cf : CallS) (lf : LoopS) (p' : Value) (st : SS) : Option (Value × SS) :=
  let st1 : SS := (st.ro st.next).new (.cells [.int .i64 0, .string ⟨#[]⟩, .int .i64 0, .int .i64 0, .int .i64 0] 0)
  (cf 31 [p'] st1).bind fun r2 =>
  ((fldG Lk0 36 0 r2.1).bind (asI .i64)).bind fun n3 =>
  cond (decide (n3 = 0)) (
   (cf 31 [p'] r2.2).bind fun r4 =>
   (r4.2.stV ((st.ro st.next).next) 0 5 r4.1).bind fun st5 =>
   (st5.rdN ((st.ro st.next).next) 0 5).bind fun v6 =>
   cond (flat3 v6) (some (v6, st.adv st5.next)) none) (
   (nilC p').bind fun v7 =>
   (addr? v7).bind fun p8 =>
   (r2.2.ld p8.1 p8.2).bind fun v9 =>
   (nilC p').bind fun v10 =>
   (addr? v10).bind fun p11 =>
   ((r2.2.ld p11.1 (p11.2 + 1)).bind (asI .i64)).bind fun n12 =>
   let n13 : Int := IntKind.wrap .i64 (n12 + 1)
   (elemS v9 n13 5).bind fun p14 =>
   (r2.2.ldN p14.1 p14.2 5).bind fun v15 =>
   (r2.2.stV ((st.ro st.next).next) 0 5 v15).bind fun st16 =>
   (st16.rdN ((st.ro st.next).next) 0 5).bind fun v17 =>
   cond (flat3 v17) (some (v17, st.adv st16.next)) none)
theorem uparse_parser_next_sh (cf : CallS) (lf : LoopS) (p' : Value) (st : SS) : bodyS Tryd.prog Lk0 cf lf noLi Tryd.f45 true [p'] st = uparse_parser_next cf lf p' st := by kernel_rfl
noncomputable abbrev uparse_parser_next_lf : LoopS := lS Tryd.prog Lk0 Tryd.f45 noLi
theorem uparse_parser_next_fn : Lk0.func 45 = some (45, Tryd.f45) := by kernel_rfl
theorem uparse_parser_next_eq [Sym] (p' : Value) (st : SS) {r : Value × SS} (h : uparse_parser_next cc uparse_parser_next_lf p' st = some r) : cc 45 [p'] st = some r :=
  body_sound Lk0_ok Lk0_S uparse_parser_next_fn rfl (fun _ => rfl) ((uparse_parser_next_sh _ _ p' st).trans h)
noncomputable def uparse_parser_takes (cf : CallS) (lf : LoopS) (p' : Value) (sign' : ByteArray) (st : SS) : Option (Value × SS) :=
  (cf 31 [p'] st).bind fun r1 =>
  let st2 : SS := r1.2.new (.cells [.int .i64 0, .string ⟨#[]⟩, .int .i64 0, .int .i64 0, .int .i64 0] 0)
  (st2.stV r1.2.next 0 5 r1.1).bind fun st3 =>
  ((st3.ld r1.2.next 0).bind (asI .i64)).bind fun n4 =>
  cond (!(decide (n4 = 3))) (
   some (.bool false, st3)) (
   ((st3.ld r1.2.next 1).bind asS).bind fun s5 =>
   cond (!(eqT s5 sign')) (
    some (.bool false, st3)) (
    (nilC p').bind fun v6 =>
    (addr? v6).bind fun p7 =>
    ((st3.ld p7.1 (p7.2 + 1)).bind (asI .i64)).bind fun n8 =>
    let n9 : Int := IntKind.wrap .i64 (n8 + 1)
    (nilC p').bind fun v10 =>
    (addr? v10).bind fun p11 =>
    (st3.st p11.1 (p11.2 + 1) [.int .i64 n9]).bind fun st12 =>
    some (.bool true, st12)))
theorem uparse_parser_takes_sh (cf : CallS) (lf : LoopS) (p' : Value) (sign' : ByteArray) (st : SS) : bodyS Tryd.prog Lk0 cf lf noLi Tryd.f46 false [p', .string sign'] st = uparse_parser_takes cf lf p' sign' st := by kernel_rfl
noncomputable abbrev uparse_parser_takes_lf : LoopS := lS Tryd.prog Lk0 Tryd.f46 noLi
theorem uparse_parser_takes_fn : Lk0.func 46 = some (46, Tryd.f46) := by kernel_rfl
theorem uparse_parser_takes_eq [Sym] (p' : Value) (sign' : ByteArray) (st : SS) {r : Value × SS} (h : uparse_parser_takes cc uparse_parser_takes_lf p' sign' st = some r) : cc 46 [p', .string sign'] st = some r :=
  body_sound Lk0_ok Lk0_S uparse_parser_takes_fn rfl (fun _ => rfl) ((uparse_parser_takes_sh _ _ p' sign' st).trans h)
noncomputable def uparse_parser_name (cf : CallS) (lf : LoopS) (p' : Value) (st : SS) : Option (Value × SS) :=
  (cf 31 [p'] st).bind fun r1 =>
  let st2 : SS := r1.2.new (.cells [.int .i64 0, .string ⟨#[]⟩, .int .i64 0, .int .i64 0, .int .i64 0] 0)
  (st2.stV r1.2.next 0 5 r1.1).bind fun st3 =>
  ((st3.ld r1.2.next 0).bind (asI .i64)).bind fun n4 =>
  cond (!(decide (n4 = 1))) (
   some (.tuple #[.string ⟨#[]⟩, .bool false], st3)) (
   (nilC p').bind fun v5 =>
   (addr? v5).bind fun p6 =>
   ((st3.ld p6.1 (p6.2 + 1)).bind (asI .i64)).bind fun n7 =>
   let n8 : Int := IntKind.wrap .i64 (n7 + 1)
   (nilC p').bind fun v9 =>
   (addr? v9).bind fun p10 =>
   (st3.st p10.1 (p10.2 + 1) [.int .i64 n8]).bind fun st11 =>
   ((st11.ld r1.2.next 1).bind asS).bind fun s12 =>
   some (.tuple #[.string s12, .bool true], st11))
theorem uparse_parser_name_sh (cf : CallS) (lf : LoopS) (p' : Value) (st : SS) : bodyS Tryd.prog Lk0 cf lf noLi Tryd.f47 false [p'] st = uparse_parser_name cf lf p' st := by kernel_rfl
noncomputable abbrev uparse_parser_name_lf : LoopS := lS Tryd.prog Lk0 Tryd.f47 noLi
theorem uparse_parser_name_fn : Lk0.func 47 = some (47, Tryd.f47) := by kernel_rfl
theorem uparse_parser_name_eq [Sym] (p' : Value) (st : SS) {r : Value × SS} (h : uparse_parser_name cc uparse_parser_name_lf p' st = some r) : cc 47 [p'] st = some r :=
  body_sound Lk0_ok Lk0_S uparse_parser_name_fn rfl (fun _ => rfl) ((uparse_parser_name_sh _ _ p' st).trans h)
noncomputable def uparse_parser_number (cf : CallS) (lf : LoopS) (p' : Value) (st : SS) : Option (Value × SS) :=
  (cf 31 [p'] st).bind fun r1 =>
  let st2 : SS := r1.2.new (.cells [.int .i64 0, .string ⟨#[]⟩, .int .i64 0, .int .i64 0, .int .i64 0] 0)
  (st2.stV r1.2.next 0 5 r1.1).bind fun st3 =>
  ((st3.ld r1.2.next 0).bind (asI .i64)).bind fun n4 =>
  cond (!(decide (n4 = 2))) (
   some (.tuple #[.int .i64 0, .bool false], st3)) (
   (nilC p').bind fun v5 =>
   (addr? v5).bind fun p6 =>
   ((st3.ld p6.1 (p6.2 + 1)).bind (asI .i64)).bind fun n7 =>
   let n8 : Int := IntKind.wrap .i64 (n7 + 1)
   (nilC p').bind fun v9 =>
   (addr? v9).bind fun p10 =>
   (st3.st p10.1 (p10.2 + 1) [.int .i64 n8]).bind fun st11 =>
   ((st11.ld r1.2.next 2).bind (asI .i64)).bind fun n12 =>
   some (.tuple #[.int .i64 n12, .bool true], st11))
theorem uparse_parser_number_sh (cf : CallS) (lf : LoopS) (p' : Value) (st : SS) : bodyS Tryd.prog Lk0 cf lf noLi Tryd.f64 false [p'] st = uparse_parser_number cf lf p' st := by kernel_rfl
noncomputable abbrev uparse_parser_number_lf : LoopS := lS Tryd.prog Lk0 Tryd.f64 noLi
theorem uparse_parser_number_fn : Lk0.func 64 = some (64, Tryd.f64) := by kernel_rfl
theorem uparse_parser_number_eq [Sym] (p' : Value) (st : SS) {r : Value × SS} (h : uparse_parser_number cc uparse_parser_number_lf p' st = some r) : cc 64 [p'] st = some r :=
  body_sound Lk0_ok Lk0_S uparse_parser_number_fn rfl (fun _ => rfl) ((uparse_parser_number_sh _ _ p' st).trans h)
noncomputable def uparse_parser_value (cf : CallS) (lf : LoopS) (p' : Value) (st : SS) : Option (Value × SS) :=
  let st1 : SS := st.new (.cells [.string ⟨#[]⟩, .int .i64 0, .int .i64 0] 0)
  (cf 31 [p'] st1).bind fun r2 =>
  ((fldG Lk0 36 4 r2.1).bind (asI .i64)).bind fun n3 =>
  let st4 : SS := r2.2.new (.cells [.string ⟨#[]⟩, .int .i64 0, .int .i64 0] 0)
  (st4.st r2.2.next 0 [.string ⟨#[]⟩, .int .i64 0, .int .i64 n3]).bind fun st5 =>
  (cf 64 [p'] st5).bind fun r6 =>
  ((tupG r6.1 0).bind (asI .i64)).bind fun n7 =>
  ((tupG r6.1 1).bind asB).bind fun b8 =>
  (r6.2.st r2.2.next 1 [.int .i64 n7]).bind fun st9 =>
  cond b8 (
   (st9.ldN r2.2.next 0 3).bind fun v10 =>
   (st9.stV st.next 0 3 v10).bind fun st11 =>
   (st11.rdN st.next 0 3).bind fun v12 =>
   some (.tuple #[v12, .bool true], st11)) (
   (cf 47 [p'] st9).bind fun r13 =>
   ((tupG r13.1 0).bind asS).bind fun s14 =>
   ((tupG r13.1 1).bind asB).bind fun b15 =>
   (r13.2.st r2.2.next 0 [.string s14]).bind fun st16 =>
   cond (!b15) (
    (st16.ldN r2.2.next 0 3).bind fun v17 =>
    (st16.stV st.next 0 3 v17).bind fun st18 =>
    (st18.rdN st.next 0 3).bind fun v19 =>
    some (.tuple #[v19, .bool false], st18)) (
    (cf 46 [p', .string ⟨#[43]⟩] st16).bind fun r20 =>
    ((some r20.1).bind asB).bind fun b21 =>
    cond b21 (
     (cf 64 [p'] r20.2).bind fun r22 =>
     ((tupG r22.1 0).bind (asI .i64)).bind fun n23 =>
     ((tupG r22.1 1).bind asB).bind fun b24 =>
     (r22.2.st r2.2.next 1 [.int .i64 n23]).bind fun st25 =>
     (st25.ldN r2.2.next 0 3).bind fun v26 =>
     (st25.stV st.next 0 3 v26).bind fun st27 =>
     (st27.rdN st.next 0 3).bind fun v28 =>
     some (.tuple #[v28, .bool b24], st27)) (
     (cf 46 [p', .string ⟨#[45]⟩] r20.2).bind fun r29 =>
     ((some r29.1).bind asB).bind fun b30 =>
     cond b30 (
      (cf 64 [p'] r29.2).bind fun r31 =>
      ((tupG r31.1 0).bind (asI .i64)).bind fun n32 =>
      ((tupG r31.1 1).bind asB).bind fun b33 =>
      (r31.2.st r2.2.next 1 [.int .i64 n32]).bind fun st34 =>
      ((st34.ld r2.2.next 1).bind (asI .i64)).bind fun n35 =>
      let n36 : Int := IntKind.wrap .i64 (0 - n35)
      (st34.st r2.2.next 1 [.int .i64 n36]).bind fun st37 =>
      (st37.ldN r2.2.next 0 3).bind fun v38 =>
      (st37.stV st.next 0 3 v38).bind fun st39 =>
      (st39.rdN st.next 0 3).bind fun v40 =>
      some (.tuple #[v40, .bool b33], st39)) (
      (r29.2.ldN r2.2.next 0 3).bind fun v41 =>
      (r29.2.stV st.next 0 3 v41).bind fun st42 =>
      (st42.rdN st.next 0 3).bind fun v43 =>
      some (.tuple #[v43, .bool b15], st42)))))
theorem uparse_parser_value_sh (cf : CallS) (lf : LoopS) (p' : Value) (st : SS) : bodyS Tryd.prog Lk0 cf lf noLi Tryd.f48 false [p'] st = uparse_parser_value cf lf p' st := by kernel_rfl
noncomputable abbrev uparse_parser_value_lf : LoopS := lS Tryd.prog Lk0 Tryd.f48 noLi
theorem uparse_parser_value_fn : Lk0.func 48 = some (48, Tryd.f48) := by kernel_rfl
theorem uparse_parser_value_eq [Sym] (p' : Value) (st : SS) {r : Value × SS} (h : uparse_parser_value cc uparse_parser_value_lf p' st = some r) : cc 48 [p'] st = some r :=
  body_sound Lk0_ok Lk0_S uparse_parser_value_fn rfl (fun _ => rfl) ((uparse_parser_value_sh _ _ p' st).trans h)
noncomputable def uparse_parser_pair (cf : CallS) (lf : LoopS) (p' : Value) (l' : Value) (st : SS) : Option (Value × SS) :=
  (cf 31 [p'] st).bind fun r1 =>
  ((fldG Lk0 36 4 r1.1).bind (asI .i64)).bind fun n2 =>
  let st3 : SS := r1.2.new (.cells [.string ⟨#[]⟩, .int .i64 0, .string ⟨#[]⟩, .int .i64 0, .int .i64 0] 0)
  (st3.st r1.2.next 0 [.string ⟨#[]⟩, .int .i64 n2, .string ⟨#[]⟩, .int .i64 0, .int .i64 0]).bind fun st4 =>
  (cf 31 [p'] st4).bind fun r5 =>
  ((fldG Lk0 36 1 r5.1).bind asS).bind fun s6 =>
  let st7 : SS := r5.2.new (.cells [.string ⟨#[]⟩] 0)
  (st7.st r5.2.next 0 [.string s6]).bind fun st8 =>
  (cf 31 [p'] st8).bind fun r9 =>
  ((fldG Lk0 36 0 r9.1).bind (asI .i64)).bind fun n10 =>
  cond (!(decide (n10 = 1))) (
   some (.bool false, r9.2)) (
   (nilC l').bind fun v11 =>
   (addr? v11).bind fun p12 =>
   (r9.2.ld p12.1 (p12.2 + 4)).bind fun v13 =>
   (cf 65 [v13, .func (.func 66) #[] #[ptr r5.2.next 0]] r9.2).bind fun r14 =>
   ((some r14.1).bind asB).bind fun b15 =>
   cond b15 (
    some (.bool false, r14.2)) (
    ((r14.2.ld r5.2.next 0).bind asS).bind fun s16 =>
    (r14.2.st r1.2.next 0 [.string s16]).bind fun st17 =>
    (nilC p').bind fun v18 =>
    (addr? v18).bind fun p19 =>
    ((st17.ld p19.1 (p19.2 + 1)).bind (asI .i64)).bind fun n20 =>
    let n21 : Int := IntKind.wrap .i64 (n20 + 1)
    (nilC p').bind fun v22 =>
    (addr? v22).bind fun p23 =>
    (st17.st p23.1 (p23.2 + 1) [.int .i64 n21]).bind fun st24 =>
    (cf 46 [p', .string ⟨#[61]⟩] st24).bind fun r25 =>
    ((some r25.1).bind asB).bind fun b26 =>
    cond (!b26) (
     some (.bool false, r25.2)) (
     (cf 48 [p'] r25.2).bind fun r27 =>
     (tupG r27.1 0).bind fun v28 =>
     ((tupG r27.1 1).bind asB).bind fun b29 =>
     (r27.2.stV r1.2.next 2 3 v28).bind fun st30 =>
     cond (!b29) (
      some (.bool false, st30)) (
      (nilC l').bind fun v31 =>
      (addr? v31).bind fun p32 =>
      (st30.ld p32.1 (p32.2 + 4)).bind fun v33 =>
      (st30.ldN r1.2.next 0 5).bind fun v34 =>
      (cellsN v34 5).bind fun c35 =>
      let st36 : SS := st30.new (.cells (c35 ++ ([])) 5)
      (st36.app 5 56 v33 (.slice (some ⟨st30.next, 0, none⟩) 1 1)).bind fun r37 =>
      (nilC l').bind fun v38 =>
      (addr? v38).bind fun p39 =>
      (r37.2.stV p39.1 (p39.2 + 4) 1 r37.1).bind fun st40 =>
      some (.bool true, st40)))))
theorem uparse_parser_pair_sh (cf : CallS) (lf : LoopS) (p' : Value) (l' : Value) (st : SS) : bodyS Tryd.prog Lk0 cf lf noLi Tryd.f49 false [p', l'] st = uparse_parser_pair cf lf p' l' st := by kernel_rfl
noncomputable abbrev uparse_parser_pair_lf : LoopS := lS Tryd.prog Lk0 Tryd.f49 noLi
theorem uparse_parser_pair_fn : Lk0.func 49 = some (49, Tryd.f49) := by kernel_rfl
theorem uparse_parser_pair_eq [Sym] (p' : Value) (l' : Value) (st : SS) {r : Value × SS} (h : uparse_parser_pair cc uparse_parser_pair_lf p' l' st = some r) : cc 49 [p', l'] st = some r :=
  body_sound Lk0_ok Lk0_S uparse_parser_pair_fn rfl (fun _ => rfl) ((uparse_parser_pair_sh _ _ p' l' st).trans h)
def I_uparse_parser_line_17 : LoopI := ⟨[(0, .any), (2, .any), (4, .any)], [(.exit 2, [(2, .any), (4, .any)]), (.ret, [(2, .any), (3, .bool)])]⟩
def I_uparse_parser_line_11 : LoopI := ⟨[(0, .any), (2, .any), (4, .any)], [(.exit 0, [(2, .any), (4, .any)]), (.ret, [(2, .any), (3, .bool)])]⟩
def li_uparse_parser_line (n : Nat) : Option LoopI := cond (Nat.beq n 11) (some I_uparse_parser_line_11) (cond (Nat.beq n 17) (some I_uparse_parser_line_17) (none))
noncomputable def uparse_parser_line (cf : CallS) (lf : LoopS) (p' : Value) (st : SS) : Option (Value × SS) :=
  let st1 : SS := st.new (.cells [.int .i64 0, .string ⟨#[]⟩, .string ⟨#[]⟩, .slice none 0 0, .slice none 0 0] 0)
  (cf 31 [p'] st1).bind fun r2 =>
  ((fldG Lk0 36 3 r2.1).bind (asI .i64)).bind fun n3 =>
  let st4 : SS := r2.2.new (.cells [.int .i64 0, .string ⟨#[]⟩, .string ⟨#[]⟩, .slice none 0 0, .slice none 0 0] 0)
  (st4.st r2.2.next 0 [.int .i64 n3, .string ⟨#[]⟩, .string ⟨#[]⟩, .slice none 0 0, .slice none 0 0]).bind fun st5 =>
  (cf 45 [p'] st5).bind fun r6 =>
  let st7 : SS := r6.2.new (.cells [.int .i64 0, .string ⟨#[]⟩, .int .i64 0, .int .i64 0, .int .i64 0] 0)
  (st7.stV r6.2.next 0 5 r6.1).bind fun st8 =>
  (cf 31 [p'] st8).bind fun r9 =>
  ((fldG Lk0 36 0 r9.1).bind (asI .i64)).bind fun n10 =>
  cond (decide (n10 = 1)) (
   ((r9.2.ld r6.2.next 0).bind (asI .i64)).bind fun n11 =>
   cond (decide (n11 = 3)) (
    ((r9.2.ld r6.2.next 1).bind asS).bind fun s12 =>
    cond (eqT s12 ⟨#[58]⟩) (
     (cf 31 [p'] r9.2).bind fun r13 =>
     ((fldG Lk0 36 1 r13.1).bind asS).bind fun s14 =>
     (r13.2.st r2.2.next 1 [.string s14]).bind fun st15 =>
     (nilC p').bind fun v16 =>
     (addr? v16).bind fun p17 =>
     ((st15.ld p17.1 (p17.2 + 1)).bind (asI .i64)).bind fun n18 =>
     let n19 : Int := IntKind.wrap .i64 (n18 + 2)
     (nilC p').bind fun v20 =>
     (addr? v20).bind fun p21 =>
     (st15.st p21.1 (p21.2 + 1) [.int .i64 n19]).bind fun st22 =>
     (cf 46 [p', .string ⟨#[46]⟩] st22).bind fun r23 =>
     ((some r23.1).bind asB).bind fun b24 =>
     cond b24 (
      (cf 47 [p'] r23.2).bind fun r25 =>
      ((tupG r25.1 0).bind asS).bind fun s26 =>
      ((tupG r25.1 1).bind asB).bind fun b27 =>
      (r25.2.st r2.2.next 2 [.string s26]).bind fun st28 =>
      cond (!b27) (
       (st28.ldN r2.2.next 0 5).bind fun v29 =>
       (st28.stV st.next 0 5 v29).bind fun st30 =>
       (st30.rdN st.next 0 5).bind fun v31 =>
       some (.tuple #[v31, .bool false], st30)) (
       (lf 11 [p', ptr st.next 0, ptr r2.2.next 0] st28).bind fun r32 =>
       cond (Nat.beq r32.1 0) (
        (r32.2.1[0]?).bind fun v33 =>
        (r32.2.1[1]?).bind fun v34 =>
        (addr? v34).bind fun p35 =>
        (r32.2.2.ldN p35.1 p35.2 5).bind fun v36 =>
        (addr? v33).bind fun p37 =>
        (r32.2.2.stV p37.1 p37.2 5 v36).bind fun st38 =>
        (addr? v33).bind fun p39 =>
        (st38.rdN p39.1 p39.2 5).bind fun v40 =>
        some (.tuple #[v40, .bool true], st38)) (
        (r32.2.1[0]?).bind fun v41 =>
        ((r32.2.1[1]?).bind asB).bind fun b42 =>
        (addr? v41).bind fun p43 =>
        (r32.2.2.rdN p43.1 p43.2 5).bind fun v44 =>
        some (.tuple #[v44, .bool b42], r32.2.2)))) (
      (lf 17 [p', ptr st.next 0, ptr r2.2.next 0] r23.2).bind fun r45 =>
      cond (Nat.beq r45.1 0) (
       (r45.2.1[0]?).bind fun v46 =>
       (r45.2.1[1]?).bind fun v47 =>
       (addr? v47).bind fun p48 =>
       (r45.2.2.ldN p48.1 p48.2 5).bind fun v49 =>
       (addr? v46).bind fun p50 =>
       (r45.2.2.stV p50.1 p50.2 5 v49).bind fun st51 =>
       (addr? v46).bind fun p52 =>
       (st51.rdN p52.1 p52.2 5).bind fun v53 =>
       some (.tuple #[v53, .bool true], st51)) (
       (r45.2.1[0]?).bind fun v54 =>
       ((r45.2.1[1]?).bind asB).bind fun b55 =>
       (addr? v54).bind fun p56 =>
       (r45.2.2.rdN p56.1 p56.2 5).bind fun v57 =>
       some (.tuple #[v57, .bool b55], r45.2.2)))) (
     (cf 46 [p', .string ⟨#[46]⟩] r9.2).bind fun r58 =>
     ((some r58.1).bind asB).bind fun b59 =>
     cond b59 (
      (cf 47 [p'] r58.2).bind fun r60 =>
      ((tupG r60.1 0).bind asS).bind fun s61 =>
      ((tupG r60.1 1).bind asB).bind fun b62 =>
      (r60.2.st r2.2.next 2 [.string s61]).bind fun st63 =>
      cond (!b62) (
       (st63.ldN r2.2.next 0 5).bind fun v64 =>
       (st63.stV st.next 0 5 v64).bind fun st65 =>
       (st65.rdN st.next 0 5).bind fun v66 =>
       some (.tuple #[v66, .bool false], st65)) (
       (lf 11 [p', ptr st.next 0, ptr r2.2.next 0] st63).bind fun r67 =>
       cond (Nat.beq r67.1 0) (
        (r67.2.1[0]?).bind fun v68 =>
        (r67.2.1[1]?).bind fun v69 =>
        (addr? v69).bind fun p70 =>
        (r67.2.2.ldN p70.1 p70.2 5).bind fun v71 =>
        (addr? v68).bind fun p72 =>
        (r67.2.2.stV p72.1 p72.2 5 v71).bind fun st73 =>
        (addr? v68).bind fun p74 =>
        (st73.rdN p74.1 p74.2 5).bind fun v75 =>
        some (.tuple #[v75, .bool true], st73)) (
        (r67.2.1[0]?).bind fun v76 =>
        ((r67.2.1[1]?).bind asB).bind fun b77 =>
        (addr? v76).bind fun p78 =>
        (r67.2.2.rdN p78.1 p78.2 5).bind fun v79 =>
        some (.tuple #[v79, .bool b77], r67.2.2)))) (
      (lf 17 [p', ptr st.next 0, ptr r2.2.next 0] r58.2).bind fun r80 =>
      cond (Nat.beq r80.1 0) (
       (r80.2.1[0]?).bind fun v81 =>
       (r80.2.1[1]?).bind fun v82 =>
       (addr? v82).bind fun p83 =>
       (r80.2.2.ldN p83.1 p83.2 5).bind fun v84 =>
       (addr? v81).bind fun p85 =>
       (r80.2.2.stV p85.1 p85.2 5 v84).bind fun st86 =>
       (addr? v81).bind fun p87 =>
       (st86.rdN p87.1 p87.2 5).bind fun v88 =>
       some (.tuple #[v88, .bool true], st86)) (
       (r80.2.1[0]?).bind fun v89 =>
       ((r80.2.1[1]?).bind asB).bind fun b90 =>
       (addr? v89).bind fun p91 =>
       (r80.2.2.rdN p91.1 p91.2 5).bind fun v92 =>
       some (.tuple #[v92, .bool b90], r80.2.2))))) (
    (cf 46 [p', .string ⟨#[46]⟩] r9.2).bind fun r93 =>
    ((some r93.1).bind asB).bind fun b94 =>
    cond b94 (
     (cf 47 [p'] r93.2).bind fun r95 =>
     ((tupG r95.1 0).bind asS).bind fun s96 =>
     ((tupG r95.1 1).bind asB).bind fun b97 =>
     (r95.2.st r2.2.next 2 [.string s96]).bind fun st98 =>
     cond (!b97) (
      (st98.ldN r2.2.next 0 5).bind fun v99 =>
      (st98.stV st.next 0 5 v99).bind fun st100 =>
      (st100.rdN st.next 0 5).bind fun v101 =>
      some (.tuple #[v101, .bool false], st100)) (
      (lf 11 [p', ptr st.next 0, ptr r2.2.next 0] st98).bind fun r102 =>
      cond (Nat.beq r102.1 0) (
       (r102.2.1[0]?).bind fun v103 =>
       (r102.2.1[1]?).bind fun v104 =>
       (addr? v104).bind fun p105 =>
       (r102.2.2.ldN p105.1 p105.2 5).bind fun v106 =>
       (addr? v103).bind fun p107 =>
       (r102.2.2.stV p107.1 p107.2 5 v106).bind fun st108 =>
       (addr? v103).bind fun p109 =>
       (st108.rdN p109.1 p109.2 5).bind fun v110 =>
       some (.tuple #[v110, .bool true], st108)) (
       (r102.2.1[0]?).bind fun v111 =>
       ((r102.2.1[1]?).bind asB).bind fun b112 =>
       (addr? v111).bind fun p113 =>
       (r102.2.2.rdN p113.1 p113.2 5).bind fun v114 =>
       some (.tuple #[v114, .bool b112], r102.2.2)))) (
     (lf 17 [p', ptr st.next 0, ptr r2.2.next 0] r93.2).bind fun r115 =>
     cond (Nat.beq r115.1 0) (
      (r115.2.1[0]?).bind fun v116 =>
      (r115.2.1[1]?).bind fun v117 =>
      (addr? v117).bind fun p118 =>
      (r115.2.2.ldN p118.1 p118.2 5).bind fun v119 =>
      (addr? v116).bind fun p120 =>
      (r115.2.2.stV p120.1 p120.2 5 v119).bind fun st121 =>
      (addr? v116).bind fun p122 =>
      (st121.rdN p122.1 p122.2 5).bind fun v123 =>
      some (.tuple #[v123, .bool true], st121)) (
      (r115.2.1[0]?).bind fun v124 =>
      ((r115.2.1[1]?).bind asB).bind fun b125 =>
      (addr? v124).bind fun p126 =>
      (r115.2.2.rdN p126.1 p126.2 5).bind fun v127 =>
      some (.tuple #[v127, .bool b125], r115.2.2))))) (
   (cf 46 [p', .string ⟨#[46]⟩] r9.2).bind fun r128 =>
   ((some r128.1).bind asB).bind fun b129 =>
   cond b129 (
    (cf 47 [p'] r128.2).bind fun r130 =>
    ((tupG r130.1 0).bind asS).bind fun s131 =>
    ((tupG r130.1 1).bind asB).bind fun b132 =>
    (r130.2.st r2.2.next 2 [.string s131]).bind fun st133 =>
    cond (!b132) (
     (st133.ldN r2.2.next 0 5).bind fun v134 =>
     (st133.stV st.next 0 5 v134).bind fun st135 =>
     (st135.rdN st.next 0 5).bind fun v136 =>
     some (.tuple #[v136, .bool false], st135)) (
     (lf 11 [p', ptr st.next 0, ptr r2.2.next 0] st133).bind fun r137 =>
     cond (Nat.beq r137.1 0) (
      (r137.2.1[0]?).bind fun v138 =>
      (r137.2.1[1]?).bind fun v139 =>
      (addr? v139).bind fun p140 =>
      (r137.2.2.ldN p140.1 p140.2 5).bind fun v141 =>
      (addr? v138).bind fun p142 =>
      (r137.2.2.stV p142.1 p142.2 5 v141).bind fun st143 =>
      (addr? v138).bind fun p144 =>
      (st143.rdN p144.1 p144.2 5).bind fun v145 =>
      some (.tuple #[v145, .bool true], st143)) (
      (r137.2.1[0]?).bind fun v146 =>
      ((r137.2.1[1]?).bind asB).bind fun b147 =>
      (addr? v146).bind fun p148 =>
      (r137.2.2.rdN p148.1 p148.2 5).bind fun v149 =>
      some (.tuple #[v149, .bool b147], r137.2.2)))) (
    (lf 17 [p', ptr st.next 0, ptr r2.2.next 0] r128.2).bind fun r150 =>
    cond (Nat.beq r150.1 0) (
     (r150.2.1[0]?).bind fun v151 =>
     (r150.2.1[1]?).bind fun v152 =>
     (addr? v152).bind fun p153 =>
     (r150.2.2.ldN p153.1 p153.2 5).bind fun v154 =>
     (addr? v151).bind fun p155 =>
     (r150.2.2.stV p155.1 p155.2 5 v154).bind fun st156 =>
     (addr? v151).bind fun p157 =>
     (st156.rdN p157.1 p157.2 5).bind fun v158 =>
     some (.tuple #[v158, .bool true], st156)) (
     (r150.2.1[0]?).bind fun v159 =>
     ((r150.2.1[1]?).bind asB).bind fun b160 =>
     (addr? v159).bind fun p161 =>
     (r150.2.2.rdN p161.1 p161.2 5).bind fun v162 =>
     some (.tuple #[v162, .bool b160], r150.2.2))))
theorem uparse_parser_line_sh (cf : CallS) (lf : LoopS) (p' : Value) (st : SS) : bodyS Tryd.prog Lk0 cf lf li_uparse_parser_line Tryd.f30 false [p'] st = uparse_parser_line cf lf p' st := by kernel_rfl
noncomputable abbrev uparse_parser_line_lf : LoopS := lS Tryd.prog Lk0 Tryd.f30 li_uparse_parser_line
theorem uparse_parser_line_fn : Lk0.func 30 = some (30, Tryd.f30) := by kernel_rfl
theorem uparse_parser_line_eq [Sym] (p' : Value) (st : SS) {r : Value × SS} (h : uparse_parser_line cc uparse_parser_line_lf p' st = some r) : cc 30 [p'] st = some r :=
  body_sound Lk0_ok Lk0_S uparse_parser_line_fn rfl (fun _ => rfl) ((uparse_parser_line_sh _ _ p' st).trans h)
noncomputable def uparse_parser_line_l11 (cf : CallS) (lf : LoopS) (p' : Value) (t2' : Value) (l' : Value) (st : SS) : Option (Nat × List Value × SS) :=
  (cf 31 [p'] st).bind fun r1 =>
  ((fldG Lk0 36 0 r1.1).bind (asI .i64)).bind fun n2 =>
  cond (!(decide (n2 = 0))) (
   (cf 48 [p'] r1.2).bind fun r3 =>
   (tupG r3.1 0).bind fun v4 =>
   ((tupG r3.1 1).bind asB).bind fun b5 =>
   let st6 : SS := r3.2.new (.cells [.string ⟨#[]⟩, .int .i64 0, .int .i64 0] 0)
   (st6.stV r3.2.next 0 3 v4).bind fun st7 =>
   cond (!b5) (
    (addr? l').bind fun p8 =>
    (st7.ldN p8.1 p8.2 5).bind fun v9 =>
    (addr? t2').bind fun p10 =>
    (st7.stV p10.1 p10.2 5 v9).bind fun st11 =>
    some (1, [t2', .bool false], st11)) (
    (addr? l').bind fun p12 =>
    (st7.ld p12.1 (p12.2 + 3)).bind fun v13 =>
    (st7.ldN r3.2.next 0 3).bind fun v14 =>
    (cellsN v14 3).bind fun c15 =>
    let st16 : SS := st7.new (.cells (c15 ++ ([])) 3)
    (st16.app 3 32 v13 (.slice (some ⟨st7.next, 0, none⟩) 1 1)).bind fun r17 =>
    (addr? l').bind fun p18 =>
    (r17.2.stV p18.1 (p18.2 + 3) 1 r17.1).bind fun st19 =>
    lf 11 [p', t2', l'] st19)) (
   some (0, [t2', l'], r1.2))
theorem uparse_parser_line_l11_sh (cf : CallS) (lf : LoopS) (p' : Value) (t2' : Value) (l' : Value) (st : SS) : loopS Tryd.prog Lk0 cf lf li_uparse_parser_line (loopC Tryd.f30 11) I_uparse_parser_line_11 Tryd.f30.ntmps [p', t2', l'] st = uparse_parser_line_l11 cf lf p' t2' l' st := by kernel_rfl
theorem uparse_parser_line_l11_eq [Sym] (p' : Value) (t2' : Value) (l' : Value) (st : SS) {r : Nat × List Value × SS} (h : uparse_parser_line_l11 cc uparse_parser_line_lf p' t2' l' st = some r) : uparse_parser_line_lf 11 [p', t2', l'] st = some r :=
  loop_sound Lk0_ok Lk0_S (key := 11) (I := I_uparse_parser_line_11) rfl (by kernel_rfl) (by kernel_rfl) rfl rfl ((uparse_parser_line_l11_sh _ _ p' t2' l' st).trans h)
noncomputable def uparse_parser_line_l17 (cf : CallS) (lf : LoopS) (p' : Value) (t2' : Value) (l' : Value) (st : SS) : Option (Nat × List Value × SS) :=
  (cf 31 [p'] st).bind fun r1 =>
  ((fldG Lk0 36 0 r1.1).bind (asI .i64)).bind fun n2 =>
  cond (!(decide (n2 = 0))) (
   (cf 49 [p', l'] r1.2).bind fun r3 =>
   ((some r3.1).bind asB).bind fun b4 =>
   cond (!b4) (
    (addr? l').bind fun p5 =>
    (r3.2.ldN p5.1 p5.2 5).bind fun v6 =>
    (addr? t2').bind fun p7 =>
    (r3.2.stV p7.1 p7.2 5 v6).bind fun st8 =>
    some (1, [t2', .bool false], st8)) (
    lf 17 [p', t2', l'] r3.2)) (
   some (0, [t2', l'], r1.2))
theorem uparse_parser_line_l17_sh (cf : CallS) (lf : LoopS) (p' : Value) (t2' : Value) (l' : Value) (st : SS) : loopS Tryd.prog Lk0 cf lf li_uparse_parser_line (loopC Tryd.f30 17) I_uparse_parser_line_17 Tryd.f30.ntmps [p', t2', l'] st = uparse_parser_line_l17 cf lf p' t2' l' st := by kernel_rfl
theorem uparse_parser_line_l17_eq [Sym] (p' : Value) (t2' : Value) (l' : Value) (st : SS) {r : Nat × List Value × SS} (h : uparse_parser_line_l17 cc uparse_parser_line_lf p' t2' l' st = some r) : uparse_parser_line_lf 17 [p', t2', l'] st = some r :=
  loop_sound Lk0_ok Lk0_S (key := 17) (I := I_uparse_parser_line_17) rfl (by kernel_rfl) (by kernel_rfl) rfl rfl ((uparse_parser_line_l17_sh _ _ p' t2' l' st).trans h)
def I_uparse_Parse_6 : LoopI := ⟨[(3, .any), (5, .any), (8, .any), (9, .any)], [(.exit 0, [(3, .any), (9, .any)]), (.ret, [(2, .any), (3, .any), (4, .int .i64)])]⟩
def li_uparse_Parse (n : Nat) : Option LoopI := cond (Nat.beq n 6) (some I_uparse_Parse_6) (none)
noncomputable def uparse_Parse (cf : CallS) (lf : LoopS) (text' : ByteArray) (st : SS) : Option (Value × SS) :=
  let st1 : SS := st.new (.cells [.int .i64 0, .int .i64 0] 0)
  (cf 15 [.string text'] st1).bind fun r2 =>
  (tupG r2.1 0).bind fun v3 =>
  (tupG r2.1 1).bind fun v4 =>
  ((tupG r2.1 2).bind (asI .i64)).bind fun n5 =>
  let st6 : SS := r2.2.new (.cells [.int .i64 0, .int .i64 0] 0)
  (st6.stV r2.2.next 0 2 v4).bind fun st7 =>
  cond (!(decide (n5 = 0))) (
   (st7.ldN r2.2.next 0 2).bind fun v8 =>
   (st7.stV st.next 0 2 v8).bind fun st9 =>
   (st9.rdN st.next 0 2).bind fun v10 =>
   some (.tuple #[.slice none 0 0, v10, .int .i64 n5], st9)) (
   (cellsN v3 1).bind fun c11 =>
   let st12 : SS := st7.new (.cells (.agg ⟨spl [.slice none 0 0, .int .i64 0] 0 c11⟩ : Value).cells.toList 0)
   (lf 6 [ptr st.next 0, v3, ptr st7.next 0, .slice none 0 0] st12).bind fun r13 =>
   cond (Nat.beq r13.1 0) (
    (r13.2.1[0]?).bind fun v14 =>
    (r13.2.1[1]?).bind fun v15 =>
    (addr? v14).bind fun p16 =>
    (r13.2.2.st p16.1 p16.2 [.int .i64 0, .int .i64 0]).bind fun st17 =>
    (addr? v14).bind fun p18 =>
    (st17.rdN p18.1 p18.2 2).bind fun v19 =>
    some (.tuple #[v15, v19, .int .i64 0], st17)) (
    (r13.2.1[0]?).bind fun v20 =>
    (r13.2.1[1]?).bind fun v21 =>
    ((r13.2.1[2]?).bind (asI .i64)).bind fun n22 =>
    (addr? v21).bind fun p23 =>
    (r13.2.2.rdN p23.1 p23.2 2).bind fun v24 =>
    some (.tuple #[v20, v24, .int .i64 n22], r13.2.2)))
theorem uparse_Parse_sh (cf : CallS) (lf : LoopS) (text' : ByteArray) (st : SS) : bodyS Tryd.prog Lk0 cf lf li_uparse_Parse Tryd.f20 false [.string text'] st = uparse_Parse cf lf text' st := by kernel_rfl
noncomputable abbrev uparse_Parse_lf : LoopS := lS Tryd.prog Lk0 Tryd.f20 li_uparse_Parse
theorem uparse_Parse_fn : Lk0.func 20 = some (20, Tryd.f20) := by kernel_rfl
theorem uparse_Parse_eq [Sym] (text' : ByteArray) (st : SS) {r : Value × SS} (h : uparse_Parse cc uparse_Parse_lf text' st = some r) : cc 20 [.string text'] st = some r :=
  body_sound Lk0_ok Lk0_S uparse_Parse_fn rfl (fun _ => rfl) ((uparse_Parse_sh _ _ text' st).trans h)
noncomputable def uparse_Parse_l6 (cf : CallS) (lf : LoopS) (t3' : Value) (tokens' : Value) (p' : Value) (out' : Value) (st : SS) : Option (Nat × List Value × SS) :=
  (nilC p').bind fun v1 =>
  (addr? v1).bind fun p2 =>
  ((st.ld p2.1 (p2.2 + 1)).bind (asI .i64)).bind fun n3 =>
  ((lenV tokens').bind (asI .i64)).bind fun n4 =>
  cond (decide (n3 < n4)) (
   (cf 30 [p'] st).bind fun r5 =>
   (tupG r5.1 0).bind fun v6 =>
   ((tupG r5.1 1).bind asB).bind fun b7 =>
   let st8 : SS := r5.2.new (.cells [.int .i64 0, .string ⟨#[]⟩, .string ⟨#[]⟩, .slice none 0 0, .slice none 0 0] 0)
   (st8.stV r5.2.next 0 5 v6).bind fun st9 =>
   cond (!b7) (
    (cf 31 [p'] st9).bind fun r10 =>
    ((fldG Lk0 36 3 r10.1).bind (asI .i64)).bind fun n11 =>
    (cf 31 [p'] r10.2).bind fun r12 =>
    ((fldG Lk0 36 4 r12.1).bind (asI .i64)).bind fun n13 =>
    (addr? t3').bind fun p14 =>
    (r12.2.st p14.1 p14.2 [.int .i64 n11, .int .i64 n13]).bind fun st15 =>
    some (1, [.slice none 0 0, t3', .int .i64 4], st15)) (
    (nilC p').bind fun v16 =>
    (addr? v16).bind fun p17 =>
    ((st9.ld p17.1 (p17.2 + 1)).bind (asI .i64)).bind fun n18 =>
    let n19 : Int := IntKind.wrap .i64 (n18 + 1)
    (nilC p').bind fun v20 =>
    (addr? v20).bind fun p21 =>
    (st9.st p21.1 (p21.2 + 1) [.int .i64 n19]).bind fun st22 =>
    ((st22.ld r5.2.next 1).bind asS).bind fun s23 =>
    cond (!(eqT s23 ⟨#[]⟩)) (
     (st22.ldN r5.2.next 0 5).bind fun v24 =>
     (cellsN v24 5).bind fun c25 =>
     let st26 : SS := st22.new (.cells (c25 ++ ([])) 5)
     (st26.app 5 88 out' (.slice (some ⟨st22.next, 0, none⟩) 1 1)).bind fun r27 =>
     lf 6 [t3', tokens', p', r27.1] r27.2) (
     ((st22.ld r5.2.next 2).bind asS).bind fun s28 =>
     cond (!(eqT s28 ⟨#[]⟩)) (
      (st22.ldN r5.2.next 0 5).bind fun v29 =>
      (cellsN v29 5).bind fun c30 =>
      let st31 : SS := st22.new (.cells (c30 ++ ([])) 5)
      (st31.app 5 88 out' (.slice (some ⟨st22.next, 0, none⟩) 1 1)).bind fun r32 =>
      lf 6 [t3', tokens', p', r32.1] r32.2) (
      (st22.ld r5.2.next 4).bind fun v33 =>
      ((lenV v33).bind (asI .i64)).bind fun n34 =>
      cond (decide (0 < n34)) (
       (st22.ldN r5.2.next 0 5).bind fun v35 =>
       (cellsN v35 5).bind fun c36 =>
       let st37 : SS := st22.new (.cells (c36 ++ ([])) 5)
       (st37.app 5 88 out' (.slice (some ⟨st22.next, 0, none⟩) 1 1)).bind fun r38 =>
       lf 6 [t3', tokens', p', r38.1] r38.2) (
       lf 6 [t3', tokens', p', out'] st22))))) (
   some (0, [t3', out'], st))
theorem uparse_Parse_l6_sh (cf : CallS) (lf : LoopS) (t3' : Value) (tokens' : Value) (p' : Value) (out' : Value) (st : SS) : loopS Tryd.prog Lk0 cf lf li_uparse_Parse (loopC Tryd.f20 6) I_uparse_Parse_6 Tryd.f20.ntmps [t3', tokens', p', out'] st = uparse_Parse_l6 cf lf t3' tokens' p' out' st := by kernel_rfl
theorem uparse_Parse_l6_eq [Sym] (t3' : Value) (tokens' : Value) (p' : Value) (out' : Value) (st : SS) {r : Nat × List Value × SS} (h : uparse_Parse_l6 cc uparse_Parse_lf t3' tokens' p' out' st = some r) : uparse_Parse_lf 6 [t3', tokens', p', out'] st = some r :=
  loop_sound Lk0_ok Lk0_S (key := 6) (I := I_uparse_Parse_6) rfl (by kernel_rfl) (by kernel_rfl) rfl rfl ((uparse_Parse_l6_sh _ _ t3' tokens' p' out' st).trans h)
end Go.Proofs.YthngaoncjpgeiaaDoorE
