/- The lookups of IsaOf. Printed by gen_con.py. -/
import Derived.Test.YtfgdoliihmjnoaaDoorEKo0
import Derived.Test.YtfgdoliihmjnoaaDoorEKo1
import Derived.Test.YtfgdoliihmjnoaaDoorEKo2
import Derived.Test.YtfgdoliihmjnoaaDoorEKo3
import Derived.Test.YtfgdoliihmjnoaaDoorEKd0
import Derived.Test.YtfgdoliihmjnoaaDoorEKd1
import Derived.Test.YtfgdoliihmjnoaaDoorEKd2
import Derived.Test.YtfgdoliihmjnoaaDoorEKd3
import Derived.Test.YtfgdoliihmjnoaaDoorXG3
set_option linter.unusedSimpArgs false
set_option linter.unusedVariables false
namespace Go.Proofs.YtfgdoliihmjnoaaDoorE
open Go Go.E Go.Proofs
set_option maxRecDepth 100000
noncomputable def dirO : List Con := [cd0, cd1, cd2, cd3, cd4, cd5, cd6, cd7, cd8, cd9, cd10, cd11, cd12, cd13, cd14, cd15, cd16, cd17, cd18, cd19, cd20, cd21, cd22, cd23, cd24, cd25, cd26, cd27, cd28, cd29, cd30, cd31, cd32, cd33, cd34, cd35, cd36, cd37, cd38, cd39, cd40, cd41, cd42, cd43, cd44, cd45, cd46, cd47, cd48, cd49, cd50, cd51, cd52, cd53, cd54, cd55, cd56, cd57, cd58, cd59, cd60, cd61, cd62, cd63, cd64, cd65, cd66, cd67, cd68, cd69, cd70, cd71, cd72, cd73, cd74, cd75, cd76, cd77, cd78, cd79, cd80, cd81, cd82, cd83, cd84, cd85, cd86, cd87, cd88, cd89, cd90, cd91, cd92, cd93, cd94, cd95, cd96, cd97, cd98, cd99, cd100, cd101, cd102, cd103, cd104, cd105, cd106, cd107, cd108, cd109, cd110, cd111, cd112, cd113, cd114, cd115, cd116, cd117, cd118, cd119, cd120, cd121, cd122, cd123, cd124, cd125, cd126, cd127, cd128, cd129, cd130, cd131, cd132, cd133, cd134, cd135, cd136, cd137, cd138, cd139, cd140, cd141, cd142, cd143, cd144, cd145, cd146, cd147, cd148, cd149, cd150, cd151, cd152, cd153, cd154, cd155, cd156, cd157, cd158, cd159, cd160, cd161, cd162, cd163, cd164, cd165, cd166, cd167, cd168, cd169, cd170, cd171, cd172, cd173, cd174, cd175, cd176, cd177, cd178, cd179, cd180, cd181, cd182, cd183, cd184, cd185, cd186, cd187, cd188, cd189, cd190, cd191, cd192, cd193, cd194, cd195, cd196, cd197, cd198, cd199, cd200, cd201, cd202, cd203, cd204, cd205, cd206, cd207, cd208, cd209, cd210, cd211, cd212, cd213, cd214, cd215, cd216, cd217, cd218, cd219, cd220, cd221, cd222, cd223, cd224, cd225, cd226, cd227, cd228, cd229, cd230, cd231, cd232, cd233, cd234, cd235, cd236, cd237, cd238, cd239, cd240, cd241, cd242, cd243, cd244, cd245, cd246, cd247, cd248, cd249, cd250, cd251, cd252, cd253, cd254, cd255]
noncomputable def refO : List Con := [cr0, cr1, cr2, cr3, cr4, cr5, cr6, cr7, cr8, cr9, cr10, cr11, cr12, cr13, cr14, cr15, cr16, cr17, cr18, cr19, cr20, cr21, cr22, cr23, cr24, cr25, cr26, cr27, cr28, cr29, cr30, cr31, cr32, cr33, cr34, cr35, cr36, cr37, cr38, cr39, cr40, cr41, cr42, cr43, cr44, cr45, cr46, cr47, cr48, cr49, cr50, cr51, cr52, cr53, cr54, cr55, cr56, cr57, cr58, cr59, cr60, cr61, cr62, cr63, cr64, cr65, cr66, cr67, cr68, cr69, cr70, cr71, cr72, cr73, cr74, cr75, cr76, cr77, cr78, cr79, cr80, cr81, cr82, cr83, cr84, cr85, cr86, cr87, cr88, cr89, cr90, cr91, cr92, cr93, cr94, cr95, cr96, cr97, cr98, cr99, cr100, cr101, cr102, cr103, cr104, cr105, cr106, cr107, cr108, cr109, cr110, cr111, cr112, cr113, cr114, cr115, cr116, cr117, cr118, cr119, cr120, cr121, cr122, cr123, cr124, cr125, cr126, cr127, cr128, cr129, cr130, cr131, cr132, cr133, cr134, cr135, cr136, cr137, cr138, cr139, cr140, cr141, cr142, cr143, cr144, cr145, cr146, cr147, cr148, cr149, cr150, cr151, cr152, cr153, cr154, cr155, cr156, cr157, cr158, cr159, cr160, cr161, cr162, cr163, cr164, cr165, cr166, cr167, cr168, cr169, cr170, cr171, cr172, cr173, cr174, cr175, cr176, cr177, cr178, cr179, cr180, cr181, cr182, cr183, cr184, cr185, cr186, cr187, cr188, cr189, cr190, cr191, cr192, cr193, cr194, cr195, cr196, cr197, cr198, cr199, cr200, cr201, cr202, cr203, cr204, cr205, cr206, cr207, cr208, cr209, cr210, cr211, cr212, cr213, cr214, cr215, cr216, cr217, cr218, cr219, cr220, cr221, cr222, cr223, cr224, cr225, cr226, cr227, cr228, cr229, cr230, cr231, cr232, cr233, cr234, cr235, cr236, cr237, cr238, cr239, cr240, cr241, cr242, cr243, cr244, cr245, cr246, cr247, cr248, cr249, cr250, cr251, cr252, cr253, cr254, cr255]
noncomputable def conO (f : FuncId) (vs : List Value) (nx : Nat) : Option Con :=
  cond (Nat.beq f 14) (match vs with | [] => some cal | _ => none)
    (cond (Nat.beq f 15) (match vs with | [.int .i64 (.ofNat n)] => nthF dirO n | _ => none)
      (cond (Nat.beq f 16) (match vs with | [.int .i64 (.ofNat n)] => (match nthF refO n with | some c => some c | none => some crbig) | [.int .i64 (.negSucc _)] => some crneg | _ => none) none))
noncomputable def LkO : Lk := { Lk0 with con := conO }
theorem LkO_ok [Sym] : LkO.Ok Tryd.prog := ⟨Lk0_ok.info, Lk0_ok.und, Lk0_ok.func, Lk0_ok.mixed, Lk0_ok.ext, Lk0_ok.symOp, Lk0_ok.symLen⟩
def AllO (F : Nat → Con → Prop) : List Con → Nat → Prop
  | [], _ => True
  | c :: r, n => F n c ∧ AllO F r (n + 1)
theorem AllO.get {F : Nat → Con → Prop} : ∀ (l : List Con) (n : Nat), AllO F l n → ∀ i c, nthF l i = some c → F (n + i) c
  | [], _, _, i, c, h => by cases h
  | x :: r, n, ⟨h1, h2⟩, i, c, h => by
    cases i with
    | zero => cases h; exact h1
    | succ i =>
      have := AllO.get r (n + 1) h2 i c h
      have e : n + 1 + i = n + (i + 1) := by omega
      rwa [e] at this
theorem dirOOk [Sym] : AllO (fun n c => ConFact Tryd.prog 15 [.int .i64 (.ofNat n)] c) dirO 0 := ⟨f_d0, f_d1, f_d2, f_d3, f_d4, f_d5, f_d6, f_d7, f_d8, f_d9, f_d10, f_d11, f_d12, f_d13, f_d14, f_d15, f_d16, f_d17, f_d18, f_d19, f_d20, f_d21, f_d22, f_d23, f_d24, f_d25, f_d26, f_d27, f_d28, f_d29, f_d30, f_d31, f_d32, f_d33, f_d34, f_d35, f_d36, f_d37, f_d38, f_d39, f_d40, f_d41, f_d42, f_d43, f_d44, f_d45, f_d46, f_d47, f_d48, f_d49, f_d50, f_d51, f_d52, f_d53, f_d54, f_d55, f_d56, f_d57, f_d58, f_d59, f_d60, f_d61, f_d62, f_d63, f_d64, f_d65, f_d66, f_d67, f_d68, f_d69, f_d70, f_d71, f_d72, f_d73, f_d74, f_d75, f_d76, f_d77, f_d78, f_d79, f_d80, f_d81, f_d82, f_d83, f_d84, f_d85, f_d86, f_d87, f_d88, f_d89, f_d90, f_d91, f_d92, f_d93, f_d94, f_d95, f_d96, f_d97, f_d98, f_d99, f_d100, f_d101, f_d102, f_d103, f_d104, f_d105, f_d106, f_d107, f_d108, f_d109, f_d110, f_d111, f_d112, f_d113, f_d114, f_d115, f_d116, f_d117, f_d118, f_d119, f_d120, f_d121, f_d122, f_d123, f_d124, f_d125, f_d126, f_d127, f_d128, f_d129, f_d130, f_d131, f_d132, f_d133, f_d134, f_d135, f_d136, f_d137, f_d138, f_d139, f_d140, f_d141, f_d142, f_d143, f_d144, f_d145, f_d146, f_d147, f_d148, f_d149, f_d150, f_d151, f_d152, f_d153, f_d154, f_d155, f_d156, f_d157, f_d158, f_d159, f_d160, f_d161, f_d162, f_d163, f_d164, f_d165, f_d166, f_d167, f_d168, f_d169, f_d170, f_d171, f_d172, f_d173, f_d174, f_d175, f_d176, f_d177, f_d178, f_d179, f_d180, f_d181, f_d182, f_d183, f_d184, f_d185, f_d186, f_d187, f_d188, f_d189, f_d190, f_d191, f_d192, f_d193, f_d194, f_d195, f_d196, f_d197, f_d198, f_d199, f_d200, f_d201, f_d202, f_d203, f_d204, f_d205, f_d206, f_d207, f_d208, f_d209, f_d210, f_d211, f_d212, f_d213, f_d214, f_d215, f_d216, f_d217, f_d218, f_d219, f_d220, f_d221, f_d222, f_d223, f_d224, f_d225, f_d226, f_d227, f_d228, f_d229, f_d230, f_d231, f_d232, f_d233, f_d234, f_d235, f_d236, f_d237, f_d238, f_d239, f_d240, f_d241, f_d242, f_d243, f_d244, f_d245, f_d246, f_d247, f_d248, f_d249, f_d250, f_d251, f_d252, f_d253, f_d254, f_d255, trivial⟩
theorem refOOk [Sym] : AllO (fun n c => ConFact Tryd.prog 16 [.int .i64 (.ofNat n)] c) refO 0 := ⟨f_o0, f_o1, f_o2, f_o3, f_o4, f_o5, f_o6, f_o7, f_o8, f_o9, f_o10, f_o11, f_o12, f_o13, f_o14, f_o15, f_o16, f_o17, f_o18, f_o19, f_o20, f_o21, f_o22, f_o23, f_o24, f_o25, f_o26, f_o27, f_o28, f_o29, f_o30, f_o31, f_o32, f_o33, f_o34, f_o35, f_o36, f_o37, f_o38, f_o39, f_o40, f_o41, f_o42, f_o43, f_o44, f_o45, f_o46, f_o47, f_o48, f_o49, f_o50, f_o51, f_o52, f_o53, f_o54, f_o55, f_o56, f_o57, f_o58, f_o59, f_o60, f_o61, f_o62, f_o63, f_o64, f_o65, f_o66, f_o67, f_o68, f_o69, f_o70, f_o71, f_o72, f_o73, f_o74, f_o75, f_o76, f_o77, f_o78, f_o79, f_o80, f_o81, f_o82, f_o83, f_o84, f_o85, f_o86, f_o87, f_o88, f_o89, f_o90, f_o91, f_o92, f_o93, f_o94, f_o95, f_o96, f_o97, f_o98, f_o99, f_o100, f_o101, f_o102, f_o103, f_o104, f_o105, f_o106, f_o107, f_o108, f_o109, f_o110, f_o111, f_o112, f_o113, f_o114, f_o115, f_o116, f_o117, f_o118, f_o119, f_o120, f_o121, f_o122, f_o123, f_o124, f_o125, f_o126, f_o127, f_o128, f_o129, f_o130, f_o131, f_o132, f_o133, f_o134, f_o135, f_o136, f_o137, f_o138, f_o139, f_o140, f_o141, f_o142, f_o143, f_o144, f_o145, f_o146, f_o147, f_o148, f_o149, f_o150, f_o151, f_o152, f_o153, f_o154, f_o155, f_o156, f_o157, f_o158, f_o159, f_o160, f_o161, f_o162, f_o163, f_o164, f_o165, f_o166, f_o167, f_o168, f_o169, f_o170, f_o171, f_o172, f_o173, f_o174, f_o175, f_o176, f_o177, f_o178, f_o179, f_o180, f_o181, f_o182, f_o183, f_o184, f_o185, f_o186, f_o187, f_o188, f_o189, f_o190, f_o191, f_o192, f_o193, f_o194, f_o195, f_o196, f_o197, f_o198, f_o199, f_o200, f_o201, f_o202, f_o203, f_o204, f_o205, f_o206, f_o207, f_o208, f_o209, f_o210, f_o211, f_o212, f_o213, f_o214, f_o215, f_o216, f_o217, f_o218, f_o219, f_o220, f_o221, f_o222, f_o223, f_o224, f_o225, f_o226, f_o227, f_o228, f_o229, f_o230, f_o231, f_o232, f_o233, f_o234, f_o235, f_o236, f_o237, f_o238, f_o239, f_o240, f_o241, f_o242, f_o243, f_o244, f_o245, f_o246, f_o247, f_o248, f_o249, f_o250, f_o251, f_o252, f_o253, f_o254, f_o255, trivial⟩
theorem refLen : refO.length = 256 := by kernel_rfl
theorem conO_ok [Sym] : ConOk Tryd.prog LkO := fun f vs nx c h => by
  have h' : conO f vs nx = some c := h
  unfold conO at h'
  cases h1 : Nat.beq f 14 with
  | true =>
    rw [h1] at h'
    simp only [cond_true] at h'
    have e := Nat.eq_of_beq_eq_true h1
    subst e
    split at h'
    · cases h'; exact f_al
    · cases h'
  | false =>
    rw [h1] at h'
    simp only [cond_false] at h'
    cases h2 : Nat.beq f 15 with
    | true =>
      rw [h2] at h'
      simp only [cond_true] at h'
      have e := Nat.eq_of_beq_eq_true h2
      subst e
      split at h'
      · rename_i n
        have := dirOOk.get _ _ n c h'; rwa [Nat.zero_add] at this
      · cases h'
    | false =>
      rw [h2] at h'
      simp only [cond_false] at h'
      cases h3 : Nat.beq f 16 with
      | false => rw [h3] at h'; cases h'
      | true =>
        rw [h3] at h'
        simp only [cond_true] at h'
        have e := Nat.eq_of_beq_eq_true h3
        subst e
        split at h'
        · rename_i n
          cases hr : nthF refO n with
          | some c' =>
            rw [hr] at h'
            cases h'
            have := refOOk.get _ _ n c hr; rwa [Nat.zero_add] at this
          | none =>
            rw [hr] at h'
            cases h'
            rw [nthF_eq, List.getElem?_eq_none_iff, refLen] at hr
            obtain ⟨m, rfl⟩ : ∃ m, n = m + 256 := ⟨n - 256, by omega⟩
            exact f_obig m
        · rename_i n
          cases h'
          exact f_oneg n
        · cases h'
/-- What is told of 'class' in its three ranges: below 40, 40 to 45, above. -/
noncomputable def cmpR (r : Nat) : BinOp → TypeId → Value → Value → Option Value
  | .geq, _, .map (some 0), .int .i64 (.ofNat n) => cond (Nat.beq n 40) (some (.bool (!Nat.beq r 0))) none
  | .leq, _, .map (some 0), .int .i64 (.ofNat n) => cond (Nat.beq n 45) (some (.bool (!Nat.beq r 2))) none
  | _, _, _, _ => none
noncomputable def LkC (r : Nat) : Lk := { LkO with symOp := cmpR r }
structure okC (v : Value) : Prop where
  r0 : okTrue (runF Tryd.prog (LkC 0) 400 5 [v, .map (some 0)] st0) = true
  r1 : okTrue (runF Tryd.prog (LkC 1) 400 5 [v, .map (some 0)] st0) = true
  r2 : okTrue (runF Tryd.prog (LkC 2) 400 5 [v, .map (some 0)] st0) = true
abbrev symI (k : Int) : Sym := ⟨fun _ => .int .i64 k, fun _ => .inl ⟨_, _, rfl⟩⟩
theorem LkC_ok {k : Int} {r : Nat} (h0 : r = 0 ↔ k < 40) (h2 : r = 2 ↔ 45 < k) : @Lk.Ok (symI k) (LkC r) Tryd.prog :=
  letI : Sym := symI k
  { LkO_ok with
    symOp := fun op t a b v h x y => by
      have h' : cmpR r op t a b = some v := h
      unfold cmpR at h'
      split at h'
      · rename_i n
        cases hb : Nat.beq n 40 with
        | false => rw [hb] at h'; cases h'
        | true =>
          rw [hb] at h'
          cases h'
          have e := Nat.eq_of_beq_eq_true hb
          subst e
          refine sym_cmp _ _ _ (?_ : arithF .geq .i64 k 40 = _)
          simp only [arithF, ltF_eq]
          congr 2
          by_cases hr : r = 0
          · subst hr; have := h0.1 rfl; simp [this]
          · have : ¬ k < 40 := fun h => hr (h0.2 h)
            simp [this, hr, beq_dec]
      · rename_i n
        cases hb : Nat.beq n 45 with
        | false => rw [hb] at h'; cases h'
        | true =>
          rw [hb] at h'
          cases h'
          have e := Nat.eq_of_beq_eq_true hb
          subst e
          refine sym_cmp _ _ _ (?_ : arithF .leq .i64 k 45 = _)
          simp only [arithF, ltF_eq]
          congr 2
          by_cases hr : r = 2
          · subst hr; have := h2.1 rfl; simp [this]
          · have : ¬ 45 < k := fun h => hr (h2.2 h)
            simp [this, hr, beq_dec]
      · cases h'
    symLen := fun i v h => by cases h }
theorem LkC_con [Sym] (r : Nat) : ConOk Tryd.prog (LkC r) := conO_ok
theorem okC.run {v : Value} (h : okC v) (k : Int) : ∃ r st', @Lk.Ok (symI k) (LkC r) Tryd.prog ∧ runE Tryd.prog (LkC r) 400 5 [v, .map (some 0)] st0 = some (.bool true, st') ∧ st'.log = [] := by
  letI : Sym := symI k
  by_cases h0 : k < 40
  · have hok : (LkC 0).Ok Tryd.prog := LkC_ok (by simp [h0]) (by constructor <;> intro h <;> omega)
    obtain ⟨st', h1, h2⟩ := okTrue_some h.r0
    exact ⟨0, st', hok, runF_le hok h1, h2⟩
  · by_cases h45 : 45 < k
    · have hok : (LkC 2).Ok Tryd.prog := LkC_ok (by constructor <;> intro h <;> omega) (by simp [h45])
      obtain ⟨st', h1, h2⟩ := okTrue_some h.r2
      exact ⟨2, st', hok, runF_le hok h1, h2⟩
    · have hok : (LkC 1).Ok Tryd.prog := LkC_ok (by constructor <;> intro h <;> omega) (by constructor <;> intro h <;> omega)
      obtain ⟨st', h1, h2⟩ := okTrue_some h.r1
      exact ⟨1, st', hok, runF_le hok h1, h2⟩
end Go.Proofs.YtfgdoliihmjnoaaDoorE
