/- The lookups with the contracts of isa.Of. Printed by gen_con.py. -/
import Derived.Test.YtfgdoliihmjnoaaDoorEKd0
import Derived.Test.YtfgdoliihmjnoaaDoorEKd1
import Derived.Test.YtfgdoliihmjnoaaDoorEKd2
import Derived.Test.YtfgdoliihmjnoaaDoorEKd3
import Derived.Test.YtfgdoliihmjnoaaDoorEKs0
import Derived.Test.YtfgdoliihmjnoaaDoorEKs1
import Derived.Test.YtfgdoliihmjnoaaDoorEKs2
import Derived.Test.YtfgdoliihmjnoaaDoorEKs3
set_option linter.unusedSimpArgs false
set_option linter.unusedVariables false
namespace Go.Proofs.YtfgdoliihmjnoaaDoorE
open Go Go.E Go.Proofs
set_option maxRecDepth 100000
noncomputable def dirL : List Con := [cd0, cd1, cd2, cd3, cd4, cd5, cd6, cd7, cd8, cd9, cd10, cd11, cd12, cd13, cd14, cd15, cd16, cd17, cd18, cd19, cd20, cd21, cd22, cd23, cd24, cd25, cd26, cd27, cd28, cd29, cd30, cd31, cd32, cd33, cd34, cd35, cd36, cd37, cd38, cd39, cd40, cd41, cd42, cd43, cd44, cd45, cd46, cd47, cd48, cd49, cd50, cd51, cd52, cd53, cd54, cd55, cd56, cd57, cd58, cd59, cd60, cd61, cd62, cd63, cd64, cd65, cd66, cd67, cd68, cd69, cd70, cd71, cd72, cd73, cd74, cd75, cd76, cd77, cd78, cd79, cd80, cd81, cd82, cd83, cd84, cd85, cd86, cd87, cd88, cd89, cd90, cd91, cd92, cd93, cd94, cd95, cd96, cd97, cd98, cd99, cd100, cd101, cd102, cd103, cd104, cd105, cd106, cd107, cd108, cd109, cd110, cd111, cd112, cd113, cd114, cd115, cd116, cd117, cd118, cd119, cd120, cd121, cd122, cd123, cd124, cd125, cd126, cd127, cd128, cd129, cd130, cd131, cd132, cd133, cd134, cd135, cd136, cd137, cd138, cd139, cd140, cd141, cd142, cd143, cd144, cd145, cd146, cd147, cd148, cd149, cd150, cd151, cd152, cd153, cd154, cd155, cd156, cd157, cd158, cd159, cd160, cd161, cd162, cd163, cd164, cd165, cd166, cd167, cd168, cd169, cd170, cd171, cd172, cd173, cd174, cd175, cd176, cd177, cd178, cd179, cd180, cd181, cd182, cd183, cd184, cd185, cd186, cd187, cd188, cd189, cd190, cd191, cd192, cd193, cd194, cd195, cd196, cd197, cd198, cd199, cd200, cd201, cd202, cd203, cd204, cd205, cd206, cd207, cd208, cd209, cd210, cd211, cd212, cd213, cd214, cd215, cd216, cd217, cd218, cd219, cd220, cd221, cd222, cd223, cd224, cd225, cd226, cd227, cd228, cd229, cd230, cd231, cd232, cd233, cd234, cd235, cd236, cd237, cd238, cd239, cd240, cd241, cd242, cd243, cd244, cd245, cd246, cd247, cd248, cd249, cd250, cd251, cd252, cd253, cd254, cd255]
noncomputable def seaL : List Con := [cs0, cs1, cs2, cs3, cs4, cs5, cs6, cs7, cs8, cs9, cs10, cs11, cs12, cs13, cs14, cs15, cs16, cs17, cs18, cs19, cs20, cs21, cs22, cs23, cs24, cs25, cs26, cs27, cs28, cs29, cs30, cs31, cs32, cs33, cs34, cs35, cs36, cs37, cs38, cs39, cs40, cs41, cs42, cs43, cs44, cs45, cs46, cs47, cs48, cs49, cs50, cs51, cs52, cs53, cs54, cs55, cs56, cs57, cs58, cs59, cs60, cs61, cs62, cs63, cs64, cs65, cs66, cs67, cs68, cs69, cs70, cs71, cs72, cs73, cs74, cs75, cs76, cs77, cs78, cs79, cs80, cs81, cs82, cs83, cs84, cs85, cs86, cs87, cs88, cs89, cs90, cs91, cs92, cs93, cs94, cs95, cs96, cs97, cs98, cs99, cs100, cs101, cs102, cs103, cs104, cs105, cs106, cs107, cs108, cs109, cs110, cs111, cs112, cs113, cs114, cs115, cs116, cs117, cs118, cs119, cs120, cs121, cs122, cs123, cs124, cs125, cs126, cs127, cs128, cs129, cs130, cs131, cs132, cs133, cs134, cs135, cs136, cs137, cs138, cs139, cs140, cs141, cs142, cs143, cs144, cs145, cs146, cs147, cs148, cs149, cs150, cs151, cs152, cs153, cs154, cs155, cs156, cs157, cs158, cs159, cs160, cs161, cs162, cs163, cs164, cs165, cs166, cs167, cs168, cs169, cs170, cs171, cs172, cs173, cs174, cs175, cs176, cs177, cs178, cs179, cs180, cs181, cs182, cs183, cs184, cs185, cs186, cs187, cs188, cs189, cs190, cs191, cs192, cs193, cs194, cs195, cs196, cs197, cs198, cs199, cs200, cs201, cs202, cs203, cs204, cs205, cs206, cs207, cs208, cs209, cs210, cs211, cs212, cs213, cs214, cs215, cs216, cs217, cs218, cs219, cs220, cs221, cs222, cs223, cs224, cs225, cs226, cs227, cs228, cs229, cs230, cs231, cs232, cs233, cs234, cs235, cs236, cs237, cs238, cs239, cs240, cs241, cs242, cs243, cs244, cs245, cs246, cs247, cs248, cs249, cs250, cs251, cs252, cs253, cs254, cs255]
noncomputable def conN (f : FuncId) (vs : List Value) (nx : Nat) : Option Con :=
  cond (Nat.beq f 14) (match vs with | [] => some cal | _ => none)
    (cond (Nat.beq f 15) (match vs with | [.int .i64 (.ofNat n)] => cond (Nat.ble nx 33) (nthF dirL n) (nthF seaL n) | _ => none) none)
noncomputable def LkN : Lk := { Lk0 with con := conN }
def AllAt (F : Nat → Con → Prop) : List Con → Nat → Prop
  | [], _ => True
  | c :: r, n => F n c ∧ AllAt F r (n + 1)
theorem AllAt.get {F : Nat → Con → Prop} : ∀ (l : List Con) (n : Nat), AllAt F l n → ∀ i c, nthF l i = some c → F (n + i) c
  | [], _, _, i, c, h => by cases h
  | x :: r, n, ⟨h1, h2⟩, i, c, h => by
    cases i with
    | zero => cases h; exact h1
    | succ i =>
      have := AllAt.get r (n + 1) h2 i c h
      have e : n + 1 + i = n + (i + 1) := by omega
      rwa [e] at this
theorem dirOk : AllAt (fun n c => ConFact Tryd.prog 15 [.int .i64 (.ofNat n)] c) dirL 0 := ⟨f_d0, f_d1, f_d2, f_d3, f_d4, f_d5, f_d6, f_d7, f_d8, f_d9, f_d10, f_d11, f_d12, f_d13, f_d14, f_d15, f_d16, f_d17, f_d18, f_d19, f_d20, f_d21, f_d22, f_d23, f_d24, f_d25, f_d26, f_d27, f_d28, f_d29, f_d30, f_d31, f_d32, f_d33, f_d34, f_d35, f_d36, f_d37, f_d38, f_d39, f_d40, f_d41, f_d42, f_d43, f_d44, f_d45, f_d46, f_d47, f_d48, f_d49, f_d50, f_d51, f_d52, f_d53, f_d54, f_d55, f_d56, f_d57, f_d58, f_d59, f_d60, f_d61, f_d62, f_d63, f_d64, f_d65, f_d66, f_d67, f_d68, f_d69, f_d70, f_d71, f_d72, f_d73, f_d74, f_d75, f_d76, f_d77, f_d78, f_d79, f_d80, f_d81, f_d82, f_d83, f_d84, f_d85, f_d86, f_d87, f_d88, f_d89, f_d90, f_d91, f_d92, f_d93, f_d94, f_d95, f_d96, f_d97, f_d98, f_d99, f_d100, f_d101, f_d102, f_d103, f_d104, f_d105, f_d106, f_d107, f_d108, f_d109, f_d110, f_d111, f_d112, f_d113, f_d114, f_d115, f_d116, f_d117, f_d118, f_d119, f_d120, f_d121, f_d122, f_d123, f_d124, f_d125, f_d126, f_d127, f_d128, f_d129, f_d130, f_d131, f_d132, f_d133, f_d134, f_d135, f_d136, f_d137, f_d138, f_d139, f_d140, f_d141, f_d142, f_d143, f_d144, f_d145, f_d146, f_d147, f_d148, f_d149, f_d150, f_d151, f_d152, f_d153, f_d154, f_d155, f_d156, f_d157, f_d158, f_d159, f_d160, f_d161, f_d162, f_d163, f_d164, f_d165, f_d166, f_d167, f_d168, f_d169, f_d170, f_d171, f_d172, f_d173, f_d174, f_d175, f_d176, f_d177, f_d178, f_d179, f_d180, f_d181, f_d182, f_d183, f_d184, f_d185, f_d186, f_d187, f_d188, f_d189, f_d190, f_d191, f_d192, f_d193, f_d194, f_d195, f_d196, f_d197, f_d198, f_d199, f_d200, f_d201, f_d202, f_d203, f_d204, f_d205, f_d206, f_d207, f_d208, f_d209, f_d210, f_d211, f_d212, f_d213, f_d214, f_d215, f_d216, f_d217, f_d218, f_d219, f_d220, f_d221, f_d222, f_d223, f_d224, f_d225, f_d226, f_d227, f_d228, f_d229, f_d230, f_d231, f_d232, f_d233, f_d234, f_d235, f_d236, f_d237, f_d238, f_d239, f_d240, f_d241, f_d242, f_d243, f_d244, f_d245, f_d246, f_d247, f_d248, f_d249, f_d250, f_d251, f_d252, f_d253, f_d254, f_d255, trivial⟩
theorem seaOk : AllAt (fun n c => ConFact Tryd.prog 15 [.int .i64 (.ofNat n)] c) seaL 0 := ⟨f_s0, f_s1, f_s2, f_s3, f_s4, f_s5, f_s6, f_s7, f_s8, f_s9, f_s10, f_s11, f_s12, f_s13, f_s14, f_s15, f_s16, f_s17, f_s18, f_s19, f_s20, f_s21, f_s22, f_s23, f_s24, f_s25, f_s26, f_s27, f_s28, f_s29, f_s30, f_s31, f_s32, f_s33, f_s34, f_s35, f_s36, f_s37, f_s38, f_s39, f_s40, f_s41, f_s42, f_s43, f_s44, f_s45, f_s46, f_s47, f_s48, f_s49, f_s50, f_s51, f_s52, f_s53, f_s54, f_s55, f_s56, f_s57, f_s58, f_s59, f_s60, f_s61, f_s62, f_s63, f_s64, f_s65, f_s66, f_s67, f_s68, f_s69, f_s70, f_s71, f_s72, f_s73, f_s74, f_s75, f_s76, f_s77, f_s78, f_s79, f_s80, f_s81, f_s82, f_s83, f_s84, f_s85, f_s86, f_s87, f_s88, f_s89, f_s90, f_s91, f_s92, f_s93, f_s94, f_s95, f_s96, f_s97, f_s98, f_s99, f_s100, f_s101, f_s102, f_s103, f_s104, f_s105, f_s106, f_s107, f_s108, f_s109, f_s110, f_s111, f_s112, f_s113, f_s114, f_s115, f_s116, f_s117, f_s118, f_s119, f_s120, f_s121, f_s122, f_s123, f_s124, f_s125, f_s126, f_s127, f_s128, f_s129, f_s130, f_s131, f_s132, f_s133, f_s134, f_s135, f_s136, f_s137, f_s138, f_s139, f_s140, f_s141, f_s142, f_s143, f_s144, f_s145, f_s146, f_s147, f_s148, f_s149, f_s150, f_s151, f_s152, f_s153, f_s154, f_s155, f_s156, f_s157, f_s158, f_s159, f_s160, f_s161, f_s162, f_s163, f_s164, f_s165, f_s166, f_s167, f_s168, f_s169, f_s170, f_s171, f_s172, f_s173, f_s174, f_s175, f_s176, f_s177, f_s178, f_s179, f_s180, f_s181, f_s182, f_s183, f_s184, f_s185, f_s186, f_s187, f_s188, f_s189, f_s190, f_s191, f_s192, f_s193, f_s194, f_s195, f_s196, f_s197, f_s198, f_s199, f_s200, f_s201, f_s202, f_s203, f_s204, f_s205, f_s206, f_s207, f_s208, f_s209, f_s210, f_s211, f_s212, f_s213, f_s214, f_s215, f_s216, f_s217, f_s218, f_s219, f_s220, f_s221, f_s222, f_s223, f_s224, f_s225, f_s226, f_s227, f_s228, f_s229, f_s230, f_s231, f_s232, f_s233, f_s234, f_s235, f_s236, f_s237, f_s238, f_s239, f_s240, f_s241, f_s242, f_s243, f_s244, f_s245, f_s246, f_s247, f_s248, f_s249, f_s250, f_s251, f_s252, f_s253, f_s254, f_s255, trivial⟩
theorem conN_ok : ConOk Tryd.prog LkN := fun f vs nx c h => by
  have h' : conN f vs nx = some c := h
  unfold conN at h'
  cases h1 : Nat.beq f 14 with
  | true =>
    rw [h1] at h'
    simp only [cond_true] at h'
    have e := Nat.eq_of_beq_eq_true h1
    subst e
    split at h'
    · cases h'; exact f_al
    · cases h'
  | false =>
    rw [h1] at h'
    simp only [cond_false] at h'
    cases h2 : Nat.beq f 15 with
    | false => rw [h2] at h'; cases h'
    | true =>
      rw [h2] at h'
      simp only [cond_true] at h'
      have e := Nat.eq_of_beq_eq_true h2
      subst e
      split at h'
      · rename_i n
        cases h3 : Nat.ble nx 33 with
        | true => rw [h3] at h'; have := dirOk.get _ _ n c h'; rwa [Nat.zero_add] at this
        | false => rw [h3] at h'; have := seaOk.get _ _ n c h'; rwa [Nat.zero_add] at this
      · cases h'
theorem LkN_ok : LkN.Ok Tryd.prog := ⟨Lk0_ok.info, Lk0_ok.und, Lk0_ok.func, Lk0_ok.mixed, Lk0_ok.ext⟩
end Go.Proofs.YtfgdoliihmjnoaaDoorE
