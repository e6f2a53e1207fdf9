/- The lookups of IsaFinds. Printed by gen_con.py. -/
import Derived.Test.YtfgdoliihmjnoaaDoorELkA
import Derived.Test.YtfgdoliihmjnoaaDoorEKs0
import Derived.Test.YtfgdoliihmjnoaaDoorEKs1
import Derived.Test.YtfgdoliihmjnoaaDoorEKs2
import Derived.Test.YtfgdoliihmjnoaaDoorEKs3
import Derived.Test.YtfgdoliihmjnoaaDoorEKd0
import Derived.Test.YtfgdoliihmjnoaaDoorXG3
import Derived.Laws.Strings
set_option linter.unusedSimpArgs false
set_option linter.unusedVariables false
namespace Go.Proofs.YtfgdoliihmjnoaaDoorE
open Go Go.E Go.Proofs
set_option maxRecDepth 100000
noncomputable def seaF : List Con := [cs0, cs1, cs2, cs3, cs4, cs5, cs6, cs7, cs8, cs9, cs10, cs11, cs12, cs13, cs14, cs15, cs16, cs17, cs18, cs19, cs20, cs21, cs22, cs23, cs24, cs25, cs26, cs27, cs28, cs29, cs30, cs31, cs32, cs33, cs34, cs35, cs36, cs37, cs38, cs39, cs40, cs41, cs42, cs43, cs44, cs45, cs46, cs47, cs48, cs49, cs50, cs51, cs52, cs53, cs54, cs55, cs56, cs57, cs58, cs59, cs60, cs61, cs62, cs63, cs64, cs65, cs66, cs67, cs68, cs69, cs70, cs71, cs72, cs73, cs74, cs75, cs76, cs77, cs78, cs79, cs80, cs81, cs82, cs83, cs84, cs85, cs86, cs87, cs88, cs89, cs90, cs91, cs92, cs93, cs94, cs95, cs96, cs97, cs98, cs99, cs100, cs101, cs102, cs103, cs104, cs105, cs106, cs107, cs108, cs109, cs110, cs111, cs112, cs113, cs114, cs115, cs116, cs117, cs118, cs119, cs120, cs121, cs122, cs123, cs124, cs125, cs126, cs127, cs128, cs129, cs130, cs131, cs132, cs133, cs134, cs135, cs136, cs137, cs138, cs139, cs140, cs141, cs142, cs143, cs144, cs145, cs146, cs147, cs148, cs149, cs150, cs151, cs152, cs153, cs154, cs155, cs156, cs157, cs158, cs159, cs160, cs161, cs162, cs163, cs164, cs165, cs166, cs167, cs168, cs169, cs170, cs171, cs172, cs173, cs174, cs175, cs176, cs177, cs178, cs179, cs180, cs181, cs182, cs183, cs184, cs185, cs186, cs187, cs188, cs189, cs190, cs191, cs192, cs193, cs194, cs195, cs196, cs197, cs198, cs199, cs200, cs201, cs202, cs203, cs204, cs205, cs206, cs207, cs208, cs209, cs210, cs211, cs212, cs213, cs214, cs215, cs216, cs217, cs218, cs219, cs220, cs221, cs222, cs223, cs224, cs225, cs226, cs227, cs228, cs229, cs230, cs231, cs232, cs233, cs234, cs235, cs236, cs237, cs238, cs239, cs240, cs241, cs242, cs243, cs244, cs245, cs246, cs247, cs248, cs249, cs250, cs251, cs252, cs253, cs254, cs255]
noncomputable def namesL : List (List UInt8) := [[72, 65, 76, 84],
  [78, 79, 80],
  [82, 69, 73],
  [66, 80, 84],
  [82, 69, 84],
  [82, 83, 66],
  [66, 83, 66, 66],
  [66, 82, 66],
  [66, 78, 69, 81],
  [66, 69, 81, 76],
  [66, 71, 84, 82],
  [66, 76, 69, 81],
  [74, 83, 66],
  [74, 77, 80],
  [66, 71, 69, 81],
  [66, 76, 83, 83],
  [66, 71, 84, 82, 85],
  [66, 76, 69, 81, 85],
  [66, 86, 67],
  [66, 86, 83],
  [66, 67, 67],
  [66, 67, 83],
  [77, 79, 86, 67, 51],
  [67, 77, 80, 67, 51],
  [77, 79, 86, 67, 53],
  [67, 77, 80, 67, 53],
  [66, 83, 66, 87],
  [66, 82, 87],
  [67, 86, 84, 87, 76],
  [67, 86, 84, 87, 66],
  [76, 79, 67, 67],
  [83, 75, 80, 67],
  [77, 79, 86, 90, 87, 76],
  [65, 83, 72, 76],
  [65, 68, 68, 66, 50],
  [65, 68, 68, 66, 51],
  [83, 85, 66, 66, 50],
  [83, 85, 66, 66, 51],
  [77, 85, 76, 66, 50],
  [77, 85, 76, 66, 51],
  [68, 73, 86, 66, 50],
  [68, 73, 86, 66, 51],
  [66, 73, 83, 66, 50],
  [66, 73, 83, 66, 51],
  [66, 73, 67, 66, 50],
  [66, 73, 67, 66, 51],
  [88, 79, 82, 66, 50],
  [88, 79, 82, 66, 51],
  [77, 78, 69, 71, 66],
  [77, 79, 86, 66],
  [67, 77, 80, 66],
  [77, 67, 79, 77, 66],
  [66, 73, 84, 66],
  [67, 76, 82, 66],
  [84, 83, 84, 66],
  [73, 78, 67, 66],
  [68, 69, 67, 66],
  [67, 86, 84, 66, 76],
  [67, 86, 84, 66, 87],
  [77, 79, 86, 90, 66, 76],
  [77, 79, 86, 90, 66, 87],
  [82, 79, 84, 76],
  [77, 79, 86, 65, 66],
  [80, 85, 83, 72, 65, 66],
  [65, 68, 68, 87, 50],
  [65, 68, 68, 87, 51],
  [83, 85, 66, 87, 50],
  [83, 85, 66, 87, 51],
  [77, 85, 76, 87, 50],
  [77, 85, 76, 87, 51],
  [68, 73, 86, 87, 50],
  [68, 73, 86, 87, 51],
  [66, 73, 83, 87, 50],
  [66, 73, 83, 87, 51],
  [66, 73, 67, 87, 50],
  [66, 73, 67, 87, 51],
  [88, 79, 82, 87, 50],
  [88, 79, 82, 87, 51],
  [77, 78, 69, 71, 87],
  [77, 79, 86, 87],
  [67, 77, 80, 87],
  [77, 67, 79, 77, 87],
  [66, 73, 84, 87],
  [67, 76, 82, 87],
  [84, 83, 84, 87],
  [73, 78, 67, 87],
  [68, 69, 67, 87],
  [66, 73, 83, 80, 83, 87],
  [66, 73, 67, 80, 83, 87],
  [80, 79, 80, 82],
  [80, 85, 83, 72, 82],
  [67, 72, 77, 75],
  [77, 79, 86, 65, 87],
  [80, 85, 83, 72, 65, 87],
  [65, 68, 68, 76, 50],
  [65, 68, 68, 76, 51],
  [83, 85, 66, 76, 50],
  [83, 85, 66, 76, 51],
  [77, 85, 76, 76, 50],
  [77, 85, 76, 76, 51],
  [68, 73, 86, 76, 50],
  [68, 73, 86, 76, 51],
  [66, 73, 83, 76, 50],
  [66, 73, 83, 76, 51],
  [66, 73, 67, 76, 50],
  [66, 73, 67, 76, 51],
  [88, 79, 82, 76, 50],
  [88, 79, 82, 76, 51],
  [77, 78, 69, 71, 76],
  [77, 79, 86, 76],
  [67, 77, 80, 76],
  [77, 67, 79, 77, 76],
  [66, 73, 84, 76],
  [67, 76, 82, 76],
  [84, 83, 84, 76],
  [73, 78, 67, 76],
  [68, 69, 67, 76],
  [65, 68, 87, 67],
  [83, 66, 87, 67],
  [77, 84, 80, 82],
  [77, 70, 80, 82],
  [77, 79, 86, 80, 83, 76],
  [80, 85, 83, 72, 76],
  [77, 79, 86, 65, 76],
  [80, 85, 83, 72, 65, 76],
  [66, 66, 83],
  [66, 66, 67],
  [66, 76, 66, 83],
  [66, 76, 66, 67],
  [69, 88, 84, 86],
  [69, 88, 84, 90, 86],
  [73, 78, 83, 86],
  [65, 79, 66, 76, 83, 83],
  [65, 79, 66, 76, 69, 81],
  [83, 79, 66, 71, 69, 81],
  [83, 79, 66, 71, 84, 82],
  [67, 86, 84, 76, 66],
  [67, 86, 84, 76, 87],
  [67, 65, 76, 76, 83]]
noncomputable def conF (f : FuncId) (vs : List Value) (nx : Nat) : Option Con :=
  cond (Nat.beq f 14) (match vs with | [] => some cal | _ => none)
    (cond (Nat.beq f 15) (match vs with | [.int .i64 (.ofNat n)] => nthF seaF n | _ => none)
      (cond (Nat.beq f 30) (match vs with | [] => some call | _ => none) none))
noncomputable def LkF : Lk := { Lk0 with con := conF }
theorem LkF_ok [Sym] : LkF.Ok Tryd.prog := ⟨Lk0_ok.info, Lk0_ok.und, Lk0_ok.func, Lk0_ok.mixed, Lk0_ok.ext, Lk0_ok.symOp, Lk0_ok.symLen⟩
def AllF (F : Nat → Con → Prop) : List Con → Nat → Prop
  | [], _ => True
  | c :: r, n => F n c ∧ AllF F r (n + 1)
theorem AllF.get {F : Nat → Con → Prop} : ∀ (l : List Con) (n : Nat), AllF F l n → ∀ i c, nthF l i = some c → F (n + i) c
  | [], _, _, i, c, h => by cases h
  | x :: r, n, ⟨h1, h2⟩, i, c, h => by
    cases i with
    | zero => cases h; exact h1
    | succ i =>
      have := AllF.get r (n + 1) h2 i c h
      have e : n + 1 + i = n + (i + 1) := by omega
      rwa [e] at this
theorem seaFOk [Sym] : AllF (fun n c => ConFact Tryd.prog 15 [.int .i64 (.ofNat n)] c) seaF 0 := ⟨f_s0, f_s1, f_s2, f_s3, f_s4, f_s5, f_s6, f_s7, f_s8, f_s9, f_s10, f_s11, f_s12, f_s13, f_s14, f_s15, f_s16, f_s17, f_s18, f_s19, f_s20, f_s21, f_s22, f_s23, f_s24, f_s25, f_s26, f_s27, f_s28, f_s29, f_s30, f_s31, f_s32, f_s33, f_s34, f_s35, f_s36, f_s37, f_s38, f_s39, f_s40, f_s41, f_s42, f_s43, f_s44, f_s45, f_s46, f_s47, f_s48, f_s49, f_s50, f_s51, f_s52, f_s53, f_s54, f_s55, f_s56, f_s57, f_s58, f_s59, f_s60, f_s61, f_s62, f_s63, f_s64, f_s65, f_s66, f_s67, f_s68, f_s69, f_s70, f_s71, f_s72, f_s73, f_s74, f_s75, f_s76, f_s77, f_s78, f_s79, f_s80, f_s81, f_s82, f_s83, f_s84, f_s85, f_s86, f_s87, f_s88, f_s89, f_s90, f_s91, f_s92, f_s93, f_s94, f_s95, f_s96, f_s97, f_s98, f_s99, f_s100, f_s101, f_s102, f_s103, f_s104, f_s105, f_s106, f_s107, f_s108, f_s109, f_s110, f_s111, f_s112, f_s113, f_s114, f_s115, f_s116, f_s117, f_s118, f_s119, f_s120, f_s121, f_s122, f_s123, f_s124, f_s125, f_s126, f_s127, f_s128, f_s129, f_s130, f_s131, f_s132, f_s133, f_s134, f_s135, f_s136, f_s137, f_s138, f_s139, f_s140, f_s141, f_s142, f_s143, f_s144, f_s145, f_s146, f_s147, f_s148, f_s149, f_s150, f_s151, f_s152, f_s153, f_s154, f_s155, f_s156, f_s157, f_s158, f_s159, f_s160, f_s161, f_s162, f_s163, f_s164, f_s165, f_s166, f_s167, f_s168, f_s169, f_s170, f_s171, f_s172, f_s173, f_s174, f_s175, f_s176, f_s177, f_s178, f_s179, f_s180, f_s181, f_s182, f_s183, f_s184, f_s185, f_s186, f_s187, f_s188, f_s189, f_s190, f_s191, f_s192, f_s193, f_s194, f_s195, f_s196, f_s197, f_s198, f_s199, f_s200, f_s201, f_s202, f_s203, f_s204, f_s205, f_s206, f_s207, f_s208, f_s209, f_s210, f_s211, f_s212, f_s213, f_s214, f_s215, f_s216, f_s217, f_s218, f_s219, f_s220, f_s221, f_s222, f_s223, f_s224, f_s225, f_s226, f_s227, f_s228, f_s229, f_s230, f_s231, f_s232, f_s233, f_s234, f_s235, f_s236, f_s237, f_s238, f_s239, f_s240, f_s241, f_s242, f_s243, f_s244, f_s245, f_s246, f_s247, f_s248, f_s249, f_s250, f_s251, f_s252, f_s253, f_s254, f_s255, trivial⟩
theorem conF_ok [Sym] : ConOk Tryd.prog LkF := fun f vs nx c h => by
  have h' : conF f vs nx = some c := h
  unfold conF at h'
  cases h1 : Nat.beq f 14 with
  | true =>
    rw [h1] at h'
    simp only [cond_true] at h'
    have e := Nat.eq_of_beq_eq_true h1
    subst e
    split at h'
    · cases h'; exact f_al
    · cases h'
  | false =>
    rw [h1] at h'
    simp only [cond_false] at h'
    cases h2 : Nat.beq f 15 with
    | true =>
      rw [h2] at h'
      simp only [cond_true] at h'
      have e := Nat.eq_of_beq_eq_true h2
      subst e
      split at h'
      · rename_i n
        have := seaFOk.get _ _ n c h'; rwa [Nat.zero_add] at this
      · cases h'
    | false =>
      rw [h2] at h'
      simp only [cond_false] at h'
      cases h3 : Nat.beq f 30 with
      | false => rw [h3] at h'; cases h'
      | true =>
        rw [h3] at h'
        simp only [cond_true] at h'
        have e := Nat.eq_of_beq_eq_true h3
        subst e
        split at h'
        · cases h'; exact f_all
        · cases h'
/-- Whether a text is a name. -/
noncomputable def inN (a : ByteArray) : Bool := namesL.any (eqB a.data.toList)
noncomputable def symF (short : Bool) : BinOp → TypeId → Value → Value → Option Value
  | .eql, _, .string a, .map (some 0) => cond (inN a) (some (.bool false)) none
  | .eql, _, .map (some 0), .string a => cond (inN a) (some (.bool false)) none
  | .gtr, _, .map (some 1), .int .i64 (.ofNat n) => cond (Nat.beq n 256) (some (.bool (!short))) none
  | _, _, _, _ => none
noncomputable def lenF : Nat → Option Value
  | 0 => some (.map (some 1))
  | _ => none
noncomputable def LkS (short : Bool) : Lk := { LkF with symOp := symF short, symLen := lenF }
abbrev symS (s : ByteArray) : Sym := ⟨fun i => match i with | 0 => .string s | _ => .int .i64 s.size, fun i => by
  cases i with
  | zero => exact .inr ⟨s, rfl⟩
  | succ i => exact .inl ⟨_, _, rfl⟩⟩
theorem inN_ne {a s : ByteArray} (ha : inN a = true) (hs : inN s = false) : (a.toList == s.toList) = false := by
  cases h : (a.toList == s.toList) with
  | false => rfl
  | true =>
    have e := eq_of_beq h
    rw [ByteArray.toList_eq, ByteArray.toList_eq] at e
    unfold inN at ha hs
    rw [e, hs] at ha
    cases ha
theorem LkS_ok {s : ByteArray} (hs : inN s = false) {short : Bool} (hl : short = decide (s.size ≤ 256)) : @Lk.Ok (symS s) (LkS short) Tryd.prog :=
  letI : Sym := symS s
  { LkF_ok with
    symOp := fun op t a b v h x y => by
      have h' : symF short op t a b = some v := h
      unfold symF at h'
      split at h'
      · rename_i a
        cases hb : inN a with
        | false => rw [hb] at h'; cases h'
        | true =>
          rw [hb] at h'
          cases h'
          have := sym_str (P := Tryd.prog) (a := a) (b := s) t x y
          rw [inN_ne hb hs] at this
          exact this
      · rename_i a
        cases hb : inN a with
        | false => rw [hb] at h'; cases h'
        | true =>
          rw [hb] at h'
          cases h'
          have := sym_str (P := Tryd.prog) (a := s) (b := a) t x y
          have e : (s.toList == a.toList) = false := by rw [Bool.beq_comm]; exact inN_ne hb hs
          rw [e] at this
          exact this
      · rename_i n
        cases hb : Nat.beq n 256 with
        | false => rw [hb] at h'; cases h'
        | true =>
          rw [hb] at h'
          cases h'
          have e := Nat.eq_of_beq_eq_true hb
          subst e
          refine sym_cmp _ _ _ (?_ : arithF .gtr .i64 (s.size : Int) 256 = _)
          simp only [arithF, ltF_eq]
          congr 2
          rw [hl]
          by_cases h : s.size ≤ 256
          · have : ¬ (256 : Int) < (s.size : Int) := by omega
            simp [h, this]
          · have : (256 : Int) < (s.size : Int) := by omega
            simp [h, this]
      · cases h'
    symLen := fun i v h => by
      have h' : lenF i = some v := h
      unfold lenF at h'
      split at h'
      · cases h'
        exact ⟨rfl, s, rfl, rfl⟩
      · cases h' }
theorem LkS_con [Sym] (b : Bool) : ConOk Tryd.prog (LkS b) := conF_ok
theorem fnd_short : okTrue (runF Tryd.prog (LkS true) 900 12 [.map (some 0)] st0) = true := by kernel_rfl
theorem fnd_long : okTrue (runF Tryd.prog (LkS false) 900 12 [.map (some 0)] st0) = true := by kernel_rfl
def AllN (F : List UInt8 → Prop) : List (List UInt8) → Prop
  | [] => True
  | e :: r => F e ∧ AllN F r
theorem AllN.get {F : List UInt8 → Prop} : ∀ (l : List (List UInt8)), AllN F l → ∀ x ∈ l, F x
  | e :: r, ⟨h1, h2⟩, x, h => by
    rcases List.mem_cons.1 h with rfl | h
    · exact h1
    · exact AllN.get r h2 x h
end Go.Proofs.YtfgdoliihmjnoaaDoorE
