/- Shallow texts of functions, printed by a program and compared by the kernel. -/
import Derived.Test.YthngaoncjpgeiaaDoorShP
set_option linter.unusedVariables false
set_option linter.unusedSimpArgs false
set_option maxRecDepth 20000
namespace Go.Proofs.YthngaoncjpgeiaaDoorE
open Go Go.E Go.Proofs
noncomputable def contPair (cf : CallS) (lf : LoopS) (s' : Value) (q' : Nat) (st : SS) : Option (Value × SS) :=
  (cf 81 [s', .func (.func 66) #[] #[ptr q' 0]] (st.ro st.next)).bind fun r1 =>
  ((some r1.1).bind (asI .i64)).bind fun n2 =>
  some (.bool (decide (0 ≤ n2)), st.adv r1.2.next)
theorem contPair_sh (cf : CallS) (lf : LoopS) (s' : Value) (q' : Nat) (st : SS) : bodyS Tryd.prog Lk0 cf lf noLi Tryd.f65 true [s', .func (.func 66) #[] #[ptr q' 0]] st = contPair cf lf s' q' st := by kernel_rfl
noncomputable abbrev contPair_lf : LoopS := lS Tryd.prog Lk0 Tryd.f65 noLi
theorem contPair_fn : Lk0.func 65 = some (65, Tryd.f65) := by kernel_rfl
theorem contPair_eq [Sym] (s' : Value) (q' : Nat) (st : SS) {r : Value × SS} (h : contPair cc contPair_lf s' q' st = some r) : cc 65 [s', .func (.func 66) #[] #[ptr q' 0]] st = some r :=
  body_sound Lk0_ok Lk0_S contPair_fn rfl (fun _ => rfl) ((contPair_sh _ _ s' q' st).trans h)
def I_idxPair_2 : LoopI := ⟨[(0, .any), (1, .any), (7, .int .i64), (8, .int .i64)], [(.exit 0, []), (.ret, [(4, .int .i64)])]⟩
def li_idxPair (n : Nat) : Option LoopI := cond (Nat.beq n 2) (some I_idxPair_2) (none)
noncomputable def idxPair (cf : CallS) (lf : LoopS) (s' : Value) (q' : Nat) (st : SS) : Option (Value × SS) :=
  ((lenV s').bind (asI .i64)).bind fun n1 =>
  (lf 2 [s', .func (.func 66) #[] #[ptr q' 0], .int .i64 n1, .int .i64 0] (st.ro st.next)).bind fun r2 =>
  cond (Nat.beq r2.1 0) (
   some (.int .i64 (-1), st.adv r2.2.2.next)) (
   ((r2.2.1[0]?).bind (asI .i64)).bind fun n3 =>
   some (.int .i64 n3, st.adv r2.2.2.next))
theorem idxPair_sh (cf : CallS) (lf : LoopS) (s' : Value) (q' : Nat) (st : SS) : bodyS Tryd.prog Lk0 cf lf li_idxPair Tryd.f81 true [s', .func (.func 66) #[] #[ptr q' 0]] st = idxPair cf lf s' q' st := by kernel_rfl
noncomputable abbrev idxPair_lf : LoopS := lS Tryd.prog Lk0 Tryd.f81 li_idxPair
theorem idxPair_fn : Lk0.func 81 = some (81, Tryd.f81) := by kernel_rfl
theorem idxPair_eq [Sym] (s' : Value) (q' : Nat) (st : SS) {r : Value × SS} (h : idxPair cc idxPair_lf s' q' st = some r) : cc 81 [s', .func (.func 66) #[] #[ptr q' 0]] st = some r :=
  body_sound Lk0_ok Lk0_S idxPair_fn rfl (fun _ => rfl) ((idxPair_sh _ _ s' q' st).trans h)
noncomputable def idxPair_l2 (cf : CallS) (lf : LoopS) (s' : Value) (q' : Nat) (t7' : Int) (t8' : Int) (st : SS) : Option (Nat × List Value × SS) :=
  cond (decide (t8' < t7')) (
   (elemS s' t8' 5).bind fun p1 =>
   (st.ldN p1.1 p1.2 5).bind fun v2 =>
   (cf 66 [v2, ptr q' 0] st).bind fun r3 =>
   ((some r3.1).bind asB).bind fun b4 =>
   cond b4 (
    some (1, [.int .i64 t8'], r3.2)) (
    let n5 : Int := IntKind.wrap .i64 (t8' + 1)
    lf 2 [s', .func (.func 66) #[] #[ptr q' 0], .int .i64 t7', .int .i64 n5] r3.2)) (
   some (0, [], st))
theorem idxPair_l2_sh (cf : CallS) (lf : LoopS) (s' : Value) (q' : Nat) (t7' : Int) (t8' : Int) (st : SS) : loopS Tryd.prog Lk0 cf lf li_idxPair (loopC Tryd.f81 2) I_idxPair_2 Tryd.f81.ntmps [s', .func (.func 66) #[] #[ptr q' 0], .int .i64 t7', .int .i64 t8'] st = idxPair_l2 cf lf s' q' t7' t8' st := by kernel_rfl
theorem idxPair_l2_eq [Sym] (s' : Value) (q' : Nat) (t7' : Int) (t8' : Int) (st : SS) {r : Nat × List Value × SS} (h : idxPair_l2 cc idxPair_lf s' q' t7' t8' st = some r) : idxPair_lf 2 [s', .func (.func 66) #[] #[ptr q' 0], .int .i64 t7', .int .i64 t8'] st = some r :=
  loop_sound Lk0_ok Lk0_S (key := 2) (I := I_idxPair_2) rfl (by kernel_rfl) (by kernel_rfl) rfl rfl ((idxPair_l2_sh _ _ s' q' t7' t8' st).trans h)
noncomputable def pairEq (cf : CallS) (lf : LoopS) (y' : Value) (x1' : Value) (st : SS) : Option (Value × SS) :=
  let st1 : SS := (st.ro st.next).new (.cells (y' : Value).cells.toList 0)
  ((st1.ld ((st.ro st.next).next) 0).bind asS).bind fun s2 =>
  (addr? x1').bind fun p3 =>
  ((st1.ld p3.1 p3.2).bind asS).bind fun s4 =>
  some (.bool (eqT s2 s4), st.adv st1.next)
theorem pairEq_sh (cf : CallS) (lf : LoopS) (y' : Value) (x1' : Value) (st : SS) : bodyS Tryd.prog Lk0 cf lf noLi Tryd.f66 true [y', x1'] st = pairEq cf lf y' x1' st := by kernel_rfl
noncomputable abbrev pairEq_lf : LoopS := lS Tryd.prog Lk0 Tryd.f66 noLi
theorem pairEq_fn : Lk0.func 66 = some (66, Tryd.f66) := by kernel_rfl
theorem pairEq_eq [Sym] (y' : Value) (x1' : Value) (st : SS) {r : Value × SS} (h : pairEq cc pairEq_lf y' x1' st = some r) : cc 66 [y', x1'] st = some r :=
  body_sound Lk0_ok Lk0_S pairEq_fn rfl (fun _ => rfl) ((pairEq_sh _ _ y' x1' st).trans h)
end Go.Proofs.YthngaoncjpgeiaaDoorE
