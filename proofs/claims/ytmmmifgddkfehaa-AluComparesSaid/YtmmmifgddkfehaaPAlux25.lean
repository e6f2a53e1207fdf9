-- Written by wip/oprint.py, a program of this session's repo, out of the translation. Not trusted: Lean checks it.
import Derived.Test.YtmmmifgddkfehaaPAlux0
import Derived.Test.YtmmmifgddkfehaaPAlux2
import Derived.Test.YtmmmifgddkfehaaPAlux10
import Derived.Test.YtmmmifgddkfehaaPAlux11
namespace Go.Proofs.Ytmmmifgddkfehaa.PAlu
open Go.RowKit Go.Proofs.YtmmmifgddkfehaaW.PrintWords Go.Proofs.YtmmmifgddkfehaaW.PrintLast
set_option linter.unusedVariables false
set_option linter.unusedSimpArgs false

/-! ### camshaftlaw08_AluCompares: function 12, by hand -/
def camshaftlaw08_AluCompares.Facts (a : Int) (b : Int) (n : Int) : Prop := ∃ (x : Int) (y : Int) (z : Int) (N : Bool) (Z : Bool) (C : Bool) (M : Bool) (D : Bool) (K : Bool) (V : Bool) (o1 : Bool) (o2 : Bool) (o3 : Bool), alu_Do.f 16 a b true n = some (x, N, Z, false, C, o1) ∧ alu_Do.f 16 b a false n = some (y, M, Z, false, D, o2) ∧ alu_Do.f 7 b a false n = some (z, K, Z, V, C, o3) ∧ M = (!Z && !N) ∧ D = (!Z && !C) ∧ (Z && (N || C)) = false ∧ (V || N == K) = true
def camshaftlaw08_AluCompares.Pure : Prop := camshaftlaw08_alive.f = some true ∧ ∀ (a : Int) (b : Int) (n : Int), (Lit.int .u32 a).wf = true → (Lit.int .u32 b).wf = true → (Lit.int .i64 n).wf = true → (camshaftref01_Size.f n = some false ∨ camshaftref01_Size.f n = some true ∧ camshaftlaw08_AluCompares.Facts a b n)
set_option maxHeartbeats 2000000 in
set_option maxRecDepth 100000 in
theorem camshaftlaw08_AluCompares.no (a : Int) (b : Int) (n : Int) (w : World) (FA : Aside0 (camshaftlaw08_alive.f = some true)) (FG : Aside0 (camshaftref01_Size.f n = some false)) :
    Calls Try.prog 12 #[.int .u32 a, .int .u32 b, .int .i64 n] w fun e w' => e = .returned (.bool true) ∧ Below w.heap.size w w' := by
  go_enter Try.func12, Try.ntmps12
  go_wp2_with fail
  refine (camshaftlaw08_alive.calls true w FA.out).mono ?_
  rintro e w1 ⟨rfl, hb⟩
  have HB1 := Aside0.mk hb
  clear hb
  go_wp2_with fail
  refine (camshaftref01_Size.calls n false _ FG.out).mono ?_
  rintro e w2 ⟨rfl, ⟨n2, rfl⟩⟩
  go_wp2
  go_ret
  exact ⟨rfl, pw_below_drewN HB1.out _⟩
set_option maxHeartbeats 2000000 in
set_option maxRecDepth 100000 in
theorem camshaftlaw08_AluCompares.yes (a : Int) (b : Int) (n : Int) (w : World) (FA : Aside0 (camshaftlaw08_alive.f = some true)) (FG : Aside0 (camshaftref01_Size.f n = some true)) (hf : camshaftlaw08_AluCompares.Facts a b n) :
    Calls Try.prog 12 #[.int .u32 a, .int .u32 b, .int .i64 n] w fun e w' => e = .returned (.bool true) ∧ Below w.heap.size w w' := by
  obtain ⟨x, y, z, N, Z, C, M, D, K, V, o1, o2, o3, f0, f1, f2, g0, g1, g2, g3⟩ := hf
  have F0 := Aside0.mk f0
  have F1 := Aside0.mk f1
  have F2 := Aside0.mk f2
  clear f0 f1 f2
  subst g0 g1
  cases Z <;> cases N <;> cases C <;> cases V <;> cases K <;> first | exact absurd g2 (by decide) | exact absurd g3 (by decide) | (clear g2 g3; simp only [Bool.not_true, Bool.not_false, Bool.and_true, Bool.and_false, Bool.true_and, Bool.false_and] at F1)
  all_goals
    go_enter Try.func12, Try.ntmps12
    go_wp2_with fail
    refine (camshaftlaw08_alive.calls true w FA.out).mono ?_
    rintro e w1 ⟨rfl, hb⟩
    have HB1 := Aside0.mk hb
    clear hb
    go_wp2_with fail
    refine (camshaftref01_Size.calls n true _ FG.out).mono ?_
    rintro e w2 ⟨rfl, ⟨n2, rfl⟩⟩
    go_wp2_with fail
    refine (alu_Do.calls 16 a b true n _ _ _ _ _ _ _ F0.out).mono ?_
    rintro e v0 ⟨rfl, hb⟩
    have HB2 := Aside0.mk (below_step (w := w) (by repeat (with_reducible first | exact HB1.out | refine below_drew1 ?_ | refine pw_below_drewN ?_ _ | refine below_alloc ?_ _)) hb)
    obtain ⟨hc0, hf0⟩ := bcell hb
    have hz0 := hb.size
    simp at hc0 hf0 hz0
    have hy0 : True := by first | trivial | omega
    clear hb
    go_wp2_with fail
    refine (alu_Do.calls 16 b a false n _ _ _ _ _ _ _ F1.out).mono ?_
    rintro e v1 ⟨rfl, hb⟩
    have HB3 := Aside0.mk (below_step (w := w) (by repeat (with_reducible first | exact HB2.out | refine below_drew1 ?_ | refine pw_below_drewN ?_ _ | refine below_alloc ?_ _)) hb)
    obtain ⟨hc1, hf1⟩ := bcell hb
    have hz1 := hb.size
    simp at hc1 hf1 hz1
    have hy1 : v0.heap.size < v1.heap.size := by first | trivial | omega
    clear hb
    go_wp2_with fail
    refine (alu_Do.calls 7 b a false n _ _ _ _ _ _ _ F2.out).mono ?_
    rintro e v2 ⟨rfl, hb⟩
    have HB4 := Aside0.mk (below_step (w := w) (by repeat (with_reducible first | exact HB3.out | refine below_drew1 ?_ | refine pw_below_drewN ?_ _ | refine below_alloc ?_ _)) hb)
    obtain ⟨hc2, hf2⟩ := bcell hb
    have hz2 := hb.size
    simp at hc2 hf2 hz2
    have hy2 : v0.heap.size < v2.heap.size ∧ v1.heap.size < v2.heap.size := by first | trivial | omega
    clear hb
    go_wp2
    go_ret
    refine ⟨?_, ?_⟩
    · simp
    · repeat (with_reducible first | exact HB4.out | refine below_drew1 ?_ | refine pw_below_drewN ?_ _ | refine below_alloc ?_ _)
theorem camshaftlaw08_AluCompares.walk (P : camshaftlaw08_AluCompares.Pure) (a : Int) (b : Int) (n : Int) (w : World) (w0 : (Lit.int .u32 a).wf = true) (w1 : (Lit.int .u32 b).wf = true) (w2 : (Lit.int .i64 n).wf = true) :
    Calls Try.prog 12 #[.int .u32 a, .int .u32 b, .int .i64 n] w fun e w' => e = .returned (.bool true) ∧ Below w.heap.size w w' := by
  rcases P.2 a b n w0 w1 w2 with h | ⟨h, hf⟩
  · exact camshaftlaw08_AluCompares.no a b n w ⟨P.1⟩ ⟨h⟩
  · exact camshaftlaw08_AluCompares.yes a b n w ⟨P.1⟩ ⟨h⟩ hf

end Go.Proofs.Ytmmmifgddkfehaa.PAlu
