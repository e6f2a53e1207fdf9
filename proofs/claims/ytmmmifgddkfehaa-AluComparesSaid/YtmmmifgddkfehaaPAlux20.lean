-- Written by wip/oprint.py, a program of this session's repo, out of the translation. Not trusted: Lean checks it.
import Derived.Test.YtmmmifgddkfehaaPAlux0
namespace Go.Proofs.Ytmmmifgddkfehaa.PAlu
open Go.RowKit Go.Proofs.YtmmmifgddkfehaaW.PrintWords Go.Proofs.YtmmmifgddkfehaaW.PrintLast
set_option linter.unusedVariables false
set_option linter.unusedSimpArgs false

/-! ### camshaftref08_bitwise: function 51 -/
def camshaftref08_bitwise.f (a0 : Int) (a1 : Bool) (a2 : Bool) : Option (Bool) := if a0 = 1 then (some a1) else (if a0 = 2 then (some (!a1)) else (if a0 = 12 then (if a1 = true then (some true) else (some a2)) else (if a0 = 13 then (if a2 = true then (some (!a1)) else (some false)) else (if a0 = 14 then (some (a1 != a2)) else (if a0 = 15 then (if a1 = true then (some a2) else (some false)) else (some false))))))
set_option maxHeartbeats 8000000 in
set_option maxRecDepth 100000 in
theorem camshaftref08_bitwise.calls (a0 : Int) (a1 : Bool) (a2 : Bool) (r : Bool) (w : World) (h : camshaftref08_bitwise.f a0 a1 a2 = some r) :
    Calls Try.prog 51 #[.int .i64 a0, .bool a1, .bool a2] w fun e w' => e = .returned (.bool r) ∧ Drawn0 w w' := by
  have H : (if a0 = 1 then (some a1) else (if a0 = 2 then (some (!a1)) else (if a0 = 12 then (if a1 = true then (some true) else (some a2)) else (if a0 = 13 then (if a2 = true then (some (!a1)) else (some false)) else (if a0 = 14 then (some (a1 != a2)) else (if a0 = 15 then (if a1 = true then (some a2) else (some false)) else (some false))))))) = some r := h
  clear h
  by_cases c4 : a0 = 1
  · rw [if_pos c4] at H
    have c4b0 : (a0 == 1) = true := beq_iff_eq.mpr c4
    have c4b1 : (a0 != 1) = false := bne_eq_false_iff_eq.mpr c4
    clear c4
    obtain rfl := Option.some.inj H
    go_enter Try.func51, Try.ntmps51
    go_wp2
    go_ret
    exact ⟨by first | rfl | (simp; done) | (simp [*]; done), by repeat (first | exact Drawn0.refl _ | apply Drawn0.step)⟩
  · rw [if_neg c4] at H
    have c4b0 : (a0 == 1) = false := beq_eq_false_iff_ne.mpr c4
    have c4b1 : (a0 != 1) = true := bne_iff_ne.mpr c4
    by_cases c5 : a0 = 2
    · rw [if_pos c5] at H
      have c5b0 : (a0 == 2) = true := beq_iff_eq.mpr c5
      have c5b1 : (a0 != 2) = false := bne_eq_false_iff_eq.mpr c5
      clear c5
      obtain rfl := Option.some.inj H
      go_enter Try.func51, Try.ntmps51
      go_wp2
      go_ret
      exact ⟨by first | rfl | (simp; done) | (simp [*]; done), by repeat (first | exact Drawn0.refl _ | apply Drawn0.step)⟩
    · rw [if_neg c5] at H
      have c5b0 : (a0 == 2) = false := beq_eq_false_iff_ne.mpr c5
      have c5b1 : (a0 != 2) = true := bne_iff_ne.mpr c5
      by_cases c6 : a0 = 12
      · rw [if_pos c6] at H
        have c6b0 : (a0 == 12) = true := beq_iff_eq.mpr c6
        have c6b1 : (a0 != 12) = false := bne_eq_false_iff_eq.mpr c6
        clear c6
        by_cases c7 : a1 = true
        · subst c7
          have H1 : (some true) = some r := by rw [if_pos rfl] at H; exact H
          clear H
          have H := H1
          clear H1
          obtain rfl := Option.some.inj H
          go_enter Try.func51, Try.ntmps51
          go_wp2
          go_ret
          exact ⟨by first | rfl | (simp; done) | (simp [*]; done), by repeat (first | exact Drawn0.refl _ | apply Drawn0.step)⟩
        · replace c7 := Bool.eq_false_iff.mpr c7
          subst c7
          have H1 : (some a2) = some r := by rw [if_neg (show ¬ (false = true) by decide)] at H; exact H
          clear H
          have H := H1
          clear H1
          obtain rfl := Option.some.inj H
          go_enter Try.func51, Try.ntmps51
          go_wp2
          go_ret
          exact ⟨by first | rfl | (simp; done) | (simp [*]; done), by repeat (first | exact Drawn0.refl _ | apply Drawn0.step)⟩
      · rw [if_neg c6] at H
        have c6b0 : (a0 == 12) = false := beq_eq_false_iff_ne.mpr c6
        have c6b1 : (a0 != 12) = true := bne_iff_ne.mpr c6
        by_cases c8 : a0 = 13
        · rw [if_pos c8] at H
          have c8b0 : (a0 == 13) = true := beq_iff_eq.mpr c8
          have c8b1 : (a0 != 13) = false := bne_eq_false_iff_eq.mpr c8
          clear c8
          by_cases c9 : a2 = true
          · subst c9
            have H1 : (some (!a1)) = some r := by rw [if_pos rfl] at H; exact H
            clear H
            have H := H1
            clear H1
            obtain rfl := Option.some.inj H
            go_enter Try.func51, Try.ntmps51
            go_wp2
            go_ret
            exact ⟨by first | rfl | (simp; done) | (simp [*]; done), by repeat (first | exact Drawn0.refl _ | apply Drawn0.step)⟩
          · replace c9 := Bool.eq_false_iff.mpr c9
            subst c9
            have H1 : (some false) = some r := by rw [if_neg (show ¬ (false = true) by decide)] at H; exact H
            clear H
            have H := H1
            clear H1
            obtain rfl := Option.some.inj H
            go_enter Try.func51, Try.ntmps51
            go_wp2
            go_ret
            exact ⟨by first | rfl | (simp; done) | (simp [*]; done), by repeat (first | exact Drawn0.refl _ | apply Drawn0.step)⟩
        · rw [if_neg c8] at H
          have c8b0 : (a0 == 13) = false := beq_eq_false_iff_ne.mpr c8
          have c8b1 : (a0 != 13) = true := bne_iff_ne.mpr c8
          by_cases c10 : a0 = 14
          · rw [if_pos c10] at H
            have c10b0 : (a0 == 14) = true := beq_iff_eq.mpr c10
            have c10b1 : (a0 != 14) = false := bne_eq_false_iff_eq.mpr c10
            clear c10
            obtain rfl := Option.some.inj H
            go_enter Try.func51, Try.ntmps51
            go_wp2
            go_ret
            exact ⟨by first | rfl | (simp; done) | (simp [*]; done), by repeat (first | exact Drawn0.refl _ | apply Drawn0.step)⟩
          · rw [if_neg c10] at H
            have c10b0 : (a0 == 14) = false := beq_eq_false_iff_ne.mpr c10
            have c10b1 : (a0 != 14) = true := bne_iff_ne.mpr c10
            by_cases c11 : a0 = 15
            · rw [if_pos c11] at H
              have c11b0 : (a0 == 15) = true := beq_iff_eq.mpr c11
              have c11b1 : (a0 != 15) = false := bne_eq_false_iff_eq.mpr c11
              clear c11
              by_cases c12 : a1 = true
              · subst c12
                have H1 : (some a2) = some r := by rw [if_pos rfl] at H; exact H
                clear H
                have H := H1
                clear H1
                obtain rfl := Option.some.inj H
                go_enter Try.func51, Try.ntmps51
                go_wp2
                go_ret
                exact ⟨by first | rfl | (simp; done) | (simp [*]; done), by repeat (first | exact Drawn0.refl _ | apply Drawn0.step)⟩
              · replace c12 := Bool.eq_false_iff.mpr c12
                subst c12
                have H1 : (some false) = some r := by rw [if_neg (show ¬ (false = true) by decide)] at H; exact H
                clear H
                have H := H1
                clear H1
                obtain rfl := Option.some.inj H
                go_enter Try.func51, Try.ntmps51
                go_wp2
                go_ret
                exact ⟨by first | rfl | (simp; done) | (simp [*]; done), by repeat (first | exact Drawn0.refl _ | apply Drawn0.step)⟩
            · rw [if_neg c11] at H
              have c11b0 : (a0 == 15) = false := beq_eq_false_iff_ne.mpr c11
              have c11b1 : (a0 != 15) = true := bne_iff_ne.mpr c11
              obtain rfl := Option.some.inj H
              go_enter Try.func51, Try.ntmps51
              go_wp2
              go_ret
              exact ⟨by first | rfl | (simp; done) | (simp [*]; done), by repeat (first | exact Drawn0.refl _ | apply Drawn0.step)⟩

end Go.Proofs.Ytmmmifgddkfehaa.PAlu
