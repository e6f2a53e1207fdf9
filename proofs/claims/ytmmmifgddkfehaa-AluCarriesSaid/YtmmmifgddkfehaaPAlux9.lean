-- Written by wip/oprint.py, a program of this session's repo, out of the translation. Not trusted: Lean checks it.
import Derived.Test.YtmmmifgddkfehaaPAlux0
namespace Go.Proofs.Ytmmmifgddkfehaa.PAlu
open Go.RowKit Go.Proofs.YtmmmifgddkfehaaW.PrintWords Go.Proofs.YtmmmifgddkfehaaW.PrintLast
set_option linter.unusedVariables false
set_option linter.unusedSimpArgs false

/-! ### alu_logic: function 50 -/
def alu_logic.f (a0 : Int) (a1 : Int) (a2 : Int) : Option (Int) := if a0 = 1 then (some a1) else (if a0 = 2 then (some (Go.bits .xor .u32 4294967295 a1)) else (if a0 = 12 then (some (Go.bits .or .u32 a1 a2)) else (if a0 = 13 then (some (Go.bits .andNot .u32 a2 a1)) else (if a0 = 14 then (some (Go.bits .xor .u32 a1 a2)) else (if a0 = 15 then (some (Go.bits .and .u32 a1 a2)) else (some 0))))))
set_option maxHeartbeats 8000000 in
set_option maxRecDepth 100000 in
theorem alu_logic.calls (a0 : Int) (a1 : Int) (a2 : Int) (r : Int) (w : World) (h : alu_logic.f a0 a1 a2 = some r) :
    Calls Try.prog 50 #[.int .i64 a0, .int .u32 a1, .int .u32 a2] w fun e w' => e = .returned (.int .u32 r) ∧ Drawn0 w w' := by
  have H : (if a0 = 1 then (some a1) else (if a0 = 2 then (some (Go.bits .xor .u32 4294967295 a1)) else (if a0 = 12 then (some (Go.bits .or .u32 a1 a2)) else (if a0 = 13 then (some (Go.bits .andNot .u32 a2 a1)) else (if a0 = 14 then (some (Go.bits .xor .u32 a1 a2)) else (if a0 = 15 then (some (Go.bits .and .u32 a1 a2)) else (some 0))))))) = some r := h
  clear h
  by_cases c4 : a0 = 1
  · rw [if_pos c4] at H
    have c4b0 : (a0 == 1) = true := beq_iff_eq.mpr c4
    have c4b1 : (a0 != 1) = false := bne_eq_false_iff_eq.mpr c4
    clear c4
    obtain rfl := Option.some.inj H
    go_enter Try.func50, Try.ntmps50
    go_wp2
    go_ret
    exact ⟨by first | rfl | (simp; done) | (simp [*]; done), by repeat (first | exact Drawn0.refl _ | apply Drawn0.step)⟩
  · rw [if_neg c4] at H
    have c4b0 : (a0 == 1) = false := beq_eq_false_iff_ne.mpr c4
    have c4b1 : (a0 != 1) = true := bne_iff_ne.mpr c4
    by_cases c5 : a0 = 2
    · rw [if_pos c5] at H
      have c5b0 : (a0 == 2) = true := beq_iff_eq.mpr c5
      have c5b1 : (a0 != 2) = false := bne_eq_false_iff_eq.mpr c5
      clear c5
      obtain rfl := Option.some.inj H
      go_enter Try.func50, Try.ntmps50
      go_wp2
      go_ret
      exact ⟨by first | rfl | (simp; done) | (simp [*]; done), by repeat (first | exact Drawn0.refl _ | apply Drawn0.step)⟩
    · rw [if_neg c5] at H
      have c5b0 : (a0 == 2) = false := beq_eq_false_iff_ne.mpr c5
      have c5b1 : (a0 != 2) = true := bne_iff_ne.mpr c5
      by_cases c6 : a0 = 12
      · rw [if_pos c6] at H
        have c6b0 : (a0 == 12) = true := beq_iff_eq.mpr c6
        have c6b1 : (a0 != 12) = false := bne_eq_false_iff_eq.mpr c6
        clear c6
        obtain rfl := Option.some.inj H
        go_enter Try.func50, Try.ntmps50
        go_wp2
        go_ret
        exact ⟨by first | rfl | (simp; done) | (simp [*]; done), by repeat (first | exact Drawn0.refl _ | apply Drawn0.step)⟩
      · rw [if_neg c6] at H
        have c6b0 : (a0 == 12) = false := beq_eq_false_iff_ne.mpr c6
        have c6b1 : (a0 != 12) = true := bne_iff_ne.mpr c6
        by_cases c7 : a0 = 13
        · rw [if_pos c7] at H
          have c7b0 : (a0 == 13) = true := beq_iff_eq.mpr c7
          have c7b1 : (a0 != 13) = false := bne_eq_false_iff_eq.mpr c7
          clear c7
          obtain rfl := Option.some.inj H
          go_enter Try.func50, Try.ntmps50
          go_wp2
          go_ret
          exact ⟨by first | rfl | (simp; done) | (simp [*]; done), by repeat (first | exact Drawn0.refl _ | apply Drawn0.step)⟩
        · rw [if_neg c7] at H
          have c7b0 : (a0 == 13) = false := beq_eq_false_iff_ne.mpr c7
          have c7b1 : (a0 != 13) = true := bne_iff_ne.mpr c7
          by_cases c8 : a0 = 14
          · rw [if_pos c8] at H
            have c8b0 : (a0 == 14) = true := beq_iff_eq.mpr c8
            have c8b1 : (a0 != 14) = false := bne_eq_false_iff_eq.mpr c8
            clear c8
            obtain rfl := Option.some.inj H
            go_enter Try.func50, Try.ntmps50
            go_wp2
            go_ret
            exact ⟨by first | rfl | (simp; done) | (simp [*]; done), by repeat (first | exact Drawn0.refl _ | apply Drawn0.step)⟩
          · rw [if_neg c8] at H
            have c8b0 : (a0 == 14) = false := beq_eq_false_iff_ne.mpr c8
            have c8b1 : (a0 != 14) = true := bne_iff_ne.mpr c8
            by_cases c9 : a0 = 15
            · rw [if_pos c9] at H
              have c9b0 : (a0 == 15) = true := beq_iff_eq.mpr c9
              have c9b1 : (a0 != 15) = false := bne_eq_false_iff_eq.mpr c9
              clear c9
              obtain rfl := Option.some.inj H
              go_enter Try.func50, Try.ntmps50
              go_wp2
              go_ret
              exact ⟨by first | rfl | (simp; done) | (simp [*]; done), by repeat (first | exact Drawn0.refl _ | apply Drawn0.step)⟩
            · rw [if_neg c9] at H
              have c9b0 : (a0 == 15) = false := beq_eq_false_iff_ne.mpr c9
              have c9b1 : (a0 != 15) = true := bne_iff_ne.mpr c9
              obtain rfl := Option.some.inj H
              go_enter Try.func50, Try.ntmps50
              go_wp2
              go_ret
              exact ⟨by first | rfl | (simp; done) | (simp [*]; done), by repeat (first | exact Drawn0.refl _ | apply Drawn0.step)⟩

end Go.Proofs.Ytmmmifgddkfehaa.PAlu
