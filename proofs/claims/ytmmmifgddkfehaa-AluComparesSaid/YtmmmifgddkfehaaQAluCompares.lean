/- The pure statement of AluCompares. -/
import Derived.Test.YtmmmifgddkfehaaOAlu
import Derived.Test.YtmmmifgddkfehaaPAlux11
import Derived.Test.YtmmmifgddkfehaaPAlux25
namespace Go.Proofs.Ytmmmifgddkfehaa.OPure
open Go Go.RowKit Go.Proofs.Ytmmmifgddkfehaa.PAlu Go.Proofs.Ytmmmifgddkfehaa.OBits Go.Proofs.Ytmmmifgddkfehaa.ONorm Go.Proofs.Ytmmmifgddkfehaa.OAlu

theorem alive08 : camshaftlaw08_alive.f = some true := by
  unfold camshaftlaw08_alive.f
  rw [do_f (.inl rfl) (by decide) (by decide)]
  decide +kernel
theorem cmp_C {a b n : Int} (_ : Ok n) : decide (a % W n < b % W n) = decide (subD a b n false < 0) := by rw [decide_eq_decide]; unfold subD one; simp; omega
theorem cmp_Z {a b n : Int} (h : Ok n) : (a % W n == b % W n) = zer (subD a b n false) n := by
  have ra := mod_range (a := a) h
  have rb := mod_range (a := b) h
  rw [Bool.eq_iff_iff, beq_iff_eq]; unfold zer subD one; rw [beq_iff_eq]
  simp only [Bool.false_eq_true, if_false]
  rcases h with rfl | rfl | rfl <;> simp only [W1, W2, W4] at * <;> omega
theorem cmp_V {a b n : Int} (h : Ok n) : ((neg a n != neg b n && neg (subD a b n false) n != neg a n) || decide (sgn a n < sgn b n) == neg (subD a b n false) n) = true := by
  have ra := mod_range (a := a) h
  have rb := mod_range (a := b) h
  cases g : (neg a n != neg b n && neg (subD a b n false) n != neg a n)
  · rw [Bool.false_or, beq_iff_eq, Bool.eq_iff_iff, decide_eq_true_eq, neg_iff]
    have sa := sgn_of (p := a) (n := n)
    have sb := sgn_of (p := b) (n := n)
    have g3 : neg a n = neg b n ∨ neg (subD a b n false) n = neg a n := by
      revert g; cases neg a n <;> cases neg b n <;> cases neg (subD a b n false) n <;> simp
    replace g3 : (W n / 2 ≤ a % W n ↔ W n / 2 ≤ b % W n) ∨ (W n / 2 ≤ subD a b n false % W n ↔ W n / 2 ≤ a % W n) := by
      rcases g3 with g | g
      · left; rw [← neg_iff, ← neg_iff, g]
      · right; rw [← neg_iff, ← neg_iff, g]
    clear g
    unfold subD one at *
    simp only [Bool.false_eq_true, if_false, Int.sub_zero] at *
    rcases h with rfl | rfl | rfl <;> simp only [W1, W2, W4] at * <;> omega
  · simp
theorem AluCompares : camshaftlaw08_AluCompares.Pure := by
  refine ⟨alive08, fun a b n ha hb _ => ?_⟩
  rcases size_cases n with h | h
  · have ua := wf_u32 ha
    have ub := wf_u32 hb
    refine .inr ⟨size_true h, ?_⟩
    have ra := mod_range (a := a) h
    have rb := mod_range (a := b) h
    have sa := sgn_of (p := a) (n := n)
    have sb := sgn_of (p := b) (n := n)
    have inj : sgn a n = sgn b n ↔ a % W n = b % W n := by omega
    refine ⟨a % W n, b % W n, subD a b n false % W n, decide (sgn a n < sgn b n), a % W n == b % W n, decide (a % W n < b % W n), decide (sgn b n < sgn a n), decide (b % W n < a % W n), neg (subD a b n false) n, (neg a n != neg b n) && (neg (subD a b n false) n != neg a n), true, true, true, ?_, ?_, ?_, ?_, ?_, ?_, ?_⟩
    · rw [do_f h ua ub]; rfl
    · rw [do_f h ub ua]
      have e : (b % W n == a % W n) = (a % W n == b % W n) := by rw [Bool.eq_iff_iff, beq_iff_eq, beq_iff_eq]; omega
      show some (b % W n, decide (sgn b n < sgn a n), b % W n == a % W n, false, decide (b % W n < a % W n), true) = _
      rw [e]
    · rw [do_f h ub ua, cmp_Z h, cmp_C h]; rfl
    · rw [Bool.eq_iff_iff]; simp only [decide_eq_true_eq, Bool.and_eq_true, Bool.not_eq_true', beq_eq_false_iff_ne, decide_eq_false_iff_not]; omega
    · rw [Bool.eq_iff_iff]; simp only [decide_eq_true_eq, Bool.and_eq_true, Bool.not_eq_true', beq_eq_false_iff_ne, decide_eq_false_iff_not]; omega
    · rw [Bool.and_eq_false_iff]
      by_cases g : a % W n = b % W n
      · right
        rw [Bool.or_eq_false_iff, decide_eq_false_iff_not, decide_eq_false_iff_not]; omega
      · left; simpa using g
    · exact cmp_V h
  · exact .inl h
end Go.Proofs.Ytmmmifgddkfehaa.OPure
