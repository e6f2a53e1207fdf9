/- The pure statements of BitsSizes, BitsCompares and BitsTimes. -/
import Derived.Test.YtmmmifgddkfehaaONorm2
import Derived.Test.YtmmmifgddkfehaaPAllx11
import Derived.Test.YtmmmifgddkfehaaPAllx15
import Derived.Test.YtmmmifgddkfehaaPAllx2
import Derived.Test.YtmmmifgddkfehaaPAllx9
namespace Go.Proofs.Ytmmmifgddkfehaa.OPure
open Go Go.RowKit Go.Proofs.Ytmmmifgddkfehaa.PAll Go.Proofs.Ytmmmifgddkfehaa.OBits Go.Proofs.Ytmmmifgddkfehaa.ONorm

theorem alive01b : camshaftlaw01_alive.f = some true := by
  unfold camshaftlaw01_alive.f
  rw [add_f (.inl rfl) ⟨by omega, by omega⟩ ⟨by omega, by omega⟩]
  decide +kernel
theorem sgn_neg {a n : Int} (h : Ok n) : decide (sgn a n < 0) = neg a n := by
  have rm := mod_range (a := a) h
  rw [Bool.eq_iff_iff, decide_eq_true_eq, neg_iff]
  have s := sgn_of (p := a) (n := n)
  omega
theorem BitsSizes : camshaftlaw01_BitsSizes.Pure := by
  refine ⟨alive01b, fun x y n hx hy _ => ?_⟩
  rcases size_cases n with h | h
  · have ux := wf_u32 hx
    have uy := wf_u32 hy
    have rm := mod_range (a := x) h
    have w := W_ge h
    refine .inr ⟨size_true h, W n, W n / 2, sgn x n, ext x n, put x y n, neg x n, neg x n, zer x n, wide_f h, mask_f h, top_f h, neg_f h ux, signed_f h ux, extend_f h ux, bits_f (.inr (.inr rfl)), signs_f h ux, rsigns_f h ux, put_f h ux uy, rput_f h ux uy, (half h).2, sgn_neg h, by omega, by omega, by omega, by omega⟩
  · exact .inl h
theorem BitsCompares : camshaftlaw01_BitsCompares.Pure := by
  intro a b n ha hb _
  unfold camshaftlaw01_BitsCompares.f
  rw [alive01b, Option.bind_some, if_pos rfl]
  rcases size_cases n with h | h
  · have ua := wf_u32 ha
    have ub := wf_u32 hb
    rw [size_true h, Option.bind_some, if_pos rfl, cmp_f h ua ub, less_f h ua ub, sub_f h ua ub, rcmp_f h ua ub]
    simp only [Option.bind_some, cmpF, subF, beq_self_eq_true, Bool.and_self, if_true]
    have ra := mod_range (a := a) h
    have rb := mod_range (a := b) h
    have e1 : decide (a % W n < b % W n) = decide (subD a b n false < 0) := by rw [decide_eq_decide]; unfold subD one; simp; omega
    have e2 : (a % W n == b % W n) = zer (subD a b n false) n := by
      rw [Bool.eq_iff_iff, beq_iff_eq]; unfold zer subD one; rw [beq_iff_eq]
      simp only [Bool.false_eq_true, if_false]
      rcases h with rfl | rfl | rfl <;> simp only [W1, W2, W4] at * <;> omega
    rw [if_pos (by rw [e1]; simp), if_pos (by rw [e2]; simp)]
    cases g : (neg a n != neg b n && neg (subD a b n false) n != neg a n)
    · simp only [Bool.false_eq_true, if_false, Option.some.injEq]
      rw [beq_iff_eq, Bool.eq_iff_iff, decide_eq_true_eq, neg_iff]
      have sa := sgn_of (p := a) (n := n)
      have sb := sgn_of (p := b) (n := n)
      have g3 : neg a n = neg b n ∨ neg (subD a b n false) n = neg a n := by
        revert g; cases neg a n <;> cases neg b n <;> cases neg (subD a b n false) n <;> simp
      replace g3 : (W n / 2 ≤ a % W n ↔ W n / 2 ≤ b % W n) ∨ (W n / 2 ≤ subD a b n false % W n ↔ W n / 2 ≤ a % W n) := by
        rcases g3 with g | g
        · left; rw [← neg_iff, ← neg_iff, g]
        · right; rw [← neg_iff, ← neg_iff, g]
      unfold subD one at *
      simp only [Bool.false_eq_true, if_false, Int.sub_zero] at *
      rcases h with rfl | rfl | rfl <;> simp only [W1, W2, W4] at * <;> omega
    · simp
  · rw [h, Option.bind_some, if_neg (by decide)]
theorem BitsTimes : camshaftlaw01_BitsTimes.Pure := by
  intro a b n ha hb _
  refine ⟨1, ?_⟩
  unfold camshaftlaw01_BitsTimes.f
  rw [alive01b, Option.bind_some, if_pos rfl]
  rcases size_cases n with h | h
  · have ua := wf_u32 ha
    have ub := wf_u32 hb
    rw [size_true h, Option.bind_some, if_pos rfl, mul_f h ua ub, rmul_f h ua ub, div_f h ua ub, rdiv_f h ua ub]
    simp
  · rw [h, Option.bind_some, if_neg (by decide)]
end Go.Proofs.Ytmmmifgddkfehaa.OPure
