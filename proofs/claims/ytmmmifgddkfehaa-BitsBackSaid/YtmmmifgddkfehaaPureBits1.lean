/- The pure statements of BitsPuts, BitsSums, BitsBack and BitsExtends. -/
import Derived.Test.YtmmmifgddkfehaaONorm
import Derived.Test.YtmmmifgddkfehaaPAllx2
import Derived.Test.YtmmmifgddkfehaaPAllx3
import Derived.Test.YtmmmifgddkfehaaPAllx7
import Derived.Test.YtmmmifgddkfehaaPAllx8
import Derived.Test.YtmmmifgddkfehaaPAllx9
namespace Go.Proofs.Ytmmmifgddkfehaa.OPure
open Go Go.RowKit Go.Proofs.Ytmmmifgddkfehaa.PAll Go.Proofs.Ytmmmifgddkfehaa.OBits Go.Proofs.Ytmmmifgddkfehaa.ONorm

theorem alive01 : camshaftlaw01_alive.f = some true := by
  unfold camshaftlaw01_alive.f
  rw [add_f (.inl rfl) ⟨by omega, by omega⟩ ⟨by omega, by omega⟩]
  decide +kernel
theorem u_of {a : Int} (h : (Lit.int .u32 a).wf = true) : U a := wf_u32 h
theorem beq_rfl4 (p q r s : Bool) : (p == p && (q == q && (r == r && (s == s)))) = true := by cases p <;> cases q <;> cases r <;> cases s <;> rfl

theorem BitsSums : camshaftlaw01_BitsSums.Pure := by
  intro a b c n ha hb _
  unfold camshaftlaw01_BitsSums.f
  rw [alive01, Option.bind_some, if_pos rfl]
  rcases size_cases n with h | h
  · rw [size_true h, Option.bind_some, if_pos rfl, add_f h (u_of ha) (u_of hb), radd_f h (u_of ha) (u_of hb), sub_f h (u_of ha) (u_of hb), rsub_f h (u_of ha) (u_of hb)]
    simp only [Option.bind_some, if_true, beq_rfl4]
  · rw [h, Option.bind_some, if_neg (by decide)]
theorem BitsPuts : camshaftlaw01_BitsPuts.Pure := by
  intro a b n ha hb _
  unfold camshaftlaw01_BitsPuts.f
  rw [alive01, Option.bind_some, if_pos rfl]
  rcases size_cases n with h | h
  · have ua := u_of ha
    have ub := u_of hb
    have up := u_put (b := b) h ua
    have w := W_ge h
    have e1 : put a b n % W n = b % W n := by unfold put; rcases h with rfl | rfl | rfl <;> simp only [W1, W2, W4] <;> omega
    have e2 : put a b n - put a b n % W n = a - a % W n := by rw [e1]; unfold put; omega
    have e3 : put (put a b n) a n = a := by show put a b n - put a b n % W n + a % W n = a; rw [e2]; omega
    have e4 : put 0 b n = b % W n := by unfold put; simp
    rw [size_true h, Option.bind_some, if_pos rfl, put_f h ua ub, mask_f h]
    simp only [Option.bind_some]
    rw [and_mask h up, and_mask h ub, e1, if_pos rfl, andNot_m h up, andNot_m h ua, e2, if_pos rfl, put_f h up ua, Option.bind_some, e3, if_pos rfl, put_f h ⟨by omega, by omega⟩ ub, Option.bind_some, e4, if_pos rfl, top_f h, Option.bind_some]
    rcases h with rfl | rfl | rfl <;> decide +kernel
  · rw [h, Option.bind_some, if_neg (by decide)]
theorem BitsBack : camshaftlaw01_BitsBack.Pure := by
  intro a b c n ha hb _
  unfold camshaftlaw01_BitsBack.f
  rw [alive01, Option.bind_some, if_pos rfl]
  rcases size_cases n with h | h
  · have ua := u_of ha
    have ub := u_of hb
    have rc := one_range c
    rw [size_true h, Option.bind_some, if_pos rfl, add_f h ua ub, Option.bind_some, sub_f h (by simp only [addF]; exact u_mod h) ub, sub_f h ua ub]
    simp only [Option.bind_some]
    rw [add_f h (by simp only [subF]; exact u_mod h) ub, mask_f h]
    simp only [Option.bind_some, and_mask h ua, addF, subF]
    have e1 : subD (addS a b n c % W n) b n c % W n = a % W n := by
      unfold subD addS; rcases h with rfl | rfl | rfl <;> simp only [W1, W2, W4] <;> omega
    have e2 : addS (subD a b n c % W n) b n c % W n = a % W n := by
      unfold subD addS; rcases h with rfl | rfl | rfl <;> simp only [W1, W2, W4] <;> omega
    rw [e1, e2, if_pos rfl]
    simp
  · rw [h, Option.bind_some, if_neg (by decide)]
theorem sgn_ext {a n : Int} (h : Ok n) : sgn (ext a n) 4 = sgn a n := by
  have := sgn_range' (a := a) h
  unfold ext
  generalize sgn a n = s at *
  unfold sgn neg
  simp only [W4]
  by_cases g : 2147483648 ≤ s % 4294967296 <;> simp [g] <;> omega
theorem ext_mod {a n : Int} (h : Ok n) : ext a n % W n = a % W n := by
  unfold ext sgn
  cases neg a n <;> rcases h with rfl | rfl | rfl <;> simp only [W1, W2, W4] <;> simp <;> omega
theorem BitsExtends : camshaftlaw01_BitsExtends.Pure := by
  intro a n ha _
  unfold camshaftlaw01_BitsExtends.f
  rw [alive01, Option.bind_some, if_pos rfl]
  rcases size_cases n with h | h
  · have ua := u_of ha
    have h4 : Ok 4 := .inr (.inr rfl)
    have ue : U (ext a n) := u_ext
    have e1 : ext (ext a n) n = ext a n := by
      have : sgn (ext a n) n = sgn a n := by rw [← sgn_mod h, ext_mod h, sgn_mod h]
      show sgn (ext a n) n % 4294967296 = _
      rw [this]; rfl
    have en : neg (ext a n) 4 = neg a n := by
      have s1 := sgn_range' (a := a) h
      have s2 := sgn_ext (a := a) h
      have w := mod_range (a := a) h
      have w4 := mod_range (a := ext a n) h4
      unfold sgn at s1 s2
      cases g1 : neg (ext a n) 4 <;> cases g2 : neg a n <;> simp [g1, g2] at s1 s2 ⊢ <;> omega
    have ez : zer (ext a n) 4 = zer a n := by
      have s2 := sgn_ext (a := a) h
      have w := mod_range (a := a) h
      have w4 := mod_range (a := ext a n) h4
      have w5 := W_ge h
      have ng : neg a n = true → W n / 2 ≤ a % W n := fun g => of_decide_eq_true g
      unfold zer
      rw [Bool.eq_iff_iff, beq_iff_eq, beq_iff_eq]
      unfold sgn at s2
      cases g2 : neg a n
      · simp [en, g2] at s2; simp only [W4] at *; omega
      · have ng' := ng g2
        simp [en, g2] at s2; simp only [W4] at *; omega
    rw [size_true h, Option.bind_some, if_pos rfl, extend_f h ua, Option.bind_some, signed_f h4 ue, signed_f h ua, extend_f h ue, e1, signs_f h4 ue, signs_f h ua, neg_f h4 ue, neg_f h ua, sgn_ext h, en, ez]
    simp
  · rw [h, Option.bind_some, if_neg (by decide)]
end Go.Proofs.Ytmmmifgddkfehaa.OPure
