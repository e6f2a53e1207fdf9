/- The pure statement of AluCarries. -/
import Derived.Test.YtmmmifgddkfehaaOAlu
import Derived.Test.YtmmmifgddkfehaaPAlux11
import Derived.Test.YtmmmifgddkfehaaPAlux27
namespace Go.Proofs.Ytmmmifgddkfehaa.OPure
open Go Go.RowKit Go.Proofs.Ytmmmifgddkfehaa.PAlu Go.Proofs.Ytmmmifgddkfehaa.OBits Go.Proofs.Ytmmmifgddkfehaa.ONorm Go.Proofs.Ytmmmifgddkfehaa.OAlu

theorem alive08 : camshaftlaw08_alive.f = some true := by
  unfold camshaftlaw08_alive.f
  rw [do_f (.inl rfl) (by decide) (by decide)]
  decide +kernel
theorem AluCarries : camshaftlaw08_AluCarries.Pure := by
  intro a b c ha hb
  unfold camshaftlaw08_AluCarries.f
  rw [alive08, Option.bind_some, if_pos rfl]
  have ua := wf_u32 ha
  have ub := wf_u32 hb
  have va : U (a / 65536) := ⟨by omega, by omega⟩
  have vb : U (b / 65536) := ⟨by omega, by omega⟩
  have h2 : Ok 2 := .inr (.inl rfl)
  have h4 : Ok 4 := .inr (.inr rfl)
  have d8 : ∀ x y c n, doF 8 x y c n = ok5 (addF x y c n) true := fun x y c n => rfl
  have d9 : ∀ x y c n, doF 9 x y c n = ok5 (subF y x c n) true := fun x y c n => rfl
  simp only [do_f h2 ua ub, do_f h2 va vb, do_f h4 ua ub, d8, d9, Option.bind_some, ok5, addF, subF]
  have e2 : ∀ x, neg (x / 65536) 2 = neg x 4 := fun x => by rw [Bool.eq_iff_iff, neg_iff, neg_iff, W2, W4]; omega
  have hs : addS (a / 65536) (b / 65536) 2 (decide (W 2 ≤ addS a b 2 c)) = addS a b 4 c / 65536 := by
    unfold addS
    have rc := one_range c
    have k : one (decide (W 2 ≤ a % W 2 + b % W 2 + one c)) = (a % W 2 + b % W 2 + one c) / 65536 := by
      rw [W2]
      by_cases g : 65536 ≤ a % 65536 + b % 65536 + one c
      · rw [decide_eq_true g]; show (1 : Int) = _; omega
      · rw [decide_eq_false g]; show (0 : Int) = _; omega
    rw [k, W2, W4]
    generalize one c = z at *
    clear k; omega
  have ds : subD (a / 65536) (b / 65536) 2 (decide (subD a b 2 c < 0)) = subD a b 4 c / 65536 := by
    unfold subD
    have rc := one_range c
    have k : one (decide (a % W 2 - b % W 2 - one c < 0)) = -((a % W 2 - b % W 2 - one c) / 65536) := by
      rw [W2]
      by_cases g : a % 65536 - b % 65536 - one c < 0
      · rw [decide_eq_true g]; show (1 : Int) = _; omega
      · rw [decide_eq_false g]; show (0 : Int) = _; omega
    rw [k, W2, W4]
    generalize one c = z at *
    clear k; omega
  have ds' : subD (b / 65536) (a / 65536) 2 (decide (subD b a 2 c < 0)) = subD b a 4 c / 65536 := by
    unfold subD
    have rc := one_range c
    have k : one (decide (b % W 2 - a % W 2 - one c < 0)) = -((b % W 2 - a % W 2 - one c) / 65536) := by
      rw [W2]
      by_cases g : b % 65536 - a % 65536 - one c < 0
      · rw [decide_eq_true g]; show (1 : Int) = _; omega
      · rw [decide_eq_false g]; show (0 : Int) = _; omega
    rw [k, W2, W4]
    generalize one c = z at *
    clear k; omega
  clear ds
  have rs : 0 ≤ addS a b 4 c ∧ addS a b 4 c ≤ 8589934591 := by
    have rc := one_range c
    unfold addS; rw [W4]; omega
  have rd : -4294967296 ≤ subD b a 4 c ∧ subD b a 4 c ≤ 4294967295 := by
    have rc := one_range c
    unfold subD; rw [W4]; omega
  have l2 : addS a b 2 c % W 2 = addS a b 4 c % 65536 := by
    unfold addS; rw [W2, W4]; generalize one c = z; omega
  have m2 : subD b a 2 c % W 2 = subD b a 4 c % 65536 := by
    unfold subD; rw [W2, W4]; generalize one c = z; omega
  rw [hs, ds', e2, e2, e2, e2, l2, m2, W4, W2]
  generalize addS a b 4 c = s at *
  generalize subD b a 4 c = d at *
  clear hs ds' l2 m2
  have c1 : decide (65536 ≤ s / 65536) = decide (4294967296 ≤ s) := by rw [decide_eq_decide]; omega
  have c2 : decide (d / 65536 < 0) = decide (d < 0) := by rw [decide_eq_decide]; omega
  rw [c1, c2, if_pos (by omega), if_pos (by simp), if_pos (by simp), if_pos (by simp), if_pos (by omega), if_pos (by simp), if_pos (by simp)]
  simp
end Go.Proofs.Ytmmmifgddkfehaa.OPure
