/- The pure statement of AluConverts. -/
import Derived.Test.YtmmmifgddkfehaaOAlu
import Derived.Test.YtmmmifgddkfehaaPAlux11
import Derived.Test.YtmmmifgddkfehaaPAlux28
import Derived.Test.YtmmmifgddkfehaaPAlux29
import Derived.Test.YtmmmifgddkfehaaPAlux30
namespace Go.Proofs.Ytmmmifgddkfehaa.OPure
open Go Go.RowKit Go.Proofs.Ytmmmifgddkfehaa.PAlu Go.Proofs.Ytmmmifgddkfehaa.OBits Go.Proofs.Ytmmmifgddkfehaa.ONorm Go.Proofs.Ytmmmifgddkfehaa.OAlu

theorem alive08 : camshaftlaw08_alive.f = some true := by
  unfold camshaftlaw08_alive.f
  rw [do_f (.inl rfl) (by decide) (by decide)]
  decide +kernel
theorem conv_f {a x n : Int} {s c : Bool} (h : Ok n) (hx : U x) (ha : x = a % 4294967296) (k : Nat) : alu_Convert.j0 (k + 1) n s c x = some (a % W n, s && neg a n, zer a n, s && (ext a n != x), if s then false else c) := by
  have e : x % W n = a % W n := by rw [ha, mod_mod h]
  simp only [alu_Convert.j0]
  rw [mask_f h, Option.bind_some, and_mask h hx, e, signs_f h (u_mod h), Option.bind_some, neg_mod h, zer_mod h, extend_f h (u_mod h), Option.bind_some]
  have e2 : ext (a % W n) n = ext a n := by unfold ext; rw [sgn_mod h]
  rw [e2]
  cases s <;> simp
theorem rconv_f {a n : Int} {s c : Bool} (h : Ok n) (k : Nat) : camshaftref08_Convert.j0 (k + 1) n s c a = some (a % W n, s && neg a n, zer a n, s && !fits a n, if s then false else c) := by
  simp only [camshaftref08_Convert.j0]
  rw [bits_f h, Option.bind_some, rsigns_f h (u_mod h), Option.bind_some, neg_mod h, zer_mod h, fits_f h, Option.bind_some]
  cases s <;> simp
theorem AluConverts : camshaftlaw08_AluConverts.Pure := by
  intro a m n s c ha _ _
  refine ⟨3, ?_⟩
  have ua := wf_u32 ha
  unfold camshaftlaw08_AluConverts.f
  rw [alive08, Option.bind_some, if_pos rfl]
  rcases size_cases m with hm | hm
  · rw [size_true hm, Option.bind_some, if_pos rfl]
    rcases size_cases n with h | h
    · rw [size_true h, Option.bind_some]
      simp only [camshaftlaw08_AluConverts.j0, Bool.not_true, Bool.false_eq_true, if_false]
      unfold alu_Convert.f camshaftref08_Convert.f
      have rm := mod_range (a := a) hm
      have sm := sgn_range' (a := a) hm
      rw [mask_f hm, rest_f hm ua, extend_f hm ua, signed_f hm ua]
      simp only [Option.bind_some]
      rw [and_mask hm ua]
      cases s
      · simp only [Bool.false_eq_true, if_false]
        rw [conv_f (a := a % W m) h (u_mod hm) (by omega), rconv_f h]
        simp [camshaftlaw08_AluConverts.j1]
      · simp only [if_true]
        rw [conv_f (a := sgn a m) h u_ext rfl, rconv_f h]
        have sn := sgn_range' (a := sgn a m) h
        have e : (ext (sgn a m) n != ext a m) = !fits (sgn a m) n := by
          rw [fits_sgn h]
          unfold ext
          rw [Bool.eq_iff_iff, bne_iff_ne, Bool.not_eq_true', beq_eq_false_iff_ne]
          generalize sgn (sgn a m) n = q at *
          generalize sgn a m = p at *
          omega
        rw [e]
        simp only [Option.bind_some, Bool.true_and, if_true, beq_self_eq_true, Bool.not_true, Bool.or_self, camshaftlaw08_AluConverts.j1, Bool.false_eq_true, if_false]
        rw [signed_f h (u_mod h), signed_f hm ua, Option.bind_some, Option.bind_some, sgn_mod h]
        cases g : fits (sgn a m) n
        · simp
        · rw [fits_sgn h] at g
          simp [eq_of_beq g]
    · rw [h, Option.bind_some]; simp [camshaftlaw08_AluConverts.j0]
  · rw [hm, Option.bind_some, if_neg (by decide)]; simp [camshaftlaw08_AluConverts.j0]
end Go.Proofs.Ytmmmifgddkfehaa.OPure
