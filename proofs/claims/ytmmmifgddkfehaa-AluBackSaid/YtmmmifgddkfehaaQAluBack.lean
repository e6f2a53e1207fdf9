/- The pure statement of AluBack. -/
import Derived.Test.YtmmmifgddkfehaaOAlu
import Derived.Test.YtmmmifgddkfehaaPAlux11
import Derived.Test.YtmmmifgddkfehaaPAlux26
namespace Go.Proofs.Ytmmmifgddkfehaa.OPure
open Go Go.RowKit Go.Proofs.Ytmmmifgddkfehaa.PAlu Go.Proofs.Ytmmmifgddkfehaa.OBits Go.Proofs.Ytmmmifgddkfehaa.ONorm Go.Proofs.Ytmmmifgddkfehaa.OAlu

theorem alive08 : camshaftlaw08_alive.f = some true := by
  unfold camshaftlaw08_alive.f
  rw [do_f (.inl rfl) (by decide) (by decide)]
  decide +kernel
theorem neg_congr {a b n : Int} (h : Ok n) (e : a % W n = b % W n) : neg a n = neg b n := by rw [← neg_mod h, e, neg_mod h]
theorem zer_congr {a b n : Int} (h : Ok n) (e : a % W n = b % W n) : zer a n = zer b n := by rw [← zer_mod h, e, zer_mod h]
theorem sgn_congr {a b n : Int} (h : Ok n) (e : a % W n = b % W n) : sgn a n = sgn b n := by rw [← sgn_mod h, e, sgn_mod h]
theorem addS_congr {a b x y n : Int} {c : Bool} (ea : a % W n = x % W n) (eb : b % W n = y % W n) : addS a b n c = addS x y n c := by unfold addS; rw [ea, eb]
theorem subD_congr {a b x y n : Int} {c : Bool} (ea : a % W n = x % W n) (eb : b % W n = y % W n) : subD a b n c = subD x y n c := by unfold subD; rw [ea, eb]
theorem nat_mod_testBit (x y m : Nat) (e : x % 2 ^ m = y % 2 ^ m) (i : Nat) (hi : i < m) : x.testBit i = y.testBit i := by
  have := congrArg (fun z => z.testBit i) e
  simpa [Nat.testBit_mod_two_pow, hi] using this
theorem lg_congr {op a b x y n : Int} (h : Ok n) (ha : U a) (hb : U b) (hx : U x) (hy : U y) (ea : a % W n = x % W n) (eb : b % W n = y % W n) : lg op a b % W n = lg op x y % W n := by
  have ul := u_lg (op := op) ha hb
  have um := u_lg (op := op) hx hy
  obtain ⟨m, hm, hW⟩ : ∃ m : Nat, m ≤ 32 ∧ W n = 2 ^ m := by
    rcases h with rfl | rfl | rfl
    · exact ⟨8, by omega, rfl⟩
    · exact ⟨16, by omega, rfl⟩
    · exact ⟨32, by omega, rfl⟩
  obtain ⟨a, rfl⟩ := Int.eq_ofNat_of_zero_le ha.1
  obtain ⟨b, rfl⟩ := Int.eq_ofNat_of_zero_le hb.1
  obtain ⟨x, rfl⟩ := Int.eq_ofNat_of_zero_le hx.1
  obtain ⟨y, rfl⟩ := Int.eq_ofNat_of_zero_le hy.1
  have e2 : ((2 : Int) ^ m) = ((2 ^ m : Nat) : Int) := by simp
  rw [hW, e2, ← Int.natCast_emod, ← Int.natCast_emod] at ea eb
  have ea' := Int.ofNat_inj.1 ea
  have eb' := Int.ofNat_inj.1 eb
  rw [← Int.toNat_of_nonneg ul.1, ← Int.toNat_of_nonneg um.1, hW, e2, ← Int.natCast_emod, ← Int.natCast_emod]
  congr 1
  apply Nat.eq_of_testBit_eq
  intro i
  rw [Nat.testBit_mod_two_pow, Nat.testBit_mod_two_pow]
  by_cases hi : i < m
  · rw [lg_bit a b (by have := ha.2; omega) (by have := hb.2; omega) i (by omega), lg_bit x y (by have := hx.2; omega) (by have := hy.2; omega) i (by omega), nat_mod_testBit a x m ea' i hi, nat_mod_testBit b y m eb' i hi]
  · simp [hi]
theorem doF_congr {op a b x y n : Int} {c : Bool} (h : Ok n) (ha : U a) (hb : U b) (hx : U x) (hy : U y) (ea : a % W n = x % W n) (eb : b % W n = y % W n) : doF op a b c n = doF op x y c n := by
  have el := lg_congr (op := op) h ha hb hx hy ea eb
  have a1 : addS a 1 n false = addS x 1 n false := addS_congr ea rfl
  have a2 := addS_congr (c := false) ea eb
  have a3 := addS_congr (c := c) ea eb
  have s0 : subD 0 a n false = subD 0 x n false := subD_congr rfl ea
  have s1 : subD a 1 n false = subD x 1 n false := subD_congr ea rfl
  have s2 := subD_congr (c := false) eb ea
  have s3 := subD_congr (c := c) eb ea
  have ep : prod a b n = prod x y n := by unfold prod; rw [sgn_congr h ea, sgn_congr h eb]
  have eq : quo b a n = quo y x n := by unfold quo quoOver; rw [sgn_congr h ea, sgn_congr h eb]
  have eo : quoOver b a n = quoOver y x n := by unfold quoOver; rw [sgn_congr h ea, sgn_congr h eb]
  unfold doF subF addF mulF divF cmpF
  rw [el, neg_congr h el, zer_congr h el, a1, a2, a3, s0, s1, s2, s3, ep, eq, eo, ea, eb, neg_congr h ea, neg_congr h eb, zer_congr h ea, sgn_congr h ea, sgn_congr h eb]
theorem testBit_ext {x y : Int} (hx : U x) (hy : U y) (g : ∀ i, i < 32 → x.toNat.testBit i = y.toNat.testBit i) : x = y := by
  have : x.toNat = y.toNat := by
    apply Nat.eq_of_testBit_eq
    intro i
    by_cases hi : i < 32
    · exact g i hi
    · have e : ∀ z : Nat, z < 4294967296 → z.testBit i = false := fun z hz => Nat.testBit_lt_two_pow (Nat.lt_of_lt_of_le (show z < 2 ^ 32 from hz) (Nat.pow_le_pow_right (by omega) (by omega)))
      rw [e _ (by have := hx.1; have := hx.2; omega), e _ (by have := hy.1; have := hy.2; omega)]
  have := hx.1; have := hy.1; omega
theorem lg_bitU {op x y : Int} (hx : U x) (hy : U y) (i : Nat) (hi : i < 32) : (lg op x y).toNat.testBit i = bw op (x.toNat.testBit i) (y.toNat.testBit i) := by
  obtain ⟨a, rfl⟩ := Int.eq_ofNat_of_zero_le hx.1
  obtain ⟨b, rfl⟩ := Int.eq_ofNat_of_zero_le hy.1
  exact lg_bit a b (by have := hx.2; omega) (by have := hy.2; omega) i hi
theorem lg_mod {op x y n : Int} (h : Ok n) (hx : U x) (hy : U y) : lg op (x % W n) (y % W n) % W n = lg op x y % W n := by
  have e : ∀ z : Int, z % W n % W n = z % W n := fun z => Int.emod_emod_of_dvd _ (Int.dvd_refl _)
  exact lg_congr h (u_mod h) (u_mod h) hx hy (e x) (e y)
theorem AluBack : camshaftlaw08_AluBack.Pure := by
  intro a b n ha hb _
  unfold camshaftlaw08_AluBack.f
  rw [alive08, Option.bind_some, if_pos rfl]
  rcases size_cases n with h | h
  · have ua := wf_u32 ha
    have ub := wf_u32 hb
    have l2 : logicB 2 = true := by decide
    have l12 : logicB 12 = true := by decide
    have l13 : logicB 13 = true := by decide
    have l14 : logicB 14 = true := by decide
    have l15 : logicB 15 = true := by decide
    have d6 : (doF 6 a b false n).1 = addS a b n false % W n := rfl
    have d7 : ∀ y, (doF 7 a y false n).1 = subD y a n false % W n := fun y => rfl
    have dl : ∀ op x y, logicB op = true → (doF op x y false n).1 = lg op x y % W n := fun op x y g => by unfold doF; rw [if_pos g]
    have rm := mod_range (a := b) h
    have rn := mod_range (a := a) h
    rw [size_true h, Option.bind_some, if_pos rfl, do_f h ua ub, Option.bind_some, d6, do_f h ua (u_mod h), Option.bind_some, d7, do_f h ua u0, Option.bind_some, dl 2 _ _ l2, do_f h (u_mod h) u0, Option.bind_some, dl 2 _ _ l2, do_f h ua ub, Option.bind_some, dl 13 _ _ l13, do_f h ua ub, Option.bind_some, dl 15 _ _ l15, do_f h (u_mod h) (u_mod h), Option.bind_some, dl 12 _ _ l12, do_f h (u_mod h) (u_mod h), Option.bind_some, dl 14 _ _ l14, rest_f h ub, Option.bind_some, rest_f h ua, Option.bind_some]
    have e1 : subD (addS a b n false % W n) a n false % W n = b % W n := by
      unfold subD addS one; simp only [Bool.false_eq_true, if_false]
      rcases h with rfl | rfl | rfl <;> simp only [W1, W2, W4] at * <;> omega
    have n1 : ∀ x, U x → lg 2 x 0 = 4294967295 - x := fun x hx => by unfold lg; rw [if_neg (by decide), if_pos rfl, xor_all x hx.1 hx.2]
    have e2 : lg 2 (lg 2 a 0 % W n) 0 % W n = a % W n := by
      rw [n1 a ua, n1 _ (u_mod h)]
      rcases h with rfl | rfl | rfl <;> simp only [W1, W2, W4] at * <;> omega
    have u13 := u_lg (op := 13) ua ub
    have u15 := u_lg (op := 15) ua ub
    have e3 : lg 12 (lg 13 a b % W n) (lg 15 a b % W n) % W n = b % W n := by
      rw [lg_mod h u13 u15]
      congr 1
      refine testBit_ext (u_lg u13 u15) ub (fun i hi => ?_)
      rw [lg_bitU u13 u15 i hi, lg_bitU ua ub i hi, lg_bitU ua ub i hi]
      cases a.toNat.testBit i <;> cases b.toNat.testBit i <;> decide
    have e4 : lg 14 (lg 13 a b % W n) (lg 15 a b % W n) % W n = b % W n := by
      rw [lg_mod h u13 u15]
      congr 1
      refine testBit_ext (u_lg u13 u15) ub (fun i hi => ?_)
      rw [lg_bitU u13 u15 i hi, lg_bitU ua ub i hi, lg_bitU ua ub i hi]
      cases a.toNat.testBit i <;> cases b.toNat.testBit i <;> decide
    rw [e1, e2, e3, e4, if_pos (by omega), if_pos (by omega), if_pos (by omega)]
    have e5 : b % W n % 4294967296 = b % W n := by omega
    rw [e5]; simp
  · rw [h, Option.bind_some, if_neg (by decide)]
end Go.Proofs.Ytmmmifgddkfehaa.OPure
