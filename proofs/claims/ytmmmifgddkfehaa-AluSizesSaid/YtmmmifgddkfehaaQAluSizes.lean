/- The pure statement of AluSizes. -/
import Derived.Test.YtmmmifgddkfehaaOAlu
import Derived.Test.YtmmmifgddkfehaaPAlux11
import Derived.Test.YtmmmifgddkfehaaPAlux24
namespace Go.Proofs.Ytmmmifgddkfehaa.OPure
open Go Go.RowKit Go.Proofs.Ytmmmifgddkfehaa.PAlu Go.Proofs.Ytmmmifgddkfehaa.OBits Go.Proofs.Ytmmmifgddkfehaa.ONorm Go.Proofs.Ytmmmifgddkfehaa.OAlu

theorem alive08 : camshaftlaw08_alive.f = some true := by
  unfold camshaftlaw08_alive.f
  rw [do_f (.inl rfl) (by decide) (by decide)]
  decide +kernel
theorem neg_congr {a b n : Int} (h : Ok n) (e : a % W n = b % W n) : neg a n = neg b n := by rw [← neg_mod h, e, neg_mod h]
theorem zer_congr {a b n : Int} (h : Ok n) (e : a % W n = b % W n) : zer a n = zer b n := by rw [← zer_mod h, e, zer_mod h]
theorem sgn_congr {a b n : Int} (h : Ok n) (e : a % W n = b % W n) : sgn a n = sgn b n := by rw [← sgn_mod h, e, sgn_mod h]
theorem addS_congr {a b x y n : Int} {c : Bool} (ea : a % W n = x % W n) (eb : b % W n = y % W n) : addS a b n c = addS x y n c := by unfold addS; rw [ea, eb]
theorem subD_congr {a b x y n : Int} {c : Bool} (ea : a % W n = x % W n) (eb : b % W n = y % W n) : subD a b n c = subD x y n c := by unfold subD; rw [ea, eb]
theorem nat_mod_testBit (x y m : Nat) (e : x % 2 ^ m = y % 2 ^ m) (i : Nat) (hi : i < m) : x.testBit i = y.testBit i := by
  have := congrArg (fun z => z.testBit i) e
  simpa [Nat.testBit_mod_two_pow, hi] using this
theorem lg_congr {op a b x y n : Int} (h : Ok n) (ha : U a) (hb : U b) (hx : U x) (hy : U y) (ea : a % W n = x % W n) (eb : b % W n = y % W n) : lg op a b % W n = lg op x y % W n := by
  have ul := u_lg (op := op) ha hb
  have um := u_lg (op := op) hx hy
  obtain ⟨m, hm, hW⟩ : ∃ m : Nat, m ≤ 32 ∧ W n = 2 ^ m := by
    rcases h with rfl | rfl | rfl
    · exact ⟨8, by omega, rfl⟩
    · exact ⟨16, by omega, rfl⟩
    · exact ⟨32, by omega, rfl⟩
  obtain ⟨a, rfl⟩ := Int.eq_ofNat_of_zero_le ha.1
  obtain ⟨b, rfl⟩ := Int.eq_ofNat_of_zero_le hb.1
  obtain ⟨x, rfl⟩ := Int.eq_ofNat_of_zero_le hx.1
  obtain ⟨y, rfl⟩ := Int.eq_ofNat_of_zero_le hy.1
  have e2 : ((2 : Int) ^ m) = ((2 ^ m : Nat) : Int) := by simp
  rw [hW, e2, ← Int.natCast_emod, ← Int.natCast_emod] at ea eb
  have ea' := Int.ofNat_inj.1 ea
  have eb' := Int.ofNat_inj.1 eb
  rw [← Int.toNat_of_nonneg ul.1, ← Int.toNat_of_nonneg um.1, hW, e2, ← Int.natCast_emod, ← Int.natCast_emod]
  congr 1
  apply Nat.eq_of_testBit_eq
  intro i
  rw [Nat.testBit_mod_two_pow, Nat.testBit_mod_two_pow]
  by_cases hi : i < m
  · rw [lg_bit a b (by have := ha.2; omega) (by have := hb.2; omega) i (by omega), lg_bit x y (by have := hx.2; omega) (by have := hy.2; omega) i (by omega), nat_mod_testBit a x m ea' i hi, nat_mod_testBit b y m eb' i hi]
  · simp [hi]
theorem doF_congr {op a b x y n : Int} {c : Bool} (h : Ok n) (ha : U a) (hb : U b) (hx : U x) (hy : U y) (ea : a % W n = x % W n) (eb : b % W n = y % W n) : doF op a b c n = doF op x y c n := by
  have el := lg_congr (op := op) h ha hb hx hy ea eb
  have a1 : addS a 1 n false = addS x 1 n false := addS_congr ea rfl
  have a2 := addS_congr (c := false) ea eb
  have a3 := addS_congr (c := c) ea eb
  have s0 : subD 0 a n false = subD 0 x n false := subD_congr rfl ea
  have s1 : subD a 1 n false = subD x 1 n false := subD_congr ea rfl
  have s2 := subD_congr (c := false) eb ea
  have s3 := subD_congr (c := c) eb ea
  have ep : prod a b n = prod x y n := by unfold prod; rw [sgn_congr h ea, sgn_congr h eb]
  have eq : quo b a n = quo y x n := by unfold quo quoOver; rw [sgn_congr h ea, sgn_congr h eb]
  have eo : quoOver b a n = quoOver y x n := by unfold quoOver; rw [sgn_congr h ea, sgn_congr h eb]
  unfold doF subF addF mulF divF cmpF
  rw [el, neg_congr h el, zer_congr h el, a1, a2, a3, s0, s1, s2, s3, ep, eq, eo, ea, eb, neg_congr h ea, neg_congr h eb, zer_congr h ea, sgn_congr h ea, sgn_congr h eb]
theorem put_mod {a b n : Int} (h : Ok n) : put a b n % W n = b % W n := by
  unfold put; rcases h with rfl | rfl | rfl <;> simp only [W1, W2, W4] <;> omega
theorem AluSizes : camshaftlaw08_AluSizes.Pure := by
  intro op a b c n o _ ha hb _ ho
  refine ⟨1, ?_⟩
  unfold camshaftlaw08_AluSizes.f
  rw [alive08, Option.bind_some, if_pos rfl]
  rcases size_cases n with h | h
  · have ua := wf_u32 ha
    have ub := wf_u32 hb
    have uo := wf_u32 ho
    have un := u_xor u_all uo
    have h4 : Ok 4 := .inr (.inr rfl)
    have ul := u_lg (op := op) ua ub
    rw [size_true h, Option.bind_some, if_pos rfl, do_f h ua ub, rput_f h uo ua, rput_f h un ub]
    simp only [Option.bind_some]
    rw [do_f h (u_put h uo) (u_put h un), doF_congr h (u_put h uo) (u_put h un) ua ub (put_mod h) (put_mod h)]
    simp only [Option.bind_some, if_true, beq_self_eq_true, Bool.not_true, Bool.or_self, Bool.false_eq_true, if_false, bne_self_eq_false, camshaftlaw08_AluSizes.j0]
    rw [do_f h4 ua ub, logic_f]
    simp only [Option.bind_some]
    by_cases g : logicB op = true
    · rw [if_pos g]
      unfold doF
      rw [if_pos g, if_pos g]
      simp only
      have e4 : lg op a b % W 4 = lg op a b := by rw [W4]; have := ul.1; have := ul.2; omega
      have rm := mod_range (a := lg op a b) h
      rw [e4, rest_f h ul, Option.bind_some, wrap64_small (by omega) (by omega)]
      simp
    · rw [if_neg g]
  · rw [h, Option.bind_some, if_neg (by decide)]
end Go.Proofs.Ytmmmifgddkfehaa.OPure
