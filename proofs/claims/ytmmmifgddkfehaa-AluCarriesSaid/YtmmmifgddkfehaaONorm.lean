/- What the printed functions of the packages bits and camshaftref01 come to at the sizes 1, 2 and 4, in whole numbers. -/
import Derived.Test.YtmmmifgddkfehaaOBits
import Derived.Test.YtmmmifgddkfehaaPAlux11
import Derived.Test.YtmmmifgddkfehaaPAlux12
import Derived.Test.YtmmmifgddkfehaaPAlux13
import Derived.Test.YtmmmifgddkfehaaPAlux14
import Derived.Test.YtmmmifgddkfehaaPAlux15
import Derived.Test.YtmmmifgddkfehaaPAlux16
import Derived.Test.YtmmmifgddkfehaaPAlux2
import Derived.Test.YtmmmifgddkfehaaPAlux23
import Derived.Test.YtmmmifgddkfehaaPAlux3
import Derived.Test.YtmmmifgddkfehaaPAlux4
import Derived.Test.YtmmmifgddkfehaaPAlux5
namespace Go.Proofs.Ytmmmifgddkfehaa.ONorm
open Go Go.RowKit Go.Proofs.Ytmmmifgddkfehaa.PAlu Go.Proofs.Ytmmmifgddkfehaa.OBits

def W (n : Int) : Int := if n = 1 then 256 else if n = 2 then 65536 else 4294967296
def Ok (n : Int) : Prop := n = 1 ∨ n = 2 ∨ n = 4
def neg (a n : Int) : Bool := decide (W n / 2 ≤ a % W n)
def sgn (a n : Int) : Int := if neg a n then a % W n - W n else a % W n
def zer (a n : Int) : Bool := a % W n == 0
abbrev U (a : Int) : Prop := 0 ≤ a ∧ a < 4294967296

theorem size_true {n : Int} (h : Ok n) : camshaftref01_Size.f n = some true := by
  rcases h with rfl | rfl | rfl <;> rfl
theorem size_cases (n : Int) : Ok n ∨ camshaftref01_Size.f n = some false := by
  unfold Ok camshaftref01_Size.f
  by_cases h1 : n = 1
  · exact .inl (.inl h1)
  by_cases h2 : n = 2
  · exact .inl (.inr (.inl h2))
  by_cases h4 : n = 4
  · exact .inl (.inr (.inr h4))
  right
  rw [if_neg h1, if_neg h2]
  simp [h4]
theorem W1 : W 1 = 256 := rfl
theorem W2 : W 2 = 65536 := rfl
theorem W4 : W 4 = 4294967296 := rfl

theorem mask_f {n : Int} (h : Ok n) : bits_Mask.f n = some (W n - 1) := by
  rcases h with rfl | rfl | rfl <;> rfl
theorem top_f {n : Int} (h : Ok n) : bits_Top.f n = some (W n / 2) := by
  rcases h with rfl | rfl | rfl <;> decide +kernel
theorem and_mask {a n : Int} (h : Ok n) (ha : U a) : bits .and .u32 a (W n - 1) = a % W n := by
  rcases h with rfl | rfl | rfl
  · exact and8 a ha.1 ha.2
  · exact and16 a ha.1 ha.2
  · rw [show W 4 - 1 = 4294967295 from rfl, and32 a ha.1 ha.2, W4]; omega
theorem and_topw {a n : Int} (h : Ok n) (ha : U a) : (bits .and .u32 a (W n / 2) != 0) = neg a n := by
  rcases h with rfl | rfl | rfl
  · exact and_top a 7 (by omega) ha.1 ha.2
  · exact and_top a 15 (by omega) ha.1 ha.2
  · exact and_top a 31 (by omega) ha.1 ha.2
theorem neg_f {a n : Int} (h : Ok n) (ha : U a) : bits_Neg.f a n = some (neg a n) := by
  rw [bits_Neg.f, top_f h, Option.bind_some, and_topw h ha]
theorem signs_f {a n : Int} (h : Ok n) (ha : U a) : bits_Signs.f a n = some (neg a n, zer a n, false, false) := by
  rw [bits_Signs.f, neg_f h ha, mask_f h, Option.bind_some, Option.bind_some, and_mask h ha]
  rfl
theorem mod_range {a n : Int} (h : Ok n) : 0 ≤ a % W n ∧ a % W n < W n ∧ W n ≤ 4294967296 ∧ 0 < W n := by
  rcases h with rfl | rfl | rfl <;> simp only [W1, W2, W4] <;> omega
theorem neg_mod {a n : Int} (h : Ok n) : neg (a % W n) n = neg a n := by
  unfold neg; rw [decide_eq_decide]; rcases h with rfl | rfl | rfl <;> simp only [W1, W2, W4] <;> omega
theorem zer_mod {a n : Int} (h : Ok n) : zer (a % W n) n = zer a n := by
  unfold zer; rw [Bool.eq_iff_iff, beq_iff_eq, beq_iff_eq]; rcases h with rfl | rfl | rfl <;> simp only [W1, W2, W4] <;> omega
theorem u64_small {a : Int} (h0 : 0 ≤ a) (h1 : a < 18446744073709551616) : IntKind.u64.wrap a = a := by
  have e : IntKind.u64.wrap a = a % 18446744073709551616 := rfl
  rw [e]; omega
theorem and_mod64 (a : Int) (k : Nat) (hk : k ≤ 32) (h0 : 0 ≤ a) (h1 : a < 18446744073709551616) : bits .and .u64 a (2 ^ k - 1) = a % 2 ^ k := by
  have hp : (2 : Int) ^ k ≤ 4294967296 := by
    have : (2 : Nat) ^ k ≤ 2 ^ 32 := Nat.pow_le_pow_right (by omega) hk
    have h2 : ((2 ^ k : Nat) : Int) ≤ ((2 ^ 32 : Nat) : Int) := Int.ofNat_le.2 this
    simpa using h2
  have hq : (0 : Int) < 2 ^ k := by
    have : 0 < (2 : Nat) ^ k := Nat.two_pow_pos k
    have h2 : ((0 : Nat) : Int) < ((2 ^ k : Nat) : Int) := Int.ofNat_lt.2 this
    simpa using h2
  rw [u64_and a _ h0 h1 (by omega) (by omega)]
  have e : ((2 : Int) ^ k - 1).toNat = 2 ^ k - 1 := by
    have h3 : ((2 : Int) ^ k) = ((2 ^ k : Nat) : Int) := by simp
    rw [h3]; omega
  rw [e, Nat.and_two_pow_sub_one_eq_mod]
  obtain ⟨n, rfl⟩ := Int.eq_ofNat_of_zero_le h0
  simp
theorem and_mask64 {a n : Int} (h : Ok n) (h0 : 0 ≤ a) (h1 : a < 18446744073709551616) : bits .and .u64 a (W n - 1) = a % W n := by
  rcases h with rfl | rfl | rfl
  · exact and_mod64 a 8 (by omega) h0 h1
  · exact and_mod64 a 16 (by omega) h0 h1
  · exact and_mod64 a 32 (by omega) h0 h1
def one (c : Bool) : Int := if c then 1 else 0
theorem one_range (c : Bool) : 0 ≤ one c ∧ one c ≤ 1 := by cases c <;> decide
theorem add_s {a b n : Int} {c : Bool} (h : Ok n) (ha : U a) (hb : U b) : bits_Add.s a b c (W n - 1) = a % W n + b % W n + one c := by
  have ra := mod_range (a := a) h
  have rb := mod_range (a := b) h
  obtain ⟨a0, a1⟩ := ha
  obtain ⟨b0, b1⟩ := hb
  unfold bits_Add.s
  rw [u64_small (a := a) (by omega) (by omega), u64_small (a := b) (by omega) (by omega), u64_small (a := W n - 1) (by omega) (by omega), and_mask64 h (by omega) (by omega), and_mask64 h (by omega) (by omega), u64_small (a := a % W n + b % W n) (by omega) (by omega), u64_small (a := a % W n + b % W n + 1) (by omega) (by omega)]
  cases c
  · simp [one]
  · simp [one]
theorem neg_xor {a b n : Int} (h : Ok n) (ha : U a) (hb : U b) : neg (bits .xor .u32 a b) n = (neg a n ^^ neg b n) := by
  rcases h with rfl | rfl | rfl
  · exact top_xor a b 7 ha.1 ha.2 hb.1 hb.2
  · exact top_xor a b 15 ha.1 ha.2 hb.1 hb.2
  · exact top_xor a b 31 ha.1 ha.2 hb.1 hb.2
theorem neg_and {a b n : Int} (h : Ok n) (ha : U a) (hb : U b) : neg (bits .and .u32 a b) n = (neg a n && neg b n) := by
  rcases h with rfl | rfl | rfl
  · exact top_and a b 7 ha.1 ha.2 hb.1 hb.2
  · exact top_and a b 15 ha.1 ha.2 hb.1 hb.2
  · exact top_and a b 31 ha.1 ha.2 hb.1 hb.2
theorem u_xor {a b : Int} (ha : U a) (hb : U b) : U (bits .xor .u32 a b) := xor_range a b ha.1 ha.2 hb.1 hb.2
theorem u_and {a b : Int} (ha : U a) (hb : U b) : U (bits .and .u32 a b) := and_range a b ha.1 ha.2 hb.1 hb.2
theorem u_all : U 4294967295 := by decide
theorem u_mod {a n : Int} (h : Ok n) : U (a % W n) := by have := mod_range (a := a) h; exact ⟨by omega, by omega⟩
theorem neg_all {n : Int} (h : Ok n) : neg 4294967295 n = true := by rcases h with rfl | rfl | rfl <;> decide +kernel

/-- The sum, and its codes. -/
def addS (a b n : Int) (c : Bool) : Int := a % W n + b % W n + one c
def addF (a b : Int) (c : Bool) (n : Int) : Int × Bool × Bool × Bool × Bool :=
  (addS a b n c % W n, neg (addS a b n c) n, zer (addS a b n c) n, (neg a n == neg b n) && (neg (addS a b n c) n != neg a n), decide (W n ≤ addS a b n c))
theorem add_f {a b n : Int} {c : Bool} (h : Ok n) (ha : U a) (hb : U b) : bits_Add.f a b c n = some (addF a b c n) := by
  have hn0 : n ≠ 0 := by rcases h with rfl | rfl | rfl <;> decide
  have rs : 0 ≤ addS a b n c ∧ addS a b n c < 18446744073709551616 := by
    have ra := mod_range (a := a) h
    have rb := mod_range (a := b) h
    have rc := one_range c
    unfold addS; omega
  have rx := u_mod (a := addS a b n c) h
  have e4 : addS a b n c % W n % 4294967296 = addS a b n c % W n := by have := rx.1; have := rx.2; omega
  have rm := mod_range (a := 0) h
  unfold bits_Add.f
  rw [mask_f h]
  simp only [Option.bind_some]
  rw [add_s h ha hb, show a % W n + b % W n + one c = addS a b n c from rfl, u64_small (a := W n - 1) (by omega) (by omega), and_mask64 h rs.1 rs.2, e4, signs_f h rx]
  simp only [Option.bind_some]
  rw [if_neg hn0, neg_f h (u_and (u_xor u_all (u_xor ha hb)) (u_xor ha rx)), neg_and h (u_xor u_all (u_xor ha hb)) (u_xor ha rx), neg_xor h u_all (u_xor ha hb), neg_xor h ha hb, neg_xor h ha rx, neg_mod h, zer_mod h, neg_all h]
  simp only [Option.bind_some, addF, Option.some.injEq, Prod.mk.injEq, true_and]
  refine ⟨by cases neg a n <;> cases neg b n <;> cases neg (addS a b n c) n <;> rfl, ?_⟩
  rw [decide_eq_decide]; omega
theorem wrap64_small {a : Int} (h0 : -9223372036854775808 ≤ a) (h1 : a < 9223372036854775808) : wrap64 a = a := by unfold wrap64; omega
theorem wide_f {n : Int} (h : Ok n) : camshaftref01_Wide.f n = some (W n) := by rcases h with rfl | rfl | rfl <;> rfl
theorem rest_f {a n : Int} (h : Ok n) (ha : U a) : camshaftref01_Rest.f a n = some (a % W n) := by
  have rm := mod_range (a := 0) h
  obtain ⟨a0, a1⟩ := ha
  unfold camshaftref01_Rest.f
  rw [wide_f h, Option.bind_some, if_neg (by omega), wrap64_small (by omega) (by omega), Int.tmod_eq_emod_of_nonneg a0]
theorem signed_f {a n : Int} (h : Ok n) (ha : U a) : camshaftref01_Signed.f a n = some (sgn a n) := by
  have rm := mod_range (a := a) h
  unfold camshaftref01_Signed.f
  rw [rest_f h ha, wide_f h]
  simp only [Option.bind_some]
  rw [Int.tdiv_eq_ediv_of_nonneg (by omega), wrap64_small (a := W n / 2) (by omega) (by omega), wrap64_small (a := a % W n - W n) (by omega) (by omega), sgn, neg]
  by_cases g : W n / 2 ≤ a % W n
  · rw [if_pos (by omega), if_pos (by simpa using g)]
  · rw [if_neg (by omega), if_neg (by simpa using g)]
theorem bits_f {k n : Int} (h : Ok n) : camshaftref01_Bits.f k n = some (k % W n) := by
  have rm := mod_range (a := k) h
  unfold camshaftref01_Bits.f
  rw [wide_f h]
  simp only [Option.bind_some]
  rw [if_neg (by omega), Int.tmod_eq_emod]
  by_cases g : 0 ≤ k ∨ W n ∣ k
  · rw [if_pos g, if_neg (by omega)]
    congr 1
    omega
  · rw [if_neg g]
    have e : ((W n).natAbs : Int) = W n := by omega
    rw [e, if_pos (by omega), wrap64_small (by omega) (by omega)]
    congr 1
    omega
def fits (k n : Int) : Bool := decide (-(W n / 2) ≤ k) && decide (k < W n / 2)
theorem half {n : Int} (h : Ok n) : Int.tdiv (-(W n)) 2 = -(W n / 2) ∧ Int.tdiv (W n) 2 = W n / 2 := by
  rcases h with rfl | rfl | rfl <;> decide
theorem fits_f {k n : Int} (h : Ok n) : camshaftref01_Fits.f k n = some (fits k n) := by
  have rm := mod_range (a := k) h
  unfold camshaftref01_Fits.f
  rw [wide_f h]
  simp only [Option.bind_some]
  rw [wrap64_small (a := -(W n)) (by omega) (by omega), (half h).1, (half h).2, wrap64_small (a := -(W n / 2)) (by omega) (by omega), wrap64_small (a := W n / 2) (by omega) (by omega), fits]
  by_cases g : -(W n / 2) ≤ k
  · rw [if_pos (by omega), decide_eq_true g, Bool.true_and]
  · rw [if_neg (by omega), decide_eq_false g, Bool.false_and]
theorem one_f (c : Bool) : camshaftref01_one.f c = some (one c) := by cases c <;> rfl
theorem rsigns_f {a n : Int} (h : Ok n) (ha : U a) : camshaftref01_Signs.f a n = some (neg a n, zer a n, false, false) := by
  have rm := mod_range (a := a) h
  unfold camshaftref01_Signs.f
  rw [signed_f h ha, rest_f h ha]
  simp only [Option.bind_some, Option.some.injEq, Prod.mk.injEq, and_true]
  refine ⟨?_, rfl⟩
  unfold sgn
  cases g : neg a n
  · simp; omega
  · simp; omega
theorem radd_f {a b n : Int} {c : Bool} (h : Ok n) (ha : U a) (hb : U b) : camshaftref01_Add.f a b c n = some (addF a b c n) := by
  have ra := mod_range (a := a) h
  have rb := mod_range (a := b) h
  have rc := one_range c
  have rx := u_mod (a := addS a b n c) h
  have es : wrap64 (wrap64 (a % W n + b % W n) + one c) = addS a b n c := by
    rw [wrap64_small (a := a % W n + b % W n) (by omega) (by omega), wrap64_small (by omega) (by omega)]; rfl
  have rS : 0 ≤ addS a b n c ∧ addS a b n c < 18446744073709551 := by unfold addS; omega
  have sa : -4294967296 ≤ sgn a n ∧ sgn a n ≤ 4294967296 := by unfold sgn; split <;> omega
  have sb : -4294967296 ≤ sgn b n ∧ sgn b n ≤ 4294967296 := by unfold sgn; split <;> omega
  unfold camshaftref01_Add.f
  rw [rest_f h ha, rest_f h hb, one_f]
  simp only [Option.bind_some]
  rw [es, bits_f h]
  simp only [Option.bind_some]
  rw [rsigns_f h rx, wide_f h, signed_f h ha, signed_f h hb]
  simp only [Option.bind_some]
  rw [wrap64_small (a := sgn a n + sgn b n) (by omega) (by omega), wrap64_small (a := sgn a n + sgn b n + one c) (by omega) (by omega), fits_f h, neg_mod h, zer_mod h]
  simp only [Option.bind_some, addF, Option.some.injEq, Prod.mk.injEq, true_and]
  refine ⟨?_, trivial⟩
  generalize hS : addS a b n c = S
  unfold addS at hS
  unfold fits sgn neg
  rcases h with rfl | rfl | rfl <;> simp only [W1, W2, W4] at *
  · by_cases g1 : 128 ≤ a % 256 <;> by_cases g2 : 128 ≤ b % 256 <;> by_cases g3 : 128 ≤ S % 256 <;> simp [g1, g2, g3] <;> omega
  · by_cases g1 : 32768 ≤ a % 65536 <;> by_cases g2 : 32768 ≤ b % 65536 <;> by_cases g3 : 32768 ≤ S % 65536 <;> simp [g1, g2, g3] <;> omega
  · by_cases g1 : 2147483648 ≤ a % 4294967296 <;> by_cases g2 : 2147483648 ≤ b % 4294967296 <;> by_cases g3 : 2147483648 ≤ S % 4294967296 <;> simp [g1, g2, g3] <;> omega
/-- The difference, and its codes. -/
def subD (a b n : Int) (c : Bool) : Int := a % W n - b % W n - one c
def subF (a b : Int) (c : Bool) (n : Int) : Int × Bool × Bool × Bool × Bool :=
  (subD a b n c % W n, neg (subD a b n c) n, zer (subD a b n c) n, (neg a n != neg b n) && (neg (subD a b n c) n != neg a n), decide (subD a b n c < 0))
theorem u_not {a : Int} (ha : U a) : U (4294967295 - a) := by obtain ⟨h0, h1⟩ := ha; exact ⟨by omega, by omega⟩
theorem addS_not {a b n : Int} {c : Bool} (h : Ok n) : addS a (4294967295 - b) n (!c) = W n + subD a b n c := by
  unfold addS subD
  rcases h with rfl | rfl | rfl <;> simp only [W1, W2, W4] <;> cases c <;> simp only [one] <;> simp <;> omega
theorem neg_add {x n : Int} (h : Ok n) : neg (W n + x) n = neg x n := by
  unfold neg; rw [decide_eq_decide]; rcases h with rfl | rfl | rfl <;> simp only [W1, W2, W4] <;> omega
theorem zer_add {x n : Int} (h : Ok n) : zer (W n + x) n = zer x n := by
  unfold zer; rw [Bool.eq_iff_iff, beq_iff_eq, beq_iff_eq]; rcases h with rfl | rfl | rfl <;> simp only [W1, W2, W4] <;> omega
theorem neg_not {a n : Int} (h : Ok n) : neg (4294967295 - a) n = !neg a n := by
  unfold neg; rw [← decide_not, decide_eq_decide]; rcases h with rfl | rfl | rfl <;> simp only [W1, W2, W4] <;> omega
theorem W_ge {n : Int} (h : Ok n) : 256 ≤ W n := by rcases h with rfl | rfl | rfl <;> decide
theorem sub_f {a b n : Int} {c : Bool} (h : Ok n) (ha : U a) (hb : U b) : bits_Sub.f a b c n = some (subF a b c n) := by
  have rm := W_ge h
  unfold bits_Sub.f
  rw [xor_all b hb.1 hb.2, add_f h ha (u_not hb), mask_f h]
  simp only [Option.bind_some, addF]
  rw [if_neg (by omega), addS_not h, neg_add h, zer_add h, neg_not h]
  simp only [subF, Option.some.injEq, Prod.mk.injEq, true_and]
  refine ⟨?_, ?_, ?_⟩
  · rw [Int.add_emod_left]
  · cases neg a n <;> cases neg b n <;> rfl
  · rw [← decide_not, decide_eq_decide]; omega
theorem rsub_f {a b n : Int} {c : Bool} (h : Ok n) (ha : U a) (hb : U b) : camshaftref01_Sub.f a b c n = some (subF a b c n) := by
  have ra := mod_range (a := a) h
  have rb := mod_range (a := b) h
  have rc := one_range c
  have rx := u_mod (a := subD a b n c) h
  have es : wrap64 (wrap64 (a % W n - b % W n) - one c) = subD a b n c := by
    rw [wrap64_small (a := a % W n - b % W n) (by omega) (by omega), wrap64_small (by omega) (by omega)]; rfl
  have sa : -4294967296 ≤ sgn a n ∧ sgn a n ≤ 4294967296 := by unfold sgn; split <;> omega
  have sb : -4294967296 ≤ sgn b n ∧ sgn b n ≤ 4294967296 := by unfold sgn; split <;> omega
  unfold camshaftref01_Sub.f
  rw [rest_f h ha, rest_f h hb, one_f]
  simp only [Option.bind_some]
  rw [es, bits_f h]
  simp only [Option.bind_some]
  rw [rsigns_f h rx, signed_f h ha, signed_f h hb]
  simp only [Option.bind_some]
  rw [wrap64_small (a := sgn a n - sgn b n) (by omega) (by omega), wrap64_small (a := sgn a n - sgn b n - one c) (by omega) (by omega), fits_f h, neg_mod h, zer_mod h]
  simp only [Option.bind_some, subF, Option.some.injEq, Prod.mk.injEq, true_and]
  refine ⟨?_, trivial⟩
  generalize hS : subD a b n c = S
  unfold subD at hS
  unfold fits sgn neg
  rcases h with rfl | rfl | rfl <;> simp only [W1, W2, W4] at *
  · by_cases g1 : 128 ≤ a % 256 <;> by_cases g2 : 128 ≤ b % 256 <;> by_cases g3 : 128 ≤ S % 256 <;> simp [g1, g2, g3] <;> omega
  · by_cases g1 : 32768 ≤ a % 65536 <;> by_cases g2 : 32768 ≤ b % 65536 <;> by_cases g3 : 32768 ≤ S % 65536 <;> simp [g1, g2, g3] <;> omega
  · by_cases g1 : 2147483648 ≤ a % 4294967296 <;> by_cases g2 : 2147483648 ≤ b % 4294967296 <;> by_cases g3 : 2147483648 ≤ S % 4294967296 <;> simp [g1, g2, g3] <;> omega

/-- A number with its sign, in four bytes. -/
def ext (a n : Int) : Int := sgn a n % 4294967296
theorem sgn_range {a n : Int} (h : Ok n) : -(W n / 2) ≤ sgn a n ∧ sgn a n < W n / 2 := by
  unfold sgn neg
  rcases h with rfl | rfl | rfl <;> simp only [W1, W2, W4]
  · by_cases g : 128 ≤ a % 256 <;> simp [g] <;> omega
  · by_cases g : 32768 ≤ a % 65536 <;> simp [g] <;> omega
  · by_cases g : 2147483648 ≤ a % 4294967296 <;> simp [g] <;> omega
theorem sgn_range' {a n : Int} (h : Ok n) : -2147483648 ≤ sgn a n ∧ sgn a n < 2147483648 := by
  have := sgn_range (a := a) h; have rm := mod_range (a := 0) h; omega
theorem sgn_mod {a n : Int} (h : Ok n) : sgn (a % W n) n = sgn a n := by
  unfold sgn; rw [neg_mod h]; congr 1 <;> rcases h with rfl | rfl | rfl <;> simp only [W1, W2, W4] <;> omega
theorem u_ext {a n : Int} : U (ext a n) := by unfold ext; exact ⟨by omega, by omega⟩
theorem or_top {x n : Int} (h : Ok n) (h0 : 0 ≤ x) (h1 : x < W n) : bits .or .u32 x (4294967295 - (W n - 1)) = x + (4294967296 - W n) := by
  have rm := mod_range (a := 0) h
  rw [or_comm x _ h0 (by omega) (by omega) (by omega)]
  have g := fun k hk (e : W n = 2 ^ k) => or_high x k hk h0 (by rw [← e]; exact h1) (4294967295 - (W n - 1)) (by omega) (by omega)
  rcases h with rfl | rfl | rfl
  · rw [g 8 (by omega) rfl (by decide)]; simp only [W1]; omega
  · rw [g 16 (by omega) rfl (by decide)]; simp only [W2]; omega
  · rw [g 32 (by omega) rfl (by decide)]; simp only [W4]; omega
theorem extend_f {a n : Int} (h : Ok n) (ha : U a) : bits_Extend.f a n = some (ext a n) := by
  have rm := mod_range (a := a) h
  unfold bits_Extend.f
  rw [mask_f h]
  simp only [Option.bind_some]
  rw [and_mask h ha, neg_f h (u_mod h), neg_mod h, xor_all _ (by omega) (by omega), or_top h rm.1 rm.2.1]
  simp only [Option.bind_some, ext, sgn]
  cases g : neg a n <;> simp <;> omega
theorem wrap32_ext {a n : Int} (h : Ok n) : wrap32 (ext a n) = sgn a n := by
  have := sgn_range' (a := a) h; unfold ext wrap32; omega
theorem andNot_m {a n : Int} (h : Ok n) (ha : U a) : bits .andNot .u32 a (W n - 1) = a - a % W n := by
  rcases h with rfl | rfl | rfl
  · exact andNot_mask a 8 (by omega) ha.1 ha.2
  · exact andNot_mask a 16 (by omega) ha.1 ha.2
  · exact andNot_mask a 32 (by omega) ha.1 ha.2
def put (a b n : Int) : Int := a - a % W n + b % W n
theorem u_put {a b n : Int} (h : Ok n) (ha : U a) : U (put a b n) := by
  obtain ⟨h0, h1⟩ := ha
  unfold put
  rcases h with rfl | rfl | rfl <;> simp only [W1, W2, W4] <;> exact ⟨by omega, by omega⟩
theorem rput_f {a b n : Int} (h : Ok n) (ha : U a) (hb : U b) : camshaftref01_Put.f a b n = some (put a b n) := by
  have ra := mod_range (a := a) h
  have rb := mod_range (a := b) h
  have ru := u_put (b := b) h ha
  obtain ⟨h0, h1⟩ := ha
  unfold camshaftref01_Put.f
  rw [rest_f h ⟨h0, h1⟩, rest_f h hb]
  simp only [Option.bind_some]
  rw [wrap64_small (a := a) (by omega) (by omega), wrap64_small (a := a - a % W n) (by omega) (by omega), wrap64_small (a := a - a % W n + b % W n) (by omega) (by omega)]
  have := ru.1; have := ru.2
  unfold put at *
  congr 1; omega
def cmpF (a b n : Int) : Bool × Bool × Bool × Bool := (decide (sgn a n < sgn b n), a % W n == b % W n, false, decide (a % W n < b % W n))
theorem less_f {a b n : Int} (h : Ok n) (ha : U a) (hb : U b) : bits_Less.f a b n = some (decide (sgn a n < sgn b n), decide (a % W n < b % W n)) := by
  unfold bits_Less.f
  rw [mask_f h, extend_f h ha, extend_f h hb]
  simp only [Option.bind_some]
  rw [wrap32_ext h, wrap32_ext h, and_mask h ha, and_mask h hb]
theorem xor_eq {a b n : Int} (h : Ok n) (ha : U a) (hb : U b) : (bits .and .u32 (bits .xor .u32 a b) (W n - 1) == 0) = (a % W n == b % W n) := by
  rw [and_mask h (u_xor ha hb), u32_xor a b ha.1 ha.2 hb.1 hb.2]
  obtain ⟨a, rfl⟩ := Int.eq_ofNat_of_zero_le ha.1
  obtain ⟨b, rfl⟩ := Int.eq_ofNat_of_zero_le hb.1
  rw [Int.toNat_natCast, Int.toNat_natCast]
  have g : ∀ k, W n = ((2 ^ k : Nat) : Int) → ((((a ^^^ b : Nat) : Int) % W n == 0) = ((a : Int) % W n == (b : Int) % W n)) := by
    intro k e
    rw [e, ← Int.natCast_emod, ← Int.natCast_emod, ← Int.natCast_emod, Nat.xor_mod_two_pow, Bool.eq_iff_iff, beq_iff_eq, beq_iff_eq]
    constructor
    · intro x
      have : a % 2 ^ k ^^^ b % 2 ^ k = 0 := Int.ofNat_eq_zero.1 x
      have e2 : a % 2 ^ k = b % 2 ^ k := by
        apply Nat.eq_of_testBit_eq
        intro i
        have e3 := congrArg (fun z => Nat.testBit z i) this
        simp only [Nat.testBit_xor, Nat.zero_testBit] at e3
        revert e3
        cases (a % 2 ^ k).testBit i <;> cases (b % 2 ^ k).testBit i <;> simp
      rw [e2]
    · intro x
      have : a % 2 ^ k = b % 2 ^ k := Int.ofNat_inj.1 x
      rw [this, Nat.xor_self]; rfl
  rcases h with rfl | rfl | rfl
  · exact g 8 rfl
  · exact g 16 rfl
  · exact g 32 rfl
theorem cmp_f {a b n : Int} (h : Ok n) (ha : U a) (hb : U b) : bits_Compare.f a b n = some (cmpF a b n) := by
  unfold bits_Compare.f
  rw [less_f h ha hb, mask_f h]
  simp only [Option.bind_some]
  rw [xor_eq h ha hb]
  rfl
theorem rcmp_f {a b n : Int} (h : Ok n) (ha : U a) (hb : U b) : camshaftref01_Compare.f a b n = some (cmpF a b n) := by
  unfold camshaftref01_Compare.f
  rw [signed_f h ha, signed_f h hb, rest_f h ha, rest_f h hb]
  rfl
end Go.Proofs.Ytmmmifgddkfehaa.ONorm
