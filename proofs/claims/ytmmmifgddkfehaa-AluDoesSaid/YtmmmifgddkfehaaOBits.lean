/- Plain lemmas on words of 8, 16 and 32 bits: masks, top bits, complements, as whole numbers. No program in sight. -/
import Derived.Laws.BitsAllLaws
import Derived.WalkKit
namespace Go.Proofs.Ytmmmifgddkfehaa.OBits
open Go Go.RowKit

theorem wf_u32 {a : Int} (h : (Lit.int .u32 a).wf = true) : 0 ≤ a ∧ a < 4294967296 := by
  simp [Lit.wf] at h
  have e1 : IntKind.u32.min = 0 := rfl
  have e2 : IntKind.u32.max = 4294967295 := rfl
  rw [e1, e2] at h
  omega

theorem and_mod (a : Int) (k : Nat) (hk : k ≤ 32) (h0 : 0 ≤ a) (h1 : a < 4294967296) : bits .and .u32 a (2 ^ k - 1) = a % 2 ^ k := by
  have hp : (2 : Int) ^ k ≤ 4294967296 := by
    have : (2 : Nat) ^ k ≤ 2 ^ 32 := Nat.pow_le_pow_right (by omega) hk
    have h2 : ((2 ^ k : Nat) : Int) ≤ ((2 ^ 32 : Nat) : Int) := Int.ofNat_le.2 this
    simpa using h2
  have hq : (0 : Int) < 2 ^ k := by
    have : 0 < (2 : Nat) ^ k := Nat.two_pow_pos k
    have h2 : ((0 : Nat) : Int) < ((2 ^ k : Nat) : Int) := Int.ofNat_lt.2 this
    simpa using h2
  rw [u32_and a _ h0 h1 (by omega) (by omega)]
  have e : ((2 : Int) ^ k - 1).toNat = 2 ^ k - 1 := by
    have h3 : ((2 : Int) ^ k) = ((2 ^ k : Nat) : Int) := by simp
    rw [h3]; omega
  rw [e, Nat.and_two_pow_sub_one_eq_mod]
  obtain ⟨n, rfl⟩ := Int.eq_ofNat_of_zero_le h0
  simp

theorem and8 (a : Int) (h0 : 0 ≤ a) (h1 : a < 4294967296) : bits .and .u32 a 255 = a % 256 := and_mod a 8 (by omega) h0 h1
theorem and16 (a : Int) (h0 : 0 ≤ a) (h1 : a < 4294967296) : bits .and .u32 a 65535 = a % 65536 := and_mod a 16 (by omega) h0 h1
theorem and32 (a : Int) (h0 : 0 ≤ a) (h1 : a < 4294967296) : bits .and .u32 a 4294967295 = a := by
  have := and_mod a 32 (by omega) h0 h1
  simp at this
  rw [this]; omega

/-- One bit of a word. -/
theorem and_bit_nat (a k : Nat) : a &&& 2 ^ k = if a % 2 ^ (k + 1) ≥ 2 ^ k then 2 ^ k else 0 := by
  apply Nat.eq_of_testBit_eq
  intro i
  have hb : a.testBit k = decide (a % 2 ^ (k + 1) ≥ 2 ^ k) := by
    rw [Nat.testBit_eq_decide_div_mod_eq, decide_eq_decide]
    have h1 := Nat.mod_pow_succ (b := 2) (k := k) (x := a)
    have h2 := Nat.mod_lt (a / 2 ^ k) (show 2 > 0 by omega)
    have h3 := Nat.mod_lt a (Nat.two_pow_pos k)
    rw [h1]
    rcases Nat.mod_two_eq_zero_or_one (a / 2 ^ k) with h | h <;> rw [h] <;> omega
  by_cases h : a % 2 ^ (k + 1) ≥ 2 ^ k
  · rw [if_pos h, Nat.testBit_and, Nat.testBit_two_pow]
    by_cases e : k = i
    · subst e; simp [hb, h]
    · simp [e]
  · rw [if_neg h, Nat.testBit_and, Nat.testBit_two_pow]
    by_cases e : k = i
    · subst e; simp [hb, h]
    · simp [e]

theorem and_top (a : Int) (k : Nat) (hk : k < 32) (h0 : 0 ≤ a) (h1 : a < 4294967296) : (bits .and .u32 a (2 ^ k) != 0) = decide (2 ^ k ≤ a % 2 ^ (k + 1)) := by
  have hp : (2 : Int) ^ k < 4294967296 := by
    have : (2 : Nat) ^ k < 2 ^ 32 := Nat.pow_lt_pow_right (by omega) hk
    have h2 : ((2 ^ k : Nat) : Int) < ((2 ^ 32 : Nat) : Int) := Int.ofNat_lt.2 this
    simpa using h2
  have hq : (0 : Int) < 2 ^ k := by
    have : 0 < (2 : Nat) ^ k := Nat.two_pow_pos k
    have h2 : ((0 : Nat) : Int) < ((2 ^ k : Nat) : Int) := Int.ofNat_lt.2 this
    simpa using h2
  rw [u32_and a _ h0 h1 (by omega) (by omega)]
  have e : ((2 : Int) ^ k).toNat = 2 ^ k := by
    have h3 : ((2 : Int) ^ k) = ((2 ^ k : Nat) : Int) := by simp
    rw [h3]; omega
  rw [e, and_bit_nat]
  obtain ⟨n, rfl⟩ := Int.eq_ofNat_of_zero_le h0
  have h4 : (2 : Int) ^ k ≤ ↑n % 2 ^ (k + 1) ↔ n % 2 ^ (k + 1) ≥ 2 ^ k := by
    have h5 : ((2 : Int) ^ k) = ((2 ^ k : Nat) : Int) := by simp
    have h6 : ((2 : Int) ^ (k + 1)) = ((2 ^ (k + 1) : Nat) : Int) := by simp
    rw [h5, h6]
    constructor
    · intro h; exact Int.ofNat_le.1 (by simpa using h)
    · intro h; have := Int.ofNat_le.2 h; simpa using this
  rw [Int.toNat_natCast]
  by_cases h : n % 2 ^ (k + 1) ≥ 2 ^ k
  · rw [if_pos h]
    have := Nat.two_pow_pos k
    rw [decide_eq_true (h4.2 h)]
    rw [bne_iff_ne]
    omega
  · rw [if_neg h, decide_eq_false (fun x => h (h4.1 x))]
    simp

theorem xor_all (a : Int) (h0 : 0 ≤ a) (h1 : a < 4294967296) : bits .xor .u32 4294967295 a = 4294967295 - a := by
  rw [u32_xor _ a (by omega) (by omega) h0 h1]
  obtain ⟨n, rfl⟩ := Int.eq_ofNat_of_zero_le h0
  rw [Int.toNat_natCast]
  have : (4294967295 : Int).toNat ^^^ n = 4294967295 - n := by
    show 4294967295 ^^^ n = 4294967295 - n
    have hn : n < 2 ^ 32 := by omega
    apply Nat.eq_of_testBit_eq
    intro i
    rw [show (4294967295 : Nat) = 2 ^ 32 - 1 from rfl, Nat.testBit_xor, Nat.testBit_two_pow_sub_one]
    have := Nat.testBit_two_pow_sub_succ hn i
    rw [show 2 ^ 32 - 1 - n = 2 ^ 32 - (n + 1) from by omega, this]
    by_cases hi : i < 32
    · simp [hi]
    · have : n.testBit i = false := Nat.testBit_lt_two_pow (Nat.lt_of_lt_of_le hn (Nat.pow_le_pow_right (by omega) (by omega)))
      simp [hi, this]
  rw [this]; omega

/-- The top bit of a bitwise sum, and of a bitwise product. -/
theorem top_bit (n k : Nat) : decide (2 ^ k ≤ n % 2 ^ (k + 1)) = n.testBit k := by
  rw [Nat.testBit_eq_decide_div_mod_eq, decide_eq_decide]
  have h1 := Nat.mod_pow_succ (b := 2) (k := k) (x := n)
  have h3 := Nat.mod_lt n (Nat.two_pow_pos k)
  rw [h1]
  rcases Nat.mod_two_eq_zero_or_one (n / 2 ^ k) with h | h <;> rw [h] <;> omega
theorem top_bit_int (n k : Nat) : decide ((2 : Int) ^ k ≤ (n : Int) % 2 ^ (k + 1)) = n.testBit k := by
  rw [← top_bit, decide_eq_decide]
  have h5 : ((2 : Int) ^ k) = ((2 ^ k : Nat) : Int) := by simp
  have h6 : ((2 : Int) ^ (k + 1)) = ((2 ^ (k + 1) : Nat) : Int) := by simp
  rw [h5, h6]
  constructor
  · intro h; exact Int.ofNat_le.1 (by simpa using h)
  · intro h; have := Int.ofNat_le.2 h; simpa using this
theorem top_xor (a b : Int) (k : Nat) (a0 : 0 ≤ a) (a1 : a < 4294967296) (b0 : 0 ≤ b) (b1 : b < 4294967296) :
    decide ((2 : Int) ^ k ≤ bits .xor .u32 a b % 2 ^ (k + 1)) = (decide ((2 : Int) ^ k ≤ a % 2 ^ (k + 1)) ^^ decide ((2 : Int) ^ k ≤ b % 2 ^ (k + 1))) := by
  rw [u32_xor a b a0 a1 b0 b1]
  obtain ⟨n, rfl⟩ := Int.eq_ofNat_of_zero_le a0
  obtain ⟨m, rfl⟩ := Int.eq_ofNat_of_zero_le b0
  rw [Int.toNat_natCast, Int.toNat_natCast, top_bit_int, top_bit_int, top_bit_int, Nat.testBit_xor]
theorem top_and (a b : Int) (k : Nat) (a0 : 0 ≤ a) (a1 : a < 4294967296) (b0 : 0 ≤ b) (b1 : b < 4294967296) :
    decide ((2 : Int) ^ k ≤ bits .and .u32 a b % 2 ^ (k + 1)) = (decide ((2 : Int) ^ k ≤ a % 2 ^ (k + 1)) && decide ((2 : Int) ^ k ≤ b % 2 ^ (k + 1))) := by
  rw [u32_and a b a0 a1 b0 b1]
  obtain ⟨n, rfl⟩ := Int.eq_ofNat_of_zero_le a0
  obtain ⟨m, rfl⟩ := Int.eq_ofNat_of_zero_le b0
  rw [Int.toNat_natCast, Int.toNat_natCast, top_bit_int, top_bit_int, top_bit_int, Nat.testBit_and]
theorem xor_range (a b : Int) (a0 : 0 ≤ a) (a1 : a < 4294967296) (b0 : 0 ≤ b) (b1 : b < 4294967296) : 0 ≤ bits .xor .u32 a b ∧ bits .xor .u32 a b < 4294967296 := by
  rw [u32_xor a b a0 a1 b0 b1]
  have h := Nat.xor_lt_two_pow (x := a.toNat) (y := b.toNat) (n := 32) (by omega) (by omega)
  omega
theorem and_range (a b : Int) (a0 : 0 ≤ a) (a1 : a < 4294967296) (b0 : 0 ≤ b) (b1 : b < 4294967296) : 0 ≤ bits .and .u32 a b ∧ bits .and .u32 a b < 4294967296 := by
  rw [u32_and a b a0 a1 b0 b1]
  have h := Nat.and_lt_two_pow (x := a.toNat) (y := b.toNat) (n := 32) (by omega)
  omega
/-- The bits above a mask: kept by 'andNot', laid by 'or'. -/
theorem high_nat (a k : Nat) (hk : k ≤ 32) (ha : a < 2 ^ 32) : a &&& (2 ^ 32 - 2 ^ k) = a - a % 2 ^ k := by
  have e1 : 2 ^ 32 - 2 ^ k = 2 ^ k * (2 ^ (32 - k) - 1) := by
    rw [Nat.mul_sub, Nat.mul_one, ← Nat.pow_add, Nat.add_sub_cancel' hk]
  have e2 : a - a % 2 ^ k = 2 ^ k * (a / 2 ^ k) := by have := Nat.div_add_mod a (2 ^ k); omega
  rw [e1, e2]
  apply Nat.eq_of_testBit_eq
  intro i
  rw [Nat.testBit_and, Nat.testBit_two_pow_mul, Nat.testBit_two_pow_mul, Nat.testBit_two_pow_sub_one, Nat.testBit_div_two_pow]
  by_cases h1 : k ≤ i
  · by_cases h2 : i < 32
    · simp [h1, show i - k < 32 - k from by omega]
    · have : a.testBit i = false := Nat.testBit_lt_two_pow (Nat.lt_of_lt_of_le ha (Nat.pow_le_pow_right (by omega) (by omega)))
      simp [h1, this]
  · simp [h1]
theorem andNot_mask (a : Int) (k : Nat) (hk : k ≤ 32) (h0 : 0 ≤ a) (h1 : a < 4294967296) : bits .andNot .u32 a (2 ^ k - 1) = a - a % 2 ^ k := by
  have hp : (2 : Int) ^ k ≤ 4294967296 := by
    have : (2 : Nat) ^ k ≤ 2 ^ 32 := Nat.pow_le_pow_right (by omega) hk
    have h2 : ((2 ^ k : Nat) : Int) ≤ ((2 ^ 32 : Nat) : Int) := Int.ofNat_le.2 this
    simpa using h2
  have hq : (0 : Int) < 2 ^ k := by
    have : 0 < (2 : Nat) ^ k := Nat.two_pow_pos k
    have h2 : ((0 : Nat) : Int) < ((2 ^ k : Nat) : Int) := Int.ofNat_lt.2 this
    simpa using h2
  rw [u32_andNot a _ h0 h1 (by omega) (by omega)]
  have e : 4294967295 - ((2 : Int) ^ k - 1).toNat = 2 ^ 32 - 2 ^ k := by
    have h3 : ((2 : Int) ^ k) = ((2 ^ k : Nat) : Int) := by simp
    rw [h3]; have := Nat.two_pow_pos k; omega
  rw [e]
  obtain ⟨n, rfl⟩ := Int.eq_ofNat_of_zero_le h0
  rw [Int.toNat_natCast, high_nat n k hk (by omega)]
  have h4 : n % 2 ^ k ≤ n := Nat.mod_le _ _
  have h6 : ((2 : Int) ^ k) = ((2 ^ k : Nat) : Int) := by simp
  rw [h6, ← Int.natCast_emod, Int.ofNat_sub h4]
theorem or_high (x : Int) (k : Nat) (hk : k ≤ 32) (h0 : 0 ≤ x) (h1 : x < 2 ^ k) (y : Int) (y0 : 0 ≤ y) (y1 : y < 4294967296) (hy : y % 2 ^ k = 0) : bits .or .u32 y x = y + x := by
  have hp : (2 : Int) ^ k ≤ 4294967296 := by
    have : (2 : Nat) ^ k ≤ 2 ^ 32 := Nat.pow_le_pow_right (by omega) hk
    have h2 : ((2 ^ k : Nat) : Int) ≤ ((2 ^ 32 : Nat) : Int) := Int.ofNat_le.2 this
    simpa using h2
  rw [u32_or y x y0 y1 h0 (by omega)]
  obtain ⟨n, rfl⟩ := Int.eq_ofNat_of_zero_le h0
  obtain ⟨m, rfl⟩ := Int.eq_ofNat_of_zero_le y0
  rw [Int.toNat_natCast, Int.toNat_natCast]
  have h6 : ((2 : Int) ^ k) = ((2 ^ k : Nat) : Int) := by simp
  rw [h6] at h1 hy
  have hn : n < 2 ^ k := Int.ofNat_lt.1 h1
  have hm : m % 2 ^ k = 0 := by rw [← Int.natCast_emod] at hy; exact Int.ofNat_eq_zero.1 hy
  have e : m = 2 ^ k * (m / 2 ^ k) := by have := Nat.div_add_mod m (2 ^ k); omega
  rw [e, ← Nat.two_pow_add_eq_or_of_lt hn, ← e]
  simp
theorem or_comm (a b : Int) (a0 : 0 ≤ a) (a1 : a < 4294967296) (b0 : 0 ≤ b) (b1 : b < 4294967296) : bits .or .u32 a b = bits .or .u32 b a := by
  rw [u32_or a b a0 a1 b0 b1, u32_or b a b0 b1 a0 a1, Nat.or_comm]
theorem or_range (a b : Int) (a0 : 0 ≤ a) (a1 : a < 4294967296) (b0 : 0 ≤ b) (b1 : b < 4294967296) : 0 ≤ bits .or .u32 a b ∧ bits .or .u32 a b < 4294967296 := by
  rw [u32_or a b a0 a1 b0 b1]
  have h := Nat.or_lt_two_pow (x := a.toNat) (y := b.toNat) (n := 32) (by omega) (by omega)
  omega
end Go.Proofs.Ytmmmifgddkfehaa.OBits
