/- What the reference's operations come to at the sizes 1, 2 and 4, bit by bit. -/
import Derived.Test.YtmmmifgddkfehaaOAlu
import Derived.Test.YtmmmifgddkfehaaPAlux19
import Derived.Test.YtmmmifgddkfehaaPAlux20
import Derived.Test.YtmmmifgddkfehaaPAlux21
import Derived.Test.YtmmmifgddkfehaaPAlux22
namespace Go.Proofs.Ytmmmifgddkfehaa.OAlu
open Go Go.RowKit Go.Proofs.Ytmmmifgddkfehaa.PAlu Go.Proofs.Ytmmmifgddkfehaa.OBits Go.Proofs.Ytmmmifgddkfehaa.ONorm

theorem rlogic_f (op : Int) : camshaftref08_Logic.f op = some (logicB op) := by
  unfold camshaftref08_Logic.f logicB
  by_cases h1 : op = 1
  · simp [h1]
  by_cases h2 : op = 2
  · simp [h2]
  rw [if_neg h1, if_neg h2]
  by_cases g1 : op ≥ 12
  · rw [if_pos g1]
    by_cases g2 : op ≤ 15
    · rw [if_pos g2]
      have : op = 12 ∨ op = 13 ∨ op = 14 ∨ op = 15 := by omega
      rcases this with rfl | rfl | rfl | rfl <;> simp
    · rw [if_neg g2]
      have : op ≠ 12 ∧ op ≠ 13 ∧ op ≠ 14 ∧ op ≠ 15 := by omega
      simp [h1, h2, this]; rfl
  · rw [if_neg g1]
    have : op ≠ 12 ∧ op ≠ 13 ∧ op ≠ 14 ∧ op ≠ 15 := by omega
    simp [h1, h2, this]; rfl

theorem bitwise_f (op : Int) (p q : Bool) : camshaftref08_bitwise.f op p q = some (bw op p q) := by
  unfold camshaftref08_bitwise.f bw
  repeat' split
  all_goals first | rfl | (cases p <;> cases q <;> simp_all)
theorem bit_l (n : Nat) (hn : n ≤ 64) : ∀ (d i k x : Nat), x < 4294967296 → i + d = n → d < k → camshaftref03_Bit.l0 k x n i = some (x.testBit d) := by
  intro d
  induction d with
  | zero =>
    intro i k x _ hi hk
    obtain ⟨k, rfl⟩ : ∃ m, k = m + 1 := ⟨k - 1, by omega⟩
    simp only [camshaftref03_Bit.l0]
    rw [if_neg (by omega), Int.tmod_eq_emod_of_nonneg (by omega), Nat.testBit_zero]
    congr 1
    rw [Bool.eq_iff_iff, beq_iff_eq, decide_eq_true_eq]
    omega
  | succ d ih =>
    intro i k x hx hi hk
    obtain ⟨k, rfl⟩ : ∃ m, k = m + 1 := ⟨k - 1, by omega⟩
    simp only [camshaftref03_Bit.l0]
    have e1 : Int.tdiv (x : Int) 2 % 4294967296 = ((x / 2 : Nat) : Int) := by rw [Int.tdiv_eq_ediv_of_nonneg (by omega)]; omega
    have e2 : wrap64 ((i : Int) + 1) = ((i + 1 : Nat) : Int) := by rw [wrap64_small (by omega) (by omega)]; rfl
    rw [if_pos (by omega), e1, e2, ih (i + 1) k (x / 2) (by omega) (by omega) (by omega), Nat.testBit_succ]
theorem bit_f (x n k : Nat) (hx : x < 4294967296) (hn : n ≤ 64) (hk : n < k) : camshaftref03_Bit.f k x n = some (x.testBit n) := by
  have := bit_l n hn n 0 k x hx (by omega) hk
  exact this

theorem mod_succ (L i : Nat) : L % 2 ^ (i + 1) = L % 2 ^ i + if L.testBit i then 2 ^ i else 0 := by
  rw [Nat.mod_pow_succ, Nat.testBit_eq_decide_div_mod_eq]
  rcases Nat.mod_two_eq_zero_or_one (L / 2 ^ i) with h | h <;> rw [h] <;> simp
theorem w_dbl (P : Nat) (h : P ≤ 2147483648) : wrap64 (2 * (P : Int)) = ((P * 2 : Nat) : Int) := by rw [wrap64_small (by omega) (by omega)]; omega
theorem w_sum (x P : Nat) (h : x ≤ 2147483648) (hP : P ≤ 2147483648) : wrap64 ((x : Int) + (P : Int)) = ((x + P : Nat) : Int) := by rw [wrap64_small (by omega) (by omega)]; omega
theorem w_inc (i : Nat) (h : i ≤ 64) : wrap64 ((i : Int) + 1) = ((i + 1 : Nat) : Int) := by rw [wrap64_small (by omega) (by omega)]; rfl
theorem pow_le (i : Nat) (h : i ≤ 31) : 2 ^ i ≤ 2147483648 := by
  show 2 ^ i ≤ 2 ^ 31
  exact Nat.pow_le_pow_right (by omega) h
theorem do_l {op n : Int} (h : Ok n) (a b : Nat) (c : Bool) (ha : a < 4294967296) (hb : b < 4294967296) (m : Nat) (hm : (m : Int) = 8 * n) (hm3 : m ≤ 32) (hW : W n = 2 ^ m) :
    ∀ (d i k : Nat), i + d = m → d + 40 < k → camshaftref08_Do.l0 k op a b c n (((lg op a b).toNat % 2 ^ i : Nat) : Int) ((2 ^ i : Nat) : Int) i = some (lg op a b % W n, neg (lg op a b) n, zer (lg op a b) n, false, c, true) := by
  have ul := u_lg (op := op) (a := a) (b := b) ⟨by omega, by omega⟩ ⟨by omega, by omega⟩
  have w8 : wrap64 (8 * n) = m := by rw [wrap64_small (by omega) (by omega)]; omega
  intro d
  induction d with
  | zero =>
    intro i k hi hk
    obtain rfl : i = m := by omega
    obtain ⟨k, rfl⟩ : ∃ j, k = j + 1 := ⟨k - 1, by omega⟩
    have e : (((lg op a b).toNat % 2 ^ i : Nat) : Int) = lg op a b % W n := by
      rw [hW, Int.natCast_emod, Int.toNat_of_nonneg ul.1]; simp
    have um := u_mod (a := lg op a b) h
    simp only [camshaftref08_Do.l0]
    rw [w8, if_neg (by omega), e, show lg op a b % W n % 4294967296 = lg op a b % W n from by have := um.1; have := um.2; omega, rsigns_f h um, neg_mod h, zer_mod h]
    rfl
  | succ d ih =>
    intro i k hi hk
    obtain ⟨k, rfl⟩ : ∃ j, k = j + 1 := ⟨k - 1, by omega⟩
    have c1 : (i : Int) < (m : Int) := by omega
    have hn := ih (i + 1) k (by omega) (by omega)
    have b1 := bit_f a i k ha (by omega) (by omega)
    have b2 := bit_f b i k hb (by omega) (by omega)
    rw [mod_succ, lg_bit a b ha hb i (by omega)] at hn
    have hp := pow_le i (by omega)
    have hl : (lg op a b).toNat % 2 ^ i ≤ 2147483648 := Nat.le_trans (Nat.le_of_lt (Nat.mod_lt _ (Nat.two_pow_pos i))) hp
    have e2 := w_inc i (by omega)
    have e1 : wrap64 (2 * ((2 ^ i : Nat) : Int)) = ((2 ^ (i + 1) : Nat) : Int) := by rw [w_dbl _ hp, Nat.pow_succ]
    have e3 := w_sum _ _ hl hp
    clear hp hl ih
    simp only [camshaftref08_Do.l0]
    rw [w8, if_pos c1, b1, b2, Option.bind_some, Option.bind_some, bitwise_f, Option.bind_some, e1, e2, e3]
    cases g : bw op (a.testBit i) (b.testBit i)
    · rw [g] at hn
      rw [if_neg (by decide)]
      simpa using hn
    · rw [g] at hn
      rw [if_pos rfl]
      simpa using hn

theorem addF_comm (a b n : Int) (c : Bool) : addF a b c n = addF b a c n := by
  have e : addS a b n c = addS b a n c := by unfold addS; omega
  unfold addF
  rw [e]
  cases g1 : neg a n <;> cases g2 : neg b n <;> simp
theorem mulF_comm (a b n : Int) : mulF a b n = mulF b a n := by
  have e : prod a b n = prod b a n := by unfold prod; rw [Int.mul_comm]
  unfold mulF
  rw [e]
theorem rdo_f {op a b n : Int} {c : Bool} (h : Ok n) (ha : U a) (hb : U b) (k : Nat) (hk : 100 < k) : camshaftref08_Do.f k op a b c n = some (doF op a b c n) := by
  obtain ⟨j, rfl⟩ : ∃ m, k = m + 1 := ⟨k - 1, by omega⟩
  have um := u_mod (a := a) h
  have e4 : a % W n % 4294967296 = a % W n := by have := um.1; have := um.2; omega
  unfold camshaftref08_Do.f doF
  rw [rlogic_f, Option.bind_some]
  by_cases g : logicB op = true
  · rw [if_pos g, if_pos g]
    obtain ⟨x, rfl⟩ := Int.eq_ofNat_of_zero_le ha.1
    obtain ⟨y, rfl⟩ := Int.eq_ofNat_of_zero_le hb.1
    obtain ⟨m, hm, hm3, hW⟩ : ∃ m : Nat, (m : Int) = 8 * n ∧ m ≤ 32 ∧ W n = 2 ^ m := by
      rcases h with rfl | rfl | rfl
      · exact ⟨8, by omega, by omega, rfl⟩
      · exact ⟨16, by omega, by omega, rfl⟩
      · exact ⟨32, by omega, by omega, rfl⟩
    have := do_l (op := op) h x y c (by have := ha.2; omega) (by have := hb.2; omega) m hm hm3 hW m 0 (j + 1) (by omega) (by omega)
    simpa [Nat.mod_one] using this
  rw [if_neg g, if_neg g, rest_f h ha, Option.bind_some]
  by_cases q3 : op = 3
  · rw [if_pos q3, if_pos q3]; rw [rsub_f h u0 ha]; rfl
  rw [if_neg q3, if_neg q3]
  by_cases q4 : op = 4
  · rw [if_pos q4, if_pos q4]; rw [radd_f h ha u1]; rfl
  rw [if_neg q4, if_neg q4]
  by_cases q5 : op = 5
  · rw [if_pos q5, if_pos q5]; rw [rsub_f h ha u1]; rfl
  rw [if_neg q5, if_neg q5]
  by_cases q6 : op = 6
  · rw [if_pos q6, if_pos q6]; rw [radd_f h hb ha, addF_comm]; rfl
  rw [if_neg q6, if_neg q6]
  by_cases q7 : op = 7
  · rw [if_pos q7, if_pos q7]; rw [rsub_f h hb ha]; rfl
  rw [if_neg q7, if_neg q7]
  by_cases q8 : op = 8
  · rw [if_pos q8, if_pos q8]; rw [radd_f h hb ha, addF_comm]; rfl
  rw [if_neg q8, if_neg q8]
  by_cases q9 : op = 9
  · rw [if_pos q9, if_pos q9]; rw [rsub_f h hb ha]; rfl
  rw [if_neg q9, if_neg q9]
  by_cases q10 : op = 10
  · rw [if_pos q10, if_pos q10]; rw [rmul_f h hb ha, mulF_comm]; rfl
  rw [if_neg q10, if_neg q10]
  by_cases q11 : op = 11
  · rw [if_pos q11, if_pos q11]; rw [rdiv_f h hb ha]; rfl
  rw [if_neg q11, if_neg q11]
  by_cases q16 : op = 16
  · rw [if_pos q16, if_pos q16]; rw [rcmp_f h ha hb, e4]; rfl
  rw [if_neg q16, if_neg q16]
  by_cases q17 : op = 17
  · rw [if_pos q17, if_pos q17]; rw [rsigns_f h ha, e4]; rfl
  rw [if_neg q17, if_neg q17]
end Go.Proofs.Ytmmmifgddkfehaa.OAlu
