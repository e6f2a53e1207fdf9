/- What Mul, Div, Compare and the ALU's operations come to at the sizes 1, 2 and 4, in whole numbers. -/
import Derived.Test.YtmmmifgddkfehaaONorm
import Derived.Test.YtmmmifgddkfehaaPAlux17
import Derived.Test.YtmmmifgddkfehaaPAlux18
import Derived.Test.YtmmmifgddkfehaaPAlux6
import Derived.Test.YtmmmifgddkfehaaPAlux7
namespace Go.Proofs.Ytmmmifgddkfehaa.ONorm
open Go Go.RowKit Go.Proofs.Ytmmmifgddkfehaa.PAlu Go.Proofs.Ytmmmifgddkfehaa.OBits

/-- The product of two numbers with their signs. -/
def prod (a b n : Int) : Int := sgn a n * sgn b n
theorem prod_range {a b n : Int} (h : Ok n) : -4611686018427387904 ≤ prod a b n ∧ prod a b n ≤ 4611686018427387904 := by
  have ha := sgn_range' (a := a) h
  have hb := sgn_range' (a := b) h
  unfold prod
  generalize sgn a n = x at *
  generalize sgn b n = y at *
  have h1 : x.natAbs ≤ 2147483648 := by omega
  have h2 : y.natAbs ≤ 2147483648 := by omega
  have h3 : (x * y).natAbs ≤ 2147483648 * 2147483648 := by rw [Int.natAbs_mul]; exact Nat.mul_le_mul h1 h2
  omega
def mulF (a b n : Int) : Int × Bool × Bool × Bool × Bool :=
  (prod a b n % W n, neg (prod a b n) n, zer (prod a b n) n, !fits (prod a b n) n, false)
theorem neg_iff {p n : Int} : neg p n = true ↔ W n / 2 ≤ p % W n := by unfold neg; rw [decide_eq_true_eq]
theorem sgn_of {p n : Int} : (W n / 2 ≤ p % W n ∧ sgn p n = p % W n - W n) ∨ (p % W n < W n / 2 ∧ sgn p n = p % W n) := by
  unfold sgn
  cases g : neg p n
  · right
    have : ¬ (W n / 2 ≤ p % W n) := fun x => by rw [neg_iff.2 x] at g; cases g
    exact ⟨by omega, rfl⟩
  · exact .inl ⟨neg_iff.1 g, rfl⟩
theorem fits_sgn {p n : Int} (h : Ok n) : fits p n = (sgn p n == p) := by
  unfold fits
  rw [Bool.eq_iff_iff, beq_iff_eq, Bool.and_eq_true, decide_eq_true_eq, decide_eq_true_eq]
  have s := sgn_of (p := p) (n := n)
  generalize sgn p n = q at *
  rcases h with rfl | rfl | rfl <;> simp only [W1, W2, W4] at * <;> omega
theorem u32_mod {p : Int} : U (p % 4294967296) := ⟨by omega, by omega⟩
theorem mod_mod {p n : Int} (h : Ok n) : p % 4294967296 % W n = p % W n := by
  rcases h with rfl | rfl | rfl <;> simp only [W1, W2, W4] <;> omega
theorem mul_f {a b n : Int} (h : Ok n) (ha : U a) (hb : U b) : bits_Mul.f a b n = some (mulF a b n) := by
  have rp := prod_range (a := a) (b := b) h
  have sa := sgn_range' (a := a) h
  have sb := sgn_range' (a := b) h
  have sp := sgn_range' (a := prod a b n) h
  unfold bits_Mul.f
  rw [extend_f h ha, extend_f h hb, mask_f h]
  simp only [Option.bind_some]
  rw [wrap32_ext h, wrap32_ext h, wrap64_small (a := sgn a n) (by omega) (by omega), wrap64_small (a := sgn b n) (by omega) (by omega), show sgn a n * sgn b n = prod a b n from rfl, wrap64_small (a := prod a b n) (by omega) (by omega), and_mask h u32_mod, mod_mod h, signs_f h (u_mod h), extend_f h (u_mod h)]
  simp only [Option.bind_some]
  rw [wrap32_ext h, neg_mod h, zer_mod h, sgn_mod h, wrap64_small (a := sgn (prod a b n) n) (by omega) (by omega)]
  simp only [mulF, Option.some.injEq, Prod.mk.injEq, true_and, and_true]
  rw [fits_sgn h]; rfl
theorem rmul_f {a b n : Int} (h : Ok n) (ha : U a) (hb : U b) : camshaftref01_Mul.f a b n = some (mulF a b n) := by
  have rp := prod_range (a := a) (b := b) h
  unfold camshaftref01_Mul.f
  rw [signed_f h ha, signed_f h hb]
  simp only [Option.bind_some]
  rw [show sgn a n * sgn b n = prod a b n from rfl, wrap64_small (a := prod a b n) (by omega) (by omega), bits_f h, Option.bind_some, rsigns_f h (u_mod h), Option.bind_some, fits_f h, neg_mod h, zer_mod h]
  rfl

/-- The quotient, towards nothing; or the dividend, where there is none. -/
def quoOver (a b n : Int) : Bool := sgn b n == 0 || (!fits (-(sgn a n)) n && sgn b n == -1)
def quo (a b n : Int) : Int := if quoOver a b n then sgn a n else (sgn a n).tdiv (sgn b n)
def divF (a b n : Int) : Int × Bool × Bool × Bool × Bool × Bool :=
  (quo a b n % W n, neg (quo a b n) n, zer (quo a b n) n, quoOver a b n, false, sgn b n != 0)
theorem tdiv_abs (p q : Int) : (p.tdiv q).natAbs ≤ p.natAbs := by
  rw [Int.natAbs_tdiv]; exact Nat.div_le_self _ _
theorem tdiv_abs2 (p q : Int) (h : 2 ≤ q.natAbs) : 2 * (p.tdiv q).natAbs ≤ p.natAbs := by
  rw [Int.natAbs_tdiv]
  have h1 : p.natAbs / q.natAbs ≤ p.natAbs / 2 := Nat.div_le_div_left h (by omega)
  show 2 * (p.natAbs / q.natAbs) ≤ p.natAbs
  omega
theorem sgn_eq_mod {a n : Int} (h : Ok n) : sgn a n % W n = a % W n := by
  have := mod_range (a := a) h
  unfold sgn
  rcases h with rfl | rfl | rfl <;> simp only [W1, W2, W4] <;> split <;> omega
theorem neg_sgn {a n : Int} (h : Ok n) : neg (sgn a n) n = neg a n := by rw [← neg_mod h, sgn_eq_mod h, neg_mod h]
theorem zer_sgn {a n : Int} (h : Ok n) : zer (sgn a n) n = zer a n := by rw [← zer_mod h, sgn_eq_mod h, zer_mod h]
theorem quo_fits {a b n : Int} (h : Ok n) (hb : sgn b n ≠ 0) : fits ((sgn a n).tdiv (sgn b n)) n = !quoOver a b n := by
  have sa := sgn_range (a := a) h
  have rm := W_ge h
  unfold quoOver
  have e0 : (sgn b n == 0) = false := by simpa using hb
  rw [e0, Bool.false_or]
  generalize sgn a n = p at *
  generalize sgn b n = q at *
  by_cases g : q = -1
  · subst g
    have e : p.tdiv (-1) = -p := by rw [Int.tdiv_neg, Int.tdiv_one]
    rw [e]; simp
  · have e1 : (q == -1) = false := by simpa using g
    rw [e1]
    simp only [Bool.and_false, Bool.not_false]
    unfold fits
    have ev : W n = 2 * (W n / 2) := by rcases h with rfl | rfl | rfl <;> decide
    by_cases g1 : q = 1
    · subst g1; rw [Int.tdiv_one]; simp; omega
    · have := tdiv_abs2 p q (by omega)
      simp; omega
theorem div_f {a b n : Int} (h : Ok n) (ha : U a) (hb : U b) : bits_Div.f a b n = some (divF a b n) := by
  have sa := sgn_range' (a := a) h
  have sb := sgn_range' (a := b) h
  unfold bits_Div.f
  rw [extend_f h ha, extend_f h hb, mask_f h]
  simp only [Option.bind_some]
  rw [wrap32_ext h, wrap32_ext h, wrap64_small (a := sgn a n) (by omega) (by omega), wrap64_small (a := sgn b n) (by omega) (by omega), and_mask h ha, signs_f h (u_mod h), neg_mod h, zer_mod h]
  by_cases g : sgn b n = 0
  · rw [if_pos g]
    have e : quoOver a b n = true := by unfold quoOver; simp [g]
    simp only [Option.bind_some, divF, quo, e, if_true, sgn_eq_mod h, neg_sgn h, zer_sgn h]
  · rw [if_neg g]
    have ta := tdiv_abs (sgn a n) (sgn b n)
    have qf := quo_fits (a := a) h g
    generalize hr : (sgn a n).tdiv (sgn b n) = r at *
    have sr := sgn_range' (a := r) h
    rw [wrap64_small (a := r) (by omega) (by omega), and_mask h u32_mod, mod_mod h, extend_f h (u_mod h), signs_f h (u_mod h), neg_mod h, zer_mod h]
    simp only [Option.bind_some]
    rw [wrap32_ext h, sgn_mod h, wrap64_small (a := sgn r n) (by omega) (by omega)]
    rw [fits_sgn h] at qf
    by_cases g2 : sgn r n = r
    · have e : quoOver a b n = false := by rw [g2] at qf; simpa using qf.symm
      rw [if_pos g2]
      simp only [divF, quo, e, hr, Bool.false_eq_true, if_false]
    · have e : quoOver a b n = true := by
        have : (sgn r n == r) = false := by simpa using g2
        rw [this] at qf; simpa using qf.symm
      rw [if_neg g2]
      simp only [divF, quo, e, if_true, sgn_eq_mod h, neg_sgn h, zer_sgn h]
theorem div_j {p q o n : Int} {v : Bool} (h : Ok n) (k : Nat) (hq : v = false → q ≠ 0) (hp : -2147483648 ≤ p ∧ p ≤ 2147483648) :
    camshaftref01_Div.j0 (k + 1) n p q o v = (fun r => some (r % W n, neg r n, zer r n, v, false, q != 0)) (if v then o else p.tdiv q) := by
  have ta := tdiv_abs p q
  simp only [camshaftref01_Div.j0]
  cases v
  · rw [if_neg (by decide), if_neg (hq rfl), wrap64_small (by omega) (by omega), bits_f h, Option.bind_some, rsigns_f h (u_mod h), neg_mod h, zer_mod h]
    rfl
  · rw [if_pos rfl, bits_f h, Option.bind_some, rsigns_f h (u_mod h), neg_mod h, zer_mod h]
    rfl
theorem rdiv_f {a b n : Int} (h : Ok n) (ha : U a) (hb : U b) (k : Nat) : camshaftref01_Div.f (k + 1) a b n = some (divF a b n) := by
  have sa := sgn_range' (a := a) h
  have sb := sgn_range' (a := b) h
  unfold camshaftref01_Div.f
  rw [signed_f h ha, signed_f h hb]
  simp only [Option.bind_some]
  rw [wrap64_small (a := -(sgn a n)) (by omega) (by omega), fits_f h, Option.bind_some]
  by_cases g : sgn b n = 0
  · have e : quoOver a b n = true := by unfold quoOver; simp [g]
    rw [if_pos g, div_j h k (fun x => by cases x) (by omega)]
    simp only [divF, quo, e, if_true]
  · have e0 : (sgn b n == 0) = false := by simpa using g
    rw [if_neg g]
    cases g2 : fits (-(sgn a n)) n
    · have e : quoOver a b n = (sgn b n == -1) := by unfold quoOver; rw [e0, g2]; simp
      rw [if_neg (by decide), div_j h k (fun _ => g) (by omega)]
      simp only [divF, quo, e]
    · have e : quoOver a b n = false := by unfold quoOver; rw [e0, g2]; simp
      rw [if_pos rfl, div_j h k (fun _ => g) (by omega)]
      simp only [divF, quo, e]
end Go.Proofs.Ytmmmifgddkfehaa.ONorm
