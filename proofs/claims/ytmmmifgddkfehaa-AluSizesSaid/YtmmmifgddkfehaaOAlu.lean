/- What the ALU's operations come to at the sizes 1, 2 and 4, in the program's form and in the reference's (bit by bit). -/
import Derived.Test.YtmmmifgddkfehaaONorm2
import Derived.Test.YtmmmifgddkfehaaPAlux10
import Derived.Test.YtmmmifgddkfehaaPAlux8
import Derived.Test.YtmmmifgddkfehaaPAlux9
namespace Go.Proofs.Ytmmmifgddkfehaa.OAlu
open Go Go.RowKit Go.Proofs.Ytmmmifgddkfehaa.PAlu Go.Proofs.Ytmmmifgddkfehaa.OBits Go.Proofs.Ytmmmifgddkfehaa.ONorm

def logicB (op : Int) : Bool := op = 1 ∨ op = 2 ∨ op = 12 ∨ op = 13 ∨ op = 14 ∨ op = 15 ∨ op = 18
theorem logic_f (op : Int) : alu_Logic.f op = some (logicB op) := by
  unfold alu_Logic.f logicB
  by_cases h1 : op = 1
  · simp [h1]
  by_cases h2 : op = 2
  · simp [h2]
  by_cases h3 : op = 12
  · simp [h3]
  by_cases h4 : op = 13
  · simp [h4]
  by_cases h5 : op = 14
  · simp [h5]
  by_cases h6 : op = 15
  · simp [h6]
  by_cases h7 : op = 18
  · simp [h7]
  · simp [h1, h2, h3, h4, h5, h6, h7]
/-- One bit of a bitwise operation; the whole word. -/
def bw (op : Int) (p q : Bool) : Bool :=
  if op = 1 then p else if op = 2 then !p else if op = 12 then p || q else if op = 13 then q && !p else if op = 14 then p != q else if op = 15 then p && q else false
def lg (op a b : Int) : Int :=
  if op = 1 then a else if op = 2 then bits .xor .u32 4294967295 a else if op = 12 then bits .or .u32 a b else if op = 13 then bits .andNot .u32 b a else if op = 14 then bits .xor .u32 a b else if op = 15 then bits .and .u32 a b else 0
theorem lg_f (op a b : Int) : alu_logic.f op a b = some (lg op a b) := by
  unfold alu_logic.f lg
  repeat' split
  all_goals rfl
theorem u_lg {op a b : Int} (ha : U a) (hb : U b) : U (lg op a b) := by
  obtain ⟨a0, a1⟩ := ha
  obtain ⟨b0, b1⟩ := hb
  unfold lg
  split
  · exact ⟨a0, a1⟩
  split
  · exact xor_range _ _ (by omega) (by omega) a0 a1
  split
  · exact or_range a b a0 a1 b0 b1
  split
  · rw [u32_andNot b a b0 b1 a0 a1]
    have : b.toNat &&& (4294967295 - a.toNat) ≤ b.toNat := Nat.and_le_left
    exact ⟨by omega, by omega⟩
  split
  · exact xor_range a b a0 a1 b0 b1
  split
  · exact and_range a b a0 a1 b0 b1
  · decide
theorem lg_bit {op : Int} (a b : Nat) (ha : a < 4294967296) (hb : b < 4294967296) (i : Nat) (hi : i < 32) : (lg op a b).toNat.testBit i = bw op (a.testBit i) (b.testBit i) := by
  unfold lg bw
  have e32 : (4294967295 : Nat).testBit i = true := by
    rw [show (4294967295 : Nat) = 2 ^ 32 - 1 from rfl, Nat.testBit_two_pow_sub_one]; simpa using hi
  split
  · rfl
  split
  · rw [u32_xor _ _ (by omega) (by omega) (by omega) (by omega), Int.toNat_natCast, Int.toNat_natCast, Nat.testBit_xor]
    rw [show (4294967295 : Int).toNat = 4294967295 from rfl, e32]; simp
  split
  · rw [u32_or_nat a b ha hb, Int.toNat_natCast, Nat.testBit_or]
  split
  · rw [u32_andNot_nat b a hb ha, Int.toNat_natCast, Nat.testBit_and]
    have h2 := Nat.testBit_two_pow_sub_succ (x := a) (n := 32) ha i
    rw [show 4294967295 - a = 2 ^ 32 - (a + 1) from by omega, h2]
    simp [hi]
  split
  · rw [u32_xor_nat a b ha hb, Int.toNat_natCast, Nat.testBit_xor]
  split
  · rw [u32_and_nat a b ha hb, Int.toNat_natCast, Nat.testBit_and]
  · simp

/-- What an operation gives. -/
def ok5 (r : Int × Bool × Bool × Bool × Bool) (o : Bool) : Int × Bool × Bool × Bool × Bool × Bool := (r.1, r.2.1, r.2.2.1, r.2.2.2.1, r.2.2.2.2, o)
def doF (op a b : Int) (c : Bool) (n : Int) : Int × Bool × Bool × Bool × Bool × Bool :=
  if logicB op then (lg op a b % W n, neg (lg op a b) n, zer (lg op a b) n, false, c, true) else
  if op = 3 then ok5 (subF 0 a false n) true else
  if op = 4 then ok5 (addF a 1 false n) true else
  if op = 5 then ok5 (subF a 1 false n) true else
  if op = 6 then ok5 (addF a b false n) true else
  if op = 7 then ok5 (subF b a false n) true else
  if op = 8 then ok5 (addF a b c n) true else
  if op = 9 then ok5 (subF b a c n) true else
  if op = 10 then ok5 (mulF a b n) true else
  if op = 11 then divF b a n else
  if op = 16 then (a % W n, (cmpF a b n).1, (cmpF a b n).2.1, (cmpF a b n).2.2.1, (cmpF a b n).2.2.2, true) else
  if op = 17 then (a % W n, neg a n, zer a n, false, false, true) else (0, false, false, false, false, false)
theorem u0 : U 0 := by decide
theorem u1 : U 1 := by decide
theorem do_f {op a b n : Int} {c : Bool} (h : Ok n) (ha : U a) (hb : U b) : alu_Do.f op a b c n = some (doF op a b c n) := by
  have ul := u_lg (op := op) ha hb
  unfold alu_Do.f doF
  rw [logic_f, Option.bind_some]
  by_cases g : logicB op = true
  · rw [if_pos g, if_pos g, lg_f, mask_f h]
    simp only [Option.bind_some]
    rw [and_mask h ul, signs_f h (u_mod h), neg_mod h, zer_mod h]
    rfl
  rw [if_neg g, if_neg g]
  by_cases q3 : op = 3
  · rw [if_pos q3, if_pos q3]; rw [sub_f h u0 ha]; rfl
  rw [if_neg q3, if_neg q3]
  by_cases q4 : op = 4
  · rw [if_pos q4, if_pos q4]; rw [add_f h ha u1]; rfl
  rw [if_neg q4, if_neg q4]
  by_cases q5 : op = 5
  · rw [if_pos q5, if_pos q5]; rw [sub_f h ha u1]; rfl
  rw [if_neg q5, if_neg q5]
  by_cases q6 : op = 6
  · rw [if_pos q6, if_pos q6]; rw [add_f h ha hb]; rfl
  rw [if_neg q6, if_neg q6]
  by_cases q7 : op = 7
  · rw [if_pos q7, if_pos q7]; rw [sub_f h hb ha]; rfl
  rw [if_neg q7, if_neg q7]
  by_cases q8 : op = 8
  · rw [if_pos q8, if_pos q8]; rw [add_f h ha hb]; rfl
  rw [if_neg q8, if_neg q8]
  by_cases q9 : op = 9
  · rw [if_pos q9, if_pos q9]; rw [sub_f h hb ha]; rfl
  rw [if_neg q9, if_neg q9]
  by_cases q10 : op = 10
  · rw [if_pos q10, if_pos q10]; rw [mul_f h ha hb]; rfl
  rw [if_neg q10, if_neg q10]
  by_cases q11 : op = 11
  · rw [if_pos q11, if_pos q11]; rw [div_f h hb ha]; rfl
  rw [if_neg q11, if_neg q11]
  by_cases q16 : op = 16
  · rw [if_pos q16, if_pos q16]; rw [mask_f h, Option.bind_some, cmp_f h ha hb, Option.bind_some, and_mask h ha]
  rw [if_neg q16, if_neg q16]
  by_cases q17 : op = 17
  · rw [if_pos q17, if_pos q17]; rw [mask_f h, Option.bind_some, signs_f h ha, Option.bind_some, and_mask h ha]
  rw [if_neg q17, if_neg q17]
end Go.Proofs.Ytmmmifgddkfehaa.OAlu
