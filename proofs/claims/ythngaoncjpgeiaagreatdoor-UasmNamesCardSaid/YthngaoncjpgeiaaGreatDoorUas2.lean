/- The names of a field's numbers, on both sides. -/
import Derived.Test.YthngaoncjpgeiaaGreatDoorUas1
import Derived.Test.YthngaoncjpgeiaaGreatDoorShX
set_option linter.unusedVariables false
set_option linter.unusedSimpArgs false
namespace Go.Proofs.YthngaoncjpgeiaaGreatDoorE
open Go Go.E Go.Proofs

def c_alu : List UInt8 := [110, 111, 110, 101, 32, 109, 111, 118, 32, 110, 111, 116, 32, 110, 101, 103, 32, 105, 110, 99, 32, 100, 101, 99, 32, 97, 100, 100, 32, 115, 117, 98, 32, 97, 100, 100, 99, 32, 115, 117, 98, 99, 32, 109, 117, 108, 32, 100, 105, 118, 32, 111, 114, 32, 98, 105, 99, 32, 120, 111, 114, 32, 97, 110, 100, 32, 99, 109, 112, 32, 116, 101, 115, 116, 32, 99, 108, 101, 97, 114, 32, 115, 120, 98, 32, 115, 120, 119, 32, 122, 120, 98, 32, 122, 120, 119, 32, 115, 104, 108, 32, 115, 104, 114, 32, 97, 115, 104, 32, 114, 111, 116, 32, 111, 112, 32, 115, 120, 111, 32, 101, 120, 116, 32, 105, 110, 115, 32, 99, 118, 116]
def c_reg : List UInt8 := [114, 48, 32, 114, 49, 32, 114, 50, 32, 114, 51, 32, 114, 52, 32, 114, 53, 32, 114, 54, 32, 114, 55, 32, 114, 56, 32, 114, 57, 32, 114, 49, 48, 32, 114, 49, 49, 32, 114, 49, 50, 32, 114, 49, 51, 32, 114, 49, 52, 32, 114, 49, 53, 32, 116, 48, 32, 116, 49, 32, 116, 50, 32, 116, 51, 32, 116, 52, 32, 116, 53, 32, 116, 54, 32, 116, 55, 32, 118, 48, 32, 118, 49, 32, 118, 50, 32, 118, 51, 32, 118, 52, 32, 118, 53, 32, 97, 48, 32, 97, 49, 32, 97, 50, 32, 97, 51, 32, 97, 52, 32, 97, 53, 32, 109, 100, 32, 118, 97, 32, 112, 115, 108, 32, 114, 110, 32, 114, 120, 32, 108, 105, 116, 32, 122, 101, 114, 111, 32, 118, 101, 99, 32, 112, 48, 32, 112, 49, 32, 115, 116, 97, 114, 116, 32, 115, 99, 98, 98, 32, 107, 115, 112, 32, 117, 115, 112, 32, 100, 105, 115, 112, 32, 111, 115, 105, 122, 101, 32, 105, 108, 101, 110, 32, 108, 101, 118, 101, 108, 32, 118, 99, 32, 97, 99, 32, 97, 108, 32, 107, 108, 32, 99, 110, 116, 32, 110, 112]
def c_size : List UInt8 := [98, 121, 116, 101, 32, 119, 111, 114, 100, 32, 108, 111, 110, 103, 32, 111, 119, 110]
def c_cc : List UInt8 := [107, 101, 101, 112, 32, 115, 101, 116, 32, 115, 101, 116, 107]
def c_mem : List UInt8 := [110, 111, 110, 101, 32, 114, 100, 32, 119, 114, 32, 112, 114, 111, 98, 101, 32, 98, 108, 100, 32, 98, 115, 116, 32, 98, 112, 117, 116, 32, 98, 103, 101, 116, 32, 98, 99, 108, 114, 32, 105, 102, 32, 114, 100, 112, 32, 107, 115, 116, 32, 114, 111, 119, 32, 117, 110, 114, 111, 119, 32, 114, 111, 119, 97, 32, 102, 108, 117, 115, 104]
def c_seq : List UInt8 := [110, 101, 120, 116, 32, 106, 109, 112, 32, 99, 106, 32, 99, 97, 108, 108, 32, 114, 101, 116, 32, 115, 112, 101, 99, 32, 109, 111, 100, 101, 32, 101, 110, 100]
def c_cond : List UInt8 := [97, 108, 119, 97, 121, 115, 32, 122, 32, 110, 122, 32, 110, 101, 103, 32, 112, 111, 115, 32, 99, 32, 110, 99, 32, 117, 115, 101, 114, 32, 107, 101, 114, 110, 101, 108, 32, 102, 112, 100, 32, 110, 111, 102, 112, 100, 32, 116, 97, 107, 101, 110, 32, 109, 97, 116, 99, 104, 32, 107, 49, 32, 107, 50, 32, 107, 51, 32, 108, 97, 115, 116, 114, 101, 103, 32, 102, 32, 114, 101, 97, 100, 115, 32, 105, 110, 100, 101, 120, 32, 100, 105, 118, 32, 108, 101, 115, 115, 97, 108, 117, 32, 97, 108, 117, 49, 32, 115, 116, 114, 105, 110, 103, 32, 110, 111, 105, 110, 100, 101, 120, 32, 110, 111, 114, 101, 97, 100, 115, 32, 111, 118, 101, 114]
def c_misc : List UInt8 := [110, 111, 110, 101, 32, 115, 116, 101, 112, 32, 117, 110, 100, 111, 32, 115, 101, 116, 102, 112, 100, 32, 99, 108, 114, 102, 112, 100, 32, 114, 97, 105, 115, 101, 32, 108, 97, 116, 99, 104, 107, 32, 108, 97, 116, 99, 104, 120, 32, 109, 116, 112, 114, 32, 109, 102, 112, 114, 32, 101, 110, 116, 101, 114, 32, 112, 117, 116, 112, 115, 108, 32, 104, 97, 108, 116, 32, 98, 97, 99, 107, 32, 100, 101, 99, 111, 100, 101, 32, 115, 101, 108, 32, 115, 101, 108, 107, 32, 111, 119, 110, 108, 97, 115, 116, 32, 112, 105, 99, 107, 32, 112, 105, 99, 107, 116, 111, 112, 32, 112, 97, 114, 97, 109, 115, 32, 99, 111, 117, 110, 116]
def c_tail : List UInt8 := [109, 100, 32, 118, 97, 32, 112, 115, 108, 32, 114, 110, 32, 114, 120, 32, 108, 105, 116, 32, 122, 101, 114, 111, 32, 118, 101, 99, 32, 112, 48, 32, 112, 49, 32, 115, 116, 97, 114, 116, 32, 115, 99, 98, 98, 32, 107, 115, 112, 32, 117, 115, 112, 32, 100, 105, 115, 112, 32, 111, 115, 105, 122, 101, 32, 105, 108, 101, 110, 32, 108, 101, 118, 101, 108, 32, 118, 99, 32, 97, 99, 32, 97, 108, 32, 107, 108, 32, 99, 110, 116, 32, 110, 112]
def namesT (f : List UInt8) : List (List UInt8) :=
  if f = [97, 108, 117] then pieces 32 c_alu else
  if f = [97] then pieces 32 c_reg else
  if f = [98] then pieces 32 c_reg else
  if f = [100] then pieces 32 c_reg else
  if f = [115, 105, 122, 101] then pieces 32 c_size else
  if f = [99, 99] then pieces 32 c_cc else
  if f = [109, 101, 109] then pieces 32 c_mem else
  if f = [115, 101, 113] then pieces 32 c_seq else
  if f = [99, 111, 110, 100] then pieces 32 c_cond else
  if f = [109, 105, 115, 99] then pieces 32 c_misc else
  []
theorem eqT_c (f : ByteArray) (l : List UInt8) : eqT f ⟨l.toArray⟩ = decide (bl f = l) := rfl
theorem names_ok [Sym] (f : ByteArray) (st : SS) (hg : Gd st) (hll : st.lim ≤ st.next) :
    ∃ v st', cc 20 [.string f] st = some (v, st') ∧ Ext st st' ∧ Own st.next st' v (strs (namesT (bl f))) 1 (namesT (bl f)).length := by
  have R : ∀ s : ByteArray, s.size ≤ 4294967296 → Simple (bl s) = true → ∃ v st', ((cc 53 [.string s] st).bind fun r => some (r.1, r.2)) = some (v, st') ∧ Ext st st' ∧ Own st.next st' v (strs (pieces 32 (bl s))) 1 (pieces 32 (bl s)).length := fun s h1 h2 => by
    obtain ⟨v, st', c, x, o⟩ := row_ok s h1 h2 st hg hll
    exact ⟨v, st', by rw [c]; rfl, x, o⟩
  by_cases h_alu : bl f = [97, 108, 117]
  · have e : namesT (bl f) = pieces 32 c_alu := by rw [h_alu]; rfl
    obtain ⟨v, st', c, x, o⟩ := R ⟨#[110, 111, 110, 101, 32, 109, 111, 118, 32, 110, 111, 116, 32, 110, 101, 103, 32, 105, 110, 99, 32, 100, 101, 99, 32, 97, 100, 100, 32, 115, 117, 98, 32, 97, 100, 100, 99, 32, 115, 117, 98, 99, 32, 109, 117, 108, 32, 100, 105, 118, 32, 111, 114, 32, 98, 105, 99, 32, 120, 111, 114, 32, 97, 110, 100, 32, 99, 109, 112, 32, 116, 101, 115, 116, 32, 99, 108, 101, 97, 114, 32, 115, 120, 98, 32, 115, 120, 119, 32, 122, 120, 98, 32, 122, 120, 119, 32, 115, 104, 108, 32, 115, 104, 114, 32, 97, 115, 104, 32, 114, 111, 116, 32, 111, 112, 32, 115, 120, 111, 32, 101, 120, 116, 32, 105, 110, 115, 32, 99, 118, 116]⟩ (by decide +kernel) (by decide +kernel)
    have q_alu : eqT f ⟨#[97, 108, 117]⟩ = true := decide_eq_true h_alu
    refine ⟨v, st', uasm_Names_eq f st ?_, x, by rw [e]; exact o⟩
    simp only [uasm_Names, q_alu, cond_true, cond_false]
    exact c
  have n_alu : eqT f ⟨#[97, 108, 117]⟩ = false := decide_eq_false h_alu
  by_cases h_a : bl f = [97]
  · have e : namesT (bl f) = pieces 32 c_reg := by rw [h_a]; rfl
    obtain ⟨v, st', c, x, o⟩ := R ⟨#[114, 48, 32, 114, 49, 32, 114, 50, 32, 114, 51, 32, 114, 52, 32, 114, 53, 32, 114, 54, 32, 114, 55, 32, 114, 56, 32, 114, 57, 32, 114, 49, 48, 32, 114, 49, 49, 32, 114, 49, 50, 32, 114, 49, 51, 32, 114, 49, 52, 32, 114, 49, 53, 32, 116, 48, 32, 116, 49, 32, 116, 50, 32, 116, 51, 32, 116, 52, 32, 116, 53, 32, 116, 54, 32, 116, 55, 32, 118, 48, 32, 118, 49, 32, 118, 50, 32, 118, 51, 32, 118, 52, 32, 118, 53, 32, 97, 48, 32, 97, 49, 32, 97, 50, 32, 97, 51, 32, 97, 52, 32, 97, 53, 32, 109, 100, 32, 118, 97, 32, 112, 115, 108, 32, 114, 110, 32, 114, 120, 32, 108, 105, 116, 32, 122, 101, 114, 111, 32, 118, 101, 99, 32, 112, 48, 32, 112, 49, 32, 115, 116, 97, 114, 116, 32, 115, 99, 98, 98, 32, 107, 115, 112, 32, 117, 115, 112, 32, 100, 105, 115, 112, 32, 111, 115, 105, 122, 101, 32, 105, 108, 101, 110, 32, 108, 101, 118, 101, 108, 32, 118, 99, 32, 97, 99, 32, 97, 108, 32, 107, 108, 32, 99, 110, 116, 32, 110, 112]⟩ (by decide +kernel) (by decide +kernel)
    have q_a : eqT f ⟨#[97]⟩ = true := decide_eq_true h_a
    refine ⟨v, st', uasm_Names_eq f st ?_, x, by rw [e]; exact o⟩
    simp only [uasm_Names, n_alu, q_a, cond_true, cond_false]
    exact c
  have n_a : eqT f ⟨#[97]⟩ = false := decide_eq_false h_a
  by_cases h_b : bl f = [98]
  · have e : namesT (bl f) = pieces 32 c_reg := by rw [h_b]; rfl
    obtain ⟨v, st', c, x, o⟩ := R ⟨#[114, 48, 32, 114, 49, 32, 114, 50, 32, 114, 51, 32, 114, 52, 32, 114, 53, 32, 114, 54, 32, 114, 55, 32, 114, 56, 32, 114, 57, 32, 114, 49, 48, 32, 114, 49, 49, 32, 114, 49, 50, 32, 114, 49, 51, 32, 114, 49, 52, 32, 114, 49, 53, 32, 116, 48, 32, 116, 49, 32, 116, 50, 32, 116, 51, 32, 116, 52, 32, 116, 53, 32, 116, 54, 32, 116, 55, 32, 118, 48, 32, 118, 49, 32, 118, 50, 32, 118, 51, 32, 118, 52, 32, 118, 53, 32, 97, 48, 32, 97, 49, 32, 97, 50, 32, 97, 51, 32, 97, 52, 32, 97, 53, 32, 109, 100, 32, 118, 97, 32, 112, 115, 108, 32, 114, 110, 32, 114, 120, 32, 108, 105, 116, 32, 122, 101, 114, 111, 32, 118, 101, 99, 32, 112, 48, 32, 112, 49, 32, 115, 116, 97, 114, 116, 32, 115, 99, 98, 98, 32, 107, 115, 112, 32, 117, 115, 112, 32, 100, 105, 115, 112, 32, 111, 115, 105, 122, 101, 32, 105, 108, 101, 110, 32, 108, 101, 118, 101, 108, 32, 118, 99, 32, 97, 99, 32, 97, 108, 32, 107, 108, 32, 99, 110, 116, 32, 110, 112]⟩ (by decide +kernel) (by decide +kernel)
    have q_b : eqT f ⟨#[98]⟩ = true := decide_eq_true h_b
    refine ⟨v, st', uasm_Names_eq f st ?_, x, by rw [e]; exact o⟩
    simp only [uasm_Names, n_alu, n_a, q_b, cond_true, cond_false]
    exact c
  have n_b : eqT f ⟨#[98]⟩ = false := decide_eq_false h_b
  by_cases h_d : bl f = [100]
  · have e : namesT (bl f) = pieces 32 c_reg := by rw [h_d]; rfl
    obtain ⟨v, st', c, x, o⟩ := R ⟨#[114, 48, 32, 114, 49, 32, 114, 50, 32, 114, 51, 32, 114, 52, 32, 114, 53, 32, 114, 54, 32, 114, 55, 32, 114, 56, 32, 114, 57, 32, 114, 49, 48, 32, 114, 49, 49, 32, 114, 49, 50, 32, 114, 49, 51, 32, 114, 49, 52, 32, 114, 49, 53, 32, 116, 48, 32, 116, 49, 32, 116, 50, 32, 116, 51, 32, 116, 52, 32, 116, 53, 32, 116, 54, 32, 116, 55, 32, 118, 48, 32, 118, 49, 32, 118, 50, 32, 118, 51, 32, 118, 52, 32, 118, 53, 32, 97, 48, 32, 97, 49, 32, 97, 50, 32, 97, 51, 32, 97, 52, 32, 97, 53, 32, 109, 100, 32, 118, 97, 32, 112, 115, 108, 32, 114, 110, 32, 114, 120, 32, 108, 105, 116, 32, 122, 101, 114, 111, 32, 118, 101, 99, 32, 112, 48, 32, 112, 49, 32, 115, 116, 97, 114, 116, 32, 115, 99, 98, 98, 32, 107, 115, 112, 32, 117, 115, 112, 32, 100, 105, 115, 112, 32, 111, 115, 105, 122, 101, 32, 105, 108, 101, 110, 32, 108, 101, 118, 101, 108, 32, 118, 99, 32, 97, 99, 32, 97, 108, 32, 107, 108, 32, 99, 110, 116, 32, 110, 112]⟩ (by decide +kernel) (by decide +kernel)
    have q_d : eqT f ⟨#[100]⟩ = true := decide_eq_true h_d
    refine ⟨v, st', uasm_Names_eq f st ?_, x, by rw [e]; exact o⟩
    simp only [uasm_Names, n_alu, n_a, n_b, q_d, cond_true, cond_false]
    exact c
  have n_d : eqT f ⟨#[100]⟩ = false := decide_eq_false h_d
  by_cases h_size : bl f = [115, 105, 122, 101]
  · have e : namesT (bl f) = pieces 32 c_size := by rw [h_size]; rfl
    obtain ⟨v, st', c, x, o⟩ := R ⟨#[98, 121, 116, 101, 32, 119, 111, 114, 100, 32, 108, 111, 110, 103, 32, 111, 119, 110]⟩ (by decide +kernel) (by decide +kernel)
    have q_size : eqT f ⟨#[115, 105, 122, 101]⟩ = true := decide_eq_true h_size
    refine ⟨v, st', uasm_Names_eq f st ?_, x, by rw [e]; exact o⟩
    simp only [uasm_Names, n_alu, n_a, n_b, n_d, q_size, cond_true, cond_false]
    exact c
  have n_size : eqT f ⟨#[115, 105, 122, 101]⟩ = false := decide_eq_false h_size
  by_cases h_cc : bl f = [99, 99]
  · have e : namesT (bl f) = pieces 32 c_cc := by rw [h_cc]; rfl
    obtain ⟨v, st', c, x, o⟩ := R ⟨#[107, 101, 101, 112, 32, 115, 101, 116, 32, 115, 101, 116, 107]⟩ (by decide +kernel) (by decide +kernel)
    have q_cc : eqT f ⟨#[99, 99]⟩ = true := decide_eq_true h_cc
    refine ⟨v, st', uasm_Names_eq f st ?_, x, by rw [e]; exact o⟩
    simp only [uasm_Names, n_alu, n_a, n_b, n_d, n_size, q_cc, cond_true, cond_false]
    exact c
  have n_cc : eqT f ⟨#[99, 99]⟩ = false := decide_eq_false h_cc
  by_cases h_mem : bl f = [109, 101, 109]
  · have e : namesT (bl f) = pieces 32 c_mem := by rw [h_mem]; rfl
    obtain ⟨v, st', c, x, o⟩ := R ⟨#[110, 111, 110, 101, 32, 114, 100, 32, 119, 114, 32, 112, 114, 111, 98, 101, 32, 98, 108, 100, 32, 98, 115, 116, 32, 98, 112, 117, 116, 32, 98, 103, 101, 116, 32, 98, 99, 108, 114, 32, 105, 102, 32, 114, 100, 112, 32, 107, 115, 116, 32, 114, 111, 119, 32, 117, 110, 114, 111, 119, 32, 114, 111, 119, 97, 32, 102, 108, 117, 115, 104]⟩ (by decide +kernel) (by decide +kernel)
    have q_mem : eqT f ⟨#[109, 101, 109]⟩ = true := decide_eq_true h_mem
    refine ⟨v, st', uasm_Names_eq f st ?_, x, by rw [e]; exact o⟩
    simp only [uasm_Names, n_alu, n_a, n_b, n_d, n_size, n_cc, q_mem, cond_true, cond_false]
    exact c
  have n_mem : eqT f ⟨#[109, 101, 109]⟩ = false := decide_eq_false h_mem
  by_cases h_seq : bl f = [115, 101, 113]
  · have e : namesT (bl f) = pieces 32 c_seq := by rw [h_seq]; rfl
    obtain ⟨v, st', c, x, o⟩ := R ⟨#[110, 101, 120, 116, 32, 106, 109, 112, 32, 99, 106, 32, 99, 97, 108, 108, 32, 114, 101, 116, 32, 115, 112, 101, 99, 32, 109, 111, 100, 101, 32, 101, 110, 100]⟩ (by decide +kernel) (by decide +kernel)
    have q_seq : eqT f ⟨#[115, 101, 113]⟩ = true := decide_eq_true h_seq
    refine ⟨v, st', uasm_Names_eq f st ?_, x, by rw [e]; exact o⟩
    simp only [uasm_Names, n_alu, n_a, n_b, n_d, n_size, n_cc, n_mem, q_seq, cond_true, cond_false]
    exact c
  have n_seq : eqT f ⟨#[115, 101, 113]⟩ = false := decide_eq_false h_seq
  by_cases h_cond : bl f = [99, 111, 110, 100]
  · have e : namesT (bl f) = pieces 32 c_cond := by rw [h_cond]; rfl
    obtain ⟨v, st', c, x, o⟩ := R ⟨#[97, 108, 119, 97, 121, 115, 32, 122, 32, 110, 122, 32, 110, 101, 103, 32, 112, 111, 115, 32, 99, 32, 110, 99, 32, 117, 115, 101, 114, 32, 107, 101, 114, 110, 101, 108, 32, 102, 112, 100, 32, 110, 111, 102, 112, 100, 32, 116, 97, 107, 101, 110, 32, 109, 97, 116, 99, 104, 32, 107, 49, 32, 107, 50, 32, 107, 51, 32, 108, 97, 115, 116, 114, 101, 103, 32, 102, 32, 114, 101, 97, 100, 115, 32, 105, 110, 100, 101, 120, 32, 100, 105, 118, 32, 108, 101, 115, 115, 97, 108, 117, 32, 97, 108, 117, 49, 32, 115, 116, 114, 105, 110, 103, 32, 110, 111, 105, 110, 100, 101, 120, 32, 110, 111, 114, 101, 97, 100, 115, 32, 111, 118, 101, 114]⟩ (by decide +kernel) (by decide +kernel)
    have q_cond : eqT f ⟨#[99, 111, 110, 100]⟩ = true := decide_eq_true h_cond
    refine ⟨v, st', uasm_Names_eq f st ?_, x, by rw [e]; exact o⟩
    simp only [uasm_Names, n_alu, n_a, n_b, n_d, n_size, n_cc, n_mem, n_seq, q_cond, cond_true, cond_false]
    exact c
  have n_cond : eqT f ⟨#[99, 111, 110, 100]⟩ = false := decide_eq_false h_cond
  by_cases h_misc : bl f = [109, 105, 115, 99]
  · have e : namesT (bl f) = pieces 32 c_misc := by rw [h_misc]; rfl
    obtain ⟨v, st', c, x, o⟩ := R ⟨#[110, 111, 110, 101, 32, 115, 116, 101, 112, 32, 117, 110, 100, 111, 32, 115, 101, 116, 102, 112, 100, 32, 99, 108, 114, 102, 112, 100, 32, 114, 97, 105, 115, 101, 32, 108, 97, 116, 99, 104, 107, 32, 108, 97, 116, 99, 104, 120, 32, 109, 116, 112, 114, 32, 109, 102, 112, 114, 32, 101, 110, 116, 101, 114, 32, 112, 117, 116, 112, 115, 108, 32, 104, 97, 108, 116, 32, 98, 97, 99, 107, 32, 100, 101, 99, 111, 100, 101, 32, 115, 101, 108, 32, 115, 101, 108, 107, 32, 111, 119, 110, 108, 97, 115, 116, 32, 112, 105, 99, 107, 32, 112, 105, 99, 107, 116, 111, 112, 32, 112, 97, 114, 97, 109, 115, 32, 99, 111, 117, 110, 116]⟩ (by decide +kernel) (by decide +kernel)
    have q_misc : eqT f ⟨#[109, 105, 115, 99]⟩ = true := decide_eq_true h_misc
    refine ⟨v, st', uasm_Names_eq f st ?_, x, by rw [e]; exact o⟩
    simp only [uasm_Names, n_alu, n_a, n_b, n_d, n_size, n_cc, n_mem, n_seq, n_cond, q_misc, cond_true, cond_false]
    exact c
  have n_misc : eqT f ⟨#[109, 105, 115, 99]⟩ = false := decide_eq_false h_misc
  have e : namesT (bl f) = [] := by simp only [namesT, if_neg h_alu, if_neg h_a, if_neg h_b, if_neg h_d, if_neg h_size, if_neg h_cc, if_neg h_mem, if_neg h_seq, if_neg h_cond, if_neg h_misc]
  refine ⟨.slice none 0 0, st, uasm_Names_eq f st ?_, .refl _, by rw [e]; exact Own.nil _ _ _⟩
  simp only [uasm_Names, n_alu, n_a, n_b, n_d, n_size, n_cc, n_mem, n_seq, n_cond, n_misc, cond_true, cond_false]

theorem itoa_ok [Sym] (k : Nat) (hk : k < 100) (st : SS) : cc 55 [.int .i64 (k : Int)] st = some (.string (mkS (Lib.decDigits k)), st) := by
  refine ext_sound ?_ st
  have h : (decide ((0 : Int) ≤ (k : Int)) && decide ((k : Int) < 100)) = true := by
    rw [decide_eq_true (by omega), decide_eq_true (by omega)]; rfl
  show cond (decide ((0 : Int) ≤ (k : Int)) && decide ((k : Int) < 100)) _ _ = _
  rw [h]
  rfl
def numd (L : UInt8) (k m : Nat) : List (List UInt8) := (List.range' k m).map fun k => L :: Lib.decDigits k
theorem numd_succ (L : UInt8) (k m : Nat) : numd L k (m + 1) = (L :: Lib.decDigits k) :: numd L (k + 1) m := rfl
theorem decDigits_len (k : Nat) (hk : k < 100) : (Lib.decDigits k).length ≤ 2 := by
  have : ∀ k, k < 100 → (Lib.decDigits k).length ≤ 2 := by decide +kernel
  exact this k hk
theorem names_inner [Sym] (st0 : SS) (hl : st0.lim ≤ st0.next) (i : Int) (L : UInt8) (n : Nat) (hn : n ≤ 16) (a : Value) (b : Int) (ha : ((aggI Lk0 4 9 (.agg #[.string ⟨#[114]⟩, .string ⟨#[116]⟩, .string ⟨#[118]⟩, .string ⟨#[97]⟩]) i).bind asS) = some (mkS [L])) :
    ∀ (m k : Nat) (done : List (List UInt8)) (out : Value) (st : SS), n = m + k → done.length ≤ 1000 + k → Ext st0 st → Own st0.next st out (strs done) 1 done.length →
    ∃ v st', camshaftref17_Names_lf 24 [out, .int .i64 i, .int .i64 n, .int .i64 k, a, .int .i64 b] st = some (0, [v, a, .int .i64 b], st') ∧ Ext st0 st' ∧ Own st0.next st' v (strs (done ++ numd L k m)) 1 (done ++ numd L k m).length := by
  intro m
  induction m with
  | zero =>
    intro k done out st hk hd he ho
    have h : ¬ (k : Int) < (n : Int) := by omega
    refine ⟨out, st, camshaftref17_Names_l24_eq _ _ _ _ _ _ st ?_, he, by simpa [numd] using ho⟩
    simp only [camshaftref17_Names_l24, decide_eq_false h, cond_false]
  | succ m ih =>
    intro k done out st hk hd he ho
    have h : (k : Int) < (n : Int) := by omega
    have hw : IntKind.wrap .i64 ((k : Int) + 1) = ((k + 1 : Nat) : Int) := by rw [wrap64 (by omega) (by omega)]; omega
    have hc : catS (mkS [L]) (mkS (Lib.decDigits k)) = some (mkS (L :: Lib.decDigits k)) := cat_ok (by have := decDigits_len k (by omega); simp; omega)
    obtain ⟨v, st', g1, g2, g3, g4, g5, g6⟩ := ho.push (row := [.string (mkS (L :: Lib.decDigits k))]) (bt := 16) he.next (by rw [he.lim]; exact hl) rfl (by omega) rfl (by omega) (by omega)
    obtain ⟨w, st'', f1, f2, f3⟩ := ih (k + 1) (done ++ [L :: Lib.decDigits k]) v st' (by omega) (by simp; omega) (g3 st0 (Nat.le_refl _) he) (by rw [strs_append, List.length_append]; exact g2)
    refine ⟨w, st'', camshaftref17_Names_l24_eq _ _ _ _ _ _ st ?_, f2, ?_⟩
    · simp only [camshaftref17_Names_l24, decide_eq_true h, cond_true, ha, itoa_ok k (by omega), Option.bind_some, asS_string, hc, g1, hw]
      exact f1
    · rw [numd_succ, ← List.append_cons] at *; exact f3

def regsT : List (List UInt8) := [] ++ numd 114 0 16 ++ numd 116 0 8 ++ numd 118 0 6 ++ numd 97 0 6
theorem regs_all : regsT ++ pieces 32 c_tail = pieces 32 c_reg := by decide +kernel
theorem names_outer [Sym] (st : SS) (hl : st.lim ≤ st.next) : ∃ v st', camshaftref17_Names_lf 21 [.slice none 0 0, .agg #[.int .i64 16, .int .i64 8, .int .i64 6, .int .i64 6], .int .i64 0] st = some (0, [v], st') ∧ Ext st st' ∧ Own st.next st' v (strs regsT) 1 regsT.length := by
  have step : ∀ (i : Nat) (n : Nat) (L : UInt8) (done : List (List UInt8)) (out : Value) (s1 : SS), i < 4 → n ≤ 16 → done.length ≤ 1000 → ((aggI Lk0 4 9 (.agg #[.string ⟨#[114]⟩, .string ⟨#[116]⟩, .string ⟨#[118]⟩, .string ⟨#[97]⟩]) (i : Int)).bind asS) = some (mkS [L]) →
      ((aggI Lk0 4 3 (.agg #[.int .i64 16, .int .i64 8, .int .i64 6, .int .i64 6]) (i : Int)).bind (asI .i64)) = some (n : Int) → Ext st s1 → Own st.next s1 out (strs done) 1 done.length →
      ∃ v st', Ext st st' ∧ Own st.next st' v (strs (done ++ numd L 0 n)) 1 (done ++ numd L 0 n).length ∧ ∀ r, camshaftref17_Names_lf 21 [v, .agg #[.int .i64 16, .int .i64 8, .int .i64 6, .int .i64 6], .int .i64 ((i + 1 : Nat) : Int)] st' = some r →
        camshaftref17_Names_lf 21 [out, .agg #[.int .i64 16, .int .i64 8, .int .i64 6, .int .i64 6], .int .i64 i] s1 = some r := by
    intro i n L done out s1 hi hn hd ha hb he ho
    obtain ⟨v, st', f1, f2, f3⟩ := names_inner st hl i L n hn (.agg #[.int .i64 16, .int .i64 8, .int .i64 6, .int .i64 6]) i ha n 0 done out s1 (by omega) (by omega) he ho
    refine ⟨v, st', f2, f3, fun r hr => camshaftref17_Names_l21_eq _ _ _ s1 ?_⟩
    have h : (i : Int) < 4 := by omega
    have hw : IntKind.wrap .i64 ((i : Int) + 1) = ((i + 1 : Nat) : Int) := by rw [wrap64 (by omega) (by omega)]; omega
    have f1' : camshaftref17_Names_lf 24 [out, .int .i64 i, .int .i64 n, .int .i64 0, .agg #[.int .i64 16, .int .i64 8, .int .i64 6, .int .i64 6], .int .i64 i] s1 = _ := f1
    simp only [camshaftref17_Names_l21, decide_eq_true h, cond_true, hb, Option.bind_some]
    rw [f1', Option.bind_some]
    simp only [List.getElem?_cons_succ, List.getElem?_cons_zero, Option.bind_some, asI_int, hw]
    exact hr
  obtain ⟨v1, s1, x1, o1, k1⟩ := step 0 16 114 [] (.slice none 0 0) st (by omega) (by omega) (by simp) rfl rfl (.refl _) (Own.nil _ _ _)
  obtain ⟨v2, s2, x2, o2, k2⟩ := step 1 8 116 _ v1 s1 (by omega) (by omega) (by simp [numd]) rfl rfl x1 o1
  obtain ⟨v3, s3, x3, o3, k3⟩ := step 2 6 118 _ v2 s2 (by omega) (by omega) (by simp [numd]) rfl rfl x2 o2
  obtain ⟨v4, s4, x4, o4, k4⟩ := step 3 6 97 _ v3 s3 (by omega) (by omega) (by simp [numd]) rfl rfl x3 o3
  refine ⟨v4, s4, ?_, x4, o4⟩
  refine k1 _ (k2 _ (k3 _ (k4 _ (camshaftref17_Names_l21_eq _ _ _ s4 ?_))))
  rfl
theorem rnames_ok [Sym] (f : ByteArray) (st : SS) (hll : st.lim ≤ st.next) :
    ∃ v st', cc 21 [.string f] st = some (v, st') ∧ Ext st st' ∧ Own st.next st' v (strs (namesT (bl f))) 1 (namesT (bl f)).length := by
  have R : ∀ s : ByteArray, s.size ≤ 4294967296 → ∃ v st', ((cc 54 [.string s, .int .u8 32] st).bind fun r => some (r.1, r.2)) = some (v, st') ∧ Ext st st' ∧ Own st.next st' v (strs (pieces 32 (bl s))) 1 (pieces 32 (bl s)).length := fun s h1 => by
    obtain ⟨v, st', c, x, o⟩ := cut_ok s 32 h1 st hll
    have c' : cc 54 [.string s, .int .u8 32] st = _ := c
    exact ⟨v, st', by rw [c']; rfl, x, o⟩
  by_cases h_alu : bl f = [97, 108, 117]
  · have e : namesT (bl f) = pieces 32 c_alu := by rw [h_alu]; rfl
    have q_alu : eqT f ⟨#[97, 108, 117]⟩ = true := decide_eq_true h_alu
    obtain ⟨v, st', c, x, o⟩ := R ⟨#[110, 111, 110, 101, 32, 109, 111, 118, 32, 110, 111, 116, 32, 110, 101, 103, 32, 105, 110, 99, 32, 100, 101, 99, 32, 97, 100, 100, 32, 115, 117, 98, 32, 97, 100, 100, 99, 32, 115, 117, 98, 99, 32, 109, 117, 108, 32, 100, 105, 118, 32, 111, 114, 32, 98, 105, 99, 32, 120, 111, 114, 32, 97, 110, 100, 32, 99, 109, 112, 32, 116, 101, 115, 116, 32, 99, 108, 101, 97, 114, 32, 115, 120, 98, 32, 115, 120, 119, 32, 122, 120, 98, 32, 122, 120, 119, 32, 115, 104, 108, 32, 115, 104, 114, 32, 97, 115, 104, 32, 114, 111, 116, 32, 111, 112, 32, 115, 120, 111, 32, 101, 120, 116, 32, 105, 110, 115, 32, 99, 118, 116]⟩ (by decide +kernel)
    refine ⟨v, st', camshaftref17_Names_eq f st ?_, x, by rw [e]; exact o⟩
    simp only [camshaftref17_Names, q_alu, cond_true, cond_false]
    exact c
  have n_alu : eqT f ⟨#[97, 108, 117]⟩ = false := decide_eq_false h_alu
  by_cases h_size : bl f = [115, 105, 122, 101]
  · have e : namesT (bl f) = pieces 32 c_size := by rw [h_size]; rfl
    have q_size : eqT f ⟨#[115, 105, 122, 101]⟩ = true := decide_eq_true h_size
    obtain ⟨v, st', c, x, o⟩ := R ⟨#[98, 121, 116, 101, 32, 119, 111, 114, 100, 32, 108, 111, 110, 103, 32, 111, 119, 110]⟩ (by decide +kernel)
    refine ⟨v, st', camshaftref17_Names_eq f st ?_, x, by rw [e]; exact o⟩
    simp only [camshaftref17_Names, n_alu, q_size, cond_true, cond_false]
    exact c
  have n_size : eqT f ⟨#[115, 105, 122, 101]⟩ = false := decide_eq_false h_size
  by_cases h_cc : bl f = [99, 99]
  · have e : namesT (bl f) = pieces 32 c_cc := by rw [h_cc]; rfl
    have q_cc : eqT f ⟨#[99, 99]⟩ = true := decide_eq_true h_cc
    obtain ⟨v, st', c, x, o⟩ := R ⟨#[107, 101, 101, 112, 32, 115, 101, 116, 32, 115, 101, 116, 107]⟩ (by decide +kernel)
    refine ⟨v, st', camshaftref17_Names_eq f st ?_, x, by rw [e]; exact o⟩
    simp only [camshaftref17_Names, n_alu, n_size, q_cc, cond_true, cond_false]
    exact c
  have n_cc : eqT f ⟨#[99, 99]⟩ = false := decide_eq_false h_cc
  by_cases h_mem : bl f = [109, 101, 109]
  · have e : namesT (bl f) = pieces 32 c_mem := by rw [h_mem]; rfl
    have q_mem : eqT f ⟨#[109, 101, 109]⟩ = true := decide_eq_true h_mem
    obtain ⟨v, st', c, x, o⟩ := R ⟨#[110, 111, 110, 101, 32, 114, 100, 32, 119, 114, 32, 112, 114, 111, 98, 101, 32, 98, 108, 100, 32, 98, 115, 116, 32, 98, 112, 117, 116, 32, 98, 103, 101, 116, 32, 98, 99, 108, 114, 32, 105, 102, 32, 114, 100, 112, 32, 107, 115, 116, 32, 114, 111, 119, 32, 117, 110, 114, 111, 119, 32, 114, 111, 119, 97, 32, 102, 108, 117, 115, 104]⟩ (by decide +kernel)
    refine ⟨v, st', camshaftref17_Names_eq f st ?_, x, by rw [e]; exact o⟩
    simp only [camshaftref17_Names, n_alu, n_size, n_cc, q_mem, cond_true, cond_false]
    exact c
  have n_mem : eqT f ⟨#[109, 101, 109]⟩ = false := decide_eq_false h_mem
  by_cases h_seq : bl f = [115, 101, 113]
  · have e : namesT (bl f) = pieces 32 c_seq := by rw [h_seq]; rfl
    have q_seq : eqT f ⟨#[115, 101, 113]⟩ = true := decide_eq_true h_seq
    obtain ⟨v, st', c, x, o⟩ := R ⟨#[110, 101, 120, 116, 32, 106, 109, 112, 32, 99, 106, 32, 99, 97, 108, 108, 32, 114, 101, 116, 32, 115, 112, 101, 99, 32, 109, 111, 100, 101, 32, 101, 110, 100]⟩ (by decide +kernel)
    refine ⟨v, st', camshaftref17_Names_eq f st ?_, x, by rw [e]; exact o⟩
    simp only [camshaftref17_Names, n_alu, n_size, n_cc, n_mem, q_seq, cond_true, cond_false]
    exact c
  have n_seq : eqT f ⟨#[115, 101, 113]⟩ = false := decide_eq_false h_seq
  by_cases h_cond : bl f = [99, 111, 110, 100]
  · have e : namesT (bl f) = pieces 32 c_cond := by rw [h_cond]; rfl
    have q_cond : eqT f ⟨#[99, 111, 110, 100]⟩ = true := decide_eq_true h_cond
    obtain ⟨v, st', c, x, o⟩ := R ⟨#[97, 108, 119, 97, 121, 115, 32, 122, 32, 110, 122, 32, 110, 101, 103, 32, 112, 111, 115, 32, 99, 32, 110, 99, 32, 117, 115, 101, 114, 32, 107, 101, 114, 110, 101, 108, 32, 102, 112, 100, 32, 110, 111, 102, 112, 100, 32, 116, 97, 107, 101, 110, 32, 109, 97, 116, 99, 104, 32, 107, 49, 32, 107, 50, 32, 107, 51, 32, 108, 97, 115, 116, 114, 101, 103, 32, 102, 32, 114, 101, 97, 100, 115, 32, 105, 110, 100, 101, 120, 32, 100, 105, 118, 32, 108, 101, 115, 115, 97, 108, 117, 32, 97, 108, 117, 49, 32, 115, 116, 114, 105, 110, 103, 32, 110, 111, 105, 110, 100, 101, 120, 32, 110, 111, 114, 101, 97, 100, 115, 32, 111, 118, 101, 114]⟩ (by decide +kernel)
    refine ⟨v, st', camshaftref17_Names_eq f st ?_, x, by rw [e]; exact o⟩
    simp only [camshaftref17_Names, n_alu, n_size, n_cc, n_mem, n_seq, q_cond, cond_true, cond_false]
    exact c
  have n_cond : eqT f ⟨#[99, 111, 110, 100]⟩ = false := decide_eq_false h_cond
  by_cases h_misc : bl f = [109, 105, 115, 99]
  · have e : namesT (bl f) = pieces 32 c_misc := by rw [h_misc]; rfl
    have q_misc : eqT f ⟨#[109, 105, 115, 99]⟩ = true := decide_eq_true h_misc
    obtain ⟨v, st', c, x, o⟩ := R ⟨#[110, 111, 110, 101, 32, 115, 116, 101, 112, 32, 117, 110, 100, 111, 32, 115, 101, 116, 102, 112, 100, 32, 99, 108, 114, 102, 112, 100, 32, 114, 97, 105, 115, 101, 32, 108, 97, 116, 99, 104, 107, 32, 108, 97, 116, 99, 104, 120, 32, 109, 116, 112, 114, 32, 109, 102, 112, 114, 32, 101, 110, 116, 101, 114, 32, 112, 117, 116, 112, 115, 108, 32, 104, 97, 108, 116, 32, 98, 97, 99, 107, 32, 100, 101, 99, 111, 100, 101, 32, 115, 101, 108, 32, 115, 101, 108, 107, 32, 111, 119, 110, 108, 97, 115, 116, 32, 112, 105, 99, 107, 32, 112, 105, 99, 107, 116, 111, 112, 32, 112, 97, 114, 97, 109, 115, 32, 99, 111, 117, 110, 116]⟩ (by decide +kernel)
    refine ⟨v, st', camshaftref17_Names_eq f st ?_, x, by rw [e]; exact o⟩
    simp only [camshaftref17_Names, n_alu, n_size, n_cc, n_mem, n_seq, n_cond, q_misc, cond_true, cond_false]
    exact c
  have n_misc : eqT f ⟨#[109, 105, 115, 99]⟩ = false := decide_eq_false h_misc
  by_cases h_a : bl f = [97]
  · have e : namesT (bl f) = pieces 32 c_reg := by rw [h_a]; rfl
    have q_a : eqT f ⟨#[97]⟩ = true := decide_eq_true h_a
    obtain ⟨v1, s1, c1, x1, o1⟩ := names_outer st hll
    obtain ⟨v2, s2, c2, x2, o2⟩ := cut_ok ⟨#[109, 100, 32, 118, 97, 32, 112, 115, 108, 32, 114, 110, 32, 114, 120, 32, 108, 105, 116, 32, 122, 101, 114, 111, 32, 118, 101, 99, 32, 112, 48, 32, 112, 49, 32, 115, 116, 97, 114, 116, 32, 115, 99, 98, 98, 32, 107, 115, 112, 32, 117, 115, 112, 32, 100, 105, 115, 112, 32, 111, 115, 105, 122, 101, 32, 105, 108, 101, 110, 32, 108, 101, 118, 101, 108, 32, 118, 99, 32, 97, 99, 32, 97, 108, 32, 107, 108, 32, 99, 110, 116, 32, 110, 112]⟩ 32 (by decide +kernel) s1 (x1.ll hll)
    have c2' : cc 54 [.string ⟨#[109, 100, 32, 118, 97, 32, 112, 115, 108, 32, 114, 110, 32, 114, 120, 32, 108, 105, 116, 32, 122, 101, 114, 111, 32, 118, 101, 99, 32, 112, 48, 32, 112, 49, 32, 115, 116, 97, 114, 116, 32, 115, 99, 98, 98, 32, 107, 115, 112, 32, 117, 115, 112, 32, 100, 105, 115, 112, 32, 111, 115, 105, 122, 101, 32, 105, 108, 101, 110, 32, 108, 101, 118, 101, 108, 32, 118, 99, 32, 97, 99, 32, 97, 108, 32, 107, 108, 32, 99, 110, 116, 32, 110, 112]⟩, .int .u8 32] s1 = _ := c2
    obtain ⟨v3, s3, c3, o3, l3, n3, e3, _⟩ := (o1.ext x2).app o2.rd (by have := x1.next; have := x2.next; omega) (by have := x1.lim; have := x2.lim; omega) (by omega) (strs_one _) (bt := 16) (by decide +kernel) (by decide +kernel)
    refine ⟨v3, s3, camshaftref17_Names_eq f st ?_, e3 st (Nat.le_refl _) (x1.trans x2), ?_⟩
    · simp only [camshaftref17_Names, n_alu, n_size, n_cc, n_mem, n_seq, n_cond, n_misc, q_a, cond_true, cond_false]
      rw [c1, Option.bind_some]
      simp only [List.getElem?_cons_zero, Option.bind_some]
      rw [c2', Option.bind_some, c3, Option.bind_some]
    · rw [e, ← regs_all, strs_append, List.length_append]; exact o3
  have n_a : eqT f ⟨#[97]⟩ = false := decide_eq_false h_a
  by_cases h_b : bl f = [98]
  · have e : namesT (bl f) = pieces 32 c_reg := by rw [h_b]; rfl
    have q_b : eqT f ⟨#[98]⟩ = true := decide_eq_true h_b
    obtain ⟨v1, s1, c1, x1, o1⟩ := names_outer st hll
    obtain ⟨v2, s2, c2, x2, o2⟩ := cut_ok ⟨#[109, 100, 32, 118, 97, 32, 112, 115, 108, 32, 114, 110, 32, 114, 120, 32, 108, 105, 116, 32, 122, 101, 114, 111, 32, 118, 101, 99, 32, 112, 48, 32, 112, 49, 32, 115, 116, 97, 114, 116, 32, 115, 99, 98, 98, 32, 107, 115, 112, 32, 117, 115, 112, 32, 100, 105, 115, 112, 32, 111, 115, 105, 122, 101, 32, 105, 108, 101, 110, 32, 108, 101, 118, 101, 108, 32, 118, 99, 32, 97, 99, 32, 97, 108, 32, 107, 108, 32, 99, 110, 116, 32, 110, 112]⟩ 32 (by decide +kernel) s1 (x1.ll hll)
    have c2' : cc 54 [.string ⟨#[109, 100, 32, 118, 97, 32, 112, 115, 108, 32, 114, 110, 32, 114, 120, 32, 108, 105, 116, 32, 122, 101, 114, 111, 32, 118, 101, 99, 32, 112, 48, 32, 112, 49, 32, 115, 116, 97, 114, 116, 32, 115, 99, 98, 98, 32, 107, 115, 112, 32, 117, 115, 112, 32, 100, 105, 115, 112, 32, 111, 115, 105, 122, 101, 32, 105, 108, 101, 110, 32, 108, 101, 118, 101, 108, 32, 118, 99, 32, 97, 99, 32, 97, 108, 32, 107, 108, 32, 99, 110, 116, 32, 110, 112]⟩, .int .u8 32] s1 = _ := c2
    obtain ⟨v3, s3, c3, o3, l3, n3, e3, _⟩ := (o1.ext x2).app o2.rd (by have := x1.next; have := x2.next; omega) (by have := x1.lim; have := x2.lim; omega) (by omega) (strs_one _) (bt := 16) (by decide +kernel) (by decide +kernel)
    refine ⟨v3, s3, camshaftref17_Names_eq f st ?_, e3 st (Nat.le_refl _) (x1.trans x2), ?_⟩
    · simp only [camshaftref17_Names, n_alu, n_size, n_cc, n_mem, n_seq, n_cond, n_misc, n_a, q_b, cond_true, cond_false]
      rw [c1, Option.bind_some]
      simp only [List.getElem?_cons_zero, Option.bind_some]
      rw [c2', Option.bind_some, c3, Option.bind_some]
    · rw [e, ← regs_all, strs_append, List.length_append]; exact o3
  have n_b : eqT f ⟨#[98]⟩ = false := decide_eq_false h_b
  by_cases h_d : bl f = [100]
  · have e : namesT (bl f) = pieces 32 c_reg := by rw [h_d]; rfl
    have q_d : eqT f ⟨#[100]⟩ = true := decide_eq_true h_d
    obtain ⟨v1, s1, c1, x1, o1⟩ := names_outer st hll
    obtain ⟨v2, s2, c2, x2, o2⟩ := cut_ok ⟨#[109, 100, 32, 118, 97, 32, 112, 115, 108, 32, 114, 110, 32, 114, 120, 32, 108, 105, 116, 32, 122, 101, 114, 111, 32, 118, 101, 99, 32, 112, 48, 32, 112, 49, 32, 115, 116, 97, 114, 116, 32, 115, 99, 98, 98, 32, 107, 115, 112, 32, 117, 115, 112, 32, 100, 105, 115, 112, 32, 111, 115, 105, 122, 101, 32, 105, 108, 101, 110, 32, 108, 101, 118, 101, 108, 32, 118, 99, 32, 97, 99, 32, 97, 108, 32, 107, 108, 32, 99, 110, 116, 32, 110, 112]⟩ 32 (by decide +kernel) s1 (x1.ll hll)
    have c2' : cc 54 [.string ⟨#[109, 100, 32, 118, 97, 32, 112, 115, 108, 32, 114, 110, 32, 114, 120, 32, 108, 105, 116, 32, 122, 101, 114, 111, 32, 118, 101, 99, 32, 112, 48, 32, 112, 49, 32, 115, 116, 97, 114, 116, 32, 115, 99, 98, 98, 32, 107, 115, 112, 32, 117, 115, 112, 32, 100, 105, 115, 112, 32, 111, 115, 105, 122, 101, 32, 105, 108, 101, 110, 32, 108, 101, 118, 101, 108, 32, 118, 99, 32, 97, 99, 32, 97, 108, 32, 107, 108, 32, 99, 110, 116, 32, 110, 112]⟩, .int .u8 32] s1 = _ := c2
    obtain ⟨v3, s3, c3, o3, l3, n3, e3, _⟩ := (o1.ext x2).app o2.rd (by have := x1.next; have := x2.next; omega) (by have := x1.lim; have := x2.lim; omega) (by omega) (strs_one _) (bt := 16) (by decide +kernel) (by decide +kernel)
    refine ⟨v3, s3, camshaftref17_Names_eq f st ?_, e3 st (Nat.le_refl _) (x1.trans x2), ?_⟩
    · simp only [camshaftref17_Names, n_alu, n_size, n_cc, n_mem, n_seq, n_cond, n_misc, n_a, n_b, q_d, cond_true, cond_false]
      rw [c1, Option.bind_some]
      simp only [List.getElem?_cons_zero, Option.bind_some]
      rw [c2', Option.bind_some, c3, Option.bind_some]
    · rw [e, ← regs_all, strs_append, List.length_append]; exact o3
  have n_d : eqT f ⟨#[100]⟩ = false := decide_eq_false h_d
  have e : namesT (bl f) = [] := by simp only [namesT, if_neg h_alu, if_neg h_a, if_neg h_b, if_neg h_d, if_neg h_size, if_neg h_cc, if_neg h_mem, if_neg h_seq, if_neg h_cond, if_neg h_misc]
  refine ⟨.slice none 0 0, st, camshaftref17_Names_eq f st ?_, .refl _, by rw [e]; exact Own.nil _ _ _⟩
  simp only [camshaftref17_Names, n_alu, n_size, n_cc, n_mem, n_seq, n_cond, n_misc, n_a, n_b, n_d, cond_true, cond_false]

/-- A text's place among others. -/
theorem in_loop [Sym] (l : List (List UInt8)) (hl : l.length ≤ 1099511627776) (s : ByteArray) (v : Value) (st : SS) (hv : Rd st v (strs l) 1 l.length) : ∀ (r : List (List UInt8)) (i : Nat), l.drop i = r → i ≤ l.length →
    camshaftref17_In_lf 2 [.string s, v, .int .i64 l.length, .int .i64 i] st = some (match r.findIdx? (fun x => decide (x = bl s)) with | none => (0, [], st) | some k => (1, [.int .i64 ((i + k : Nat) : Int)], st)) := by
  intro r
  induction r with
  | nil =>
    intro i hd hi
    have hlen := congrArg List.length hd
    rw [List.length_drop] at hlen
    have h : ¬ (i : Int) < (l.length : Int) := by simp at hlen; omega
    refine camshaftref17_In_l2_eq _ _ _ _ st ?_
    simp only [camshaftref17_In_l2, decide_eq_false h, cond_false, List.findIdx?_nil]
  | cons p r ih =>
    intro i hd hi
    have hlen := congrArg List.length hd
    rw [List.length_drop, List.length_cons] at hlen
    have h : (i : Int) < (l.length : Int) := by omega
    have hgp : l[i]? = some p := by
      have := List.getElem?_drop (xs := l) (i := i) (j := 0)
      rw [hd] at this
      simpa using this.symm
    have hd' : l.drop (i + 1) = r := by rw [← List.drop_drop, hd]; rfl
    obtain ⟨q, b1, _, b3⟩ := hv.load (j := (i : Int)) (by omega) h (strs_get _ i p hgp) rfl
    have b3' : st.ld q.1 q.2 = some (.string (mkS p)) := by simpa using b3 0 (by omega)
    refine camshaftref17_In_l2_eq _ _ _ _ st ?_
    have hw : IntKind.wrap .i64 ((i : Int) + 1) = ((i + 1 : Nat) : Int) := by rw [wrap64 (by omega) (by omega)]; omega
    by_cases hp : p = bl s
    · have he : eqT (mkS p) s = true := by rw [eqT_iff', bl_mkS]; exact decide_eq_true hp
      simp only [camshaftref17_In_l2, decide_eq_true h, cond_true, b1, b3', Option.bind_some, asS_string, he, List.findIdx?_cons, decide_eq_true hp, if_true]
      rfl
    · have he : eqT (mkS p) s = false := by rw [eqT_iff', bl_mkS]; exact decide_eq_false hp
      have := ih (i + 1) hd' (by omega)
      simp only [camshaftref17_In_l2, decide_eq_true h, cond_true, b1, b3', Option.bind_some, asS_string, he, cond_false, hw, List.findIdx?_cons, decide_eq_false hp]
      rw [this]
      cases r.findIdx? (fun x => decide (x = bl s)) with
      | none => rfl
      | some k => simp; omega
/-- The place of a text among others, or -1. -/
def inT (l : List (List UInt8)) (s : List UInt8) : Int := match l.findIdx? (fun x => decide (x = s)) with | none => -1 | some k => (k : Int)
theorem in_ok [Sym] (l : List (List UInt8)) (hl : l.length ≤ 1099511627776) (s : ByteArray) (v : Value) (st : SS) (hv : Rd st v (strs l) 1 l.length) : ∃ n, st.next ≤ n ∧ cc 51 [v, .string s] st = some (.int .i64 (inT l (bl s)), st.adv n) := by
  have h := in_loop l hl s v (st.ro st.next) hv l 0 rfl (Nat.zero_le _)
  have h' : camshaftref17_In_lf 2 [.string s, v, .int .i64 l.length, .int .i64 0] (st.ro st.next) = _ := h
  refine ⟨st.next, Nat.le_refl _, camshaftref17_In_eq v s st ?_⟩
  simp only [camshaftref17_In, hv.len, Option.bind_some, asI_int]
  rw [h', Option.bind_some]
  unfold inT
  cases l.findIdx? (fun x => decide (x = bl s)) with
  | none => rfl
  | some k => simp
end Go.Proofs.YthngaoncjpgeiaaGreatDoorE
