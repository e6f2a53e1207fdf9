/- Where tokens stand in their lines. -/
import Derived.Test.YthngaoncjpgeiaaGreatDoorLex8a
set_option linter.unusedVariables false
set_option linter.unusedSimpArgs false
namespace Go.Proofs.YthngaoncjpgeiaaGreatDoorE
open Go Go.E Go.Proofs

theorem pieces_no (c : UInt8) (l : List UInt8) : ∀ p ∈ pieces c l, c ∉ p := by
  induction l with
  | nil => simp [pieces]
  | cons b r ih =>
    unfold pieces
    split
    · intro p hp
      simp only [List.mem_cons] at hp
      rcases hp with rfl | hp
      · simp
      · exact ih p hp
    · rename_i hb
      cases hr : pieces c r with
      | nil => exact absurd hr (pieces_ne c r)
      | cons x y =>
        intro p hp
        simp only [List.mem_cons] at hp
        rcases hp with rfl | hp
        · have := ih x (by rw [hr]; simp)
          simp only [List.mem_cons, not_or]
          exact ⟨fun e => hb e.symm, this⟩
        · exact ih p (by rw [hr]; simp [hp])
def blankB (b : UInt8) : Prop := (b.toNat : Int) = 32 ∨ (b.toNat : Int) = 9 ∨ (b.toNat : Int) = 13
theorem stepT_cons (c : UInt8) (r : List UInt8) : stepT (c :: r) = if (c.toNat : Int) = 59 then .stop
    else if (c.toNat : Int) = 32 ∨ (c.toNat : Int) = 9 ∨ (c.toNat : Int) = 13 then .blank
    else if letterI c.toNat = true then (if 24 < runL (c :: r) then .bad else .tok 1 (runL (c :: r)) 0)
    else if digitI c.toNat = true then (match numO (numL ((c :: r).take (runL (c :: r)))) with
      | some m => .tok 2 (runL (c :: r)) m
      | none => .bad)
    else if signB c = true then .tok 3 1 0 else .bad := rfl
theorem stepT_stop {l : List UInt8} (h : stepT l = .stop) : ∀ b, l[0]? = some b → (b.toNat : Int) = 59 := by
  cases l with
  | nil => intro b hb; cases hb
  | cons c r =>
    intro b hb
    have hb' : c = b := by simpa using hb
    subst hb'
    rw [stepT_cons] at h
    split at h
    · assumption
    · split at h
      · cases h
      · split at h
        · split at h <;> cases h
        · split at h
          · split at h <;> cases h
          · split at h <;> cases h
theorem stepT_blank {l : List UInt8} (h : stepT l = .blank) : ∃ c r, l = c :: r ∧ blankB c := by
  cases l with
  | nil => cases h
  | cons c r =>
    refine ⟨c, r, rfl, ?_⟩
    rw [stepT_cons] at h
    split at h
    · cases h
    · split at h
      · assumption
      · split at h
        · split at h <;> cases h
        · split at h
          · split at h <;> cases h
          · split at h <;> cases h
theorem stepT_tok {l : List UInt8} {kd n : Nat} {x : Int} (h : stepT l = .tok kd n x) : 0 < n ∧ n ≤ l.length ∧ (kd = 1 ∨ kd = 2 ∨ kd = 3) := by
  cases l with
  | nil => cases h
  | cons c r =>
    rw [stepT_cons] at h
    split at h
    · cases h
    · split at h
      · cases h
      · split at h
        · rename_i hlet
          split at h
          · cases h
          · cases h
            exact ⟨runL_pos (by unfold nameB; rw [hlet]; rfl), runL_le _, .inl rfl⟩
        · split at h
          · rename_i hdig
            split at h
            · cases h
              exact ⟨runL_pos (by unfold nameB; rw [hdig]; simp), runL_le _, .inr (.inl rfl)⟩
            · cases h
          · split at h
            · cases h
              exact ⟨by omega, by simp, .inr (.inr rfl)⟩
            · cases h
/-- What stands ahead of a line's next token. -/
def View (c : Nat) (l : List UInt8) (ts : List Tok) : Prop :=
  ∃ m, (∀ j b, j < m → l[j]? = some b → blankB b) ∧ ((ts = [] ∧ m ≤ l.length ∧ ∀ b, l[m]? = some b → (b.toNat : Int) = 59) ∨
    ∃ n kd x k' ts', m + n ≤ l.length ∧ 0 < n ∧ (kd = 1 ∨ kd = 2 ∨ kd = 3) ∧ ts = ⟨kd, (l.drop m).take n, x, c + m + 1⟩ :: ts' ∧ (l.drop (m + n)).length ≤ k' ∧ lexL k' (c + m + n) (l.drop (m + n)) = .ok ts')
theorem lexL_view : ∀ (k c : Nat) (l : List UInt8) (ts : List Tok), l.length ≤ k → lexL k c l = .ok ts → View c l ts := by
  intro k
  induction k with
  | zero =>
    intro c l ts hl h
    have : l = [] := by cases l with | nil => rfl | cons a r => simp at hl
    subst this
    cases h
    exact ⟨0, fun j b hj => by omega, .inl ⟨rfl, by simp, fun b hb => by cases hb⟩⟩
  | succ k ih =>
    intro c l ts hl h
    unfold lexL at h
    split at h
    · rename_i hs
      cases h
      exact ⟨0, fun j b hj => by omega, .inl ⟨rfl, by omega, stepT_stop hs⟩⟩
    · rename_i hs
      obtain ⟨a, r, rfl, ha⟩ := stepT_blank hs
      obtain ⟨m, h1, h2⟩ := ih (c + 1) r ts (by simpa using hl) h
      refine ⟨m + 1, fun j b hj hb => ?_, ?_⟩
      · cases j with
        | zero => have : a = b := by simpa using hb
                  subst this; exact ha
        | succ j => exact h1 j b (by omega) (by simpa using hb)
      · rcases h2 with ⟨h3, h4, h5⟩ | ⟨n, kd, x, k', ts', h3, h4, h5, h6, h7, h8⟩
        · exact .inl ⟨h3, by simp; omega, fun b hb => h5 b (by simpa using hb)⟩
        · refine .inr ⟨n, kd, x, k', ts', by simp; omega, h4, h5, ?_, ?_, ?_⟩
          · rw [h6]; simp; omega
          · have e : (a :: r).drop (m + 1 + n) = r.drop (m + n) := by rw [show m + 1 + n = (m + n) + 1 by omega]; rfl
            rw [e]; exact h7
          · have e : (a :: r).drop (m + 1 + n) = r.drop (m + n) := by rw [show m + 1 + n = (m + n) + 1 by omega]; rfl
            rw [e, show c + (m + 1) + n = c + 1 + m + n by omega]; exact h8
    · rename_i kd n x hs
      obtain ⟨h1, h2, h3⟩ := stepT_tok hs
      cases hx : lexL k (c + n) (l.drop n) with
      | error e => rw [hx] at h; cases h
      | ok us =>
        rw [hx] at h
        cases h
        refine ⟨0, fun j b hj => by omega, .inr ⟨n, kd, x, k, us, by omega, h1, h3, by simp, ?_, ?_⟩⟩
        · simp; omega
        · simpa using hx
    · cases h
end Go.Proofs.YthngaoncjpgeiaaGreatDoorE
