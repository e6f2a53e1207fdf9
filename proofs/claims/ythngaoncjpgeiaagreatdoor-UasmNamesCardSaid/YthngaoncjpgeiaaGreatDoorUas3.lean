/- Where a word leads to, on both sides. -/
import Derived.Test.YthngaoncjpgeiaaGreatDoorUas2
set_option linter.unusedVariables false
set_option linter.unusedSimpArgs false
namespace Go.Proofs.YthngaoncjpgeiaaGreatDoorE
open Go Go.E Go.Proofs

/-- A word's parts. -/
abbrev Wd := List Int
def wRow (w : Wd) : List Value := w.map (.int .i64)
def wV (w : Wd) : Value := .agg (wRow w).toArray
theorem wRow_get (w : Wd) (i : Nat) : (wRow w)[i]? = (w[i]?).map (.int .i64) := by unfold wRow; rw [List.getElem?_map]
theorem wRow_len (w : Wd) : (wRow w).length = w.length := by simp [wRow]
theorem wRow_one (w : Wd) : (wRow w).all one = true := by simp [wRow, one]
def pairI (p : Int × Int) : List Value := [.int .i64 p.1, .int .i64 p.2]
def reachT (s tw a : Int) : List (Int × Int) :=
  if s = 0 then [(a + 1, 1)] else if s = 1 then [(tw, 1)] else if s = 2 ∨ s = 3 then [(a + 1, 1), (tw, 1)] else if s = 5 then [(tw, 64)] else if s = 6 then [(tw, 16)] else []
theorem reach_ok [Sym] (w : Wd) (a s tw : Int) (h8 : w[8]? = some s) (h10 : w[10]? = some tw) (h0 : 0 ≤ a) (h1 : a ≤ 1099511627776) (st : SS) (hll : st.lim ≤ st.next) :
    ∃ v st', cc 22 [wV w, .int .i64 a] st = some (v, st') ∧ Ext st st' ∧ Own st.next st' v (rowsF pairI (reachT s tw a)) 2 (reachT s tw a).length := by
  have hw : IntKind.wrap .i64 (a + 1) = a + 1 := wrap64 (by omega) (by omega)
  have x1 : Ext st (st.new (.cells (wRow w) 0)) := (Ext.refl st).new _
  have hm : (st.new (.cells (wRow w) 0)).mem.get st.next = some (.cells (wRow w) 0) := SS.new_get
  have l8 : (st.new (.cells (wRow w) 0)).ld st.next 8 = some (.int .i64 s) := by rw [SS.ld_cells hm, wRow_get, h8]; rfl
  have l10 : (st.new (.cells (wRow w) 0)).ld st.next 10 = some (.int .i64 tw) := by rw [SS.ld_cells hm, wRow_get, h10]; rfl
  have hc : (wV w).cells.toList = wRow w := aggC _
  have mk : ∀ (l : List (Int × Int)), l ≠ [] → ∃ v st', some (Value.slice (some ⟨(st.new (.cells (wRow w) 0)).next, 0, none⟩) l.length l.length, (st.new (.cells (wRow w) 0)).new (.cells (rowsF pairI l) 2)) = some (v, st') ∧ Ext st st' ∧ Own st.next st' v (rowsF pairI l) 2 l.length := fun l hl => by
    have hne : l.length ≠ 0 := fun e => hl (List.length_eq_zero_iff.1 e)
    exact ⟨_, _, rfl, x1.new _, ⟨rowsF_len (f := pairI) (z := 2) (fun _ => rfl) l, .inr ⟨_, rfl, by omega, SS.new_get, by simp, by simp⟩⟩⟩
  have nil : ∃ v st', some (Value.slice none 0 0, (st.new (.cells (wRow w) 0))) = some (v, st') ∧ Ext st st' ∧ Own st.next st' v (rowsF pairI []) 2 0 := ⟨_, _, rfl, x1, Own.nil _ _ _⟩
  unfold reachT
  by_cases s0 : s = 0
  · rw [if_pos s0]
    obtain ⟨v, st', c, r⟩ := mk [(a + 1, 1)] (by simp)
    refine ⟨v, st', uasm_Reach_eq _ _ st ?_, r⟩
    simp only [uasm_Reach, hc, l8, l10, Option.bind_some, asI_int, decide_eq_true s0, cond_true, hw]
    exact c
  rw [if_neg s0]
  by_cases s1 : s = 1
  · rw [if_pos s1]
    obtain ⟨v, st', c, r⟩ := mk [(tw, 1)] (by simp)
    refine ⟨v, st', uasm_Reach_eq _ _ st ?_, r⟩
    simp only [uasm_Reach, hc, l8, l10, Option.bind_some, asI_int, decide_eq_false s0, decide_eq_true s1, cond_true, cond_false, hw]
    exact c
  rw [if_neg s1]
  by_cases s2 : s = 2
  · rw [if_pos (.inl s2)]
    obtain ⟨v, st', c, r⟩ := mk [(a + 1, 1), (tw, 1)] (by simp)
    refine ⟨v, st', uasm_Reach_eq _ _ st ?_, r⟩
    simp only [uasm_Reach, hc, l8, l10, Option.bind_some, asI_int, decide_eq_false s0, decide_eq_false s1, decide_eq_true s2, cond_true, cond_false, hw]
    exact c
  by_cases s3 : s = 3
  · rw [if_pos (.inr s3)]
    obtain ⟨v, st', c, r⟩ := mk [(a + 1, 1), (tw, 1)] (by simp)
    refine ⟨v, st', uasm_Reach_eq _ _ st ?_, r⟩
    simp only [uasm_Reach, hc, l8, l10, Option.bind_some, asI_int, decide_eq_false s0, decide_eq_false s1, decide_eq_false s2, decide_eq_true s3, cond_true, cond_false, hw]
    exact c
  rw [if_neg (fun h => h.elim s2 s3)]
  by_cases s5 : s = 5
  · rw [if_pos s5]
    obtain ⟨v, st', c, r⟩ := mk [(tw, 64)] (by simp)
    refine ⟨v, st', uasm_Reach_eq _ _ st ?_, r⟩
    simp only [uasm_Reach, hc, l8, l10, Option.bind_some, asI_int, decide_eq_false s0, decide_eq_false s1, decide_eq_false s2, decide_eq_false s3, decide_eq_true s5, cond_true, cond_false, hw]
    exact c
  rw [if_neg s5]
  by_cases s6 : s = 6
  · rw [if_pos s6]
    obtain ⟨v, st', c, r⟩ := mk [(tw, 16)] (by simp)
    refine ⟨v, st', uasm_Reach_eq _ _ st ?_, r⟩
    simp only [uasm_Reach, hc, l8, l10, Option.bind_some, asI_int, decide_eq_false s0, decide_eq_false s1, decide_eq_false s2, decide_eq_false s3, decide_eq_false s5, decide_eq_true s6, cond_true, cond_false, hw]
    exact c
  rw [if_neg s6]
  obtain ⟨v, st', c, r⟩ := nil
  refine ⟨v, st', uasm_Reach_eq _ _ st ?_, r⟩
  simp only [uasm_Reach, hc, l8, l10, Option.bind_some, asI_int, decide_eq_false s0, decide_eq_false s1, decide_eq_false s2, decide_eq_false s3, decide_eq_false s5, decide_eq_false s6, cond_true, cond_false, hw]
  exact c
theorem rreach_ok [Sym] (w : Wd) (a s tw : Int) (h8 : w[8]? = some s) (h10 : w[10]? = some tw) (h0 : 0 ≤ a) (h1 : a ≤ 1099511627776) (st : SS) (hll : st.lim ≤ st.next) :
    ∃ v st', cc 23 [wV w, .int .i64 a] st = some (v, st') ∧ Ext st st' ∧ Own st.next st' v (rowsF pairI (reachT s tw a)) 2 (reachT s tw a).length := by
  have hw : IntKind.wrap .i64 (a + 1) = a + 1 := wrap64 (by omega) (by omega)
  have x1 : Ext st (st.new (.cells (wRow w) 0)) := (Ext.refl st).new _
  have hm : (st.new (.cells (wRow w) 0)).mem.get st.next = some (.cells (wRow w) 0) := SS.new_get
  have l8 : (st.new (.cells (wRow w) 0)).ld st.next 8 = some (.int .i64 s) := by rw [SS.ld_cells hm, wRow_get, h8]; rfl
  have l10 : (st.new (.cells (wRow w) 0)).ld st.next 10 = some (.int .i64 tw) := by rw [SS.ld_cells hm, wRow_get, h10]; rfl
  have hc : (wV w).cells.toList = wRow w := aggC _
  have mk : ∀ (l : List (Int × Int)), l ≠ [] → ∃ v st', some (Value.slice (some ⟨(st.new (.cells (wRow w) 0)).next, 0, none⟩) l.length l.length, (st.new (.cells (wRow w) 0)).new (.cells (rowsF pairI l) 2)) = some (v, st') ∧ Ext st st' ∧ Own st.next st' v (rowsF pairI l) 2 l.length := fun l hl => by
    have hne : l.length ≠ 0 := fun e => hl (List.length_eq_zero_iff.1 e)
    exact ⟨_, _, rfl, x1.new _, ⟨rowsF_len (f := pairI) (z := 2) (fun _ => rfl) l, .inr ⟨_, rfl, by omega, SS.new_get, by simp, by simp⟩⟩⟩
  have nil : ∃ v st', some (Value.slice none 0 0, (st.new (.cells (wRow w) 0))) = some (v, st') ∧ Ext st st' ∧ Own st.next st' v (rowsF pairI []) 2 0 := ⟨_, _, rfl, x1, Own.nil _ _ _⟩
  have go : ∀ (l : List (Int × Int)), (∃ v st', camshaftref17_Reach cc camshaftref17_Reach_lf (wV w) a st = some (v, st') ∧ Ext st st' ∧ Own st.next st' v (rowsF pairI l) 2 l.length) →
      ∃ v st', cc 23 [wV w, .int .i64 a] st = some (v, st') ∧ Ext st st' ∧ Own st.next st' v (rowsF pairI l) 2 l.length := fun l ⟨v, st', c, r⟩ => ⟨v, st', camshaftref17_Reach_eq _ _ st c, r⟩
  refine go _ ?_
  unfold reachT
  by_cases s0 : s = 0
  · rw [if_pos s0]
    simp only [camshaftref17_Reach, hc, l8, l10, Option.bind_some, asI_int, decide_eq_true s0, cond_true, hw]
    exact mk [(a + 1, 1)] (by simp)
  rw [if_neg s0]
  by_cases s1 : s = 1
  · rw [if_pos s1]
    simp only [camshaftref17_Reach, hc, l8, l10, Option.bind_some, asI_int, decide_eq_false s0, decide_eq_true s1, cond_true, cond_false, hw]
    exact mk [(tw, 1)] (by simp)
  rw [if_neg s1]
  by_cases s2 : s = 2
  · rw [if_pos (.inl s2)]
    simp only [camshaftref17_Reach, hc, l8, l10, Option.bind_some, asI_int, decide_eq_false s0, decide_eq_false s1, decide_eq_true s2, cond_true, cond_false, hw]
    exact mk [(a + 1, 1), (tw, 1)] (by simp)
  by_cases s3 : s = 3
  · rw [if_pos (.inr s3)]
    simp only [camshaftref17_Reach, hc, l8, l10, Option.bind_some, asI_int, decide_eq_false s0, decide_eq_false s1, decide_eq_false s2, decide_eq_true s3, cond_true, cond_false, hw]
    exact mk [(a + 1, 1), (tw, 1)] (by simp)
  rw [if_neg (fun h => h.elim s2 s3)]
  by_cases s5 : s = 5
  · rw [if_pos s5]
    simp only [camshaftref17_Reach, hc, l8, l10, Option.bind_some, asI_int, decide_eq_false s0, decide_eq_false s1, decide_eq_false s2, decide_eq_false s3, decide_eq_true s5, cond_true, cond_false, hw]
    exact mk [(tw, 64)] (by simp)
  rw [if_neg s5]
  by_cases s6 : s = 6
  · rw [if_pos s6]
    simp only [camshaftref17_Reach, hc, l8, l10, Option.bind_some, asI_int, decide_eq_false s0, decide_eq_false s1, decide_eq_false s2, decide_eq_false s3, decide_eq_false s5, decide_eq_true s6, cond_true, cond_false, hw]
    exact mk [(tw, 16)] (by simp)
  rw [if_neg s6]
  simp only [camshaftref17_Reach, hc, l8, l10, Option.bind_some, asI_int, decide_eq_false s0, decide_eq_false s1, decide_eq_false s2, decide_eq_false s3, decide_eq_false s5, decide_eq_false s6, cond_true, cond_false, hw]
  exact nil
end Go.Proofs.YthngaoncjpgeiaaGreatDoorE
