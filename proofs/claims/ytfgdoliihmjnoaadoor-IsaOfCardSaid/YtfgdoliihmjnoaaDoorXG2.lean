/- A closed run as a contract for other runs. -/
import Derived.Test.YtfgdoliihmjnoaaDoorXG1
set_option linter.unusedSimpArgs false
set_option linter.unusedVariables false
namespace Go.E
open Go

theorem start_inv' [Sym] {L : Lk} {l : List (Nat × AObj)} {nx N : Nat} {W : World} {pl : Nat → Pl} (hob : ∀ x ∈ l, (pl x.1).b = x.1 ∧ (pl x.1).o = 0 ∧ ∃ obj, W.heap[x.1]? = some obj ∧ OR (embB l pl) (pl x.1) obj x.2)
    (hg : ∀ g, L.glob g = true → g ∈ l.map (·.1)) (hn : ∀ x ∈ l, x.1 < nx) : Inv N (embB l pl) L (start l nx) W := by
  have key : ∀ i p, embB l pl i = some p → ∃ x ∈ l, x.1 = i ∧ p = pl i := fun i p h => by
    unfold embB at h
    split at h
    · rename_i hm
      cases h
      obtain ⟨x, hx, rfl⟩ := List.mem_map.1 hm
      exact ⟨x, hx, rfl, rfl⟩
    · cases h
  exact {
    rep := {
      inb := fun i p h => by
        obtain ⟨x, hx, rfl, rfl⟩ := key i p h
        obtain ⟨e, _, obj, h1, _⟩ := hob x hx
        rw [e]
        exact (Array.getElem?_eq_some_iff.1 h1).1
      obj := fun i p ob h hv => by
        have hm := tabM_mem l i ob hv
        obtain ⟨x, hx, rfl, rfl⟩ := key i p h
        obtain ⟨e, _, obj, h1, h2⟩ := hob _ hm
        exact ⟨obj, by rw [e]; exact h1, h2⟩
      inj := fun i j p q h1 h2 _ _ h => by
        obtain ⟨x, hx, rfl, rfl⟩ := key i p h1
        obtain ⟨y, hy, rfl, rfl⟩ := key j q h2
        rw [(hob x hx).1, (hob y hy).1] at h
        exact h }
    glob := fun g h => by
      obtain ⟨x, hx, rfl⟩ := List.mem_map.1 (hg g h)
      refine ⟨pl x.1, ?_, (hob x hx).1, (hob x hx).2.1⟩
      unfold embB; rw [if_pos (hg _ h)]
    dom := fun i h => by
      left
      cases hp : embB l pl i with
      | none => exact absurd hp h
      | some p =>
        obtain ⟨x, hx, rfl, _⟩ := key i p hp
        exact hn x hx
    wf := fun i h => by
      cases hm : (tabM l).get i with
      | none => exact hm
      | some ob =>
        have h1 := hn _ (tabM_mem l i ob hm)
        have h2 : nx ≤ i := h
        simp only at h1
        omega
    bn := Nat.le_refl _ }

/-- **A closed run is a contract.** -/
theorem con_of_run [Sym] {P : Program} {L : Lk} (hL : L.Ok P) (hC : ConOk P L) {n f : Nat} {fn : Func} (hf : L.func f = some (f, fn)) {vs : List Value} {c : Con} {st' : St}
    (h : runE P L n f vs (start c.tabs c.A) = some (c.v, st')) (hB : st'.next = c.B) (hlog : st'.log = []) (hvs : ∀ x ∈ vs, flat3 x = true)
    (ho : ∀ x ∈ c.objs, st'.mem.get x.1 = some x.2) (hg : ∀ g, L.glob g = true → g ∈ c.tabs.map (·.1)) (hn : ∀ x ∈ c.tabs, x.1 < c.A) : ConFact P f vs c := by
  refine ⟨hvs, f, (hL.func f f fn hf).1, fun w pl hob => ?_⟩
  refine (run_sound hL hC h (start_inv' hob hg hn) (VRs.flat (p := flat3) (fun v => flat3_refl) hvs) hf).mono fun e w' ⟨v', he, β', hp, hvr⟩ => ?_
  have nolog : ∀ i, (tabM c.tabs).get i ≠ none → ¬ (i ∈ st'.log ∨ c.A ≤ i) := fun i h3 h4 => by
    rw [hlog] at h4
    rcases h4 with h4 | h4
    · cases h4
    · cases hm : (tabM c.tabs).get i with
      | none => exact h3 hm
      | some ob =>
        have h5 := hn _ (tabM_mem c.tabs i ob hm)
        simp only at h5
        omega
  refine ⟨v', β', he, hvr, ⟨hp.os, hp.tape, hp.output, hp.size, fun k hk => ?_⟩, fun i p h1 => ?_, fun i p h1 => hp.rep.inb i p h1, fun i p ob h1 h2 => ?_, fun i j p q h1 h2 h3 h4 h5 => ?_⟩
  · rcases hp.frame k hk with h1 | ⟨i, p, h1, _, h3, h4⟩
    · exact h1
    · exact absurd h4 (nolog i h3)
  · cases hb : embB c.tabs pl i with
    | some q =>
      have h2 := hp.ext i q hb
      rw [h1] at h2; cases h2
      left
      unfold embB at hb
      split at hb
      · rename_i hm; cases hb; exact ⟨hm, rfl⟩
      · cases hb
    | none =>
      right
      rcases hp.dom i (by rw [h1]; simp) with h2 | h2
      · exact absurd hb h2
      · refine ⟨h2.1, hB ▸ h2.2, ?_⟩
        rcases hp.fresh i p h1 hb with h3 | ⟨j, q, a1, a2, a3, a4⟩
        · exact h3
        · exact absurd a4 (nolog j a3)
  · exact hp.rep.obj i p ob h1 (ho _ h2)
  · obtain ⟨x, hx, rfl⟩ := List.mem_map.1 h3
    obtain ⟨y, hy, rfl⟩ := List.mem_map.1 h4
    exact hp.rep.inj _ _ p q h1 h2 (by rw [ho x hx]; simp) (by rw [ho y hy]; simp) h5

/-- The form in which a closed run is printed: the answer, what is told of the memory. -/
noncomputable def conAns (c : Con) (r : Option (Value × St)) : Option (Value × Nat × List Nat × List (Option AObj)) := r.map fun r => (r.1, r.2.next, r.2.log, c.objs.map fun x => r.2.mem.get x.1)
theorem con_of_runF [Sym] {P : Program} {L : Lk} (hL : L.Ok P) (hC : ConOk P L) {n f : Nat} {fn : Func} (hf : L.func f = some (f, fn)) {vs : List Value} {c : Con}
    (h : conAns c (runF P L n f vs (start c.tabs c.A)) = some (c.v, c.B, [], c.objs.map fun x => some x.2)) (hvs : vs.all flat3 = true)
    (hg : ∀ g, L.glob g = true → g ∈ c.tabs.map (·.1)) (hn : ∀ x ∈ c.tabs, x.1 < c.A) : ConFact P f vs c := by
  unfold conAns at h
  simp only [Option.map_eq_some_iff, Prod.mk.injEq] at h
  obtain ⟨⟨v, st'⟩, h1, h2, h3, h4, h5⟩ := h
  simp only at h2 h3 h4 h5
  subst h2
  refine con_of_run hL hC hf (runF_le hL h1) h3 h4 (fun x hx => List.all_eq_true.1 hvs x hx) (fun x hx => ?_) hg hn
  obtain ⟨i, hi, hx⟩ := List.mem_iff_getElem.1 hx
  have := congrArg (·[i]?) h5
  simp only [List.getElem?_map, List.getElem?_eq_getElem hi, Option.map_some, hx, Option.some.injEq] at this
  exact this
end Go.E
