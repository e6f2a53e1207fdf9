/- What a piece of the evaluator's run says of the worlds: the invariant, the post, their laws; stores. -/
import Derived.Test.YtfgdoliihmjnoaaDoorXE5
set_option linter.unusedSimpArgs false
set_option linter.unusedVariables false
namespace Go.E
open Go

/-- N: numbers from N on may belong to others; the run stays below. -/
structure Inv (N : Nat) (β : Emb) (L : Lk) (st : St) (w : World) : Prop where
  rep : Rep β st.mem.get w
  glob : GOk β L
  dom : ∀ i, β i ≠ none → i < st.next ∨ N ≤ i
  wf : ∀ i, st.next ≤ i → st.mem.get i = none
  bn : st.base ≤ st.next

/-- What holds of the evaluator's states alone. -/
structure Mono (st st' : St) : Prop where
  next : st.next ≤ st'.next
  base : st'.base = st.base
  log : ∀ i, i ∈ st.log → i ∈ st'.log
  logb : ∀ i, i ∈ st'.log → i ∈ st.log ∨ i < st.base
  keep : ∀ i, i < st.next → i < st.base → i ∉ st'.log → st'.mem.get i = st.mem.get i
  wf : (∀ i, st.next ≤ i → st.mem.get i = none) → ∀ i, st'.next ≤ i → st'.mem.get i = none
  dead : ∀ i, i < st.next → st.mem.get i = none → st'.mem.get i = none

structure Post (st st' : St) (β : Emb) (w : World) (β' : Emb) (w' : World) : Prop where
  ext : ∀ i p, β i = some p → β' i = some p
  dom : ∀ i, β' i ≠ none → β i ≠ none ∨ (st.next ≤ i ∧ i < st'.next)
  rep : Rep β' st'.mem.get w'
  frame : ∀ b, b < w.heap.size → w'.heap[b]? = w.heap[b]? ∨ ∃ i p, β i = some p ∧ p.b = b ∧ st.mem.get i ≠ none ∧ (i ∈ st'.log ∨ st.base ≤ i)
  logd : ∀ i, i ∈ st'.log → i ∈ st.log ∨ β i ≠ none
  fresh : ∀ i p, β' i = some p → β i = none → w.heap.size ≤ p.b ∨ ∃ j q, β j = some q ∧ q.b = p.b ∧ st.mem.get j ≠ none ∧ (j ∈ st'.log ∨ st.base ≤ j)
  size : w.heap.size ≤ w'.heap.size
  os : w'.os = w.os
  tape : w'.tape = w.tape
  output : w'.output = w.output

theorem Mono.refl (st : St) : Mono st st := ⟨Nat.le_refl _, rfl, fun _ h => h, fun _ h => .inl h, fun _ _ _ _ => rfl, fun h => h, fun _ _ h => h⟩
theorem Mono.trans {a b c : St} (h : Mono a b) (k : Mono b c) : Mono a c where
  next := Nat.le_trans h.next k.next
  base := k.base.trans h.base
  log := fun i hi => k.log i (h.log i hi)
  logb := fun i hi => by
    rcases k.logb i hi with h1 | h1
    · exact h.logb i h1
    · exact .inr (h.base ▸ h1)
  keep := fun i h1 h2 h3 => by
    rw [k.keep i (Nat.lt_of_lt_of_le h1 h.next) (h.base.symm ▸ h2) h3]
    exact h.keep i h1 h2 fun hi => h3 (k.log i hi)
  wf := fun hw => k.wf (h.wf hw)
  dead := fun i h1 h2 => k.dead i (Nat.lt_of_lt_of_le h1 h.next) (h.dead i h1 h2)

section
variable {P : Program} {L : Lk} {β β' : Emb} {st st' : St} {w w' : World} {N : Nat}

theorem Post.refl (h : Rep β st.mem.get w) : Post st st β w β w :=
  ⟨fun _ _ h => h, fun _ h => .inl h, h, fun _ _ => .inl rfl, fun _ h => .inl h, (fun i p h1 h2 => by rw [h1] at h2; cases h2), Nat.le_refl _, rfl, rfl, rfl⟩

theorem Inv.step (hi : Inv N β L st w) (hm : Mono st st') (hp : Post st st' β w β' w') : Inv N β' L st' w' where
  rep := hp.rep
  glob := fun g hg => let ⟨p, h1, h2⟩ := hi.glob g hg; ⟨p, hp.ext _ _ h1, h2⟩
  dom := fun i h => by
    rcases hp.dom i h with h1 | h1
    · exact (hi.dom i h1).imp (fun h => Nat.lt_of_lt_of_le h hm.next) id
    · exact .inl h1.2
  wf := hm.wf hi.wf
  bn := by rw [hm.base]; exact Nat.le_trans hi.bn hm.next

theorem Post.trans {β'' : Emb} {st'' : St} {w'' : World} (hi : Inv N β L st w) (hm : Mono st st') (hm' : Mono st' st'') (hN : st''.next ≤ N) (h : Post st st' β w β' w') (k : Post st' st'' β' w' β'' w'') :
    Post st st'' β w β'' w'' := by
  -- a block of an old number that is live behind is live ahead
  have live : ∀ i, β i ≠ none → st'.mem.get i ≠ none → st.mem.get i ≠ none := fun i h1 h2 h3 => by
    rcases hi.dom i h1 with h4 | h4
    · exact h2 (hm.dead i h4 h3)
    · exact h2 (hm.wf hi.wf i (by have := hm'.next; omega))
  have up : ∀ i, (i ∈ st'.log ∨ st.base ≤ i) → (i ∈ st''.log ∨ st.base ≤ i) := fun i hh => hh.imp (hm'.log i) id
  -- what the second piece touches of the first world's blocks
  have old : ∀ b, b < w.heap.size → (∃ i p, β' i = some p ∧ p.b = b ∧ st'.mem.get i ≠ none ∧ (i ∈ st''.log ∨ st'.base ≤ i)) →
      ∃ i p, β i = some p ∧ p.b = b ∧ st.mem.get i ≠ none ∧ (i ∈ st''.log ∨ st.base ≤ i) := by
    rintro b hb ⟨i, p, h1, h2, h3, h4⟩
    cases hbi : β i with
    | some q =>
      have := h.ext i q hbi
      rw [h1] at this; cases this
      exact ⟨i, p, hbi, h2, live i (by rw [hbi]; simp) h3, hm.base ▸ h4⟩
    | none =>
      rcases h.fresh i p h1 hbi with h5 | ⟨j, q, a1, a2, a3, a4⟩
      · omega
      · exact ⟨j, q, a1, a2.trans h2, a3, up j a4⟩
  refine ⟨fun i p h1 => k.ext i p (h.ext i p h1), fun i h1 => ?_, k.rep, fun b hb => ?_, fun i h1 => ?_, fun i p h1 h2 => ?_, Nat.le_trans h.size k.size, k.os.trans h.os, k.tape.trans h.tape, k.output.trans h.output⟩
  · rcases k.dom i h1 with h2 | h2
    · rcases h.dom i h2 with h3 | h3
      · exact .inl h3
      · exact .inr ⟨h3.1, Nat.lt_of_lt_of_le h3.2 hm'.next⟩
    · exact .inr ⟨Nat.le_trans hm.next h2.1, h2.2⟩
  · rcases k.frame b (Nat.lt_of_lt_of_le hb h.size) with h1 | h1
    · rcases h.frame b hb with h2 | ⟨i, p, a1, a2, a3, a4⟩
      · exact .inl (h1.trans h2)
      · exact .inr ⟨i, p, a1, a2, a3, up i a4⟩
    · exact .inr (old b hb h1)
  · rcases k.logd i h1 with h2 | h2
    · exact h.logd i h2
    · by_cases h3 : β i = none
      · -- logged, but no old number: it is of the first piece, above the base
        rcases hm'.logb i h1 with h4 | h4
        · exact h.logd i h4
        · rcases h.dom i h2 with h5 | h5
          · exact .inr h5
          · have h6 := hi.bn; have h7 := h5.1; rw [hm.base] at h4; omega
      · exact .inr h3
  · cases hbi : β' i with
    | some q =>
      have := k.ext i q hbi
      rw [h1] at this; cases this
      rcases h.fresh i p hbi h2 with h3 | ⟨j, q, a1, a2, a3, a4⟩
      · exact .inl h3
      · exact .inr ⟨j, q, a1, a2, a3, up j a4⟩
    | none =>
      by_cases hb : p.b < w.heap.size
      · rcases k.fresh i p h1 hbi with h3 | h3
        · have := h.size; omega
        · obtain ⟨j, q, a1, a2, a3, a4⟩ := h3
          exact .inr (old p.b hb ⟨j, q, a1, a2, a3, a4⟩)
      · exact .inl (by omega)
end
end Go.E
