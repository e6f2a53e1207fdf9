/- What a piece of the evaluator's run says of the worlds: the invariant, the post, their laws; stores. -/
import Derived.Test.YtfgdoliihmjnoaaDoorXE5
set_option linter.unusedSimpArgs false
set_option linter.unusedVariables false
namespace Go.E
open Go

/-- N: numbers from N on may belong to others; the run stays below. -/
structure Inv [Sym] (N : Nat) (β : Emb) (L : Lk) (st : St) (w : World) : Prop where
  rep : Rep β st.mem.get w
  glob : GOk β L
  dom : ∀ i, β i ≠ none → i < st.next ∨ N ≤ i
  wf : ∀ i, st.next ≤ i → st.mem.get i = none
  bn : st.base ≤ st.next

/-- What holds of the evaluator's states alone. -/
structure Mono (st st' : St) : Prop where
  next : st.next ≤ st'.next
  base : st'.base = st.base
  log : ∀ i, i ∈ st.log → i ∈ st'.log
  logb : ∀ i, i ∈ st'.log → i ∈ st.log ∨ i < st.base
  keep : ∀ i, i < st.next → i < st.base → i ∉ st'.log → st'.mem.get i = st.mem.get i
  wf : (∀ i, st.next ≤ i → st.mem.get i = none) → ∀ i, st'.next ≤ i → st'.mem.get i = none
  dead : ∀ i, i < st.next → st.mem.get i = none → st'.mem.get i = none

structure Post [Sym] (st st' : St) (β : Emb) (w : World) (β' : Emb) (w' : World) : Prop where
  ext : ∀ i p, β i = some p → β' i = some p
  dom : ∀ i, β' i ≠ none → β i ≠ none ∨ (st.next ≤ i ∧ i < st'.next)
  rep : Rep β' st'.mem.get w'
  frame : ∀ b, b < w.heap.size → w'.heap[b]? = w.heap[b]? ∨ ∃ i p, β i = some p ∧ p.b = b ∧ st.mem.get i ≠ none ∧ (i ∈ st'.log ∨ st.base ≤ i)
  logd : ∀ i, i ∈ st'.log → i ∈ st.log ∨ β i ≠ none
  fresh : ∀ i p, β' i = some p → β i = none → w.heap.size ≤ p.b ∨ ∃ j q, β j = some q ∧ q.b = p.b ∧ st.mem.get j ≠ none ∧ (j ∈ st'.log ∨ st.base ≤ j)
  size : w.heap.size ≤ w'.heap.size
  os : w'.os = w.os
  tape : w'.tape = w.tape
  output : w'.output = w.output

theorem Mono.refl (st : St) : Mono st st := ⟨Nat.le_refl _, rfl, fun _ h => h, fun _ h => .inl h, fun _ _ _ _ => rfl, fun h => h, fun _ _ h => h⟩
theorem Mono.trans {a b c : St} (h : Mono a b) (k : Mono b c) : Mono a c where
  next := Nat.le_trans h.next k.next
  base := k.base.trans h.base
  log := fun i hi => k.log i (h.log i hi)
  logb := fun i hi => by
    rcases k.logb i hi with h1 | h1
    · exact h.logb i h1
    · exact .inr (h.base ▸ h1)
  keep := fun i h1 h2 h3 => by
    rw [k.keep i (Nat.lt_of_lt_of_le h1 h.next) (h.base.symm ▸ h2) h3]
    exact h.keep i h1 h2 fun hi => h3 (k.log i hi)
  wf := fun hw => k.wf (h.wf hw)
  dead := fun i h1 h2 => k.dead i (Nat.lt_of_lt_of_le h1 h.next) (h.dead i h1 h2)

section
variable {P : Program} {L : Lk} {β β' : Emb} {st st' : St} {w w' : World} {N : Nat}

theorem Post.refl [Sym] (h : Rep β st.mem.get w) : Post st st β w β w :=
  ⟨fun _ _ h => h, fun _ h => .inl h, h, fun _ _ => .inl rfl, fun _ h => .inl h, (fun i p h1 h2 => by rw [h1] at h2; cases h2), Nat.le_refl _, rfl, rfl, rfl⟩

theorem Inv.step [Sym] (hi : Inv N β L st w) (hm : Mono st st') (hp : Post st st' β w β' w') : Inv N β' L st' w' where
  rep := hp.rep
  glob := fun g hg => let ⟨p, h1, h2⟩ := hi.glob g hg; ⟨p, hp.ext _ _ h1, h2⟩
  dom := fun i h => by
    rcases hp.dom i h with h1 | h1
    · exact (hi.dom i h1).imp (fun h => Nat.lt_of_lt_of_le h hm.next) id
    · exact .inl h1.2
  wf := hm.wf hi.wf
  bn := by rw [hm.base]; exact Nat.le_trans hi.bn hm.next

theorem Post.trans [Sym] {β'' : Emb} {st'' : St} {w'' : World} (hi : Inv N β L st w) (hm : Mono st st') (hm' : Mono st' st'') (hN : st''.next ≤ N) (h : Post st st' β w β' w') (k : Post st' st'' β' w' β'' w'') :
    Post st st'' β w β'' w'' := by
  -- a block of an old number that is live behind is live ahead
  have live : ∀ i, β i ≠ none → st'.mem.get i ≠ none → st.mem.get i ≠ none := fun i h1 h2 h3 => by
    rcases hi.dom i h1 with h4 | h4
    · exact h2 (hm.dead i h4 h3)
    · exact h2 (hm.wf hi.wf i (by have := hm'.next; omega))
  have up : ∀ i, (i ∈ st'.log ∨ st.base ≤ i) → (i ∈ st''.log ∨ st.base ≤ i) := fun i hh => hh.imp (hm'.log i) id
  -- what the second piece touches of the first world's blocks
  have old : ∀ b, b < w.heap.size → (∃ i p, β' i = some p ∧ p.b = b ∧ st'.mem.get i ≠ none ∧ (i ∈ st''.log ∨ st'.base ≤ i)) →
      ∃ i p, β i = some p ∧ p.b = b ∧ st.mem.get i ≠ none ∧ (i ∈ st''.log ∨ st.base ≤ i) := by
    rintro b hb ⟨i, p, h1, h2, h3, h4⟩
    cases hbi : β i with
    | some q =>
      have := h.ext i q hbi
      rw [h1] at this; cases this
      exact ⟨i, p, hbi, h2, live i (by rw [hbi]; simp) h3, hm.base ▸ h4⟩
    | none =>
      rcases h.fresh i p h1 hbi with h5 | ⟨j, q, a1, a2, a3, a4⟩
      · omega
      · exact ⟨j, q, a1, a2.trans h2, a3, up j a4⟩
  refine ⟨fun i p h1 => k.ext i p (h.ext i p h1), fun i h1 => ?_, k.rep, fun b hb => ?_, fun i h1 => ?_, fun i p h1 h2 => ?_, Nat.le_trans h.size k.size, k.os.trans h.os, k.tape.trans h.tape, k.output.trans h.output⟩
  · rcases k.dom i h1 with h2 | h2
    · rcases h.dom i h2 with h3 | h3
      · exact .inl h3
      · exact .inr ⟨h3.1, Nat.lt_of_lt_of_le h3.2 hm'.next⟩
    · exact .inr ⟨Nat.le_trans hm.next h2.1, h2.2⟩
  · rcases k.frame b (Nat.lt_of_lt_of_le hb h.size) with h1 | h1
    · rcases h.frame b hb with h2 | ⟨i, p, a1, a2, a3, a4⟩
      · exact .inl (h1.trans h2)
      · exact .inr ⟨i, p, a1, a2, a3, up i a4⟩
    · exact .inr (old b hb h1)
  · rcases k.logd i h1 with h2 | h2
    · exact h.logd i h2
    · by_cases h3 : β i = none
      · -- logged, but no old number: it is of the first piece, above the base
        rcases hm'.logb i h1 with h4 | h4
        · exact h.logd i h4
        · rcases h.dom i h2 with h5 | h5
          · exact .inr h5
          · have h6 := hi.bn; have h7 := h5.1; rw [hm.base] at h4; omega
      · exact .inr h3
  · cases hbi : β' i with
    | some q =>
      have := k.ext i q hbi
      rw [h1] at this; cases this
      rcases h.fresh i p hbi h2 with h3 | ⟨j, q, a1, a2, a3, a4⟩
      · exact .inl h3
      · exact .inr ⟨j, q, a1, a2, a3, up j a4⟩
    | none =>
      by_cases hb : p.b < w.heap.size
      · rcases k.fresh i p h1 hbi with h3 | h3
        · have := h.size; omega
        · obtain ⟨j, q, a1, a2, a3, a4⟩ := h3
          exact .inr (old p.b hb ⟨j, q, a1, a2, a3, a4⟩)
      · exact .inl (by omega)
end

/-! ### Contracts with new memory -/
def embB (l : List (Nat × AObj)) (pl : Nat → Pl) : Emb := fun i => if i ∈ l.map (·.1) then some (pl i) else none
theorem putAll_not : ∀ (l : List (Nat × AObj)) (m : PT AObj) (i : Nat), i ∉ l.map (·.1) → (putAll l m).get i = m.get i
  | [], m, i, _ => rfl
  | x :: r, m, i, h => by
    simp only [List.map_cons, List.mem_cons, not_or] at h
    simp only [putAll, PT.get_upd]
    rw [if_neg (fun e => h.1 e.symm)]
    exact putAll_not r m i h.2
theorem putAll_mem : ∀ (l : List (Nat × AObj)) (m : PT AObj) (i : Nat) (ob : AObj), i ∈ l.map (·.1) → (putAll l m).get i = some ob → (i, ob) ∈ l
  | [], m, i, ob, h, _ => by cases h
  | x :: r, m, i, ob, h, k => by
    simp only [putAll, PT.get_upd] at k
    split at k
    · rename_i e; cases k; subst e; exact List.mem_cons_self ..
    · rename_i e
      simp only [List.map_cons, List.mem_cons] at h
      rcases h with h | h
      · exact absurd h.symm e
      · exact List.mem_cons_of_mem _ (putAll_mem r m i ob h k)
theorem putAll_some : ∀ (l : List (Nat × AObj)) (m : PT AObj) (i : Nat), (putAll l m).get i ≠ none → i ∈ l.map (·.1) ∨ m.get i ≠ none := fun l m i h => by
  by_cases hi : i ∈ l.map (·.1)
  · exact .inl hi
  · rw [putAll_not l m i hi] at h; exact .inr h

/-- What a contract's call does, over whatever memory. -/
structure ConPost [Sym] (c : Con) (pl : Nat → Pl) (w : World) (v' : Value) (β' : Emb) (w' : World) : Prop where
  val : VR β' c.v v'
  below : RowKit.Below w.heap.size w w'
  dom : ∀ i p, β' i = some p → (i ∈ c.tabs.map (·.1) ∧ p = pl i) ∨ (c.A ≤ i ∧ i < c.B ∧ w.heap.size ≤ p.b)
  inb : ∀ i p, β' i = some p → p.b < w'.heap.size
  obj : ∀ i p ob, β' i = some p → (i, ob) ∈ c.objs → ∃ obj, w'.heap[p.b]? = some obj ∧ OR β' p obj ob
  inj : ∀ i j p q, β' i = some p → β' j = some q → i ∈ c.objs.map (·.1) → j ∈ c.objs.map (·.1) → p.b = q.b → i = j
structure ConFact [Sym] (P : Program) (f : FuncId) (vs : List Value) (c : Con) : Prop where
  flat : ∀ x ∈ vs, flat3 x = true
  enter : ∃ j, (∀ as w, (callFunc f as).run P w = .ok (.enter j as) w) ∧ ∀ w (pl : Nat → Pl),
    (∀ x ∈ c.tabs, (pl x.1).b = x.1 ∧ (pl x.1).o = 0 ∧ ∃ obj, w.heap[x.1]? = some obj ∧ OR (embB c.tabs pl) (pl x.1) obj x.2) →
    Calls P j vs.toArray w fun e w' => ∃ v' β', e = .returned v' ∧ ConPost c pl w v' β' w'
def ConOk [Sym] (P : Program) (L : Lk) : Prop := ∀ f vs nx c, L.con f vs nx = some c → ConFact P f vs c

theorem eqVs_eq : ∀ (a b : List Value), eqVs a b = true → a = b ∧ ∀ x ∈ a, flat1 x = true
  | [], [], _ => ⟨rfl, fun x h => by cases h⟩
  | .int k n :: a, .int k' n' :: b, h => by
    simp only [eqVs] at h
    cases hk : decide (k = k') with
    | false => rw [hk] at h; cases h
    | true =>
      rw [hk] at h
      cases hn : decide (n = n') with
      | false => rw [hn] at h; cases h
      | true =>
        rw [hn] at h
        obtain ⟨e1, e2⟩ := eqVs_eq a b h
        rw [of_decide_eq_true hk, of_decide_eq_true hn, e1]
        refine ⟨rfl, fun x hx => ?_⟩
        rcases List.mem_cons.1 hx with rfl | hx
        · rfl
        · exact e2 x (e1 ▸ hx)
  | [], _ :: _, h => by simp [eqVs] at h
  | x :: a, [], h => by cases x <;> simp [eqVs] at h
  | x :: a, y :: b, h => by
    unfold eqVs at h
    split at h
    · rename_i e1 e2; cases e1
    · rename_i k n a' k' n' b' e1 e2
      cases e1; cases e2
      cases hk : decide (k = k') with
      | false => rw [hk] at h; cases h
      | true =>
        rw [hk] at h
        cases hn : decide (n = n') with
        | false => rw [hn] at h; cases h
        | true =>
          rw [hn] at h
          obtain ⟨e1, e2⟩ := eqVs_eq a b h
          rw [of_decide_eq_true hk, of_decide_eq_true hn, e1]
          refine ⟨rfl, fun x hx => ?_⟩
          rcases List.mem_cons.1 hx with rfl | hx
          · rfl
          · exact e2 x (e1 ▸ hx)
    · cases h
theorem OR.table_flat [Sym] {β β' : Emb} {p : Pl} {obj : Obj} {c : List Value} (hc : ∀ x ∈ c, flat1 x = true) (h : OR β p obj (.table c)) : OR β' p obj (.table c) := by
  obtain ⟨arr, T, fr, h1, h6⟩ := h
  refine ⟨arr, T, fr, h1, fun j v hv => ?_⟩
  obtain ⟨v', a, b⟩ := h6 j v hv
  have hf := hc v (List.mem_of_getElem? hv)
  rw [flat1_eq hf b] at a
  exact ⟨v, a, flat1_refl hf⟩

/-- **A contract's call in the midst of a run.** -/
theorem con_post [Sym] {L : Lk} {β : Emb} {st : St} {w : World} {N : Nat} {c : Con} (hi : Inv N β L st w) (hN : c.B ≤ N) (hA : st.next ≤ c.A) (hAB : c.A ≤ c.B)
    (ho : ∀ x ∈ c.objs, c.A ≤ x.1 ∧ x.1 < c.B) (ht : ∀ x ∈ c.tabs, x.1 < c.A) {pl : Nat → Pl} (hpl : ∀ x ∈ c.tabs, β x.1 = some (pl x.1)) {v' : Value} {β' : Emb} {w' : World} (h : ConPost c pl w v' β' w') :
    ∃ β'', Post st { st with mem := putAll c.objs st.mem, next := c.B } β w β'' w' ∧ VR β'' c.v v' := by
  have hidx : ∀ i, i ∈ c.objs.map (·.1) → c.A ≤ i ∧ i < c.B := fun i hx => by
    obtain ⟨x, hm, rfl⟩ := List.mem_map.1 hx; exact ho x hm
  have hold : ∀ i p, β i = some p → ¬ (c.A ≤ i ∧ i < c.B) := fun i p hp hx => by
    rcases hi.dom i (by rw [hp]; simp) with h1 | h1 <;> omega
  let β'' : Emb := fun i => if c.A ≤ i ∧ i < c.B then β' i else β i
  have e1 : ∀ i p, β i = some p → β'' i = some p := fun i p hp => by show (if _ then _ else _) = _; rw [if_neg (hold i p hp)]; exact hp
  have e2 : ∀ i p, β' i = some p → β'' i = some p := fun i p hp => by
    rcases h.dom i p hp with ⟨hm, rfl⟩ | hx
    · obtain ⟨x, hx, rfl⟩ := List.mem_map.1 hm
      exact e1 _ _ (hpl x hx)
    · show (if _ then _ else _) = _
      rw [if_pos ⟨hx.1, hx.2.1⟩]; exact hp
  have split : ∀ i p, β'' i = some p → (c.A ≤ i ∧ i < c.B ∧ β' i = some p ∧ w.heap.size ≤ p.b) ∨ (¬ (c.A ≤ i ∧ i < c.B) ∧ β i = some p ∧ p.b < w.heap.size) := fun i p hp => by
    by_cases hx : c.A ≤ i ∧ i < c.B
    · have hp' : β' i = some p := by
        have : (if c.A ≤ i ∧ i < c.B then β' i else β i) = some p := hp
        rwa [if_pos hx] at this
      rcases h.dom i p hp' with ⟨hm, _⟩ | hy
      · obtain ⟨x, hxm, rfl⟩ := List.mem_map.1 hm
        have := ht x hxm; omega
      · exact .inl ⟨hx.1, hx.2, hp', hy.2.2⟩
    · have hp' : β i = some p := by
        have : (if c.A ≤ i ∧ i < c.B then β' i else β i) = some p := hp
        rwa [if_neg hx] at this
      exact .inr ⟨hx, hp', hi.rep.inb i p hp'⟩
  have hnone : ∀ i, c.A ≤ i → st.mem.get i = none := fun i hx => hi.wf i (by omega)
  refine ⟨β'', ⟨e1, fun i hx => ?_, ⟨fun i p hp => ?_, fun i p ob hp hv => ?_, fun i j p q h1 h2 h3 h4 h5 => ?_⟩, fun b hb => .inl (h.below.block b hb), fun _ h => .inl h, fun i p h1 h2 => ?_, h.below.size, h.below.os, h.below.tape, h.below.output⟩, h.val.mono e2⟩
  · cases hp : β'' i with
    | none => exact absurd hp hx
    | some p =>
      rcases split i p hp with h1 | h1
      · exact .inr ⟨by omega, h1.2.1⟩
      · exact .inl (by rw [h1.2.1]; simp)
  · rcases split i p hp with h1 | h1
    · exact h.inb i p h1.2.2.1
    · exact Nat.lt_of_lt_of_le h1.2.2 h.below.size
  · rcases split i p hp with h1 | h1
    · have hm : i ∈ c.objs.map (·.1) := by
        rcases putAll_some c.objs st.mem i (by rw [show (putAll c.objs st.mem).get i = some ob from hv]; simp) with h2 | h2
        · exact h2
        · exact absurd (hnone i h1.1) h2
      obtain ⟨obj, a, b⟩ := h.obj i p ob h1.2.2.1 (putAll_mem _ _ _ _ hm hv)
      exact ⟨obj, a, b.mono e2⟩
    · have hv' : st.mem.get i = some ob := by
        rw [← putAll_not c.objs st.mem i (fun hm => h1.1 (hidx i hm))]; exact hv
      obtain ⟨obj, a, b⟩ := hi.rep.obj i p ob h1.2.1 hv'
      exact ⟨obj, by rw [h.below.block _ h1.2.2]; exact a, b.mono e1⟩
  · have live : ∀ i, ¬ (c.A ≤ i ∧ i < c.B) → (putAll c.objs st.mem).get i ≠ none → st.mem.get i ≠ none := fun i hx hy => by
      rwa [putAll_not c.objs st.mem i (fun hm => hx (hidx i hm))] at hy
    have mem : ∀ i, c.A ≤ i → (putAll c.objs st.mem).get i ≠ none → i ∈ c.objs.map (·.1) := fun i hx hy => by
      rcases putAll_some c.objs st.mem i hy with h2 | h2
      · exact h2
      · exact absurd (hnone i hx) h2
    rcases split i p h1 with a | a <;> rcases split j q h2 with b | b
    · exact h.inj i j p q a.2.2.1 b.2.2.1 (mem i a.1 h3) (mem j b.1 h4) h5
    · omega
    · omega
    · exact hi.rep.inj i j p q a.2.1 b.2.1 (live i a.1 h3) (live j b.1 h4) h5
  · rcases split i p h1 with a | a
    · exact .inl a.2.2.2
    · rw [a.2.1] at h2; cases h2
end Go.E
