/- Stores, new blocks, appends: sound. -/
import Derived.Test.YtfgdoliihmjnoaaDoorXE6
set_option linter.unusedSimpArgs false
set_option linter.unusedVariables false
namespace Go.E
open Go

section
variable {P : Program} {L : Lk} {β β' : Emb} {st st' : St} {w w' : World} {N : Nat}

theorem note_mem {st : St} {i j : Nat} : j ∈ st.note i ↔ j ∈ st.log ∨ (j = i ∧ i < st.base) := by
  unfold St.note
  cases hb : Nat.blt i st.base with
  | false =>
    have : ¬ i < st.base := by rw [← Nat.blt_eq, hb]; simp
    simp [this]
  | true =>
    rw [Nat.blt_eq] at hb
    simp only [cond_true, hb, and_true]
    cases hc : st.log.contains i with
    | true =>
      simp only [cond_true]
      constructor
      · exact .inl
      · rintro (h | rfl)
        · exact h
        · simpa using hc
    | false => simp [List.mem_cons, or_comm]

theorem mono_write {st : St} {i : Nat} {ob : Option AObj} (hi : i < st.next) (hl : st.mem.get i ≠ none) : Mono st (st.write i ob) where
  next := Nat.le_refl _
  base := rfl
  log := fun j hj => note_mem.2 (.inl hj)
  logb := fun j hj => by rcases note_mem.1 hj with h | ⟨rfl, h⟩ <;> simp [h]
  keep := fun j h1 h2 h3 => by
    have : i ≠ j := fun e => h3 (note_mem.2 (.inr ⟨e.symm, e ▸ h2⟩))
    simp [St.write, this]
  wf := fun h j hj => by
    have hj' : st.next ≤ j := hj
    have : i ≠ j := by omega
    simp [St.write, this, h j hj']
  dead := fun j h1 h2 => by
    have : i ≠ j := fun e => hl (e ▸ h2)
    simp [St.write, this, h2]

theorem mono_new {st : St} {ob : AObj} : Mono st (st.new ob) where
  next := Nat.le_succ _
  base := rfl
  log := fun _ h => h
  logb := fun _ h => .inl h
  keep := fun j h1 _ _ => by
    have : st.next ≠ j := by omega
    simp [St.new, this]
  wf := fun h j hj => by
    have hj' : st.next + 1 ≤ j := hj
    have : st.next ≠ j := by omega
    simp [St.new, this, h j (by omega)]
  dead := fun j h1 h2 => by
    have : st.next ≠ j := by omega
    simp [St.new, this, h2]

/-- A new number for a new block. -/
def Emb.add (β : Emb) (n : Nat) (p : Pl) : Emb := fun i => if i = n then some p else β i
theorem Emb.add_self {n : Nat} {p : Pl} : β.add n p n = some p := by simp [Emb.add]
theorem Emb.add_old {n : Nat} {p : Pl} (h : β n = none) : ∀ i q, β i = some q → β.add n p i = some q := fun i q hq => by
  have : i ≠ n := fun e => by subst e; rw [h] at hq; cases hq
  simp [Emb.add, this, hq]
theorem Emb.add_inv {n i : Nat} {p q : Pl} (h : β.add n p i = some q) : (i = n ∧ q = p) ∨ (i ≠ n ∧ β i = some q) := by
  unfold Emb.add at h
  split at h
  · rename_i e; cases h; exact .inl ⟨e, rfl⟩
  · rename_i e; exact .inr ⟨e, h⟩

theorem rep_new [Sym] {V V' : View} {n : Nat} {obj : Obj} {s z d : Nat} {ob : AObj} (hr : Rep β V w) (hn : β n = none) (hV : ∀ i, i ≠ n → V' i = V i) (hVn : V' n = some ob)
    (hob : OR (β.add n ⟨w.heap.size, 0, s, z⟩) ⟨w.heap.size, 0, s, z⟩ obj ob) :
    Rep (β.add n ⟨w.heap.size, 0, s, z⟩) V' { w with heap := w.heap.push obj, drawn := d } where
  inb := fun i p h => by
    rcases Emb.add_inv h with ⟨_, rfl⟩ | ⟨_, h⟩
    · simp
    · have := hr.inb i p h; simp; omega
  obj := fun i p ob' h hv => by
    rcases Emb.add_inv h with ⟨rfl, rfl⟩ | ⟨hne, h⟩
    · rw [hVn] at hv; cases hv
      exact ⟨obj, by simp, hob⟩
    · rw [hV i hne] at hv
      obtain ⟨o', h1, h2⟩ := hr.obj i p ob' h hv
      have := hr.inb i p h
      refine ⟨o', ?_, h2.mono (Emb.add_old hn)⟩
      show (w.heap.push obj)[p.b]? = _
      rw [Array.getElem?_push_lt this, ← Array.getElem?_eq_getElem]; exact h1
  inj := fun i j p q h1 h2 h3 h4 h5 => by
    rcases Emb.add_inv h1 with ⟨e1, f1⟩ | ⟨hne, g1⟩ <;> rcases Emb.add_inv h2 with ⟨e2, f2⟩ | ⟨hne', g2⟩
    · rw [e1, e2]
    · have := hr.inb j q g2; rw [f1] at h5; simp only at h5; omega
    · have := hr.inb i p g1; rw [f2] at h5; simp only at h5; omega
    · rw [hV i hne] at h3; rw [hV j hne'] at h4
      exact hr.inj i j p q g1 g2 h3 h4 h5

theorem wf_lt {st : St} (h : ∀ i, st.next ≤ i → st.mem.get i = none) {i : Nat} (hi : st.mem.get i ≠ none) : i < st.next := by
  apply Classical.byContradiction
  intro hc
  exact hi (h i (by omega))
theorem dom_none [Sym] (hi : Inv N β L st w) (hN : st.next < N) : β st.next = none := by
  cases h : β st.next with
  | none => rfl
  | some p => have := hi.dom st.next (by rw [h]; simp); omega

theorem post_new [Sym] {obj : Obj} {s z d : Nat} {ob : AObj} (hi : Inv N β L st w) (hN : st.next < N) (hob : OR (β.add st.next ⟨w.heap.size, 0, s, z⟩) ⟨w.heap.size, 0, s, z⟩ obj ob) :
    Post st (st.new ob) β w (β.add st.next ⟨w.heap.size, 0, s, z⟩) { w with heap := w.heap.push obj, drawn := d } where
  ext := Emb.add_old (dom_none hi hN)
  dom := fun i h => by
    by_cases e : i = st.next
    · subst e; exact .inr ⟨Nat.le_refl _, Nat.lt_succ_self _⟩
    · left; simpa [Emb.add, e] using h
  rep := rep_new hi.rep (dom_none hi hN) (fun i hne => by simp [St.new, Ne.symm hne]) (by simp [St.new]) hob
  frame := fun b hb => .inl (by show (w.heap.push obj)[b]? = _; rw [Array.getElem?_push_lt hb, ← Array.getElem?_eq_getElem])
  logd := fun _ h => .inl h
  fresh := fun i p h1 h2 => by
    rcases Emb.add_inv h1 with ⟨_, rfl⟩ | ⟨_, h⟩
    · exact .inl (Nat.le_refl _)
    · rw [h] at h2; cases h2
  size := by simp
  os := rfl
  tape := rfl
  output := rfl

/-! ### Storing cells -/
structure Wrote (w w' : World) (b : Nat) : Prop where
  other : ∀ k, k ≠ b → w'.heap[k]? = w.heap[k]?
  size : w'.heap.size = w.heap.size
  os : w'.os = w.os
  tape : w'.tape = w.tape
  output : w'.output = w.output
theorem Wrote.refl (w : World) (b : Nat) : Wrote w w b := ⟨fun _ _ => rfl, rfl, rfl, rfl, rfl⟩
theorem Wrote.trans {a b c : World} {k : Nat} (h : Wrote a b k) (j : Wrote b c k) : Wrote a c k :=
  ⟨fun i hi => (j.other i hi).trans (h.other i hi), j.size.trans h.size, j.os.trans h.os, j.tape.trans h.tape, j.output.trans h.output⟩

theorem run_store1 {b k : Nat} {arr : Array Value} {T : TypeId} {fr : Nat × Nat} {v : Value} (hh : w.heap[b]? = some (.cells arr T fr)) (hk : k < arr.size) (hf : ¬ (fr.1 ≤ k ∧ k < fr.2)) (h1 : one v = true) :
    ∃ w', (store ⟨b, k, none⟩ v).run P w = .ok () w' ∧ w'.heap[b]? = some (.cells (arr.setIfInBounds k v) T fr) ∧ Wrote w w' b := by
  have hc : w.cell? ⟨b, k, none⟩ = some arr[k] := by simp [World.cell?, hh, hk]
  have hfz : w.frozen? ⟨b, k, none⟩ = false := by
    simp only [World.frozen?, hh]
    simpa using hf
  refine ⟨w.setCell ⟨b, k, none⟩ v, ?_, ?_, ?_⟩
  · unfold store
    cases v <;> first
      | (simp [one] at h1; done)
      | (simp [Sem.run, hc, hfz])
  · have hlt : b < w.heap.size := (Array.getElem?_eq_some_iff.1 hh).1
    have hv : w.heap[b] = .cells arr T fr := (Array.getElem?_eq_some_iff.1 hh).2
    unfold World.setCell
    rw [Array.getElem?_eq_getElem (by simpa using hlt), Array.getElem_modify]
    simp [hv]
  · refine ⟨fun j hj => ?_, ?_, rfl, rfl, rfl⟩
    · unfold World.setCell
      simp only [Array.getElem?_modify]
      rw [if_neg (fun e => hj e.symm)]
    · simp [World.setCell]

theorem run_stores {b o : Nat} {T : TypeId} {fr : Nat × Nat} : ∀ (vs : List Value) (i : Nat) (arr : Array Value) (w : World), w.heap[b]? = some (.cells arr T fr) →
    (∀ k, k < arr.size → ¬ (fr.1 ≤ k ∧ k < fr.2)) → o + i + vs.length ≤ arr.size → vs.all one = true →
    ∃ w' arr', (storeCells ⟨b, o, none⟩ vs i).run P w = .ok () w' ∧ w'.heap[b]? = some (.cells arr' T fr) ∧ arr'.size = arr.size ∧ Wrote w w' b ∧
      ∀ j, arr'[j]? = if o + i ≤ j ∧ j < o + i + vs.length then vs[j - (o + i)]? else arr[j]?
  | [], i, arr, w, hh, hf, hl, h1 => ⟨w, arr, rfl, hh, rfl, .refl w b, fun j => by rw [if_neg (by intro h; simp at h; omega)]⟩
  | v :: vs, i, arr, w, hh, hf, hl, h1 => by
    simp only [List.length_cons] at hl
    simp only [List.all_cons, Bool.and_eq_true] at h1
    obtain ⟨w1, hr1, hh1, hw1⟩ := run_store1 (P := P) (v := v) hh (k := o + i) (by omega) (hf (o + i) (by omega)) h1.1
    obtain ⟨w2, arr2, hr2, hh2, hs2, hw2, hg2⟩ := run_stores (o := o) vs (i + 1) (arr.setIfInBounds (o + i) v) w1 hh1 (by simpa using hf) (by simp; omega) h1.2
    refine ⟨w2, arr2, ?_, hh2, by simpa using hs2, hw1.trans hw2, fun j => ?_⟩
    · simp only [storeCells]
      have ha : Addr.add ⟨b, o, none⟩ i = ⟨b, o + i, none⟩ := by
        unfold Addr.add; split
        · rename_i h0; rw [h0]; rfl
        · rfl
      rw [ha, Sem.run_bind, hr1]
      exact hr2
    · rw [hg2 j]
      simp only [List.length_cons]
      by_cases e : j = o + i
      · subst e
        rw [if_neg (by omega), if_pos (by omega)]
        simp only [Nat.sub_self, List.getElem?_cons_zero]
        rw [Array.getElem?_setIfInBounds_self_of_lt (by omega)]
      · by_cases hj : o + (i + 1) ≤ j ∧ j < o + (i + 1) + vs.length
        · rw [if_pos hj, if_pos (by omega)]
          have : j - (o + i) = (j - (o + (i + 1))) + 1 := by omega
          rw [this, List.getElem?_cons_succ]
        · rw [if_neg hj, if_neg (by omega), Array.getElem?_setIfInBounds_ne (Ne.symm e)]

theorem all_one_rel [Sym] {vs vs' : List Value} (h : VRs β vs vs') (h1 : vs.all one = true) : vs'.all one = true := by
  induction vs generalizing vs' with
  | nil => rw [h.of_nil]; rfl
  | cons v vs ih =>
    obtain ⟨y, r, rfl, hy, hr⟩ := h.of_cons
    simp only [List.all_cons, Bool.and_eq_true] at h1 ⊢
    exact ⟨by rw [hy.one_eq]; exact h1.1, ih hr h1.2⟩

theorem rep_write [Sym] {V V' : View} {i : Nat} {p : Pl} {ob : AObj} (hr : Rep β V w) (hp : β i = some p) (hl : V i ≠ none) (hw : Wrote w w' p.b) (hV : ∀ j, j ≠ i → V' j = V j) (hVi : V' i = some ob)
    (hob : ∃ obj, w'.heap[p.b]? = some obj ∧ OR β p obj ob) : Rep β V' w' where
  inb := fun j q h => by rw [hw.size]; exact hr.inb j q h
  obj := fun j q ob' h hv => by
    by_cases e : j = i
    · subst e
      rw [hp] at h; cases h
      rw [hVi] at hv; cases hv
      exact hob
    · rw [hV j e] at hv
      obtain ⟨o', h1, h2⟩ := hr.obj j q ob' h hv
      refine ⟨o', ?_, h2⟩
      rw [hw.other]
      · exact h1
      · intro eb
        exact e (hr.inj j i q p h hp (by rw [hv]; simp) hl eb)
  inj := fun j k q r h1 h2 h3 h4 h5 => by
    have nz : ∀ m, V' m ≠ none → V m ≠ none := fun m hm => by
      by_cases e : m = i
      · subst e; exact hl
      · rwa [hV m e] at hm
    exact hr.inj j k q r h1 h2 (nz j h3) (nz k h4) h5

theorem post_write [Sym] {i : Nat} {p : Pl} {ob : AObj} (hi : Inv N β L st w) (hp : β i = some p) (hl : st.mem.get i ≠ none) (hw : Wrote w w' p.b)
    (hob : ∃ obj, w'.heap[p.b]? = some obj ∧ OR β p obj ob) : Post st (st.write i (some ob)) β w β w' where
  ext := fun _ _ h => h
  dom := fun _ h => .inl h
  rep := rep_write hi.rep hp hl hw (fun j hj => by simp [St.write, Ne.symm hj]) (by simp [St.write]) hob
  frame := fun b hb => by
    by_cases e : b = p.b
    · subst e
      refine .inr ⟨i, p, hp, rfl, hl, ?_⟩
      by_cases hb : i < st.base
      · exact .inl (note_mem.2 (.inr ⟨rfl, hb⟩))
      · exact .inr (by omega)
    · exact .inl (hw.other b e)
  logd := fun j hj => by
    rcases note_mem.1 hj with h | ⟨rfl, h⟩
    · exact .inl h
    · exact .inr (by rw [hp]; simp)
  fresh := fun j q h1 h2 => by rw [h1] at h2; cases h2
  size := by rw [hw.size]; exact Nat.le_refl _
  os := hw.os
  tape := hw.tape
  output := hw.output

theorem splice_some {c c' vs : List Value} {k : Nat} (h : spliceE c k vs = some c') : k + vs.length ≤ c.length ∧ c' = c.take k ++ (vs ++ c.drop (k + vs.length)) := by
  unfold spliceE at h
  cases hb : Nat.ble (k + vs.length) c.length with
  | false => rw [hb] at h; cases h
  | true => rw [hb] at h; simp only [cond_true, Option.some.injEq] at h; exact ⟨by simpa using hb, h.symm⟩
theorem splice_get {c vs : List Value} {k : Nat} (hk : k + vs.length ≤ c.length) (j : Nat) :
    (c.take k ++ (vs ++ c.drop (k + vs.length)))[j]? = if k ≤ j ∧ j < k + vs.length then vs[j - k]? else c[j]? := by
  have h1 : (c.take k).length = k := by simp; omega
  by_cases a : j < k
  · rw [List.getElem?_append_left (by omega), List.getElem?_take_of_lt a, if_neg (by omega)]
  · rw [List.getElem?_append_right (by omega), h1]
    by_cases b : j < k + vs.length
    · rw [List.getElem?_append_left (by omega), if_pos (by omega)]
    · rw [List.getElem?_append_right (by omega), if_neg (by omega), List.getElem?_drop]
      congr 1; omega

/-- Stores into a row: the new object. -/
theorem OR_splice [Sym] {p : Pl} {c vs vs' : List Value} {z k : Nat} {arr arr' : Array Value} {T : TypeId} {fr : Nat × Nat} (hor : OR β p (.cells arr T fr) (.cells c z)) (hv : VRs β vs vs')
    (hk : k + vs.length ≤ c.length) (hs : arr'.size = arr.size) (hg : ∀ j, arr'[j]? = if p.o + k ≤ j ∧ j < p.o + k + vs'.length then vs'[j - (p.o + k)]? else arr[j]?) :
    OR β p (.cells arr' T fr) (.cells (c.take k ++ (vs ++ c.drop (k + vs.length))) z) := by
  obtain ⟨a1, T1, fr1, he, h2, h3, h4, h5, h6⟩ := hor
  cases he
  have hlen := hv.1
  refine ⟨arr', T, fr, rfl, by rw [hs]; exact h2, h3, ?_, h5, fun j v hj => ?_⟩
  · simp; omega
  · rw [splice_get hk] at hj
    rw [hg]
    by_cases a : k ≤ j ∧ j < k + vs.length
    · rw [if_pos a] at hj
      obtain ⟨y, hy, hr⟩ := hv.get hj
      refine ⟨y, ?_, hr⟩
      rw [if_pos (by omega), ← hy]
      congr 1; omega
    · rw [if_neg a] at hj
      obtain ⟨y, hy, hr⟩ := h6 j v hj
      exact ⟨y, by rw [if_neg (by omega)]; exact hy, hr⟩

theorem store_sound [Sym] {i k : Nat} {vs vs' : List Value} {p : Pl} {k' : Nat} (hi : Inv N β L st w) (h : storeE st i k vs = some st') (hp : β i = some p) (hv : VRs β vs vs') (hk : vs = [] ∨ k' = p.o + k) :
    ∃ w', (storeCells ⟨p.b, k', none⟩ vs').run P w = .ok () w' ∧ Post st st' β w β w' ∧ Mono st st' := by
  unfold storeE at h
  split at h
  · rename_i c z hm
    cases hone : vs.all one with
    | false => simp [hone] at h
    | true =>
      simp only [hone, cond_true, Option.map_eq_some_iff] at h
      obtain ⟨c', hc', rfl⟩ := h
      obtain ⟨hle, rfl⟩ := splice_some hc'
      obtain ⟨obj, hh, hor⟩ := hi.rep.obj i p _ hp hm
      have hor0 := hor
      obtain ⟨arr, T, fr, rfl, h2, h3, h4, h5, h6⟩ := hor0
      have hl : st.mem.get i ≠ none := by rw [hm]; simp
      have hil := wf_lt hi.wf hl
      rcases hk with rfl | rfl
      · have : vs' = [] := hv.of_nil
        subst this
        refine ⟨w, rfl, post_write hi hp hl (.refl w _) ⟨_, hh, ?_⟩, mono_write hil hl⟩
        simpa using hor
      · obtain ⟨w', arr', hr, hh', hs', hw', hg'⟩ := run_stores (P := P) (o := p.o + k) vs' 0 arr w hh (by rw [h2]; exact h5) (by have := hv.1; omega) (all_one_rel hv hone)
        exact ⟨w', hr, post_write hi hp hl hw' ⟨_, hh', OR_splice hor hv hle hs' (by simpa using hg')⟩, mono_write hil hl⟩
  · cases h
end
end Go.E
