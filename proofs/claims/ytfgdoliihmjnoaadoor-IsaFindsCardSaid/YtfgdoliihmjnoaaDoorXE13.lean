/- A region that draws its order: every order comes to what the text's order comes to. -/
import Derived.Test.YtfgdoliihmjnoaaDoorXE12
set_option linter.unusedSimpArgs false
set_option linter.unusedVariables false
namespace Go.E
open Go

section
variable {P : Program} {L : Lk} {callf : CallF} {ops : Array Oper} {T : Tab P L callf ops}

def Touch (T : Tab P L callf ops) (j x : Nat) : Prop := x ∈ (T.out j).log ∨ ((T.σ j).next ≤ x ∧ x < (T.σ (j + 1)).next)

/-- The facts of the table. -/
structure TabOk (T : Tab P L callf ops) : Prop where
  row : ∀ j, j < ops.size → ∃ o, RowOk P L callf ops T j o
  mono : CallMono callf
  wf0 : WF (T.σ 0)

theorem fresh_wf {st : St} (h : WF st) : WF (fresh st) := h
theorem row_mono (hT : CallMono callf) {j : Nat} {o : Oper} (hr : RowOk P L callf ops T j o) (hw : WF (T.σ j)) : Mono (fresh (T.σ j)) (T.out j) := by
  have h := hr.run
  cases hb : wantedE ops.toList (T.θ j) o with
  | true => rw [hb] at h; exact op_mono hT (fresh_wf hw) h
  | false => rw [hb] at h; simp only [cond_false, Option.some.injEq, Prod.mk.injEq] at h; rw [← h.2.2]; exact .refl _

theorem tab_wf (h : TabOk T) : ∀ j, j ≤ ops.size → WF (T.σ j)
  | 0, _ => h.wf0
  | j + 1, hj => by
    obtain ⟨o, hr⟩ := h.row j (by omega)
    have hw := tab_wf h j (by omega)
    rw [hr.σ]
    exact (row_mono h.mono hr hw).wf (fresh_wf hw)
theorem tab_mono (h : TabOk T) {j : Nat} (hj : j < ops.size) : Mono (fresh (T.σ j)) (T.out j) := by
  obtain ⟨o, hr⟩ := h.row j hj
  exact row_mono h.mono hr (tab_wf h j (by omega))
theorem next_out (h : TabOk T) {j : Nat} (hj : j < ops.size) : (T.σ (j + 1)).next = (T.out j).next := by
  obtain ⟨o, hr⟩ := h.row j hj
  rw [hr.σ]; rfl
theorem mem_out (h : TabOk T) {j : Nat} (hj : j < ops.size) : (T.σ (j + 1)).mem = (T.out j).mem := by
  obtain ⟨o, hr⟩ := h.row j hj
  rw [hr.σ]; rfl
theorem next_succ (h : TabOk T) {j : Nat} (hj : j < ops.size) : (T.σ j).next ≤ (T.σ (j + 1)).next := by
  rw [next_out h hj]; exact (tab_mono h hj).next
theorem next_le (h : TabOk T) : ∀ (j i : Nat), i ≤ j → j ≤ ops.size → (T.σ i).next ≤ (T.σ j).next
  | 0, i, h1, _ => by have : i = 0 := by omega
                      subst this; exact Nat.le_refl _
  | j + 1, i, h1, h2 => by
    by_cases e : i = j + 1
    · subst e; exact Nat.le_refl _
    · exact Nat.le_trans (next_le h j i (by omega) (by omega)) (next_succ h (by omega))
theorem tab_base (h : TabOk T) : ∀ j, j ≤ ops.size → (T.σ j).base = (T.σ 0).base
  | 0, _ => rfl
  | j + 1, hj => by
    obtain ⟨o, hr⟩ := h.row j (by omega)
    rw [hr.σ]; exact tab_base h j (by omega)
theorem log_lt (h : TabOk T) {j : Nat} (hj : j < ops.size) {x : Nat} (hx : x ∈ (T.out j).log) : x < (T.σ j).next := by
  rcases (tab_mono h hj).logb x hx with h1 | h1
  · simp [Go.E.fresh] at h1
  · exact h1
theorem untouched (h : TabOk T) {j : Nat} (hj : j < ops.size) {x : Nat} (ht : ¬ Touch T j x) : (T.σ (j + 1)).mem.get x = (T.σ j).mem.get x := by
  rw [mem_out h hj]
  by_cases h1 : x < (T.σ j).next
  · exact (tab_mono h hj).keep x h1 h1 fun hx => ht (.inl hx)
  · have h2 : (T.σ (j + 1)).next ≤ x := by
      apply Classical.byContradiction
      intro hc
      exact ht (.inr ⟨by omega, by omega⟩)
    rw [next_out h hj] at h2
    rw [(tab_mono h hj).wf (fresh_wf (tab_wf h j (by omega))) x h2, tab_wf h j (by omega) x (by omega)]
theorem untouched_to (h : TabOk T) {x i : Nat} : ∀ k, i ≤ k → k ≤ ops.size → (∀ j, i ≤ j → j < k → ¬ Touch T j x) → (T.σ k).mem.get x = (T.σ i).mem.get x
  | 0, h1, _, _ => by have : i = 0 := by omega
                      subst this; rfl
  | k + 1, h1, h2, h3 => by
    by_cases e : i = k + 1
    · subst e; rfl
    · rw [untouched h (by omega) (h3 k (by omega) (by omega))]
      exact untouched_to h k (by omega) (by omega) fun j a b => h3 j a (by omega)
theorem fresh_ge (h : TabOk T) {i j x : Nat} (hi : i < ops.size) (hj : j < ops.size) (h1 : (T.σ i).next ≤ x) (h2 : x < (T.σ (i + 1)).next) (h3 : (T.σ j).next ≤ x) (h4 : x < (T.σ (j + 1)).next) : i = j := by
  rcases Nat.lt_trichotomy i j with h5 | h5 | h5
  · have := next_le h j (i + 1) h5 (by omega); omega
  · exact h5
  · have := next_le h i (j + 1) h5 (by omega); omega
theorem rc_log {j : Nat} {o : Oper} (hr : RowOk P L callf ops T j o) : (T.rc j).log = (T.out j).log := by rw [hr.rc]
theorem rc_kd {j : Nat} {o : Oper} (hr : RowOk P L callf ops T j o) : (T.rc j).kd = T.kd j := by rw [hr.rc]
theorem rc_o {j : Nat} {o : Oper} (hr : RowOk P L callf ops T j o) : (T.rc j).o = o := by rw [hr.rc]

/-- Two operations: ordered, or apart. -/
theorem pair (h : TabOk T) {i j : Nat} {oi oj : Oper} (hij : i < j) (hj : j < ops.size) (hi : RowOk P L callf ops T i oi) (hjr : RowOk P L callf ops T j oj) :
    ((T.rc j).preds.testBit i = true ∨ (okPair (T.rc i) (T.rc j) = true ∧ oi.apart ops oj = true)) ∧ ∀ d, oi.dst = some d → oj.dst ≠ some d := by
  have := okWith_spec _ 0 hjr.ok i (by simp; exact hij)
  simp only [List.getElem_map, List.getElem_range, Nat.zero_add, rc_o hi, rc_o hjr] at this
  exact this

theorem okPair_spec {a b : Rec} (h : okPair a b = true) : (a.log = [] ∨ match b.kd with | .blind => True | .read i => i ∉ a.log | .gen => False) ∧
    (b.log = [] ∨ match a.kd with | .blind => True | .read i => i ∉ b.log | .gen => False) := by
  unfold okPair at h
  simp only [Bool.and_eq_true, Bool.or_eq_true, List.isEmpty_iff] at h
  refine ⟨h.1.imp id fun h => ?_, h.2.imp id fun h => ?_⟩
  · cases hk : b.kd <;> simp_all
  · cases hk : a.kd <;> simp_all

theorem predsE_spec {recs : List Rec} {o : Oper} {i : Nat} (h : (predsE recs o).testBit i = true) : ∃ e ∈ o.after, binding e = true ∧ ∃ r, recs[e.on]? = some r ∧ r.preds.testBit i = true := by
  unfold predsE at h
  have key : ∀ (l : List Edge) (m : Nat), (l.foldl (fun m e => cond (binding e) (m ||| ((recs[e.on]?).map (·.preds)).getD 0) m) m).testBit i = true →
      m.testBit i = true ∨ ∃ e ∈ l, binding e = true ∧ ∃ r, recs[e.on]? = some r ∧ r.preds.testBit i = true := by
    intro l
    induction l with
    | nil => intro m h; exact .inl h
    | cons e l ih =>
      intro m h
      rw [List.foldl_cons] at h
      rcases ih _ h with h1 | ⟨e', he', h2⟩
      · cases hb : binding e with
        | false => rw [hb] at h1; exact .inl h1
        | true =>
          rw [hb] at h1
          simp only [cond_true, Nat.testBit_or, Bool.or_eq_true] at h1
          rcases h1 with h1 | h1
          · exact .inl h1
          · cases hr : recs[e.on]? with
            | none => rw [hr] at h1; simp at h1
            | some r => rw [hr] at h1; exact .inr ⟨e, by simp, hb, r, hr, by simpa using h1⟩
      · exact .inr ⟨e', by simp [he'], h2⟩
  rcases key _ 0 h with h1 | ⟨e, he, h2⟩
  · simp at h1
  · exact ⟨e, by simpa using he, h2⟩

/-- What has been done: a set that holds, with an operation, all that come ahead of it. -/
def Down (T : Tab P L callf ops) (S : Nat → Prop) : Prop := ∀ j, S j → j < ops.size ∧ ∀ i, (T.rc j).preds.testBit i = true → S i
def Ready (T : Tab P L callf ops) (S : Nat → Prop) (j : Nat) : Prop := j < ops.size ∧ ¬ S j ∧ ∀ i, (T.rc j).preds.testBit i = true → i = j ∨ S i

theorem ready_of (h : TabOk T) {S : Nat → Prop} (hd : Down T S) {j : Nat} {o : Oper} (hj : j < ops.size) (hr : RowOk P L callf ops T j o) (hn : ¬ S j) (he : ∀ e ∈ o.after, binding e = true → S e.on) : Ready T S j := by
  refine ⟨hj, hn, fun i hi => ?_⟩
  rw [hr.rc] at hi
  simp only [Nat.testBit_or, Bool.or_eq_true] at hi
  rcases hi with hi | hi
  · obtain ⟨e, he', hb, r, hr', hbit⟩ := predsE_spec hi
    have hlt := hr.edges e he' hb
    have hrc : r = T.rc e.on := by
      rw [List.getElem?_map, List.getElem?_range hlt] at hr'
      simpa using hr'.symm
    subst hrc
    exact .inr ((hd _ (he e he' hb)).2 i hbit)
  · left
    simp only [Nat.one_shiftLeft, Nat.testBit_two_pow] at hi
    simpa using (of_decide_eq_true hi).symm
theorem self_bit {j : Nat} {o : Oper} (hr : RowOk P L callf ops T j o) : (T.rc j).preds.testBit j = true := by
  rw [hr.rc]; simp [Nat.testBit_or, Nat.one_shiftLeft, Nat.testBit_two_pow]

theorem down_add {S : Nat → Prop} (hd : Down T S) {j : Nat} (hr : Ready T S j) : Down T (fun i => i = j ∨ S i) := by
  rintro i (rfl | hi)
  · exact ⟨hr.1, hr.2.2⟩
  · exact ⟨(hd i hi).1, fun k hk => .inr ((hd i hi).2 k hk)⟩

/-- An operation that is ahead in the text and not done yet, or behind it and done: apart from the one that is ready. -/
theorem apart_ahead (h : TabOk T) {S : Nat → Prop} (hd : Down T S) {i j : Nat} {oi oj : Oper} (hr : Ready T S j) (hi : RowOk P L callf ops T i oi) (hjr : RowOk P L callf ops T j oj) (hij : i < j) (hn : ¬ S i) :
    okPair (T.rc i) (T.rc j) = true ∧ oi.apart ops oj = true := by
  rcases (pair h hij hr.1 hi hjr).1 with h1 | h1
  · rcases hr.2.2 i h1 with h2 | h2
    · omega
    · exact absurd h2 hn
  · exact h1
theorem apart_behind (h : TabOk T) {S : Nat → Prop} (hd : Down T S) {i j : Nat} {oi oj : Oper} (hr : Ready T S j) (hi : RowOk P L callf ops T i oi) (hjr : RowOk P L callf ops T j oj) (hij : j < i) (hs : S i) :
    okPair (T.rc j) (T.rc i) = true ∧ oj.apart ops oi = true := by
  rcases (pair h hij (hd i hs).1 hjr hi).1 with h1 | h1
  · exact absurd ((hd i hs).2 j h1) hr.2.1
  · exact h1

/-! ### The invariant: memory -/
def Old (T : Tab P L callf ops) (β0 : Emb) (b : Nat) : Prop := ∃ i p, β0 i = some p ∧ p.b = b ∧ (T.σ 0).mem.get i ≠ none ∧ (i ∈ (T.σ ops.size).log ∨ (T.σ 0).base ≤ i)

structure MInv [Sym] (T : Tab P L callf ops) (β0 : Emb) (w0 : World) (S : Nat → Prop) (β : Emb) (μ : View) (w : World) : Prop where
  rep : Rep β μ w
  ext : ∀ i p, β0 i = some p → β i = some p
  dom : ∀ x, β x ≠ none → β0 x ≠ none ∨ ∃ j, S j ∧ (T.σ j).next ≤ x ∧ x < (T.σ (j + 1)).next
  agree : ∀ x k, k ≤ ops.size → (∀ i, i < k → Touch T i x → S i) → (∀ i, S i → Touch T i x → i < k) → μ x = (T.σ k).mem.get x
  logd : ∀ j, S j → ∀ x, x ∈ (T.out j).log → β x ≠ none
  frame : ∀ b, b < w0.heap.size → w.heap[b]? = w0.heap[b]? ∨ Old T β0 b
  fresh : ∀ x p, β x = some p → β0 x = none → w0.heap.size ≤ p.b ∨ Old T β0 p.b
  size : w0.heap.size ≤ w.heap.size
  os : w.os = w0.os
  tape : w.tape = w0.tape
  output : w.output = w0.output

theorem log_to (h : TabOk T) {x i : Nat} (hi : i < ops.size) (hx : x ∈ (T.out i).log) (hb : x < (T.σ 0).base) : ∀ k, i < k → k ≤ ops.size → x ∈ (T.σ k).log
  | 0, h1, _ => by omega
  | k + 1, h1, h2 => by
    obtain ⟨o, hr⟩ := h.row k (by omega)
    rw [hr.σ]
    simp only [merge, List.mem_append, List.mem_filter, Bool.and_eq_true, Nat.blt_eq, Bool.not_eq_true']
    by_cases e : i = k
    · subst e
      by_cases hin : x ∈ (T.σ i).log
      · exact .inr hin
      · exact .inl ⟨hx, by rw [tab_base h i (by omega)]; exact hb, by simpa using hin⟩
    · exact .inr (log_to h hi hx hb k (by omega) (by omega))

/-- The numbers of an operation that is behind j in the text are not there at j. -/
theorem behind_none (h : TabOk T) {i j x : Nat} (hij : j < i) (hi : i < ops.size) (hx : (T.σ i).next ≤ x) : (T.σ j).mem.get x = none :=
  tab_wf h j (by omega) x (by have := next_le h i j (by omega) (by omega); omega)

/-- At a ready operation of the kind 'gen', memory is as in the text's order, as far as it is reached. -/
theorem agree_gen [Sym] (h : TabOk T) {β0 β : Emb} {w0 w : World} {S : Nat → Prop} {μ : View} (hm : MInv T β0 w0 S β μ w) (hd : Down T S) {j : Nat} {oj : Oper} (hr : Ready T S j) (hjr : RowOk P L callf ops T j oj)
    (hb0 : ∀ x, β0 x ≠ none → x < (T.σ 0).next ∨ (T.σ ops.size).next ≤ x) (hkd : T.kd j = .gen) {x : Nat} (hx : β x ≠ none) (hlive : (T.σ j).mem.get x ≠ none) : μ x = (T.σ j).mem.get x := by
  refine hm.agree x j (by have := hr.1; omega) (fun i hi ht => ?_) (fun i hs ht => ?_)
  · apply Classical.byContradiction
    intro hn
    obtain ⟨oi, hir⟩ := h.row i (by have := hr.1; omega)
    obtain ⟨hp, _⟩ := apart_ahead h hd hr hir hjr hi hn
    have := (okPair_spec hp).1
    rw [rc_log hir, rc_kd hjr, hkd] at this
    have hlog : (T.out i).log = [] := by rcases this with h | h; exact h; exact h.elim
    rcases ht with ht | ht
    · rw [hlog] at ht; cases ht
    · rcases hm.dom x hx with h1 | ⟨i', hs', h2, h3⟩
      · have := hb0 x h1
        have h4 := next_le h i 0 (by omega) (by have := hr.1; omega)
        have h5 := next_le h ops.size (i + 1) (by have := hr.1; omega) (Nat.le_refl _)
        omega
      · have := fresh_ge h (hd i' hs').1 (by have := hr.1; omega) h2 h3 ht.1 ht.2
        subst this; exact hn hs'
  · rcases Nat.lt_trichotomy i j with h1 | h1 | h1
    · exact h1
    · subst h1; exact absurd hs hr.2.1
    · exfalso
      obtain ⟨oi, hir⟩ := h.row i (hd i hs).1
      obtain ⟨hp, _⟩ := apart_behind h hd hr hir hjr h1 hs
      have := (okPair_spec hp).2
      rw [rc_log hir, rc_kd hjr, hkd] at this
      have hlog : (T.out i).log = [] := by rcases this with h | h; exact h; exact h.elim
      rcases ht with ht | ht
      · rw [hlog] at ht; cases ht
      · exact hlive (behind_none h h1 (hd i hs).1 ht.1)

theorem agree_read [Sym] (h : TabOk T) {β0 β : Emb} {w0 w : World} {S : Nat → Prop} {μ : View} (hm : MInv T β0 w0 S β μ w) (hd : Down T S) {j : Nat} {oj : Oper} (hr : Ready T S j) (hjr : RowOk P L callf ops T j oj)
    (hb0 : ∀ x, β0 x ≠ none → x < (T.σ 0).next ∨ (T.σ ops.size).next ≤ x) {x : Nat} (hkd : T.kd j = .read x) (hx : β x ≠ none) (hlive : (T.σ j).mem.get x ≠ none) : μ x = (T.σ j).mem.get x := by
  refine hm.agree x j (by have := hr.1; omega) (fun i hi ht => ?_) (fun i hs ht => ?_)
  · apply Classical.byContradiction
    intro hn
    obtain ⟨oi, hir⟩ := h.row i (by have := hr.1; omega)
    obtain ⟨hp, _⟩ := apart_ahead h hd hr hir hjr hi hn
    have := (okPair_spec hp).1
    rw [rc_log hir, rc_kd hjr, hkd] at this
    rcases ht with ht | ht
    · rcases this with h1 | h1
      · rw [h1] at ht; cases ht
      · exact h1 ht
    · rcases hm.dom x hx with h1 | ⟨i', hs', h2, h3⟩
      · have := hb0 x h1
        have h4 := next_le h i 0 (by omega) (by have := hr.1; omega)
        have h5 := next_le h ops.size (i + 1) (by have := hr.1; omega) (Nat.le_refl _)
        omega
      · have := fresh_ge h (hd i' hs').1 (by have := hr.1; omega) h2 h3 ht.1 ht.2
        subst this; exact hn hs'
  · rcases Nat.lt_trichotomy i j with h1 | h1 | h1
    · exact h1
    · subst h1; exact absurd hs hr.2.1
    · exfalso
      obtain ⟨oi, hir⟩ := h.row i (hd i hs).1
      obtain ⟨hp, _⟩ := apart_behind h hd hr hir hjr h1 hs
      have := (okPair_spec hp).2
      rw [rc_log hir, rc_kd hjr, hkd] at this
      rcases ht with ht | ht
      · rcases this with h2 | h2
        · rw [h2] at ht; cases ht
        · exact h2 ht
      · exact hlive (behind_none h h1 (hd i hs).1 ht.1)
end
end Go.E
