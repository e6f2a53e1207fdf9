/- A region that draws its order: one operation's step. -/
import Derived.Test.YtfgdoliihmjnoaaDoorXE13
set_option linter.unusedSimpArgs false
set_option linter.unusedVariables false
namespace Go.E
open Go

section
variable {P : Program} {L : Lk} {callf : CallF} {ops : Array Oper} {T : Tab P L callf ops} {β0 β β' : Emb} {w0 w w' : World} {S : Nat → Prop} {μ μ' : View} {j : Nat}

theorem dead_to (h : TabOk T) {i : Nat} (hi : i < (T.σ 0).next) (hd : (T.σ 0).mem.get i = none) : ∀ k, k ≤ ops.size → (T.σ k).mem.get i = none
  | 0, _ => hd
  | k + 1, hk => by
    rw [mem_out h (by omega)]
    exact (tab_mono h (by omega)).dead i (Nat.lt_of_lt_of_le hi (next_le h k 0 (by omega) (by omega))) (dead_to h hi hd k (by omega))

theorem log_gen (h : TabOk T) {oj : Oper} (hjr : RowOk P L callf ops T j oj) (hl : (T.out j).log ≠ []) : T.kd j = .gen := by
  have hr := hjr.run
  cases hb : wantedE ops.toList (T.θ j) oj with
  | false =>
    rw [hb] at hr
    simp only [cond_false, Option.some.injEq, Prod.mk.injEq] at hr
    rw [← hr.2.2] at hl
    exact absurd rfl hl
  | true =>
    rw [hb] at hr
    simp only [cond_true] at hr
    unfold opE at hr
    split at hr
    · simp only [Option.some.injEq, Prod.mk.injEq] at hr
      rw [← hr.2.2] at hl; exact absurd rfl hl
    · split at hr
      · simp only [Option.some.injEq, Prod.mk.injEq] at hr
        rw [← hr.2.2] at hl; exact absurd rfl hl
      · split at hr
        · simp only [Option.bind_eq_some_iff, Option.map_eq_some_iff, Prod.mk.injEq] at hr
          obtain ⟨_, _, _, _, _, _, h2⟩ := hr
          rw [← h2] at hl; exact absurd rfl hl
        · simp only [Option.map_eq_some_iff, Prod.mk.injEq] at hr
          obtain ⟨_, _, _, h2, _⟩ := hr
          exact h2.symm

theorem old_step [Sym] (h : TabOk T) (hm : MInv T β0 w0 S β μ w) (hj : j < ops.size) (hb0 : ∀ x, β0 x ≠ none → x < (T.σ 0).next ∨ (T.σ ops.size).next ≤ x) {b : Nat}
    (hx : ∃ i q, β i = some q ∧ q.b = b ∧ (T.σ j).mem.get i ≠ none ∧ i ∈ (T.out j).log) : w0.heap.size ≤ b ∨ Old T β0 b := by
  obtain ⟨i, q, h1, rfl, h3, h4⟩ := hx
  cases hb : β0 i with
  | none => exact hm.fresh i q h1 hb
  | some q0 =>
    have := hm.ext i q0 hb
    rw [h1] at this; cases this
    have hlt := log_lt h hj h4
    have hle := next_le h ops.size j (by omega) (Nat.le_refl _)
    have hi0 : i < (T.σ 0).next := by
      rcases hb0 i (by rw [hb]; simp) with h5 | h5
      · exact h5
      · omega
    refine .inr ⟨i, q, hb, rfl, fun hd => h3 (dead_to h hi0 hd j (by omega)), ?_⟩
    by_cases hbs : i < (T.σ 0).base
    · exact .inl (log_to h hj h4 hbs ops.size (by omega) (Nat.le_refl _))
    · exact .inr (by omega)

theorem minv_step [Sym] (h : TabOk T) (hm : MInv T β0 w0 S β μ w) (hd : Down T S) (hr : Ready T S j) (hb0 : ∀ x, β0 x ≠ none → x < (T.σ 0).next ∨ (T.σ ops.size).next ≤ x)
    (hμ1 : ∀ x, Touch T j x → μ' x = (T.out j).mem.get x) (hμ2 : ∀ x, ¬ Touch T j x → μ' x = μ x) (rep' : Rep β' μ' w') (ext' : ∀ i p, β i = some p → β' i = some p)
    (dom' : ∀ x, β' x ≠ none → β x ≠ none ∨ ((T.σ j).next ≤ x ∧ x < (T.σ (j + 1)).next)) (logj : ∀ x, x ∈ (T.out j).log → β x ≠ none)
    (frame' : ∀ b, b < w.heap.size → w'.heap[b]? = w.heap[b]? ∨ ∃ i q, β i = some q ∧ q.b = b ∧ (T.σ j).mem.get i ≠ none ∧ i ∈ (T.out j).log)
    (fresh' : ∀ x p, β' x = some p → β x = none → w.heap.size ≤ p.b ∨ ∃ i q, β i = some q ∧ q.b = p.b ∧ (T.σ j).mem.get i ≠ none ∧ i ∈ (T.out j).log)
    (size' : w.heap.size ≤ w'.heap.size) (os' : w'.os = w.os) (tape' : w'.tape = w.tape) (output' : w'.output = w.output) : MInv T β0 w0 (fun i => i = j ∨ S i) β' μ' w' where
  rep := rep'
  ext := fun i p hp => ext' i p (hm.ext i p hp)
  dom := fun x hx => by
    rcases dom' x hx with h1 | h1
    · rcases hm.dom x h1 with h2 | ⟨i, h2, h3⟩
      · exact .inl h2
      · exact .inr ⟨i, .inr h2, h3⟩
    · exact .inr ⟨j, .inl rfl, h1⟩
  agree := fun x k hk h1 h2 => by
    by_cases ht : Touch T j x
    · have hjk := h2 j (.inl rfl) ht
      rw [hμ1 x ht, ← mem_out h hr.1]
      refine (untouched_to h k (i := j + 1) hjk hk fun i hi1 hi2 hti => ?_).symm
      obtain ⟨oj, hjr⟩ := h.row j hr.1
      obtain ⟨oi, hir⟩ := h.row i (by omega)
      rcases h1 i hi2 hti with e | hs
      · omega
      · obtain ⟨hp, _⟩ := apart_behind h hd hr hir hjr (by omega) hs
        have hsp := (okPair_spec hp).1
        rw [rc_log hjr, rc_kd hir] at hsp
        have hle0 := next_le h j 0 (by omega) (by omega)
        have hlen := next_le h ops.size (j + 1) (by omega) (Nat.le_refl _)
        rcases ht with ht | ht <;> rcases hti with hti | hti
        · have := log_gen h hir (fun e => by rw [e] at hti; cases hti)
          rw [this] at hsp
          rcases hsp with e | e
          · rw [e] at ht; cases ht
          · exact e
        · have h5 := log_lt h hr.1 ht
          have h6 := next_le h i j (by omega) (by omega)
          omega
        · have h5 := hm.logd i hs x hti
          rcases hm.dom x h5 with h6 | ⟨i', hs', h7, h8⟩
          · have := hb0 x h6; omega
          · have := fresh_ge h (hd i' hs').1 hr.1 h7 h8 ht.1 ht.2
            subst this; exact hr.2.1 hs'
        · have := fresh_ge h (by omega) hr.1 hti.1 hti.2 ht.1 ht.2
          omega
    · rw [hμ2 x ht]
      refine hm.agree x k hk (fun i hi hti => ?_) fun i hs hti => h2 i (.inr hs) hti
      rcases h1 i hi hti with e | hs
      · subst e; exact absurd hti ht
      · exact hs
  logd := fun i hi x hx => by
    have up : β x ≠ none → β' x ≠ none := fun hn => by
      cases hb : β x with
      | none => exact absurd hb hn
      | some p => rw [ext' x p hb]; simp
    rcases hi with rfl | hi
    · exact up (logj x hx)
    · exact up (hm.logd i hi x hx)
  frame := fun b hb => by
    rcases frame' b (Nat.lt_of_lt_of_le hb hm.size) with h1 | h1
    · rcases hm.frame b hb with h2 | h2
      · exact .inl (h1.trans h2)
      · exact .inr h2
    · rcases old_step h hm hr.1 hb0 h1 with h2 | h2
      · omega
      · exact .inr h2
  fresh := fun x p h1 h2 => by
    cases hb : β x with
    | some q =>
      have := ext' x q hb
      rw [h1] at this; cases this
      exact hm.fresh x p hb h2
    | none =>
      rcases fresh' x p h1 hb with h3 | h3
      · exact .inl (Nat.le_trans hm.size h3)
      · exact old_step h hm hr.1 hb0 h3
  size := Nat.le_trans hm.size size'
  os := os'.trans hm.os
  tape := tape'.trans hm.tape
  output := output'.trans hm.output

/-- An operation that touches nothing. -/
theorem minv_same [Sym] (h : TabOk T) (hm : MInv T β0 w0 S β μ w) (hd : Down T S) (hr : Ready T S j) (hb0 : ∀ x, β0 x ≠ none → x < (T.σ 0).next ∨ (T.σ ops.size).next ≤ x)
    (hout : T.out j = fresh (T.σ j)) : MInv T β0 w0 (fun i => i = j ∨ S i) β μ w := by
  have hno : ∀ x, ¬ Touch T j x := fun x ht => by
    rcases ht with ht | ht
    · rw [hout] at ht; cases ht
    · have := next_out h hr.1
      rw [hout] at this
      simp only [fresh] at this
      omega
  exact minv_step h hm hd hr hb0 (fun x ht => absurd ht (hno x)) (fun _ _ => rfl) hm.rep (fun _ _ h => h) (fun _ h => .inl h) (fun x hx => by rw [hout] at hx; cases hx)
    (fun _ _ => .inl rfl) (fun x p h1 h2 => by rw [h1] at h2; cases h2) (Nat.le_refl _) rfl rfl rfl

theorem new_none [Sym] (h : TabOk T) (hm : MInv T β0 w0 S β μ w) (hd : Down T S) (hr : Ready T S j) (hb0 : ∀ x, β0 x ≠ none → x < (T.σ 0).next ∨ (T.σ ops.size).next ≤ x)
    {x : Nat} (h1 : (T.σ j).next ≤ x) (h2 : x < (T.σ (j + 1)).next) : β x = none := by
  apply Classical.byContradiction
  intro hn
  rcases hm.dom x hn with h3 | ⟨i, hs, h4, h5⟩
  · have := hb0 x h3
    have h6 := next_le h j 0 (by omega) (by have := hr.1; omega)
    have h7 := next_le h ops.size (j + 1) (by have := hr.1; omega) (Nat.le_refl _)
    omega
  · have := fresh_ge h (hd i hs).1 hr.1 h4 h5 h1 h2
    subst this; exact hr.2.1 hs

theorem minv_alloc [Sym] (h : TabOk T) (hm : MInv T β0 w0 S β μ w) (hd : Down T S) (hr : Ready T S j) (hb0 : ∀ x, β0 x ≠ none → x < (T.σ 0).next ∨ (T.σ ops.size).next ≤ x)
    {ob : AObj} (hout : T.out j = (fresh (T.σ j)).new ob) {obj : Obj} {s z d : Nat} (hob : OR (β.add (T.σ j).next ⟨w.heap.size, 0, s, z⟩) ⟨w.heap.size, 0, s, z⟩ obj ob) :
    MInv T β0 w0 (fun i => i = j ∨ S i) (β.add (T.σ j).next ⟨w.heap.size, 0, s, z⟩) (fun x => if x = (T.σ j).next then some ob else μ x) { w with heap := w.heap.push obj, drawn := d } := by
  have hnx : (T.σ (j + 1)).next = (T.σ j).next + 1 := by rw [next_out h hr.1, hout]; rfl
  have hbn := new_none h hm hd hr hb0 (x := (T.σ j).next) (Nat.le_refl _) (by omega)
  have htouch : ∀ x, Touch T j x ↔ x = (T.σ j).next := fun x => by
    unfold Touch
    rw [hout, hnx]
    constructor
    · rintro (h1 | h1)
      · cases h1
      · omega
    · intro h1; exact .inr (by omega)
  refine minv_step h hm hd hr hb0 (fun x ht => ?_) (fun x ht => ?_) (rep_new hm.rep hbn (fun i hi => by simp [hi]) (by simp) hob) (Emb.add_old hbn) (fun x hx => ?_) (fun x hx => by rw [hout] at hx; cases hx) (fun b hb => .inl ?_) (fun x p h1 h2 => ?_) (by simp) rfl rfl rfl
  · rw [htouch] at ht
    rw [hout]; subst ht
    simp [St.new, fresh]
  · rw [htouch] at ht; simp [ht]
  · by_cases e : x = (T.σ j).next
    · exact .inr (by omega)
    · left; simpa [Emb.add, e] using hx
  · show (w.heap.push obj)[b]? = _
    rw [Array.getElem?_push_lt hb, ← Array.getElem?_eq_getElem]
  · rcases Emb.add_inv h1 with ⟨_, rfl⟩ | ⟨_, h3⟩
    · exact .inl (Nat.le_refl _)
    · rw [h3] at h2; cases h2

/-- An operation that writes, or calls. -/
theorem minv_gen [Sym] (h : TabOk T) (hm : MInv T β0 w0 S β μ w) (hd : Down T S) (hr : Ready T S j) (hb0 : ∀ x, β0 x ≠ none → x < (T.σ 0).next ∨ (T.σ ops.size).next ≤ x)
    {oj : Oper} (hjr : RowOk P L callf ops T j oj) (hkd : T.kd j = .gen) (hp : Post (fresh (T.σ j)) (T.out j) β w β' w') :
    ∃ μ', MInv T β0 w0 (fun i => i = j ∨ S i) β' μ' w' := by
  have ag : ∀ x, β x ≠ none → (T.σ j).mem.get x ≠ none → μ x = (T.σ j).mem.get x := fun x h1 h2 => agree_gen h hm hd hr hjr hb0 hkd h1 h2
  have hnx := next_out h hr.1
  have hmono := tab_mono h hr.1
  have lg : ∀ i, (i ∈ (T.out j).log ∨ (fresh (T.σ j)).base ≤ i) → (T.σ j).mem.get i ≠ none → i ∈ (T.out j).log := fun i h1 h2 => by
    rcases h1 with h1 | h1
    · exact h1
    · exact absurd (tab_wf h j (by have := hr.1; omega) i h1) h2
  refine ⟨fun x => if Classical.propDecidable (Touch T j x) |>.decide then (T.out j).mem.get x else μ x, ?_⟩
  have hμ1 : ∀ x, Touch T j x → (if Classical.propDecidable (Touch T j x) |>.decide then (T.out j).mem.get x else μ x) = (T.out j).mem.get x := fun x ht => by
    rw [if_pos]; simpa using ht
  have hμ2 : ∀ x, ¬ Touch T j x → (if Classical.propDecidable (Touch T j x) |>.decide then (T.out j).mem.get x else μ x) = μ x := fun x ht => by
    rw [if_neg]; simpa using ht
  -- an old number, not touched
  have old : ∀ x p, β' x = some p → ¬ Touch T j x → β x = some p := fun x p h1 h2 => by
    cases hb : β x with
    | some q => have := hp.ext x q hb; rw [h1] at this; exact this.symm
    | none =>
      rcases hp.dom x (by rw [h1]; simp) with h3 | h3
      · exact absurd hb h3
      · exact absurd (.inr ⟨h3.1, by rw [hnx]; exact h3.2⟩) h2
  have keep : ∀ x, ¬ Touch T j x → (T.out j).mem.get x = (T.σ j).mem.get x := fun x h1 => by rw [← mem_out h hr.1]; exact untouched h hr.1 h1
  -- of two numbers of one block, one touched
  have one_touched : ∀ x y p q, β' x = some p → β' y = some q → Touch T j x → ¬ Touch T j y → (T.out j).mem.get x ≠ none → μ y ≠ none → p.b = q.b → x = y := by
    intro x y p q h1 h2 h3 h4 h5 h6 h7
    have hy := old y q h2 h4
    by_cases hl : (T.σ j).mem.get y = none
    · exfalso
      cases hb : β x with
      | some p' =>
        have := hp.ext x p' hb
        rw [h1] at this; cases this
        have hxl : (T.σ j).mem.get x ≠ none := fun hd' => by
          rcases h3 with h3 | h3
          · exact h5 (hmono.dead x (log_lt h hr.1 h3) hd')
          · rw [new_none h hm hd hr hb0 h3.1 h3.2] at hb; cases hb
        have := hm.rep.inj x y p q hb hy (by rw [ag x (by rw [hb]; simp) hxl]; exact hxl) h6 h7
        subst this; exact h4 h3
      | none =>
        rcases hp.fresh x p h1 hb with h8 | ⟨i, r, a1, a2, a3, a4⟩
        · have := hm.rep.inb y q hy; omega
        · have := hm.rep.inj i y r q a1 hy (by rw [ag i (by rw [a1]; simp) a3]; exact a3) h6 (a2.trans h7)
          subst this; exact a3 hl
    · exact hp.rep.inj x y p q h1 h2 h5 (by rw [keep y h4]; exact hl) h7
  refine minv_step h hm hd hr hb0 hμ1 hμ2 ⟨hp.rep.inb, fun x p ob h1 h2 => ?_, fun x y p q h1 h2 h3 h4 h5 => ?_⟩ hp.ext (fun x hx => by
      rcases hp.dom x hx with h1 | h1
      · exact .inl h1
      · exact .inr ⟨h1.1, by rw [hnx]; exact h1.2⟩) (fun x hx => by
      rcases hp.logd x hx with h1 | h1
      · cases h1
      · exact h1) (fun b hb => by
      rcases hp.frame b hb with h1 | ⟨i, p, a1, a2, a3, a4⟩
      · exact .inl h1
      · exact .inr ⟨i, p, a1, a2, a3, lg i a4 a3⟩) (fun x p h1 h2 => by
      rcases hp.fresh x p h1 h2 with h3 | ⟨i, q, a1, a2, a3, a4⟩
      · exact .inl h3
      · exact .inr ⟨i, q, a1, a2, a3, lg i a4 a3⟩) hp.size hp.os hp.tape hp.output
  · by_cases ht : Touch T j x
    · rw [hμ1 x ht] at h2
      exact hp.rep.obj x p ob h1 h2
    · rw [hμ2 x ht] at h2
      have hx := old x p h1 ht
      by_cases hl : (T.σ j).mem.get x = none
      · obtain ⟨obj, o1, o2⟩ := hm.rep.obj x p ob hx h2
        refine ⟨obj, ?_, o2.mono hp.ext⟩
        rcases hp.frame p.b (hm.rep.inb x p hx) with h3 | ⟨i, q, a1, a2, a3, a4⟩
        · rw [h3]; exact o1
        · have := hm.rep.inj i x q p a1 hx (by rw [ag i (by rw [a1]; simp) a3]; exact a3) (by rw [h2]; simp) a2
          subst this; exact absurd hl a3
      · have := ag x (by rw [hx]; simp) hl
        rw [this, ← keep x ht] at h2
        exact hp.rep.obj x p ob h1 h2
  · by_cases t1 : Touch T j x <;> by_cases t2 : Touch T j y
    · rw [hμ1 x t1] at h3; rw [hμ1 y t2] at h4
      exact hp.rep.inj x y p q h1 h2 h3 h4 h5
    · rw [hμ1 x t1] at h3; rw [hμ2 y t2] at h4
      exact one_touched x y p q h1 h2 t1 t2 h3 h4 h5
    · rw [hμ2 x t1] at h3; rw [hμ1 y t2] at h4
      exact (one_touched y x q p h2 h1 t2 t1 h4 h3 h5.symm).symm
    · rw [hμ2 x t1] at h3; rw [hμ2 y t2] at h4
      exact hm.rep.inj x y p q (old x p h1 t1) (old y q h2 t2) h3 h4 h5
end
end Go.E
