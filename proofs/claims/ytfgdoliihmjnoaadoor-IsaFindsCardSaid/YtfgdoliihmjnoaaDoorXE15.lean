/- A region that draws its order: sound. -/
import Derived.Test.YtfgdoliihmjnoaaDoorXE14
set_option linter.unusedSimpArgs false
set_option linter.unusedVariables false
namespace Go.E
open Go

section
variable {P : Program} {L : Lk} {callf : CallF} {ops : Array Oper} {T : Tab P L callf ops} {β0 β β' : Emb} {w0 w w' : World} {S : Nat → Prop} {μ μ' : View} {j : Nat} {a : Act}

structure TInv [Sym] (T : Tab P L callf ops) (S : Nat → Prop) (β : Emb) (a : Act) : Prop where
  tn : (T.θ 0).n = a.tmps.size
  td : ∀ (t i : Nat) o, S i → ops[i]? = some o → o.dst = some t → t < (T.θ 0).n → VR β (T.v i) (a.tmps.getD t undef)
  tu : ∀ (t : Nat), ((T.θ 0).n ≤ t ∨ ∀ (i : Nat) o, S i → ops[i]? = some o → o.dst ≠ some t) → VR β ((T.θ 0).get t) (a.tmps.getD t undef)
  defers : a.defers = []

theorem put_n (τ : Tm) (d : Option Tmp) (v : Value) : (τ.put d v).n = τ.n := by
  unfold Tm.put
  cases d with
  | none => rfl
  | some d => simp only; cases Nat.blt d τ.n <;> rfl
theorem put_get (τ : Tm) (d t : Nat) (v : Value) : (τ.put (some d) v).get t = if d = t ∧ t < τ.n then v else τ.get t := by
  unfold Tm.put
  simp only
  cases hb : Nat.blt d τ.n with
  | false =>
    have : ¬ d < τ.n := by rw [← Nat.blt_eq, hb]; simp
    rw [if_neg (by rintro ⟨rfl, h⟩; exact this h)]; rfl
  | true =>
    rw [Nat.blt_eq] at hb
    simp only [cond_true, Tm.get, PT.get_upd]
    by_cases e : d = t
    · subst e; simp [hb]
    · simp [e]
theorem put_get_ne (τ : Tm) (d : Option Tmp) (t : Nat) (v : Value) (h : d ≠ some t) : (τ.put d v).get t = τ.get t := by
  cases d with
  | none => rfl
  | some d =>
    rw [put_get, if_neg]
    rintro ⟨rfl, _⟩
    exact h rfl
theorem put_get_big (τ : Tm) (d : Option Tmp) (t : Nat) (v : Value) (h : τ.n ≤ t) : (τ.put d v).get t = τ.get t := by
  cases d with
  | none => rfl
  | some d => rw [put_get, if_neg (by omega)]

theorem theta_n (h : TabOk T) : ∀ k, k ≤ ops.size → (T.θ k).n = (T.θ 0).n
  | 0, _ => rfl
  | k + 1, hk => by
    obtain ⟨o, hr⟩ := h.row k (by omega)
    rw [hr.θ, put_n]; exact theta_n h k (by omega)
theorem theta_u (h : TabOk T) {t : Nat} : ∀ k, k ≤ ops.size → ((T.θ 0).n ≤ t ∨ ∀ (i : Nat) o, i < k → ops[i]? = some o → o.dst ≠ some t) → (T.θ k).get t = (T.θ 0).get t
  | 0, _, _ => rfl
  | k + 1, hk, hh => by
    obtain ⟨o, hr⟩ := h.row k (by omega)
    rw [hr.θ]
    rcases hh with h1 | h1
    · rw [put_get_big _ _ _ _ (by rw [theta_n h k (by omega)]; exact h1)]
      exact theta_u h k (by omega) (.inl h1)
    · rw [put_get_ne _ _ _ _ (h1 k o (by omega) hr.op)]
      exact theta_u h k (by omega) (.inr fun i o' hi ho => h1 i o' (by omega) ho)
theorem op_eq {i : Nat} {o o' : Oper} (hr : RowOk P L callf ops T i o) (ho : ops[i]? = some o') : o' = o := by
  have := hr.op; rw [ho] at this; exact Option.some.inj this
theorem theta_d (h : TabOk T) {t i : Nat} {o : Oper} (ho : ops[i]? = some o) (hd : o.dst = some t) (ht : t < (T.θ 0).n) : ∀ k, k ≤ ops.size → i < k → (T.θ k).get t = T.v i
  | 0, _, h1 => by omega
  | k + 1, hk, hi => by
    obtain ⟨ok, hr⟩ := h.row k (by omega)
    rw [hr.θ]
    by_cases e : i = k
    · subst e
      have := op_eq hr ho
      subst this
      rw [hd, put_get, if_pos ⟨rfl, by rw [theta_n h _ (by omega)]; exact ht⟩]
    · obtain ⟨oi, hir⟩ := h.row i (by omega)
      have := op_eq hir ho
      subst this
      have hne := (pair h (by omega : i < k) (by omega) hir hr).2 t hd
      rw [put_get_ne _ _ _ _ hne]
      exact theta_d h ho hd ht k (by omega) (by omega)

theorem looks_rel [Sym] (h : TabOk T) (hd : Down T S) (hr : Ready T S j) (ht : TInv T S β a) {oj : Oper} (hjr : RowOk P L callf ops T j oj) {t : Nat} (hl : t ∈ oj.looksAt ops) :
    VR β ((T.θ j).get t) (a.tmps.getD t undef) := by
  by_cases hn : (T.θ 0).n ≤ t
  · rw [theta_u h j (by have := hr.1; omega) (.inl hn)]
    exact ht.tu t (.inl hn)
  · by_cases hex : ∃ (i : Nat) (o : Oper), i < j ∧ ops[i]? = some o ∧ o.dst = some t
    · obtain ⟨i, o, hi, ho, hdst⟩ := hex
      obtain ⟨oi, hir⟩ := h.row i (by have := hr.1; omega)
      have := op_eq hir ho
      subst this
      rw [theta_d h ho hdst (by omega) j (by have := hr.1; omega) hi]
      by_cases hs : S i
      · exact ht.td t i o hs ho hdst (by omega)
      · obtain ⟨_, hap⟩ := apart_ahead h hd hr hir hjr hi hs
        exact absurd hl ((Oper.apart_spec hap).1 t hdst)
    · have hno : ∀ (i : Nat) o, i < j → ops[i]? = some o → o.dst ≠ some t := fun i o hi ho hdst => hex ⟨i, o, hi, ho, hdst⟩
      rw [theta_u h j (by have := hr.1; omega) (.inr hno)]
      refine ht.tu t (.inr fun i o hs ho hdst => ?_)
      rcases Nat.lt_trichotomy i j with h1 | h1 | h1
      · exact hno i o h1 ho hdst
      · subst h1; exact hr.2.1 hs
      · obtain ⟨oi, hir⟩ := h.row i (hd i hs).1
        have := op_eq hir ho
        subst this
        obtain ⟨_, hap⟩ := apart_behind h hd hr hir hjr h1 hs
        exact (Oper.apart_spec hap).2.2 t hdst hl

theorem act_put_ne (a : Act) (d : Option Tmp) (t : Nat) (v : Value) (h : d ≠ some t) : (a.put d v).tmps.getD t undef = a.tmps.getD t undef := by
  cases d with
  | none => rfl
  | some d =>
    have : d ≠ t := fun e => h (by rw [e])
    simp [Act.put, Array.getElem?_setIfInBounds_ne this]
theorem act_put_big (a : Act) (d : Option Tmp) (t : Nat) (v : Value) (h : a.tmps.size ≤ t) : (a.put d v).tmps.getD t undef = a.tmps.getD t undef := by
  cases d with
  | none => rfl
  | some d =>
    have h2 : ¬ t < a.tmps.size := by omega
    simp [Act.put, h2]
theorem act_put_self (a : Act) (t : Nat) (v : Value) (h : t < a.tmps.size) : (a.put (some t) v).tmps.getD t undef = v := by simp [Act.put, h]

theorem tinv_put [Sym] (h : TabOk T) (hd : Down T S) (hr : Ready T S j) (ht : TInv T S β a) {oj : Oper} (hjr : RowOk P L callf ops T j oj) (hb : ∀ i p, β i = some p → β' i = some p) {v' : Value} (hv : VR β' (T.v j) v') :
    TInv T (fun i => i = j ∨ S i) β' (a.put oj.dst v') where
  tn := by rw [ht.tn]; cases oj.dst <;> simp [Act.put]
  td := fun t i o hs ho hdst hlt => by
    rcases hs with rfl | hs
    · have := op_eq hjr ho
      subst this
      rw [hdst, act_put_self _ _ _ (by rw [← ht.tn]; exact hlt)]
      exact hv
    · obtain ⟨oi, hir⟩ := h.row i (hd i hs).1
      have := op_eq hir ho
      subst this
      have hne : oj.dst ≠ some t := by
        rcases Nat.lt_trichotomy i j with h1 | h1 | h1
        · exact (pair h h1 hr.1 hir hjr).2 t hdst
        · subst h1; exact absurd hs hr.2.1
        · intro e; exact (pair h h1 (hd i hs).1 hjr hir).2 t e hdst
      rw [act_put_ne _ _ _ _ hne]
      exact (ht.td t i o hs ho hdst hlt).mono hb
  tu := fun t hh => by
    rcases hh with h1 | h1
    · rw [act_put_big _ _ _ _ (by rw [← ht.tn]; exact h1)]
      exact (ht.tu t (.inl h1)).mono hb
    · rw [act_put_ne _ _ _ _ (h1 j oj (.inl rfl) hjr.op)]
      exact (ht.tu t (.inr fun i o hs ho => h1 i o (.inr hs) ho)).mono hb
  defers := by rw [← ht.defers]; cases oj.dst <;> rfl

theorem wanted_loc [Sym] {τ : Tm} {o : Oper} (h : ∀ t ∈ o.looksAt ops, VR β (τ.get t) (a.tmps.getD t undef)) : Region.wanted o (yielded ops a.tmps) = wantedE ops.toList τ o := by
  unfold Region.wanted wantedE
  cases hg : o.guard with
  | none => rfl
  | some g =>
    obtain ⟨g, want⟩ := g
    simp only [yielded]
    have e : ops.toList[g]? = ops[g]? := by simp
    rw [e]
    cases hd : (ops[g]?).bind (·.dst) with
    | none => simp
    | some d =>
      simp only [Option.bind_some]
      have hv := h d (by unfold Oper.looksAt; rw [hg]; simp [hd])
      by_cases hlt : d < a.tmps.size
      · have hget : a.tmps.getD d undef = a.tmps[d] := by simp [hlt]
        have hq : a.tmps[d]? = some a.tmps[d] := Array.getElem?_eq_getElem hlt
        rw [hget] at hv
        rw [hq]
        generalize τ.get d = u at hv
        generalize a.tmps[d] = u2 at hv
        cases hv <;> first | (simp; done) | (rename_i i; rcases Sym.ok i with ⟨k, n, e'⟩ | ⟨s, e'⟩ <;> simp [e'])
      · have hget : a.tmps.getD d undef = undef := by simp [hlt]
        have hq : a.tmps[d]? = none := Array.getElem?_eq_none (Nat.le_of_not_lt hlt)
        rw [hget] at hv
        rw [hq]
        generalize τ.get d = u at hv
        obtain ⟨xs, rfl⟩ := VR.of_tuple (ys := #[]) hv
        simp

theorem rho_loc [Sym] {τ : Tm} (hg : GOk β L) {x : Operand} {v : Value} (ht : ∀ t, x = .tmp t → VR β (τ.get t) (a.tmps.getD t undef)) (hx : rho L τ x = some v) : VR β v (a.eval x) := by
  cases x with
  | tmp t => simp only [rho, Option.some.injEq] at hx; subst hx; exact ht t rfl
  | const c =>
    simp only [rho] at hx
    cases hf : flat3 c with
    | false => simp [hf] at hx
    | true => simp [hf] at hx; subst hx; exact flat3_refl hf
  | global g =>
    simp only [rho] at hx
    cases hb : L.glob g with
    | false => simp [hb] at hx
    | true =>
      simp [hb] at hx; subst hx
      obtain ⟨p, hp, h1, h2⟩ := hg g hb
      have := VR.ptr (β := β) (k := 0) hp
      rw [h1, h2] at this
      exact this
  | func f => simp only [rho, Option.some.injEq] at hx; subst hx; exact flat1_refl rfl

/-- The operation that comes up. -/
theorem draw_step [Sym] (hL : L.Ok P) (hc : CallSound P L callf) {N : Nat} (h : TabOk T) (hb0 : ∀ x, β0 x ≠ none → x < (T.σ 0).next ∨ (T.σ ops.size).next ≤ x) (hN : (T.σ ops.size).next ≤ N) (hb0N : ∀ x, β0 x ≠ none → x < (T.σ 0).next ∨ N ≤ x) (hg0 : GOk β0 L)
    (hm : MInv T β0 w0 S β μ w) (ht : TInv T S β a) (hd : Down T S) (hr : Ready T S j) {Q : Exit → Act → World → Prop} {K : Act → World → Prop}
    (hk : ∀ a' w' β' μ', MInv T β0 w0 (fun i => i = j ∨ S i) β' μ' w' → TInv T (fun i => i = j ∨ S i) β' a' → K a' w') : wpOp P ops Q j K a w := by
  obtain ⟨oj, hjr⟩ := h.row j hr.1
  unfold wpOp
  simp only [hjr.op]
  have hlook := fun t hl => looks_rel h hd hr ht hjr (t := t) hl
  have hw := wanted_loc (β := β) (τ := T.θ j) hlook
  rw [hw]
  have hrun := hjr.run
  have hglob : GOk β L := fun g hg => let ⟨p, h1, h2⟩ := hg0 g hg; ⟨p, hm.ext _ _ h1, h2⟩
  cases hb : wantedE ops.toList (T.θ j) oj with
  | false =>
    rw [hb] at hrun
    simp only [cond_false, Option.some.injEq, Prod.mk.injEq] at hrun
    simp only [Bool.false_eq_true, if_false]
    refine hk _ _ β μ (minv_same h hm hd hr hb0 hrun.2.2.symm) (tinv_put h hd hr ht hjr (fun _ _ h => h) ?_)
    rw [← hrun.1]; exact VR.undef
  | true =>
    rw [hb] at hrun
    simp only [cond_true] at hrun
    simp only [if_true]
    left
    classical
    let ρ : Operand → Option Value := fun x => if x ∈ oj.op.operands then rho L (T.θ j) x else none
    have hcongr : opE P L callf (rho L (T.θ j)) oj (fresh (T.σ j)) = opE P L callf ρ oj (fresh (T.σ j)) := opE_congr fun x hx => by simp [ρ, hx]
    rw [hcongr] at hrun
    have hρ : ∀ x v, ρ x = some v → VR β v (a.eval x) := fun x v hx => by
      simp only [ρ] at hx
      split at hx
      · rename_i hmem
        refine rho_loc hglob (fun t et => ?_) hx
        subst et
        exact hlook t (by unfold Oper.looksAt; exact List.mem_append_left _ (List.mem_filterMap.2 ⟨.tmp t, by simpa using hmem, rfl⟩))
      · cases hx
    have hrun0 := hrun
    unfold opE at hrun
    split at hrun
    · rename_i u hu
      simp only [Option.some.injEq, Prod.mk.injEq] at hrun
      obtain ⟨hv, _, ho⟩ := hrun
      obtain ⟨v', hvr, hx⟩ := pure_sound (P := P) hL hρ hu
      refine OpOk.value (G := fun v' w' => VR β u v' ∧ w' = w) (hx w) ⟨hvr, rfl⟩ _ _ fun v' w' ⟨h1, h2⟩ => ?_
      subst h2
      exact hk _ _ β μ (minv_same h hm hd hr hb0 ho.symm) (tinv_put h hd hr ht hjr (fun _ _ h => h) (by rw [← hv]; exact h1))
    · split at hrun
      · rename_i ob vf hal
        simp only [Option.some.injEq, Prod.mk.injEq] at hrun
        obtain ⟨hv, _, ho⟩ := hrun
        obtain ⟨obj, d, s', z, v', hx, hok⟩ := alloc_sound (P := P) hL hρ hal w
        have hnx : (T.σ (j + 1)).next = (T.σ j).next + 1 := by rw [next_out h hr.1, ← ho]; rfl
        have hbn := new_none h hm hd hr hb0 (x := (T.σ j).next) (Nat.le_refl _) (by omega)
        obtain ⟨h1, h2⟩ := hok (β.add (T.σ j).next ⟨w.heap.size, 0, s', z⟩) (T.σ j).next (Emb.add_old hbn) Emb.add_self
        have hmm := minv_alloc h hm hd hr hb0 ho.symm (obj := obj) (s := s') (z := z) (d := d) h1
        refine OpOk.value (G := fun v1 w1 => v1 = v' ∧ w1 = { w with heap := w.heap.push obj, drawn := d }) hx ⟨rfl, rfl⟩ _ _ fun v1 w1 ⟨e1, e2⟩ => ?_
        subst e1; subst e2
        exact hk _ _ _ _ hmm (tinv_put h hd hr ht hjr (Emb.add_old hbn) (by rw [← hv]; exact h2))
      · split at hrun
        · rename_i i g hrd
          simp only [Option.bind_eq_some_iff, Option.map_eq_some_iff, Prod.mk.injEq] at hrun
          obtain ⟨ob, hob, v0, hv0, hv, hkd, ho⟩ := hrun
          obtain ⟨p, hp, hread⟩ := read_sound (P := P) hL hρ hrd
          have hob' : (T.σ j).mem.get i = some ob := hob
          have hag := agree_read h hm hd hr hjr hb0 (x := i) hkd.symm (by rw [hp]; simp) (by rw [hob']; simp)
          obtain ⟨obj, hh, hor⟩ := hm.rep.obj i p ob hp (by rw [hag]; exact hob')
          obtain ⟨v', hvr, hx⟩ := hread w ob obj _ hv0 hh hor
          refine OpOk.value (G := fun v' w' => VR β v0 v' ∧ w' = w) hx ⟨hvr, rfl⟩ _ _ fun v' w' ⟨h1, h2⟩ => ?_
          subst h2
          exact hk _ _ β μ (minv_same h hm hd hr hb0 ho.symm) (tinv_put h hd hr ht hjr (fun _ _ h => h) (by rw [← hv]; exact h1))
        · simp only [Option.map_eq_some_iff, Prod.mk.injEq] at hrun
          obtain ⟨⟨v0, s⟩, hg, hv, hkd, ho⟩ := hrun
          have hkd' : T.kd j = .gen := hkd.symm
          have ag : ∀ x, β x ≠ none → (T.σ j).mem.get x ≠ none → μ x = (T.σ j).mem.get x := fun x h1 h2 => agree_gen h hm hd hr hjr hb0 hkd' h1 h2
          simp only at ho
          have hle : (T.σ (j + 1)).next ≤ (T.σ ops.size).next := next_le h ops.size (j + 1) (by have := hr.1; omega) (Nat.le_refl _)
          rw [next_out h hr.1] at hle
          have hi : Inv (T.out j).next β L (fresh (T.σ j)) w := {
            rep := ⟨hm.rep.inb, fun x p ob h1 h2 => hm.rep.obj x p ob h1 (by
                have h2' : (T.σ j).mem.get x = some ob := h2
                rw [ag x (by rw [h1]; simp) (by rw [h2']; simp)]; exact h2'), fun x y p q h1 h2 h3 h4 h5 => hm.rep.inj x y p q h1 h2 (by rw [ag x (by rw [h1]; simp) h3]; exact h3) (by rw [ag y (by rw [h2]; simp) h4]; exact h4) h5⟩
            glob := hglob
            dom := fun x hx => by
              by_cases h1 : x < (T.σ j).next
              · exact .inl h1
              · right
                apply Classical.byContradiction
                intro h2
                exact hx (new_none h hm hd hr hb0 (by omega) (by rw [next_out h hr.1]; omega))
            wf := tab_wf h j (by have := hr.1; omega)
            bn := Nat.le_refl _ }
          rw [ho] at hg
          refine gen_sound hL hc hi (Nat.le_refl _) hρ hg _ _ fun v' w' ⟨β1, hp, hvr⟩ => ?_
          obtain ⟨μ1, hm1⟩ := minv_gen h hm hd hr hb0 hjr hkd' hp
          exact hk _ _ β1 μ1 hm1 (tinv_put h hd hr ht hjr hp.ext (by rw [← hv]; exact hvr))

/-! ### Every order -/
def InS (listed : Array Bool) (i : Nat) : Prop := listed.getD i false = true
theorem inS_set {listed : Array Bool} {j : Nat} (hj : j < listed.size) : InS (listed.setIfInBounds j true) = fun i => i = j ∨ InS listed i := by
  funext i
  apply propext
  unfold InS
  by_cases e : j = i
  · subst e; simp [hj]
  · simp [Array.getElem?_setIfInBounds_ne e, Ne.symm e]

theorem binding_eq (e : Edge) : Region.binds .any e = binding e := by
  unfold Region.binds binding
  cases e.ground <;> rfl

theorem all_listed (h : TabOk T) {listed : Array Bool} (hsz : listed.size = ops.size) (hd : Down T (InS listed)) (hr : Region.ready .any ops listed = []) : ∀ j, j < ops.size → InS listed j := by
  intro j
  induction j using Nat.strongRecOn with
  | _ j ih =>
    intro hj
    apply Classical.byContradiction
    intro hn
    obtain ⟨o, hjr⟩ := h.row j hj
    have : j ∈ Region.ready .any ops listed := by
      rw [mem_ready]
      refine ⟨?_, o, hjr.op, fun e he hb => ?_⟩
      · unfold InS at hn
        have hlt : j < listed.size := by omega
        simp [hlt] at hn ⊢
        exact hn
      · rw [binding_eq] at hb
        have hlt := hjr.edges e he hb
        exact ih e.on hlt (by omega)
    rw [hr] at this
    cases this

theorem draw_any [Sym] (hL : L.Ok P) (hc : CallSound P L callf) {N : Nat} (h : TabOk T) (hN : (T.σ ops.size).next ≤ N) (hb0N : ∀ x, β0 x ≠ none → x < (T.σ 0).next ∨ N ≤ x) (hg0 : GOk β0 L) {Q : Exit → Act → World → Prop}
    (hq : ∀ a' w' β' μ' S', MInv T β0 w0 S' β' μ' w' → TInv T S' β' a' → Down T S' → (∀ j, j < ops.size → S' j) → Q .normal a' w') :
    ∀ (fuel : Nat) (listed : Array Bool) (β : Emb) (μ : View) (a : Act) (w : World), listed.size = ops.size → listed.toList.count false = fuel → MInv T β0 w0 (InS listed) β μ w → TInv T (InS listed) β a → Down T (InS listed) →
      wpAny P .any ops Q fuel listed a w := by
  have hb0 : ∀ x, β0 x ≠ none → x < (T.σ 0).next ∨ (T.σ ops.size).next ≤ x := fun x hx => (hb0N x hx).imp id fun h => Nat.le_trans hN h
  intro fuel
  induction fuel with
  | zero =>
    intro listed β μ a w hsz hcount hm ht hd
    have hr : Region.ready .any ops listed = [] := by
      rw [List.eq_nil_iff_forall_not_mem]
      intro i hi
      have h1 := (mem_ready.1 hi).1
      have h2 : false ∈ listed.toList := by
        have hlt : i < listed.size := by
          apply Classical.byContradiction
          intro hc
          simp [Array.getElem?_eq_none (Nat.le_of_not_lt hc)] at h1
        simp [hlt] at h1
        rw [← h1]; simp
      rw [List.count_eq_zero] at hcount
      exact hcount h2
    exact ⟨hr, hq a w β μ _ hm ht hd (all_listed h hsz hd hr)⟩
  | succ fuel ih =>
    intro listed β μ a w hsz hcount hm ht hd
    refine ⟨fun hr => hq a w β μ _ hm ht hd (all_listed h hsz hd hr), fun j hj => ?_⟩
    obtain ⟨h1, o, ho, he⟩ := mem_ready.1 hj
    have hlt : j < ops.size := (Array.getElem?_eq_some_iff.1 ho).1
    have hlt' : j < listed.size := by omega
    have hfalse : listed[j] = false := by simpa [hlt'] using h1
    obtain ⟨oj, hjr⟩ := h.row j hlt
    have hoe := op_eq hjr ho
    subst hoe
    have hns : ¬ InS listed j := by unfold InS; simp [hlt', hfalse]
    have hr : Ready T (InS listed) j := ready_of h hd hlt hjr hns fun e he' hb => he e he' (by rw [binding_eq]; exact hb)
    refine draw_step hL hc h hb0 hN hb0N hg0 hm ht hd hr fun a' w' β' μ' hm' ht' => ?_
    have hset := inS_set hlt'
    refine ih (listed.setIfInBounds j true) β' μ' a' w' (by simpa using hsz) ?_ (by rw [hset]; exact hm') (by rw [hset]; exact ht') (by rw [hset]; exact down_add hd hr)
    rw [Array.toList_setIfInBounds, List.count_set (by simpa using hlt'), hcount]
    simp [hfalse]

theorem draw_sound [Sym] (hL : L.Ok P) (hmc : CallMono callf) (hc : CallSound P L callf) {N : Nat} {τ τ' : Tm} {st st' : St} {Q : Exit → Act → World → Prop} {id : Nat}
    (hdr : drawE P L callf ops ops.toList [] τ st = some (τ', st')) (hi : Inv N β L st w) (hN : st'.next ≤ N) (ht : TR β τ a)
    (hq : ∀ a' w' β', Post st st' β w β' w' → TR β' τ' a' → Q .normal a' w') : (Code.region id ops true).wp P Q a w := by
  refine wp_region_any hL.mixed ?_
  obtain ⟨T, _, t2, t3, t4, t5, t6⟩ := draw_tab ops.toList [] τ st τ' st' (fun j => by simp) hdr
  simp only [List.length_nil] at t2 t3 t6
  have h : TabOk T := ⟨fun j hj => t6 j (Nat.zero_le _) hj, hmc, by rw [t2]; exact hi.wf⟩
  have hempty : ∀ i, ¬ InS (Array.replicate ops.size false) i := fun i => by
    unfold InS
    by_cases hlt : i < ops.size <;> simp [hlt]
  refine draw_any (T := T) (β0 := β) (w0 := w) hL hc h (by rw [t4]; exact hN) (fun x hx => by rw [t2]; exact hi.dom x hx) hi.glob (fun a' w' β' μ' S' hm' ht' hd' hall => ?_) ops.size _ β st.mem.get a _ (by simp) (by simp) ?_ ?_ ?_
  · -- all are done
    have hmem : ∀ x, μ' x = st'.mem.get x := fun x => by
      have := hm'.agree x ops.size (Nat.le_refl _) (fun i hi' _ => hall i hi') (fun i hs _ => (hd' i hs).1)
      rw [t4] at this; exact this
    have hmem' : μ' = st'.mem.get := funext hmem
    subst hmem'
    have hle : ∀ j, j ≤ ops.size → st.next ≤ (T.σ j).next := fun j hj => by have := next_le h j 0 (Nat.zero_le _) hj; rw [t2] at this; exact this
    refine hq a' w' β' ⟨hm'.ext, fun x hx => ?_, hm'.rep, fun b hb => ?_, fun x hx => ?_, fun x p h1 h2 => ?_, hm'.size, hm'.os, hm'.tape, hm'.output⟩ ⟨?_, fun t => ?_, ht'.defers⟩
    · rcases hm'.dom x hx with h1 | ⟨j, hs, h1, h2⟩
      · exact .inl h1
      · have hj := (hd' j hs).1
        have := next_le h ops.size (j + 1) (by omega) (Nat.le_refl _)
        rw [t4] at this
        exact .inr ⟨Nat.le_trans (hle j (by omega)) h1, by omega⟩
    · rcases hm'.frame b hb with h1 | ⟨i, p, h1, h2, h3, h4⟩
      · exact .inl h1
      · rw [t2] at h3 h4; rw [t4] at h4
        exact .inr ⟨i, p, h1, h2, h3, h4⟩
    · -- logs
      have key : ∀ k, k ≤ ops.size → ∀ x, x ∈ (T.σ k).log → x ∈ st.log ∨ β x ≠ none := by
        intro k
        induction k with
        | zero => intro _ x hx; rw [t2] at hx; exact .inl hx
        | succ k ih =>
          intro hk x hx
          obtain ⟨o, hr⟩ := h.row k (by omega)
          rw [hr.σ] at hx
          simp only [merge, List.mem_append, List.mem_filter, Bool.and_eq_true, Nat.blt_eq] at hx
          rcases hx with ⟨h1, h2, _⟩ | h1
          · right
            have h3 := hm'.logd k (hall k (by omega)) x h1
            rcases hm'.dom x h3 with h4 | ⟨i, hs, h4, _⟩
            · exact h4
            · exfalso
              have h5 := hle i (by have := (hd' i hs).1; omega)
              rw [tab_base h k (by omega), t2] at h2
              have := hi.bn
              omega
          · exact ih (by omega) x h1
      have := key ops.size (Nat.le_refl _) x
      rw [t4] at this
      exact this hx
    · rcases hm'.fresh x p h1 h2 with h3 | ⟨i, q, h3, h4, h5, h6⟩
      · exact .inl h3
      · rw [t2] at h5 h6; rw [t4] at h6
        exact .inr ⟨i, q, h3, h4, h5, h6⟩
    · rw [← t5, theta_n h _ (Nat.le_refl _)]; exact ht'.tn
    · rw [← t5]
      by_cases hn : (T.θ 0).n ≤ t
      · rw [theta_u h _ (Nat.le_refl _) (.inl hn)]
        exact ht'.tu t (.inl hn)
      · by_cases hex : ∃ (i : Nat) (o : Oper), ops[i]? = some o ∧ o.dst = some t
        · obtain ⟨i, o, ho, hdst⟩ := hex
          have hlt := (Array.getElem?_eq_some_iff.1 ho).1
          rw [theta_d h ho hdst (by omega) _ (Nat.le_refl _) hlt]
          exact ht'.td t i o (hall i hlt) ho hdst (by omega)
        · rw [theta_u h _ (Nat.le_refl _) (.inr fun i o _ ho hdst => hex ⟨i, o, ho, hdst⟩)]
          exact ht'.tu t (.inr fun i o _ ho hdst => hex ⟨i, o, ho, hdst⟩)
  · -- nothing is done
    refine ⟨⟨hi.rep.inb, hi.rep.obj, hi.rep.inj⟩, fun _ _ h => h, fun x hx => .inl hx, fun x k hk h1 h2 => ?_, fun j hs => absurd hs (hempty j), fun _ _ => .inl rfl, (fun x p h1 h2 => by rw [h1] at h2; cases h2), Nat.le_refl _, rfl, rfl, rfl⟩
    have := untouched_to h (x := x) (i := 0) k (Nat.zero_le _) hk (fun i _ hik hti => hempty i (h1 i hik hti))
    rw [t2] at this
    exact this.symm
  · exact ⟨by rw [t3]; exact ht.n, fun t i o hs => absurd hs (hempty i), fun t _ => by rw [t3]; exact ht.vals t, ht.defers⟩
  · exact fun j hs => absurd hs (hempty j)
end
end Go.E
