/- One operation, a region in text order, results: sound. -/
import Derived.Test.YtfgdoliihmjnoaaDoorXE10
set_option linter.unusedSimpArgs false
set_option linter.unusedVariables false
namespace Go.E
open Go

structure TR [Sym] (β : Emb) (τ : Tm) (a : Act) : Prop where
  n : τ.n = a.tmps.size
  vals : ∀ t, VR β (τ.get t) (a.tmps.getD t undef)
  defers : a.defers = []

section
variable {P : Program} {L : Lk} {β β' : Emb} {st st' : St} {w : World} {o : Oper} {a : Act} {callf : CallF} {τ τ' : Tm} {N : Nat}

theorem TR.mono [Sym] (h : TR β τ a) (hb : ∀ i p, β i = some p → β' i = some p) : TR β' τ a := ⟨h.n, fun t => (h.vals t).mono hb, h.defers⟩

theorem rho_rel [Sym] (hg : GOk β L) (h : TR β τ a) (x : Operand) (v : Value) (hx : rho L τ x = some v) : VR β v (a.eval x) := by
  cases x with
  | tmp t => simp only [rho, Option.some.injEq] at hx; subst hx; exact h.vals t
  | const c =>
    simp only [rho] at hx
    cases hf : flat3 c with
    | false => simp [hf] at hx
    | true => simp [hf] at hx; subst hx; exact flat3_refl hf
  | global g =>
    simp only [rho] at hx
    cases hb : L.glob g with
    | false => simp [hb] at hx
    | true =>
      simp [hb] at hx; subst hx
      obtain ⟨p, hp, h1, h2⟩ := hg g hb
      have := VR.ptr (β := β) (k := 0) hp
      rw [h1, h2] at this
      exact this
  | func f => simp only [rho, Option.some.injEq] at hx; subst hx; exact flat1_refl rfl

theorem TR.put [Sym] (h : TR β τ a) {v v' : Value} (hv : VR β v v') (d : Option Tmp) : TR β (τ.put d v) (a.put d v') := by
  cases d with
  | none => exact h
  | some d =>
    unfold Tm.put Act.put
    simp only
    cases hb : Nat.blt d τ.n with
    | false =>
      have hlt : ¬ d < a.tmps.size := by rw [← h.n, ← Nat.blt_eq, hb]; simp
      refine ⟨by simp [h.n], fun t => ?_, h.defers⟩
      simp only [cond_false]
      rw [Array.setIfInBounds_eq_of_size_le (Nat.le_of_not_lt hlt)]
      exact h.vals t
    | true =>
      have hlt : d < a.tmps.size := by rw [← h.n, ← Nat.blt_eq]; exact hb
      refine ⟨by simp [h.n], fun t => ?_, h.defers⟩
      simp only [cond_true, Tm.get, PT.get_upd]
      by_cases e : d = t
      · subst e
        simp [hlt, hv]
      · have := h.vals t
        simpa [e, Tm.get, Array.getElem?_setIfInBounds_ne e] using this

theorem wanted_rel [Sym] (ops : Array Oper) (h : TR β τ a) (o : Oper) : Region.wanted o (yielded ops a.tmps) = wantedE ops.toList τ o := by
  unfold Region.wanted wantedE
  cases hg : o.guard with
  | none => rfl
  | some g =>
    obtain ⟨j, want⟩ := g
    simp only [yielded]
    have e : ops.toList[j]? = ops[j]? := by simp
    rw [e]
    cases hd : (ops[j]?).bind (·.dst) with
    | none => simp
    | some d =>
      simp only [Option.bind_some]
      have hv := h.vals d
      by_cases hlt : d < a.tmps.size
      · have hget : a.tmps.getD d undef = a.tmps[d] := by simp [hlt]
        have hq : a.tmps[d]? = some a.tmps[d] := Array.getElem?_eq_getElem hlt
        rw [hget] at hv
        rw [hq]
        generalize τ.get d = u at hv
        generalize a.tmps[d] = u2 at hv
        cases hv <;> first | (simp; done) | (rename_i i; rcases Sym.ok i with ⟨k, n, e'⟩ | ⟨s, e'⟩ <;> simp [e'])
      · have hget : a.tmps.getD d undef = undef := by simp [hlt]
        have hq : a.tmps[d]? = none := Array.getElem?_eq_none (Nat.le_of_not_lt hlt)
        rw [hget] at hv
        rw [hq]
        generalize τ.get d = u at hv
        obtain ⟨xs, rfl⟩ := VR.of_tuple (ys := #[]) hv
        simp

theorem op_mono (hc : CallMono callf) (hw : WF st) {ρ : Operand → Option Value} {v : Value} {kd : Kd} (h : opE P L callf ρ o st = some (v, kd, st')) : Mono st st' := by
  unfold opE at h
  split at h
  · simp only [Option.some.injEq, Prod.mk.injEq] at h; obtain ⟨_, _, rfl⟩ := h; exact .refl _
  · split at h
    · simp only [Option.some.injEq, Prod.mk.injEq] at h; obtain ⟨_, _, rfl⟩ := h; exact mono_new
    · split at h
      · simp only [Option.bind_eq_some_iff, Option.map_eq_some_iff, Prod.mk.injEq] at h
        obtain ⟨ob, _, v', _, _, _, rfl⟩ := h
        exact .refl _
      · simp only [Option.map_eq_some_iff, Prod.mk.injEq] at h
        obtain ⟨⟨v', s⟩, hg, _, _, rfl⟩ := h
        exact gen_mono hc hw hg

theorem op_sound [Sym] (hL : L.Ok P) (hc : CallSound P L callf) (hi : Inv N β L st w) (hN : st'.next ≤ N) {ρ : Operand → Option Value} (hρ : ∀ x v, ρ x = some v → VR β v (a.eval x)) {v : Value} {kd : Kd} (h : opE P L callf ρ o st = some (v, kd, st')) :
    OpOk P o a w (Good st st' β w v) := by
  unfold opE at h
  split at h
  · rename_i u hu
    simp only [Option.some.injEq, Prod.mk.injEq] at h
    obtain ⟨rfl, _, rfl⟩ := h
    obtain ⟨v', hr, hrun⟩ := pure_sound (P := P) hL hρ hu
    exact .value (hrun w) ⟨β, .refl hi.rep, hr⟩
  · split at h
    · rename_i ob vf hal
      simp only [Option.some.injEq, Prod.mk.injEq] at h
      obtain ⟨rfl, _, rfl⟩ := h
      obtain ⟨obj, d, s', z, v', hrun, hok⟩ := alloc_sound (P := P) hL hρ hal w
      obtain ⟨h1, h2⟩ := hok (β.add st.next ⟨w.heap.size, 0, s', z⟩) st.next (Emb.add_old (dom_none hi hN)) Emb.add_self
      exact .value hrun ⟨_, post_new hi hN h1, h2⟩
    · split at h
      · rename_i i g hrd
        simp only [Option.bind_eq_some_iff, Option.map_eq_some_iff, Prod.mk.injEq] at h
        obtain ⟨ob, hob, v0, hv, rfl, _, rfl⟩ := h
        obtain ⟨p, hp, hread⟩ := read_sound (P := P) hL hρ hrd
        obtain ⟨obj, hh, hor⟩ := hi.rep.obj i p ob hp hob
        obtain ⟨v', hr, hrun⟩ := hread w ob obj _ hv hh hor
        exact .value hrun ⟨β, .refl hi.rep, hr⟩
      · simp only [Option.map_eq_some_iff, Prod.mk.injEq] at h
        obtain ⟨⟨v', s⟩, hg, rfl, _, rfl⟩ := h
        exact gen_sound hL hc hi hN hρ hg

theorem ops_mono (hc : CallMono callf) {ops : List Oper} : ∀ (l : List Oper) (τ : Tm) (st : St) (τ' : Tm) (st' : St), WF st → opsE P L callf ops l τ st = some (τ', st') → Mono st st'
  | [], τ, st, τ', st', hw, h => by simp only [opsE, Option.some.injEq, Prod.mk.injEq] at h; obtain ⟨_, rfl⟩ := h; exact .refl _
  | o :: l, τ, st, τ', st', hw, h => by
    simp only [opsE] at h
    cases hb : wantedE ops τ o with
    | false => rw [hb] at h; exact ops_mono hc l _ _ _ _ hw h
    | true =>
      rw [hb] at h
      simp only [cond_true, Option.bind_eq_some_iff] at h
      obtain ⟨⟨v, kd, st1⟩, ho, h⟩ := h
      have hm := op_mono hc hw ho
      exact hm.trans (ops_mono hc l _ _ _ _ (hm.wf hw) h)

theorem ops_sound [Sym] (hL : L.Ok P) (hm : CallMono callf) (hc : CallSound P L callf) {ops : Array Oper} {Q : Exit → Act → World → Prop} : ∀ (l : List Oper) (k : Nat) (τ : Tm) (st : St) (τ' : Tm) (st' : St) (β : Emb) (a : Act) (w : World),
    (∀ j, l[j]? = ops[k + j]?) → opsE P L callf ops.toList l τ st = some (τ', st') → Inv N β L st w → st'.next ≤ N → TR β τ a →
    (∀ a' w' β', Post st st' β w β' w' → TR β' τ' a' → Q .normal a' w') → wpOps P ops Q (List.range' k l.length) a w
  | [], k, τ, st, τ', st', β, a, w, hl, h, hi, hN, ht, hq => by
    simp only [opsE, Option.some.injEq, Prod.mk.injEq] at h
    obtain ⟨rfl, rfl⟩ := h
    simp only [List.length_nil, List.range'_zero, wpOps]
    exact hq a w β (.refl hi.rep) ht
  | o :: l, k, τ, st, τ', st', β, a, w, hl, h, hi, hN, ht, hq => by
    have ho : ops[k]? = some o := by simpa using (hl 0).symm
    have hl' : ∀ j, l[j]? = ops[k + 1 + j]? := fun j => by have := hl (j + 1); simpa [Nat.add_assoc, Nat.add_comm 1 j] using this
    simp only [List.length_cons, List.range'_succ, wpOps, ho]
    rw [wanted_rel ops ht]
    simp only [opsE] at h
    cases hb : wantedE ops.toList τ o with
    | false =>
      rw [hb] at h
      simp only [cond_false] at h
      simp only [Bool.false_eq_true, if_false]
      exact ops_sound hL hm hc l (k + 1) _ _ _ _ β _ _ hl' h hi hN (ht.put VR.undef o.dst) hq
    | true =>
      rw [hb] at h
      simp only [cond_true, Option.bind_eq_some_iff] at h
      obtain ⟨⟨v, kd, st1⟩, hop, h⟩ := h
      simp only [if_true]
      left
      have hm1 := op_mono hm hi.wf hop
      have hm2 := ops_mono hm l _ _ _ _ (hm1.wf hi.wf) h
      refine op_sound hL hc hi (Nat.le_trans hm2.next hN) (fun x v => rho_rel hi.glob ht x v) hop _ _ fun v' w' ⟨β1, hp, hv⟩ => ?_
      have hi1 := hi.step hm1 hp
      refine ops_sound hL hm hc l (k + 1) _ _ _ _ β1 _ _ hl' h hi1 hN ((ht.mono hp.ext).put hv o.dst) fun a' w'' β2 hp2 ht2 => ?_
      exact hq a' w'' β2 (Post.trans hi hm1 hm2 hN hp hp2) ht2

/-! ### Results -/
def resF (tmps : Array Value) : ResultVar → Sem Value
  | .tmp t => pure (tmps.getD t undef)
  | .cell x t => do loadVar t (← asAddr (tmps.getD x undef))
theorem results_eq (fn : Func) (tmps : Array Value) : results fn tmps = (do let vs ← fn.results.mapM (resF tmps); pure (if h : vs.size = 1 then vs[0] else .tuple vs)) := by
  unfold results
  have : (fun x : ResultVar => match x with
    | .tmp t => (pure (tmps.getD t undef) : Sem Value)
    | .cell a t => do loadVar t (← asAddr (tmps.getD a undef))) = resF tmps := funext fun r => by cases r <;> rfl
  rw [← this]
  rfl

theorem results_rel [Sym] (hL : L.Ok P) (hi : Inv N β L st w) (ht : TR β τ a) {fn : Func} {vs : List Value} (h : resultsE L fn.results.toList τ st = some vs) :
    ∃ v', (results fn a.tmps).run P w = .ok v' w ∧ VR β (packE vs) v' := by
  have key : ∀ (rs : List ResultVar) (vs : List Value), resultsE L rs τ st = some vs →
      ∃ vs', VRs β vs vs' ∧ (rs.mapM (resF a.tmps)).run P w = .ok vs' w := by
    intro rs
    induction rs with
    | nil => intro vs h; simp [resultsE] at h; subst h; exact ⟨[], VRs.nil, rfl⟩
    | cons r rs ih =>
      intro vs h
      unfold resultsE at h
      simp only [List.mapM_cons, Option.bind_eq_bind, Option.pure_def, Option.bind_eq_some_iff] at h
      obtain ⟨v, hv, r', hr', h⟩ := h
      cases h
      obtain ⟨vs', hvs', hrun⟩ := ih r' hr'
      have h1 : ∃ v', VR β v v' ∧ (resF a.tmps r).run P w = .ok v' w := by
        cases r with
        | tmp t => simp only [Option.some.injEq] at hv; subst hv; exact ⟨_, ht.vals t, rfl⟩
        | cell x t =>
          simp only [Option.bind_eq_some_iff] at hv
          obtain ⟨⟨i, k⟩, hik, hv⟩ := hv
          obtain ⟨p, hp, hea⟩ := addr_rel hik (ht.vals x)
          split at hv
          · rename_i c z hm
            simp only at hm
            obtain ⟨obj, hh, hor⟩ := hi.rep.obj i p _ hp hm
            obtain ⟨v', hr, hrun⟩ := load_rel (P := P) hL hh hor.table hv
            refine ⟨v', hr, ?_⟩
            simp only [resF, hea]
            simp [asAddr, hrun]
          · cases hv
      obtain ⟨v', hv', hrun'⟩ := h1
      refine ⟨v' :: vs', VRs.cons hv' hvs', ?_⟩
      rw [List.mapM_cons]
      simp only [Sem.run_bind, hrun', Result.andThen_ok, hrun, Sem.run_pure]
  obtain ⟨vs', hvs', hrun⟩ := key _ _ h
  have hfun : (results fn a.tmps).run P w = .ok (if h : vs'.toArray.size = 1 then vs'.toArray[0] else .tuple vs'.toArray) w := by
    rw [results_eq, Sem.run_bind, Array.mapM_eq_mapM_toList]
    simp only [Sem.run_map]
    rw [hrun]
    rfl
  refine ⟨_, hfun, ?_⟩
  cases vs with
  | nil => rw [hvs'.of_nil]; exact VR.undef
  | cons x r =>
    obtain ⟨y, r', rfl, hy, hr⟩ := hvs'.of_cons
    cases r with
    | nil => rw [hr.of_nil]; exact hy
    | cons x2 r2 =>
      obtain ⟨y2, r2', rfl, hy2, hr2⟩ := hr.of_cons
      simp only [packE]
      rw [dif_neg (by simp)]
      exact VRs.tuple (by simpa using VRs.cons hy (VRs.cons hy2 hr2))
end
end Go.E
