/- The evaluator is sound: what it tells of a call is what the model's machine comes to. -/
import Derived.Test.YtfgdoliihmjnoaaDoorXE15
import Derived.Below
set_option linter.unusedSimpArgs false
set_option linter.unusedVariables false
namespace Go.E
open Go

section
variable {P : Program} {L : Lk}

theorem draw_mono {callf : CallF} (hT : CallMono callf) {ops : Array Oper} {τ τ' : Tm} {st st' : St} (hw : WF st) (h : drawE P L callf ops ops.toList [] τ st = some (τ', st')) : Mono st st' := by
  obtain ⟨T, _, t2, _, t4, _, t6⟩ := draw_tab ops.toList [] τ st τ' st' (fun j => by simp) h
  simp only [List.length_nil] at t2 t6
  have hT' : TabOk T := ⟨fun j hj => t6 j (Nat.zero_le _) hj, hT, by rw [t2]; exact hw⟩
  have key : ∀ k, k ≤ ops.size → Mono st (T.σ k) := by
    intro k
    induction k with
    | zero => intro _; rw [t2]; exact .refl _
    | succ k ih =>
      intro hk
      refine (ih (by omega)).trans ?_
      obtain ⟨o, hr⟩ := hT'.row k (by omega)
      have hm := tab_mono hT' (j := k) (by omega)
      have hbk := tab_base hT' k (by omega)
      rw [hr.σ]
      refine ⟨hm.next, rfl, fun i hi => by simp [merge, hi], fun i hi => ?_, fun i h1 h2 h3 => ?_, fun hw => hm.wf hw, fun i h1 h2 => hm.dead i h1 h2⟩
      · simp only [merge, List.mem_append, List.mem_filter, Bool.and_eq_true, Nat.blt_eq] at hi
        rcases hi with ⟨_, h2, _⟩ | h1
        · exact .inr h2
        · exact .inl h1
      · refine hm.keep i h1 h1 fun hi => h3 ?_
        simp only [merge, List.mem_append, List.mem_filter, Bool.and_eq_true, Nat.blt_eq, Bool.not_eq_true']
        by_cases hin : i ∈ (T.σ k).log
        · exact .inr hin
        · exact .inl ⟨hi, h2, by simpa using hin⟩
  have := key ops.size (Nat.le_refl _)
  rw [t4] at this
  exact this


/-! ### The code -/
def CodeMono (P : Program) (L : Lk) (n : Nat) : Prop := ∀ c τ st e τ' st', WF st → codeE P L n c τ st = some (e, τ', st') → Mono st st'

theorem con_checks {L : Lk} {st : St} {c : Con} (hb : (Nat.ble st.next c.A && Nat.ble c.A c.B && c.objs.all (fun x => Nat.ble c.A x.1 && Nat.blt x.1 c.B) && c.tabs.all (fun x => L.glob x.1 && Nat.blt x.1 c.A && eqTab (st.mem.get x.1) x.2)) = true) :
    st.next ≤ c.A ∧ c.A ≤ c.B ∧ (∀ x ∈ c.objs, c.A ≤ x.1 ∧ x.1 < c.B) ∧ ∀ x ∈ c.tabs, L.glob x.1 = true ∧ x.1 < c.A ∧ eqTab (st.mem.get x.1) x.2 = true := by
  simp only [Bool.and_eq_true, List.all_eq_true, Nat.ble_eq, Nat.blt_eq] at hb
  exact ⟨hb.1.1.1, hb.1.1.2, hb.1.2, fun x hx => ⟨(hb.2 x hx).1.1, (hb.2 x hx).1.2, (hb.2 x hx).2⟩⟩
theorem call_mono {rec : Code → Tm → St → Option (Ex × Tm × St)} (h : ∀ c τ st e τ' st', WF st → rec c τ st = some (e, τ', st') → Mono st st') : CallMono (callE L rec) := by
  intro f args st v st' hw hc
  unfold callE at hc
  split at hc
  · simp only [Option.some.injEq, Prod.mk.injEq] at hc
    obtain ⟨_, rfl⟩ := hc
    exact .refl _
  split at hc
  · rename_i c hcc
    cases hb : (Nat.ble st.next c.A && Nat.ble c.A c.B && c.objs.all (fun x => Nat.ble c.A x.1 && Nat.blt x.1 c.B) && c.tabs.all (fun x => L.glob x.1 && Nat.blt x.1 c.A && eqTab (st.mem.get x.1) x.2)) with
    | false => rw [hb] at hc; cases hc
    | true =>
      rw [hb] at hc
      simp only [cond_true, Option.some.injEq, Prod.mk.injEq] at hc
      obtain ⟨_, rfl⟩ := hc
      obtain ⟨h1, h2, h3, _⟩ := con_checks hb
      have hni : ∀ i, i < st.next → i ∉ c.objs.map (·.1) := fun i hi hm => by
        obtain ⟨x, hx, rfl⟩ := List.mem_map.1 hm
        have := (h3 x hx).1; omega
      refine ⟨by show st.next ≤ c.B; omega, rfl, fun _ h => h, fun _ h => .inl h, fun i hi _ _ => putAll_not _ _ _ (hni i hi), fun hwf i hi => ?_, fun i hi hn => ?_⟩
      · show (putAll c.objs st.mem).get i = none
        have hi' : c.B ≤ i := hi
        rw [putAll_not _ _ _ (fun hm => by obtain ⟨x, hx, rfl⟩ := List.mem_map.1 hm; have := (h3 x hx).2; omega)]
        exact hwf i (by omega)
      · show (putAll c.objs st.mem).get i = none
        rw [putAll_not _ _ _ (hni i hi)]; exact hn
  simp only [Option.bind_eq_some_iff] at hc
  obtain ⟨⟨j, fn⟩, _, c, _, hc⟩ := hc
  cases hb : Nat.ble args.length fn.ntmps with
  | false => rw [hb] at hc; cases hc
  | true =>
    rw [hb] at hc
    simp only [cond_true, Option.bind_eq_some_iff] at hc
    obtain ⟨⟨e, τ, st1⟩, hr, hc⟩ := hc
    have hm := h _ _ _ _ _ _ hw hr
    split at hc
    · cases hc
    · simp only [Option.map_eq_some_iff, Prod.mk.injEq] at hc
      obtain ⟨_, _, _, rfl⟩ := hc
      exact hm

theorem code_mono : ∀ n, CodeMono P L n
  | 0, c, τ, st, e, τ', st', _, h => by simp [codeE] at h
  | n + 1, c, τ, st, e, τ', st', hw, h => by
    have ih := code_mono n
    have hcall : CallMono (callE L (codeE P L n)) := call_mono ih
    unfold codeE at h
    split at h
    · simp only [Option.some.injEq, Prod.mk.injEq] at h; obtain ⟨_, _, rfl⟩ := h; exact .refl _
    · simp only [Option.some.injEq, Prod.mk.injEq] at h; obtain ⟨_, _, rfl⟩ := h; exact .refl _
    · simp only [Option.map_eq_some_iff, Prod.mk.injEq] at h
      obtain ⟨⟨τ1, st1⟩, hr, _, _, rfl⟩ := h
      exact ops_mono hcall _ _ _ _ _ hw hr
    · simp only [Option.map_eq_some_iff, Prod.mk.injEq] at h
      obtain ⟨⟨τ1, st1⟩, hr, _, _, rfl⟩ := h
      exact draw_mono hcall hw hr
    · simp only [Option.bind_eq_some_iff] at h
      obtain ⟨⟨e1, τ1, st1⟩, hr, h⟩ := h
      have hm := ih _ _ _ _ _ _ hw hr
      split at h
      · exact hm.trans (ih _ _ _ _ _ _ (hm.wf hw) h)
      · simp only [Option.some.injEq, Prod.mk.injEq] at h; obtain ⟨_, _, rfl⟩ := h; exact hm
    · simp only [Option.bind_eq_some_iff] at h
      obtain ⟨v, _, h⟩ := h
      split at h
      · exact ih _ _ _ _ _ _ hw h
      · exact ih _ _ _ _ _ _ hw h
      · cases h
    · simp only [Option.bind_eq_some_iff] at h
      obtain ⟨⟨e1, τ1, st1⟩, hr, h⟩ := h
      have hm := ih _ _ _ _ _ _ hw hr
      split at h
      · simp only [Option.some.injEq, Prod.mk.injEq] at h; obtain ⟨_, _, rfl⟩ := h; exact hm
      · simp only [Option.some.injEq, Prod.mk.injEq] at h; obtain ⟨_, _, rfl⟩ := h; exact hm
    · simp only [Option.bind_eq_some_iff] at h
      obtain ⟨⟨e1, τ1, st1⟩, hr, h⟩ := h
      have hm := ih _ _ _ _ _ _ hw hr
      split at h
      · exact hm.trans (ih _ _ _ _ _ _ (hm.wf hw) h)
      · simp only [Option.some.injEq, Prod.mk.injEq] at h; obtain ⟨_, _, rfl⟩ := h; exact hm
    · simp only [Option.some.injEq, Prod.mk.injEq] at h; obtain ⟨_, _, rfl⟩ := h; exact .refl _
    · simp only [Option.some.injEq, Prod.mk.injEq] at h; obtain ⟨_, _, rfl⟩ := h; exact .refl _
    · cases h

def exR : Ex → Exit
  | .normal => .normal
  | .exit id => .exit id
  | .ret => .ret

def CodeSound [Sym] (P : Program) (L : Lk) (n : Nat) : Prop := ∀ c τ st e τ' st', codeE P L n c τ st = some (e, τ', st') → ∀ N β a w (Q : Exit → Act → World → Prop), Inv N β L st w → st'.next ≤ N → TR β τ a →
  (∀ a' w' β', Post st st' β w β' w' → TR β' τ' a' → Q (exR e) a' w') → c.wp P Q a w


theorem tmOf_get : ∀ (vs : List Value) (k : Nat) (t : PT Value) (j : Nat), (tmOf vs k t).get j = if k ≤ j ∧ j < k + vs.length then vs[j - k]? else t.get j
  | [], k, t, j => by rw [if_neg (by simp only [List.length_nil]; omega)]; rfl
  | v :: vs, k, t, j => by
    simp only [tmOf, tmOf_get vs (k + 1), PT.get_upd, List.length_cons]
    by_cases h1 : j = k
    · subst h1; rw [if_neg (by omega), if_pos rfl, if_pos (by omega)]; simp
    · by_cases h2 : k + 1 ≤ j ∧ j < k + 1 + vs.length
      · rw [if_pos h2, if_pos (by omega)]
        have : j - k = (j - (k + 1)) + 1 := by omega
        rw [this, List.getElem?_cons_succ]
      · rw [if_neg h2, if_neg (by omega), if_neg (by omega)]

theorem enter_rel [Sym] {β : Emb} {vs vs' : List Value} {n : Nat} (h : VRs β vs vs') (hle : vs.length ≤ n) : TR β ⟨tmOf vs 0 .nil, n⟩ { tmps := vs'.toArray ++ Array.replicate (n - vs'.toArray.size) undef, defers := [] } where
  n := by have := h.1; simp; omega
  defers := rfl
  vals := fun t => by
    have hl := h.1
    simp only [Tm.get, tmOf_get, PT.get_nil, Nat.zero_add, Nat.zero_le, true_and, Nat.sub_zero]
    by_cases ht : t < vs.length
    · rw [if_pos ht, List.getElem?_eq_getElem ht]
      simp only [Option.getD_some]
      have h1 : (vs'.toArray ++ Array.replicate (n - vs'.toArray.size) undef).getD t undef = vs'[t] := by
        simp only [Array.getD_eq_getD_getElem?]
        rw [Array.getElem?_append_left (by simp; omega)]
        simp [show t < vs'.length by omega]
      rw [h1]
      exact h.2 t _ _ (List.getElem?_eq_getElem ht) (List.getElem?_eq_getElem (by omega))
    · rw [if_neg ht]
      have h1 : (vs'.toArray ++ Array.replicate (n - vs'.toArray.size) undef).getD t undef = undef := by
        by_cases h2 : t < n
        · simp only [Array.getD_eq_getD_getElem?]
          rw [Array.getElem?_append_right (by simp; omega)]
          have h4 : t - vs'.toArray.size < n - vs'.toArray.size := by simp; omega
          simp only [List.size_toArray] at h4 ⊢
          rw [Array.getElem?_replicate, if_pos h4]
          rfl
        · have h3 : ¬ t < (vs'.toArray ++ Array.replicate (n - vs'.toArray.size) undef).size := by simp; omega
          simp only [Array.getD, h3, dif_neg, not_false_iff]
      rw [h1]; exact VR.undef

theorem call_sound [Sym] (hL : L.Ok P) (hC : ConOk P L) {rec : Code → Tm → St → Option (Ex × Tm × St)} (hm : ∀ c τ st e τ' st', WF st → rec c τ st = some (e, τ', st') → Mono st st')
    (h : ∀ c τ st e τ' st', rec c τ st = some (e, τ', st') → ∀ N β a w (Q : Exit → Act → World → Prop), Inv N β L st w → st'.next ≤ N → TR β τ a →
      (∀ a' w' β', Post st st' β w β' w' → TR β' τ' a' → Q (exR e) a' w') → c.wp P Q a w) : CallSound P L (callE L rec) := by
  intro f args st v st' hc N β w args' hi hN hr
  unfold callE at hc
  split at hc
  · rename_i u hu
    simp only [Option.some.injEq, Prod.mk.injEq] at hc
    obtain ⟨rfl, rfl⟩ := hc
    obtain ⟨e1, e2, e3⟩ := hL.ext _ _ _ hu
    have hargs : args' = args := by
      apply List.ext_getElem?
      intro i
      by_cases hi' : i < args.length
      · have hi2 : i < args'.length := by rw [← hr.1]; exact hi'
        rw [List.getElem?_eq_getElem hi', List.getElem?_eq_getElem hi2]
        congr 1
        exact flat3_eq (e1 _ (List.getElem_mem hi')) (hr.2 i _ _ (List.getElem?_eq_getElem hi') (List.getElem?_eq_getElem hi2))
      · rw [List.getElem?_eq_none (show args.length ≤ i by omega), List.getElem?_eq_none (show args'.length ≤ i by have := hr.1; omega)]
    subst hargs
    rcases e3 w with ⟨j, h1, h2⟩ | h1
    · left
      refine ⟨j, h1, h2.mono fun e w' ⟨he, hb⟩ => ⟨_, he, β, ⟨fun _ _ h => h, fun _ h => .inl h, ⟨fun i p h => Nat.lt_of_lt_of_le (hi.rep.inb i p h) hb.size, fun i p ob h1 h2 => ?_, hi.rep.inj⟩, fun b hlt => .inl (hb.block b hlt), fun _ h => .inl h, (fun i p h1 h2 => by rw [h1] at h2; cases h2), hb.size, hb.os, hb.tape, hb.output⟩, flat3_refl e2⟩⟩
      obtain ⟨obj, o1, o2⟩ := hi.rep.obj i p ob h1 h2
      exact ⟨obj, by rw [hb.block _ (hi.rep.inb i p h1)]; exact o1, o2⟩
    · right
      exact ⟨_, h1, β, .refl hi.rep, flat3_refl e2⟩
  split at hc
  · rename_i c hcc
    left
    cases hb : (Nat.ble st.next c.A && Nat.ble c.A c.B && c.objs.all (fun x => Nat.ble c.A x.1 && Nat.blt x.1 c.B) && c.tabs.all (fun x => L.glob x.1 && Nat.blt x.1 c.A && eqTab (st.mem.get x.1) x.2)) with
    | false => rw [hb] at hc; cases hc
    | true =>
      rw [hb] at hc
      simp only [cond_true, Option.some.injEq, Prod.mk.injEq] at hc
      obtain ⟨rfl, rfl⟩ := hc
      obtain ⟨h1, h2, h3, h4⟩ := con_checks hb
      obtain ⟨hfl, j, hj, hcalls⟩ := hC _ _ _ _ hcc
      have hargs : args' = args := by
        apply List.ext_getElem?
        intro i
        by_cases hi' : i < args.length
        · have hi2 : i < args'.length := by rw [← hr.1]; exact hi'
          rw [List.getElem?_eq_getElem hi', List.getElem?_eq_getElem hi2]
          congr 1
          exact flat3_eq (hfl _ (List.getElem_mem hi')) (hr.2 i _ _ (List.getElem?_eq_getElem hi') (List.getElem?_eq_getElem hi2))
        · rw [List.getElem?_eq_none (show args.length ≤ i by omega), List.getElem?_eq_none (show args'.length ≤ i by have := hr.1; omega)]
      subst hargs
      have hpl : ∀ x ∈ c.tabs, β x.1 = some ((β x.1).getD ⟨0, 0, 0, 0⟩) ∧ ((β x.1).getD ⟨0, 0, 0, 0⟩).b = x.1 ∧ ((β x.1).getD ⟨0, 0, 0, 0⟩).o = 0 := fun x hx => by
        obtain ⟨p, hp, a, b⟩ := hi.glob x.1 (h4 x hx).1
        rw [hp]; exact ⟨rfl, a, b⟩
      refine ⟨j, hj, (hcalls w (fun i => (β i).getD ⟨0, 0, 0, 0⟩) fun x hx => ⟨(hpl x hx).2.1, (hpl x hx).2.2, ?_⟩).mono fun e w' ⟨v', β', he, hp⟩ => ?_⟩
      · have h5 := (h4 x hx).2.2
        unfold eqTab at h5
        split at h5
        · rename_i a b ha hb'
          obtain ⟨rfl, hfl⟩ := eqVs_eq _ _ h5
          obtain ⟨obj, o1, o2⟩ := hi.rep.obj _ _ _ (hpl x hx).1 ha
          exact ⟨obj, by rw [(hpl x hx).2.1] at o1; exact o1, by rw [hb']; exact o2.table_flat hfl⟩
        · cases h5
      · obtain ⟨β'', a, b⟩ := con_post hi hN h1 h2 h3 (fun x hx => (h4 x hx).2.1) (fun x hx => (hpl x hx).1) hp
        exact ⟨v', he, β'', a, b⟩
  left
  simp only [Option.bind_eq_some_iff] at hc
  obtain ⟨⟨j, fn⟩, hf, c, hb, hc⟩ := hc
  obtain ⟨h1, h2⟩ := hL.func f j fn hf
  refine ⟨j, h1, ?_⟩
  cases hle : Nat.ble args.length fn.ntmps with
  | false => rw [hle] at hc; cases hc
  | true =>
    rw [hle] at hc
    simp only [cond_true, Option.bind_eq_some_iff] at hc
    obtain ⟨⟨e, τ, st1⟩, hrec, hc⟩ := hc
    simp only [Nat.ble_eq] at hle
    have hmono := hm _ _ _ _ _ _ hi.wf hrec
    have hres : (∀ id, e ≠ .exit id) ∧ ∃ vs, resultsE L fn.results.toList τ st1 = some vs ∧ packE vs = v ∧ st1 = st' := by
      cases e with
      | exit id => cases hc
      | normal => simp only [Option.map_eq_some_iff, Prod.mk.injEq] at hc; obtain ⟨vs, a1, a2, a3⟩ := hc; exact ⟨(fun _ h => by cases h), vs, a1, a2, a3⟩
      | ret => simp only [Option.map_eq_some_iff, Prod.mk.injEq] at hc; obtain ⟨vs, a1, a2, a3⟩ := hc; exact ⟨(fun _ h => by cases h), vs, a1, a2, a3⟩
    obtain ⟨hne, vs, hvs, rfl, rfl⟩ := hres
    refine calls_of_wp h2 hb (h _ _ _ _ _ _ hrec N β _ w _ hi hN (enter_rel hr hle) fun a' w' β' hp ht => ?_)
    obtain ⟨v', hrun, hv⟩ := results_rel hL (hi.step hmono hp) ht hvs
    cases e with
    | exit id => exact absurd rfl (hne id)
    | normal => exact ⟨ht.defers, v', hrun, v', rfl, β', hp, hv⟩
    | ret => exact ⟨ht.defers, v', hrun, v', rfl, β', hp, hv⟩

theorem least {p : Nat → Prop} (h : ∃ m, p m) : ∃ m, p m ∧ ∀ k, p k → m ≤ k := by
  obtain ⟨m, hm⟩ := h
  induction m using Nat.strongRecOn with
  | _ m ih =>
    by_cases hx : ∃ k, k < m ∧ p k
    · obtain ⟨k, h1, h2⟩ := hx; exact ih k h1 h2
    · exact ⟨m, hm, fun k hk => Nat.le_of_not_lt fun hlt => hx ⟨k, hlt, hk⟩⟩

theorem code_sound [Sym] (hL : L.Ok P) (hC : ConOk P L) (n : Nat) : CodeSound P L n := by
  induction n using Nat.strongRecOn with
  | _ n IH =>
  intro c τ st e τ' st' h N β a w Q hi hN ht hq
  cases n with
  | zero => simp [codeE] at h
  | succ n =>
    have ih : CodeSound P L n := IH n (Nat.lt_succ_self n)
    have hcm : CallMono (callE L (codeE P L n)) := call_mono (code_mono n)
    have hcs : CallSound P L (callE L (codeE P L n)) := call_sound hL hC (code_mono n) ih
    have h0 := h
    unfold codeE at h
    split at h
    · simp only [Option.some.injEq, Prod.mk.injEq] at h; obtain ⟨rfl, rfl, rfl⟩ := h
      exact wp_skip (hq a w β (.refl hi.rep) ht)
    · simp only [Option.some.injEq, Prod.mk.injEq] at h; obtain ⟨rfl, rfl, rfl⟩ := h
      exact wp_label (hq a w β (.refl hi.rep) ht)
    · rename_i id ops
      simp only [Option.map_eq_some_iff, Prod.mk.injEq] at h
      obtain ⟨⟨τ1, st1⟩, hr, rfl, rfl, rfl⟩ := h
      refine wp_region ?_
      have := ops_sound (Q := Q) hL hcm hcs (ops := ops) ops.toList 0 τ st τ1 st1 β a w (fun j => by simp) hr hi hN ht hq
      rw [List.range_eq_range']
      simpa using this
    · rename_i id ops
      simp only [Option.map_eq_some_iff, Prod.mk.injEq] at h
      obtain ⟨⟨τ1, st1⟩, hr, rfl, rfl, rfl⟩ := h
      exact draw_sound hL hcm hcs hr hi hN ht hq
    · rename_i x y
      simp only [Option.bind_eq_some_iff] at h
      obtain ⟨⟨e1, τ1, st1⟩, hr, h⟩ := h
      have hm1 := code_mono n _ _ _ _ _ _ hi.wf hr
      refine wp_seq ?_
      have rest : ∀ e1', e1 = e1' → (e1' ≠ .normal) → some (e1', τ1, st1) = some (e, τ', st') → x.wp P (Exit.then (y.wp P Q) Q) a w := by
        rintro e1' rfl hne h
        simp only [Option.some.injEq, Prod.mk.injEq] at h
        obtain ⟨rfl, rfl, rfl⟩ := h
        refine ih _ _ _ _ _ _ hr N β a w _ hi hN ht fun a' w' β' hp ht' => ?_
        have := hq a' w' β' hp ht'
        cases e1 with
        | normal => exact absurd rfl hne
        | exit id => exact this
        | ret => exact this
      cases e1 with
      | normal =>
        simp only at h
        have hm2 := code_mono n _ _ _ _ _ _ (hm1.wf hi.wf) h
        refine ih _ _ _ _ _ _ hr N β a w _ hi (Nat.le_trans hm2.next hN) ht fun a' w' β' hp ht' => ?_
        show y.wp P Q a' w'
        refine ih _ _ _ _ _ _ h N β' a' w' Q (hi.step hm1 hp) hN ht' fun a'' w'' β'' hp' ht'' => ?_
        exact hq a'' w'' β'' (Post.trans hi hm1 hm2 hN hp hp') ht''
      | exit id => exact rest _ rfl (fun h => by cases h) h
      | ret => exact rest _ rfl (fun h => by cases h) h
    · rename_i cnd x y
      simp only [Option.bind_eq_some_iff] at h
      obtain ⟨v, hv, h⟩ := h
      have hrv := rho_rel hi.glob ht cnd v hv
      split at h
      · refine wp_cond_true (by generalize a.eval cnd = u at hrv; cases hrv; rfl) (ih _ _ _ _ _ _ h N β a w Q hi hN ht hq)
      · refine wp_cond_false (by generalize a.eval cnd = u at hrv; cases hrv; rfl) (ih _ _ _ _ _ _ h N β a w Q hi hN ht hq)
      · cases h
    · rename_i id body
      simp only [Option.bind_eq_some_iff] at h
      obtain ⟨⟨e1, τ1, st1⟩, hr, h⟩ := h
      refine wp_block ?_
      cases e1 with
      | exit id' =>
        simp only [Option.some.injEq, Prod.mk.injEq] at h
        obtain ⟨he, rfl, rfl⟩ := h
        refine ih _ _ _ _ _ _ hr N β a w _ hi hN ht fun a' w' β' hp ht' => ?_
        have := hq a' w' β' hp ht'
        simp only [exR, Exit.inBlock]
        rw [beq_dec] at he
        by_cases e0 : id' = id
        · rw [decide_eq_true e0] at he
          simp only [cond_true] at he
          rw [if_pos e0]; rw [← he] at this; exact this
        · rw [decide_eq_false e0] at he
          simp only [cond_false] at he
          rw [if_neg e0]; rw [← he] at this; exact this
      | normal =>
        simp only [Option.some.injEq, Prod.mk.injEq] at h
        obtain ⟨rfl, rfl, rfl⟩ := h
        exact ih _ _ _ _ _ _ hr N β a w _ hi hN ht fun a' w' β' hp ht' => hq a' w' β' hp ht'
      | ret =>
        simp only [Option.some.injEq, Prod.mk.injEq] at h
        obtain ⟨rfl, rfl, rfl⟩ := h
        exact ih _ _ _ _ _ _ hr N β a w _ hi hN ht fun a' w' β' hp ht' => hq a' w' β' hp ht'
    · rename_i body
      -- a loop: the bound of the run counts the rounds
      let J : Nat → Act → World → Prop := fun m a1 w1 => m ≤ n + 1 ∧ ∃ τ1 st1 β1, codeE P L m (.loop body) τ1 st1 = some (e, τ', st') ∧ Mono st st1 ∧ Post st st1 β w β1 w1 ∧ TR β1 τ1 a1
      classical
      let μ : Act → World → Nat := fun a1 w1 => if hx : ∃ m, J m a1 w1 then Classical.choose (least hx) else 0
      refine wp_loop (fun a1 w1 => ∃ m, J m a1 w1) μ ⟨n + 1, Nat.le_refl _, τ, st, β, h0, .refl _, .refl hi.rep, ht⟩ fun a1 w1 hx => ?_
      have hμ : μ a1 w1 = Classical.choose (least hx) := dif_pos hx
      obtain ⟨hle, τ1, st1, β1, hrun, hmo, hpo, htr⟩ := (Classical.choose_spec (least hx)).1
      rw [← hμ] at hle hrun
      generalize μ a1 w1 = m at hle hrun
      cases m with
      | zero => simp [codeE] at hrun
      | succ m =>
        have hi1 := hi.step hmo hpo
        unfold codeE at hrun
        simp only [Option.bind_eq_some_iff] at hrun
        obtain ⟨⟨e1, τ2, st2⟩, hr, hrun⟩ := hrun
        have hm2 := code_mono m _ _ _ _ _ _ hi1.wf hr
        have ihm : CodeSound P L m := IH m (by omega)
        have rest : ∀ e1', e1 = e1' → (e1' ≠ .normal) → some (e1', τ2, st2) = some (e, τ', st') → body.wp P (Exit.then (fun a' w' => (∃ m, J m a' w') ∧ μ a' w' < m + 1) Q) a1 w1 := by
          rintro e1' rfl hne hrun
          simp only [Option.some.injEq, Prod.mk.injEq] at hrun
          obtain ⟨rfl, rfl, rfl⟩ := hrun
          refine ihm _ _ _ _ _ _ hr N β1 a1 w1 _ hi1 hN htr fun a2 w2 β2 hp2 ht2 => ?_
          have := hq a2 w2 β2 (Post.trans hi hmo hm2 hN hpo hp2) ht2
          cases e1 with
          | normal => exact absurd rfl hne
          | exit id => exact this
          | ret => exact this
        cases e1 with
        | normal =>
          simp only at hrun
          have hm3 := code_mono m _ _ _ _ _ _ (hm2.wf hi1.wf) hrun
          refine ihm _ _ _ _ _ _ hr N β1 a1 w1 _ hi1 (Nat.le_trans hm3.next hN) htr fun a2 w2 β2 hp2 ht2 => ?_
          have hJ : J m a2 w2 := ⟨by omega, τ2, st2, β2, hrun, hmo.trans hm2, Post.trans hi hmo hm2 (Nat.le_trans hm3.next hN) hpo hp2, ht2⟩
          show (∃ m, J m a2 w2) ∧ μ a2 w2 < m + 1
          refine ⟨⟨m, hJ⟩, ?_⟩
          have : μ a2 w2 = Classical.choose (least (⟨m, hJ⟩ : ∃ m, J m a2 w2)) := dif_pos (⟨m, hJ⟩ : ∃ m, J m a2 w2)
          rw [this]
          exact Nat.lt_succ_of_le ((Classical.choose_spec (least (⟨m, hJ⟩ : ∃ m, J m a2 w2))).2 m hJ)
        | exit id => exact rest _ rfl (fun h => by cases h) hrun
        | ret => exact rest _ rfl (fun h => by cases h) hrun
    · simp only [Option.some.injEq, Prod.mk.injEq] at h; obtain ⟨rfl, rfl, rfl⟩ := h
      exact wp_exit (hq a w β (.refl hi.rep) ht)
    · simp only [Option.some.injEq, Prod.mk.injEq] at h; obtain ⟨rfl, rfl, rfl⟩ := h
      exact wp_ret (hq a w β (.refl hi.rep) ht)
    · cases h

/-- **A call that the evaluator carries out, the machine carries out**, over whatever memory. -/
theorem run_sound [Sym] (hL : L.Ok P) (hC : ConOk P L) {n f : Nat} {args : List Value} {st st' : St} {v : Value} (h : runE P L n f args st = some (v, st')) {β : Emb} {w : World} {args' : List Value} (hi : Inv st'.next β L st w) (hr : VRs β args args')
    {fn : Func} (hf : L.func f = some (f, fn)) :
    Calls P f args'.toArray w fun e w' => ∃ v', e = .returned v' ∧ ∃ β', Post st st' β w β' w' ∧ VR β' v v' := by
  rcases call_sound hL hC (code_mono n) (code_sound hL hC n) f args st v st' h _ β w args' hi (Nat.le_refl _) hr with ⟨j, h1, h2⟩ | ⟨v', h1, _⟩
  · have := (hL.func f f fn hf).1 #[] w
    rw [h1 #[] w] at this
    cases this
    exact h2
  · have := (hL.func f f fn hf).1 args'.toArray w
    rw [h1] at this
    cases this
end
end Go.E
#print axioms Go.E.run_sound
