/- A closed run of a function that gives back the memory as it was. -/
import Derived.Test.YthngaoncjpgeiaaGreatDoorXF
set_option linter.unusedSimpArgs false
set_option linter.unusedVariables false
namespace Go.E
open Go
section
variable {P : Program} {L : Lk} {c1 c2 : CallF}
theorem opsE_le (hc : CallLe c1 c2) {ops : List Oper} : ∀ (l : List Oper) (τ : Tm) (st : St) (r : Tm × St), opsE P L c1 ops l τ st = some r → opsE P L c2 ops l τ st = some r
  | [], τ, st, r, h => h
  | o :: l, τ, st, r, h => by
    simp only [opsE] at h ⊢
    cases hw : wantedE ops τ o with
    | true =>
      rw [hw] at h
      simp only [cond_true, Option.bind_eq_some_iff] at h ⊢
      obtain ⟨x, hx, h⟩ := h
      exact ⟨x, opE_le hc hx, opsE_le hc l _ _ _ h⟩
    | false =>
      rw [hw] at h
      simp only [cond_false] at h ⊢
      exact opsE_le hc l _ _ _ h
theorem codeE_up : ∀ n, CodeLe (codeE P L n) (codeE P L (n + 1))
  | 0, c, τ, st, r, h => by cases h
  | n + 1, c, τ, st, r, h => by
    have ih := codeE_up n
    have hc : CallLe (callE L (codeE P L n)) (callE L (codeE P L (n + 1))) := call_le ih
    unfold codeE at h ⊢
    cases c <;> simp only at h ⊢ <;> try exact h
    case region id ops d =>
      cases d <;> simp only [Option.map_eq_some_iff] at h ⊢
      · obtain ⟨x, hx, h⟩ := h
        exact ⟨x, opsE_le hc _ _ _ _ hx, h⟩
      · obtain ⟨x, hx, h⟩ := h
        exact ⟨x, draw_le hc _ _ _ _ _ hx, h⟩
    case seq a b =>
      simp only [Option.bind_eq_some_iff] at h ⊢
      obtain ⟨⟨e, τ1, st1⟩, hx, h⟩ := h
      refine ⟨(e, τ1, st1), ih _ _ _ _ hx, ?_⟩
      cases e <;> simp only at h ⊢ <;> first | exact ih _ _ _ _ h | exact h
    case cond x a b =>
      cases hv : rho L τ x with
      | none => rw [hv] at h; cases h
      | some v =>
        rw [hv] at h
        try simp only [Option.bind_some]
        cases v <;> (try simp only [Option.bind_some] at h) <;> (try simp only) <;> try (cases h; done)
        rename_i bb
        cases bb <;> exact ih _ _ _ _ h
    case block id body =>
      simp only [Option.bind_eq_some_iff] at h ⊢
      obtain ⟨⟨e, τ1, st1⟩, hx, h⟩ := h
      refine ⟨(e, τ1, st1), ih _ _ _ _ hx, ?_⟩
      cases e <;> exact h
    case loop body =>
      simp only [Option.bind_eq_some_iff] at h ⊢
      obtain ⟨⟨e, τ1, st1⟩, hx, h⟩ := h
      refine ⟨(e, τ1, st1), ih _ _ _ _ hx, ?_⟩
      cases e <;> simp only at h ⊢ <;> first | exact ih _ _ _ _ h | exact h
theorem codeE_le {n m : Nat} (h : n ≤ m) : CodeLe (codeE P L n) (codeE P L m) := by
  obtain ⟨k, rfl⟩ := Nat.le.dest h
  clear h
  induction k with
  | zero => exact fun _ _ _ _ h => h
  | succ k ih => exact fun c τ st r h => codeE_up _ _ _ _ _ (ih _ _ _ _ h)
/-- A run says 'true'. -/
def okP (nx : Nat) (r : Option (Value × St)) : Bool := match r with
  | some (.bool b, s) => b && Nat.ble nx s.next
  | _ => false
theorem pure_closed [Sym] (hL : L.Ok P) {f : FuncId} {args : List Value} {st : SS} {n : Nat} (hx : L.ext f args = none) (hcn : L.con f args st.next = none) (hp : L.pureF f = true)
    (h : okP st.next (runF P L n f args ⟨st.mem, st.next, st.next, []⟩) = true) : ∃ N, st.next ≤ N ∧ cS P L f args st = some (.bool true, st.adv N) := by
  cases hr : runF P L n f args ⟨st.mem, st.next, st.next, []⟩ with
  | none => rw [hr] at h; cases h
  | some r =>
    have hrun := runF_le hL hr
    rw [hr] at h
    obtain ⟨v, s'⟩ := r
    have hv : v = .bool true ∧ st.next ≤ s'.next := by
      unfold okP at h
      cases v <;> simp only at h <;> try (cases h; done)
      rename_i b
      rw [Bool.and_eq_true] at h
      exact ⟨by rw [h.1], Nat.le_of_ble_eq_true h.2⟩
    obtain ⟨rfl, hN⟩ := hv
    refine ⟨s'.next, hN, ?_⟩
    rw [cS_iff]
    refine ⟨rfl, n, fun m hm base log => ⟨log, ?_, .refl _ _ _⟩⟩
    unfold runE callE at hrun
    unfold callE
    have hcn' : L.con f args (st.toE base log).next = none := hcn
    rw [hx] at hrun ⊢
    simp only at hrun ⊢
    rw [hcn] at hrun
    rw [hcn']
    simp only [hp, cond_true, Option.bind_eq_some_iff] at hrun ⊢
    obtain ⟨a, ha, c, hc, h1⟩ := hrun
    refine ⟨a, ha, c, hc, ?_⟩
    cases hb : Nat.ble args.length a.2.ntmps with
    | false => rw [hb] at h1; cases h1
    | true =>
      rw [hb] at h1
      simp only [cond_true, Option.bind_eq_some_iff] at h1 ⊢
      obtain ⟨⟨e, τ, s1⟩, h2, h3⟩ := h1
      refine ⟨(e, τ, s1), codeE_le hm _ _ _ _ h2, ?_⟩
      cases e <;> simp only [Option.bind_eq_some_iff] at h3 ⊢ <;> first
        | (cases h3; done)
        | (obtain ⟨vs, h4, h5⟩ := h3
           refine ⟨vs, h4, ?_⟩
           cases hq : (s1.log.isEmpty && flat3 (packE vs)) with
           | false => rw [hq] at h5; cases h5
           | true =>
             rw [hq] at h5
             simp only [cond_true, Option.some.injEq, Prod.mk.injEq] at h5 ⊢
             obtain ⟨h6, h7⟩ := h5
             exact ⟨h6, by rw [← h7]; rfl⟩)
end
end Go.E
