/- The quick evaluator's answers are the evaluator's. -/
import Derived.Test.YtfgdoliihmjnoaaDoorXF2
set_option linter.unusedSimpArgs false
set_option linter.unusedVariables false
namespace Go.E
open Go

def CallLe (c1 c2 : CallF) : Prop := ∀ f args st r, c1 f args st = some r → c2 f args st = some r
def CodeLe (c1 c2 : CodeF) : Prop := ∀ c τ st r, c1 c τ st = some r → c2 c τ st = some r

section
variable {P : Program} {L : Lk} {c1 c2 : CallF} {ρ : Operand → Option Value} {o : Oper} {st : St}

theorem gen_le (hc : CallLe c1 c2) {r : Value × St} (h : genE L c1 ρ o st = some r) : genE L c2 ρ o st = some r := by
  unfold genE at h ⊢
  cases hop : o.op <;> rw [hop] at h <;> simp only at h ⊢ <;> try exact h
  case next it b => cases b <;> exact h
  case call c =>
    obtain ⟨callee, args, ats⟩ := c
    cases callee <;> simp only at h ⊢ <;> try exact h
    rename_i f
    simp only [Option.bind_eq_some_iff] at h ⊢
    obtain ⟨vf, hf, vs, hvs, h⟩ := h
    refine ⟨vf, hf, vs, hvs, ?_⟩
    split at h
    · exact hc _ _ _ _ h
    · cases h

theorem opE_le (hc : CallLe c1 c2) {r : Value × Kd × St} (h : opE P L c1 ρ o st = some r) : opE P L c2 ρ o st = some r := by
  unfold opE at h ⊢
  cases hp : pureE P L ρ o with
  | some v => simp only [hp] at h ⊢; exact h
  | none =>
    simp only [hp] at h ⊢
    cases ha : allocE L ρ o with
    | some v => simp only [ha] at h ⊢; exact h
    | none =>
      simp only [ha] at h ⊢
      cases hr : readE L ρ o with
      | some v => simp only [hr] at h ⊢; exact h
      | none =>
        simp only [hr, Option.map_eq_some_iff] at h ⊢
        obtain ⟨x, hx, h⟩ := h
        exact ⟨x, gen_le hc hx, h⟩

theorem ops_le [Sym] (hL : L.Ok P) (hc : CallLe c1 c2) {ops : List Oper} : ∀ (l : List Oper) (τ : Tm) (st : St) (r : Tm × St), opsK P L c1 ops l τ st = some r → opsE P L c2 ops l τ st = some r
  | [], τ, st, r, h => h
  | o :: l, τ, st, r, h => by
    have step : ((opK P L o c1 (rho L τ) st).bind fun r => opsK P L c1 ops l (τ.put o.dst r.1) r.2.2) = some r →
        ((opE P L c2 (rho L τ) o st).bind fun (v, _, st) => opsE P L c2 ops l (τ.put o.dst v) st) = some r := by
      intro h
      simp only [Option.bind_eq_some_iff] at h ⊢
      obtain ⟨x, hx, h⟩ := h
      exact ⟨x, opE_le hc (opK_le hL hx), ops_le hL hc l _ _ _ h⟩
    simp only [opsE]
    have h' : (match o.guard with
      | none => (opK P L o c1 (rho L τ) st).bind fun r => opsK P L c1 ops l (τ.put o.dst r.1) r.2.2
      | some _ => @Bool.rec (fun _ => Option (Tm × St)) (opsK P L c1 ops l (τ.put o.dst undef) st) ((opK P L o c1 (rho L τ) st).bind fun r => opsK P L c1 ops l (τ.put o.dst r.1) r.2.2) (wantedE ops τ o)) = some r := h
    cases hg : o.guard with
    | none =>
      rw [hg] at h'
      have hw : wantedE ops τ o = true := by unfold wantedE; rw [hg]
      rw [hw]
      exact step h'
    | some g =>
      rw [hg] at h'
      cases hw : wantedE ops τ o with
      | true => rw [hw] at h'; exact step h'
      | false => rw [hw] at h'; exact ops_le hL hc l _ _ _ h'

theorem draw_le (hc : CallLe c1 c2) {ops : Array Oper} : ∀ (l : List Oper) (recs : List Rec) (τ : Tm) (st : St) (r : Tm × St), drawE P L c1 ops l recs τ st = some r → drawE P L c2 ops l recs τ st = some r
  | [], recs, τ, st, r, h => h
  | o :: l, recs, τ, st, r, h => by
    simp only [drawE, Option.bind_eq_some_iff] at h ⊢
    obtain ⟨⟨v, kd, st'⟩, hx, h⟩ := h
    refine ⟨(v, kd, st'), ?_, ?_⟩
    · cases hw : wantedE ops.toList τ o with
      | true => rw [hw] at hx; exact opE_le hc hx
      | false => rw [hw] at hx; exact hx
    · simp only at h ⊢
      generalize (okWith ops recs 0 _ && _) = b at h ⊢
      cases b with
      | false => cases h
      | true => exact draw_le hc l _ _ _ _ h

theorem call_le {r1 r2 : CodeF} (hr : CodeLe r1 r2) : CallLe (callE L r1) (callE L r2) := by
  intro f args st r h
  unfold callE at h ⊢
  split at h
  · exact h
  split at h
  · exact h
  · simp only [Option.bind_eq_some_iff] at h ⊢
    obtain ⟨x, hx, c, hcb, h⟩ := h
    refine ⟨x, hx, c, hcb, ?_⟩
    cases hb : Nat.ble args.length x.2.ntmps with
    | false => rw [hb] at h; cases h
    | true =>
      rw [hb] at h
      simp only [cond_true, Option.bind_eq_some_iff] at h ⊢
      obtain ⟨y, hy, h⟩ := h
      exact ⟨y, hr _ _ _ _ hy, h⟩

theorem codeF_le [Sym] (hL : L.Ok P) : ∀ n, CodeLe (codeF P L n) (codeE P L n)
  | 0, c, τ, st, r, h => by cases h
  | n + 1, c, τ, st, r, h => by
    have ih := codeF_le hL n
    have hc : CallLe (callE L (codeF P L n)) (callE L (codeE P L n)) := call_le ih
    have h' : codeK P L c (codeF P L n) τ st = some r := h
    unfold codeK codeK0 at h'
    unfold codeE
    cases c <;> simp only at h' ⊢ <;> try exact h'
    case region id ops d =>
      cases d <;> simp only [Option.bind_eq_some_iff, Option.map_eq_some_iff] at h' ⊢
      · obtain ⟨x, hx, h⟩ := h'
        exact ⟨x, ops_le hL hc _ _ _ _ hx, by simpa using h⟩
      · obtain ⟨x, hx, h⟩ := h'
        exact ⟨x, draw_le hc _ _ _ _ _ hx, by simpa using h⟩
    case seq a b =>
      simp only [Option.bind_eq_some_iff] at h' ⊢
      obtain ⟨⟨e, τ1, st1⟩, hx, h⟩ := h'
      refine ⟨(e, τ1, st1), ih _ _ _ _ hx, ?_⟩
      cases e <;> simp only at h ⊢ <;> first | exact ih _ _ _ _ h | exact h
    case cond x a b =>
      cases hv : rho L τ x with
      | none => rw [hv] at h'; cases h'
      | some v =>
        rw [hv] at h'
        try simp only [Option.bind_some]
        cases v <;> (try simp only at h') <;> (try simp only) <;> try (cases h'; done)
        rename_i bb
        cases bb <;> exact ih _ _ _ _ h'
    case block id body =>
      simp only [Option.bind_eq_some_iff] at h' ⊢
      obtain ⟨⟨e, τ1, st1⟩, hx, h⟩ := h'
      refine ⟨(e, τ1, st1), ih _ _ _ _ hx, ?_⟩
      cases e <;> exact h
    case loop body =>
      simp only [Option.bind_eq_some_iff] at h' ⊢
      obtain ⟨⟨e, τ1, st1⟩, hx, h⟩ := h'
      refine ⟨(e, τ1, st1), ih _ _ _ _ hx, ?_⟩
      cases e <;> simp only at h ⊢ <;> first | exact ih _ _ _ _ h | exact h

theorem runF_le [Sym] (hL : L.Ok P) {n f : Nat} {args : List Value} {st : St} {r : Value × St} (h : runF P L n f args st = some r) : runE P L n f args st = some r :=
  call_le (codeF_le hL n) _ _ _ _ h
end
end Go.E
