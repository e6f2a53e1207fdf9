/- A region that draws its order: what its check says, as a table of the run in text order. -/
import Derived.Test.YtfgdoliihmjnoaaDoorXE11
set_option linter.unusedSimpArgs false
set_option linter.unusedVariables false
namespace Go.E
open Go

section
variable {P : Program} {L : Lk} {callf : CallF}

theorem mapM_congr' {α γ : Type} {f g : α → Option γ} : ∀ (l : List α), (∀ x ∈ l, f x = g x) → l.mapM f = l.mapM g
  | [], _ => rfl
  | x :: l, h => by
    rw [List.mapM_cons, List.mapM_cons, h x (by simp), mapM_congr' l fun y hy => h y (by simp [hy])]

theorem opE_congr {ρ ρ2 : Operand → Option Value} {o : Oper} {st : St} (h : ∀ x ∈ o.op.operands, ρ x = ρ2 x) : opE P L callf ρ o st = opE P L callf ρ2 o st := by
  have parts : ∀ ps : Array (Nat × Operand), (∀ x ∈ (ps.toList.map (·.2)).toArray, ρ x = ρ2 x) →
      (ps.toList.mapM fun p => (ρ p.2).map fun v => (p.1, v)) = (ps.toList.mapM fun p => (ρ2 p.2).map fun v => (p.1, v)) := fun ps hp =>
    mapM_congr' _ fun p hm => by rw [hp p.2 (by simp only [List.mem_toArray, List.mem_map]; exact ⟨p, hm, rfl⟩)]
  obtain ⟨dst, op, type, pos, after, guard⟩ := o
  have h1 : pureE P L ρ ⟨dst, op, type, pos, after, guard⟩ = pureE P L ρ2 ⟨dst, op, type, pos, after, guard⟩ := by
    cases op <;> simp only [Op.operands] at h <;> simp only [pureE]
    case build t ps => rw [parts ps h]
    case slice t x lo hi mx => cases mx <;> cases lo <;> cases hi <;> simp_all [pureE]
    case makeFunc f a b =>
      have ha : a.toList.mapM ρ = a.toList.mapM ρ2 := mapM_congr' _ fun x hx => h x (by simp; left; simpa using hx)
      have hb : b.toList.mapM ρ = b.toList.mapM ρ2 := mapM_congr' _ fun x hx => h x (by simp; right; simpa using hx)
      cases f <;> simp only [pureE, ha, hb]
    case call c =>
      obtain ⟨callee, args, ats⟩ := c
      cases callee <;> simp only [Call.operands] at h <;> try rfl
      rename_i b
      have : args.toList.mapM ρ = args.toList.mapM ρ2 := mapM_congr' _ fun x hx => h x (by simpa using hx)
      simp only [this]
    all_goals (first | rfl | (simp_all; done))
  have h2 : allocE L ρ ⟨dst, op, type, pos, after, guard⟩ = allocE L ρ2 ⟨dst, op, type, pos, after, guard⟩ := by
    cases op <;> simp only [Op.operands] at h <;> simp only [allocE]
    case buildSlice t n ps => rw [parts ps h]
    all_goals (first | rfl | (simp_all; done))
  have h3 : readE L ρ ⟨dst, op, type, pos, after, guard⟩ = readE L ρ2 ⟨dst, op, type, pos, after, guard⟩ := by
    cases op <;> simp only [Op.operands] at h <;> simp only [readE]
    case slice t x lo hi mx => cases mx <;> cases lo <;> cases hi <;> simp_all [readE]
    all_goals (first | rfl | (simp_all; done))
  have h4 : genE L callf ρ ⟨dst, op, type, pos, after, guard⟩ st = genE L callf ρ2 ⟨dst, op, type, pos, after, guard⟩ st := by
    cases op <;> simp only [Op.operands] at h <;> simp only [genE]
    case next it b => cases b <;> simp_all [genE]
    case call c =>
      obtain ⟨callee, args, ats⟩ := c
      cases callee <;> simp only [Call.operands] at h <;> try rfl
      · have : args.toList.mapM ρ = args.toList.mapM ρ2 := mapM_congr' _ fun x hx => h x (by simp; right; simpa using hx)
        rename_i f
        have hf := h f (by simp)
        simp only [this, hf]
      · rename_i b
        have : args.toList.mapM ρ = args.toList.mapM ρ2 := mapM_congr' _ fun x hx => h x (by simpa using hx)
        simp only [this]
    all_goals (first | rfl | (simp_all; done))
  unfold opE
  rw [h1, h2, h3, h4]

/-! ### The table -/
structure Tab (P : Program) (L : Lk) (callf : CallF) (ops : Array Oper) where
  σ : Nat → St
  θ : Nat → Tm
  v : Nat → Value
  kd : Nat → Kd
  out : Nat → St
  rc : Nat → Rec

def merge (st out : St) : St := { out with base := st.base, log := (out.log.filter fun i => Nat.blt i st.base && !st.log.contains i) ++ st.log }
def fresh (st : St) : St := { st with base := st.next, log := [] }

structure RowOk (P : Program) (L : Lk) (callf : CallF) (ops : Array Oper) (T : Tab P L callf ops) (j : Nat) (o : Oper) : Prop where
  op : ops[j]? = some o
  rc : T.rc j = { o, preds := predsE ((List.range j).map T.rc) o ||| (1 <<< j), log := (T.out j).log, kd := T.kd j }
  run : cond (wantedE ops.toList (T.θ j) o) (opE P L callf (rho L (T.θ j)) o (fresh (T.σ j))) (some (undef, .blind, fresh (T.σ j))) = some (T.v j, T.kd j, T.out j)
  σ : T.σ (j + 1) = merge (T.σ j) (T.out j)
  θ : T.θ (j + 1) = (T.θ j).put o.dst (T.v j)
  ok : okWith ops ((List.range j).map T.rc) 0 (T.rc j) = true
  edges : ∀ e ∈ o.after, binding e = true → e.on < j

theorem draw_tab {ops : Array Oper} : ∀ (rest : List Oper) (recs : List Rec) (τ : Tm) (st : St) (τ' : Tm) (st' : St), (∀ j, rest[j]? = ops[recs.length + j]?) →
    drawE P L callf ops rest recs τ st = some (τ', st') →
    ∃ T : Tab P L callf ops, (∀ j (h : j < recs.length), T.rc j = recs[j]) ∧ T.σ recs.length = st ∧ T.θ recs.length = τ ∧ T.σ ops.size = st' ∧ T.θ ops.size = τ' ∧
      ∀ j, recs.length ≤ j → j < ops.size → ∃ o, RowOk P L callf ops T j o
  | [], recs, τ, st, τ', st', hr, h => by
    simp only [drawE, Option.some.injEq, Prod.mk.injEq] at h
    obtain ⟨rfl, rfl⟩ := h
    have hsz : ops.size ≤ recs.length := by
      have := hr 0
      simp at this
      exact this
    exact ⟨⟨fun _ => st, fun _ => τ, fun _ => undef, fun _ => .blind, fun _ => st, fun j => (recs[j]?).getD ⟨default, 0, [], .blind⟩⟩, fun j h => by simp [h], rfl, rfl, rfl, rfl, fun j h1 h2 => by omega⟩
  | o :: rest, recs, τ, st, τ', st', hr, h => by
    simp only [drawE, Option.bind_eq_some_iff] at h
    obtain ⟨⟨v, kd, out⟩, hrun, h⟩ := h
    simp only at h
    have ho : ops[recs.length]? = some o := by simpa using (hr 0).symm
    have hlt : recs.length < ops.size := (Array.getElem?_eq_some_iff.1 ho).1
    generalize hrr : ({ o, preds := predsE recs o ||| (1 <<< recs.length), log := out.log, kd } : Rec) = r at h
    cases hc : (okWith ops recs 0 r && o.after.all fun e => !binding e || Nat.blt e.on recs.length) with
    | false => rw [hc] at h; cases h
    | true =>
      rw [hc] at h
      simp only [cond_true] at h
      simp only [Bool.and_eq_true] at hc
      have hr' : ∀ j, rest[j]? = ops[(recs ++ [r]).length + j]? := fun j => by
        have := hr (j + 1)
        simp only [List.getElem?_cons_succ] at this
        rw [this]; congr 1; simp; omega
      obtain ⟨T, t1, t2, t3, t4, t5, t6⟩ := draw_tab rest (recs ++ [r]) _ _ _ _ hr' h
      simp only [List.length_append, List.length_cons, List.length_nil] at t1 t2 t3 t6
      have hne : ops.size ≠ recs.length := by omega
      let T' : Tab P L callf ops := ⟨fun j => if j = recs.length then st else T.σ j, fun j => if j = recs.length then τ else T.θ j, fun j => if j = recs.length then v else T.v j,
        fun j => if j = recs.length then kd else T.kd j, fun j => if j = recs.length then out else T.out j, T.rc⟩
      have hmap : (List.range recs.length).map T.rc = recs := by
        apply List.ext_getElem
        · simp
        · intro i h1 h2
          simp only [List.getElem_map, List.getElem_range]
          rw [t1 i (by omega), List.getElem_append_left h2]
      have hrl : T.rc recs.length = r := by rw [t1 recs.length (by omega)]; simp
      refine ⟨T', fun j hj => ?_, by simp [T'], by simp [T'], by simp [T', hne, t4], by simp [T', hne, t5], fun j h1 h2 => ?_⟩
      · show T.rc j = _
        rw [t1 j (by omega), List.getElem_append_left hj]
      · by_cases e : j = recs.length
        · subst e
          refine ⟨o, ho, ?_, ?_, ?_, ?_, ?_, ?_⟩
          · show T.rc recs.length = _
            rw [hrl, ← hrr]
            have : T'.rc = T.rc := rfl
            simp only [this, hmap, T', if_true]
          · simp only [T', if_true]
            exact hrun
          · have h3 : recs.length + 1 ≠ recs.length := by omega
            simp only [T', if_true, h3, if_false]
            rw [t2]; rfl
          · have h3 : recs.length + 1 ≠ recs.length := by omega
            simp only [T', if_true, h3, if_false]
            rw [t3]
          · have : T'.rc = T.rc := rfl
            simp only [this, hmap, hrl]
            exact hc.1
          · intro e he hb
            have := (Array.all_eq_true_iff_forall_mem.1 hc.2) e he
            simpa [hb, Nat.blt_eq] using this
        · obtain ⟨o', r1, r2, r3, r4, r5, r6, r7⟩ := t6 j (by omega) h2
          have hj1 : j + 1 ≠ recs.length := by omega
          exact ⟨o', r1, by simp only [T', e, if_false]; exact r2, by simp only [T', e, if_false]; exact r3, by simp only [T', e, hj1, if_false]; exact r4, by simp only [T', e, hj1, if_false]; exact r5, r6, r7⟩

theorem okWith_spec {ops : Array Oper} {r : Rec} : ∀ (recs : List Rec) (k : Nat), okWith ops recs k r = true → ∀ i (h : i < recs.length),
    (r.preds.testBit (k + i) = true ∨ (okPair recs[i] r = true ∧ recs[i].o.apart ops r.o = true)) ∧ ∀ d, recs[i].o.dst = some d → r.o.dst ≠ some d
  | [], _, _, i, h => by simp at h
  | x :: recs, k, hk, i, h => by
    simp only [okWith, Bool.and_eq_true, Bool.or_eq_true] at hk
    obtain ⟨⟨h1, h2⟩, h3⟩ := hk
    cases i with
    | zero =>
      refine ⟨by simpa using h1, fun d hd => ?_⟩
      simp only [List.getElem_cons_zero] at hd
      rw [hd] at h2
      intro he
      rw [he] at h2
      simp at h2
    | succ i =>
      have := okWith_spec recs (k + 1) h3 i (by simpa using h)
      simpa [Nat.add_assoc, Nat.add_comm 1 i] using this
end
end Go.E
