/- The quick evaluator. -/
import Derived.Test.YtfgdoliihmjnoaaDoorXF1
set_option linter.unusedSimpArgs false
set_option linter.unusedVariables false
namespace Go.E
open Go

@[reducible] noncomputable def forceN {α : Type} (n : Nat) (K : Nat → α) : α := @Nat.rec (fun _ => α) (K 0) (fun m _ => K (Nat.succ m)) n
theorem forceN_eq {α : Type} (n : Nat) (K : Nat → α) : forceN n K = K n := by cases n <;> rfl
@[reducible] noncomputable def forceI {α : Type} (n : Int) (K : Int → α) : α := @Int.rec (fun _ => α) (fun a => forceN a fun a => K (.ofNat a)) (fun a => forceN a fun a => K (.negSucc a)) n
theorem forceI_eq {α : Type} (n : Int) (K : Int → α) : forceI n K = K n := by cases n <;> simp only [forceI, forceN_eq]

noncomputable def nthF {α : Type} (l : List α) : Nat → Option α :=
  @List.rec α (fun _ => Nat → Option α) (fun _ => none) (fun a _ ih n => @Nat.rec (fun _ => Option α) (some a) (fun k _ => ih k) n) l
theorem nthF_eq {α : Type} (l : List α) (n : Nat) : nthF l n = l[n]? := by
  induction l generalizing n with
  | nil => rfl
  | cons a l ih => cases n with
    | zero => rfl
    | succ n => exact ih n

abbrev OpF := CallF → (Operand → Option Value) → St → Option (Value × Kd × St)

noncomputable def binK (P : Program) (L : Lk) (o : Oper) (op : BinOp) (x y : Operand) : OpF := fun cf ρ st =>
  match ρ x, ρ y with
  | some (.int k a), some (.int k' b) => @Bool.rec (fun _ => Option (Value × Kd × St)) (opE P L cf ρ o st)
      (match arithF op k a b with
        | some (.int k n) => forceI n fun n => some (.int k n, .blind, st)
        | some v => some (v, .blind, st)
        | none => opE P L cf ρ o st) (Nat.beq (kn k) (kn k'))
  | _, _ => opE P L cf ρ o st

/-- An operation, resolved: in a box, so that the kernel looks at it once. -/
structure Box (α : Type) where
  f : α
noncomputable def opK0 (P : Program) (L : Lk) (o : Oper) : Box OpF :=
  match o.op with
  | .move x => ⟨fun _ ρ st => (ρ x).bind fun v => some (v, .blind, st)⟩
  | .assign x => ⟨fun _ ρ st => (ρ x).bind fun v => some (v, .blind, st)⟩
  | .binOp op _ x y _ => ⟨binK P L o op x y⟩
  | .convert src dst x => match L.und src, L.und dst with
    | some (.int _), some (.int k) => ⟨fun cf ρ st => match ρ x with
      | some (.int _ n) => forceI (wrapF k n) fun n => some (.int k n, .blind, st)
      | _ => opE P L cf ρ o st⟩
    | _, _ => ⟨fun cf ρ st => opE P L cf ρ o st⟩
  | .index t x ix => match L.und t with
    | some .string => ⟨fun cf ρ st => match ρ x, ρ ix with
      | some (.string s), some (.int _ (.ofNat n)) => match nthF s.data.toList n with
        | some b => forceN b.toNat fun m => some (.int .u8 (.ofNat m), .blind, st)
        | none => none
      | _, _ => opE P L cf ρ o st⟩
    | _ => ⟨fun cf ρ st => opE P L cf ρ o st⟩
  | .load t a => match L.und t with
    | some (.struct _) | some (.array _ _) | none => ⟨fun cf ρ st => opE P L cf ρ o st⟩
    | some _ => ⟨fun cf ρ st => match ρ a with
      | some (.pointer (some ⟨i, k, none⟩)) => match st.mem.get i with
        | some (.cells c _) => match nthF c k with
          | some v => some (v, .read i, st)
          | none => none
        | _ => opE P L cf ρ o st
      | _ => none⟩
  | .fieldAddr s x f => match L.und s with
    | some (.struct fields) => match fields[f]? with
      | some fd => match L.info fd.type with
        | some ti => @Bool.rec (fun _ => Box OpF) ⟨fun _ ρ st => match ρ x with
            | some (.pointer (some ⟨i, k, none⟩)) => forceN (k + fd.offset) fun m => some (.pointer (some ⟨i, m, none⟩), .blind, st)
            | _ => none⟩ ⟨fun _ _ _ => none⟩ (Nat.beq ti.size 0)
        | none => ⟨fun _ _ _ => none⟩
      | none => ⟨fun _ _ _ => none⟩
    | _ => ⟨fun _ _ _ => none⟩
  | _ => ⟨fun cf ρ st => opE P L cf ρ o st⟩

noncomputable def opK (P : Program) (L : Lk) (o : Oper) (cf : CallF) (ρ : Operand → Option Value) (st : St) : Option (Value × Kd × St) := (opK0 P L o).f cf ρ st

section
variable {P : Program} {L : Lk} {o : Oper} {cf : CallF} {ρ : Operand → Option Value} {st : St} {r : Value × Kd × St}

theorem opE_pure {v : Value} (h : pureE P L ρ o = some v) : opE P L cf ρ o st = some (v, .blind, st) := by unfold opE; rw [h]

theorem bin_le {op : BinOp} {t yt : TypeId} {x y : Operand} (ho : o.op = .binOp op t x y yt) (h : binK P L o op x y cf ρ st = some r) : opE P L cf ρ o st = some r := by
  unfold binK at h
  split at h
  · rename_i k a k' b hx hy
    cases hb : Nat.beq (kn k) (kn k') with
    | false => rw [hb] at h; exact h
    | true =>
      rw [hb] at h
      have hk := kn_inj hb
      subst hk
      have key : ∀ v, arithF op k a b = some v → opE P L cf ρ o st = some (v, .blind, st) := by
        intro v hv
        obtain ⟨h1, h2⟩ := arith_bin (P := P) t hv
        apply opE_pure
        unfold pureE
        simp only [ho, hx, hy, Option.bind_some, flat2, flat1, Bool.and_true, cond_true, pureV, runPure_bind, guard_int, h1, h2]
      simp only at h
      split at h
      · rename_i k1 n hv
        rw [forceI_eq] at h
        rw [key _ hv]; exact h
      · rename_i v _ hv
        rw [key _ hv]; exact h
      · exact h
  · exact h

theorem runPure_und {t : TypeId} {d : TypeDesc} (h : P.underlying t = some d) : runPure P (underlying t) = some d := by
  unfold underlying program
  rw [runPure_bind]
  simp [runPure, h]
  rfl

theorem opK_le [Sym] (hL : L.Ok P) (h : opK P L o cf ρ st = some r) : opE P L cf ρ o st = some r := by
  unfold opK opK0 at h
  cases hop : o.op <;> rw [hop] at h <;> simp only at h
  case move x =>
    simp only [Option.bind_eq_some_iff, Option.some.injEq] at h
    obtain ⟨v, hv, rfl⟩ := h
    exact opE_pure (by unfold pureE; simp only [hop]; exact hv)
  case assign x =>
    simp only [Option.bind_eq_some_iff, Option.some.injEq] at h
    obtain ⟨v, hv, rfl⟩ := h
    exact opE_pure (by unfold pureE; simp only [hop]; exact hv)
  case binOp op t x y yt => exact bin_le hop h
  case convert src dst x =>
    cases hs : L.und src with
    | none => rw [hs] at h; exact h
    | some ds =>
      cases hd : L.und dst with
      | none => rw [hs, hd] at h; cases ds <;> exact h
      | some dd =>
        rw [hs, hd] at h
        cases ds <;> cases dd <;> simp only at h <;> try exact h
        rename_i k1 k
        split at h
        · rename_i k2 n hx
          rw [forceI_eq, wrapF_eq] at h
          simp only [Option.some.injEq] at h
          subst h
          apply opE_pure
          unfold pureE
          simp only [hop, hx, Option.bind_some, flat1, cond_true, pureV]
          have hc : runPure P (convert src dst (.int k2 n)) = some (.int k (k.wrap n)) := by
            unfold convert
            rw [runPure_bind, runPure_und (hL.und _ _ hs), Option.bind_some, runPure_bind, runPure_und (hL.und _ _ hd), Option.bind_some]
            rfl
          rw [hc]; rfl
        · exact h
  case index t x ix =>
    cases hu : L.und t with
    | none => rw [hu] at h; exact h
    | some d =>
      rw [hu] at h
      cases d <;> simp only at h <;> try exact h
      split at h
      · rename_i s k n hx hix
        split at h
        · rename_i b hb
          rw [forceN_eq] at h
          simp only [Option.some.injEq] at h
          subst h
          rw [nthF_eq] at hb
          apply opE_pure
          unfold pureE
          have hb' : s[n]? = some b := by
            have : s.data[n]? = some b := by simpa using hb
            obtain ⟨h1, h2⟩ := Array.getElem?_eq_some_iff.1 this
            rw [getElem?_pos s n h1]; exact congrArg some h2
          simp only [hop, hx, hix, Option.bind_some, hu, asNat?]
          simp [hb']
        · cases h
      · exact h
  case load t a =>
    have hl : ∀ d, L.und t = some d → aggD d = false → (match ρ a with
      | some (.pointer (some ⟨i, k, none⟩)) => match st.mem.get i with
        | some (.cells c _) => match nthF c k with
          | some v => some (v, Kd.read i, st)
          | none => none
        | _ => opE P L cf ρ o st
      | _ => none) = some r → opE P L cf ρ o st = some r := by
      intro d hu hd h
      split at h
      · rename_i i k hx
        split at h
        · rename_i c z hm
          split at h
          · rename_i v hv
            simp only [Option.some.injEq] at h
            subst h
            rw [nthF_eq] at hv
            unfold opE pureE allocE readE
            simp only [hop, hx, Option.bind_some, addr?, Option.map_some, hm]
            have : loadE L t k c = some v := by
              unfold loadE
              rw [hu]
              cases d <;> first | exact hv | (simp [aggD] at hd)
            simp [this]
          · cases h
        · exact h
      · cases h
    cases hu : L.und t with
    | none => rw [hu] at h; exact h
    | some d =>
      rw [hu] at h
      cases d <;> simp only at h <;> first
        | exact hl _ hu rfl h
        | exact h
  case fieldAddr s x f =>
    cases hu : L.und s with
    | none => rw [hu] at h; cases h
    | some d =>
      rw [hu] at h
      cases d <;> simp only at h <;> try (cases h; done)
      rename_i fields
      cases hfd : fields[f]? with
      | none => rw [hfd] at h; cases h
      | some fd =>
        rw [hfd] at h
        simp only at h
        cases hti : L.info fd.type with
        | none => rw [hti] at h; cases h
        | some ti =>
          rw [hti] at h
          simp only at h
          cases hb : Nat.beq ti.size 0 with
          | true => rw [hb] at h; cases h
          | false =>
            rw [hb] at h
            simp only at h
            split at h
            · rename_i i k hx
              rw [forceN_eq] at h
              simp only [Option.some.injEq] at h
              subst h
              apply opE_pure
              unfold pureE
              simp only [hop, hx, Option.bind_some, addr?, hu, hfd, Lk.size, hti, Option.map_some, hb, cond_false, ptr]
            · cases h
  all_goals exact h
end

/-! ### Code -/
noncomputable def opsK (P : Program) (L : Lk) (callf : CallF) (ops : List Oper) (l : List Oper) : Tm → St → Option (Tm × St) :=
  @List.rec Oper (fun _ => Tm → St → Option (Tm × St)) (fun τ st => some (τ, st))
    (fun o _ ih τ st => match o.guard with
      | none => (opK P L o callf (rho L τ) st).bind fun r => ih (τ.put o.dst r.1) r.2.2
      | some _ => @Bool.rec (fun _ => Option (Tm × St)) (ih (τ.put o.dst undef) st) ((opK P L o callf (rho L τ) st).bind fun r => ih (τ.put o.dst r.1) r.2.2) (wantedE ops τ o)) l

abbrev CodeF := Code → Tm → St → Option (Ex × Tm × St)
noncomputable def codeK0 (P : Program) (L : Lk) (c : Code) : Box (CodeF → Tm → St → Option (Ex × Tm × St)) :=
  match c with
  | .skip | .label _ => ⟨fun _ τ st => some (.normal, τ, st)⟩
  | .region _ ops false => ⟨fun rec τ st => (opsK P L (callE L rec) ops.toList ops.toList τ st).bind fun r => some (.normal, r.1, r.2)⟩
  | .region _ ops true => ⟨fun rec τ st => (drawE P L (callE L rec) ops ops.toList [] τ st).bind fun r => some (.normal, r.1, r.2)⟩
  | .seq a b => ⟨fun rec τ st => (rec a τ st).bind fun r => match r.1 with
    | .normal => rec b r.2.1 r.2.2
    | _ => some r⟩
  | .cond c a b => ⟨fun rec τ st => match rho L τ c with
    | some (.bool true) => rec a τ st
    | some (.bool false) => rec b τ st
    | _ => none⟩
  | .block id body => ⟨fun rec τ st => (rec body τ st).bind fun r => match r.1 with
    | .exit id' => some (cond (Nat.beq id' id) .normal (.exit id'), r.2)
    | _ => some r⟩
  | .loop body => ⟨fun rec τ st => (rec body τ st).bind fun r => match r.1 with
    | .normal => rec (.loop body) r.2.1 r.2.2
    | _ => some r⟩
  | .exit id => ⟨fun _ τ st => some (.exit id, τ, st)⟩
  | .ret => ⟨fun _ τ st => some (.ret, τ, st)⟩
  | _ => ⟨fun _ _ _ => none⟩
noncomputable def codeK (P : Program) (L : Lk) (c : Code) (rec : CodeF) (τ : Tm) (st : St) : Option (Ex × Tm × St) := (codeK0 P L c).f rec τ st

noncomputable def codeF (P : Program) (L : Lk) (n : Nat) : CodeF :=
  @Nat.rec (fun _ => CodeF) (fun _ _ _ => none) (fun _ ih c τ st => codeK P L c ih τ st) n

noncomputable def runF (P : Program) (L : Lk) (n : Nat) (f : FuncId) (args : List Value) (st : St) : Option (Value × St) := callE L (codeF P L n) f args st
end Go.E
