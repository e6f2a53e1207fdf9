/- From the evaluator to a row: tables, the start, the frame. -/
import Derived.Test.YtfgdoliihmjnoaaDoorXF3
import Derived.FnData
import Derived.OpenShut
import Derived.LaidMore
set_option linter.unusedSimpArgs false
set_option linter.unusedVariables false
namespace Go.E
open Go

/-! ### Tables of lookups -/
def PT.All {α : Type} (p : Nat → α → Prop) : PT α → (Nat → Nat) → Prop
  | .nil, _ => True
  | .node l v r, f => (∀ x, v = some x → p (f 0) x) ∧ l.All p (fun k => f (2 * k + 1)) ∧ r.All p (fun k => f (2 * k + 2))
theorem PT.all_get {α : Type} {p : Nat → α → Prop} : ∀ (t : PT α) (f : Nat → Nat), t.All p f → ∀ n x, t.get n = some x → p (f n) x
  | .nil, f, _, n, x, h => by rw [PT.get_nil] at h; cases h
  | .node l v r, f, hall, n, x, h => by
    obtain ⟨h0, hl, hr⟩ := hall
    cases n with
    | zero => exact h0 x h
    | succ k =>
      rw [PT.get_succ, beq_dec] at h
      by_cases hk : k % 2 = 0
      · rw [decide_eq_true hk] at h
        have := all_get l _ hl (k / 2) x h
        have e : 2 * (k / 2) + 1 = k + 1 := by omega
        rwa [e] at this
      · rw [decide_eq_false hk] at h
        have := all_get r _ hr (k / 2) x h
        have e : 2 * (k / 2) + 2 = k + 1 := by omega
        rwa [e] at this
theorem at_some {α : Type} {p : α → Prop} {y : α} (h : p y) : ∀ x, some y = some x → p x := fun x e => by cases e; exact h
theorem at_none {α : Type} {p : α → Prop} : ∀ x, (none : Option α) = some x → p x := fun x e => by cases e

/-! ### The start -/
noncomputable def tabM : List (Nat × AObj) → PT AObj
  | [] => .nil
  | x :: r => (tabM r).upd x.1 (some x.2)
theorem tabM_mem : ∀ (l : List (Nat × AObj)) (i : Nat) (ob : AObj), (tabM l).get i = some ob → (i, ob) ∈ l
  | [], i, ob, h => by simp [tabM] at h
  | x :: r, i, ob, h => by
    simp only [tabM, PT.get_upd] at h
    split at h
    · rename_i e; cases h; subst e; simp
    · exact List.mem_cons_of_mem _ (tabM_mem r i ob h)
noncomputable def start (l : List (Nat × AObj)) (nx : Nat) : St := ⟨tabM l, nx, nx, []⟩
def startB (l : List (Nat × AObj)) : Emb := fun i => if i ∈ l.map (·.1) then some ⟨i, 0, 0, 0⟩ else none

theorem start_inv [Sym] {L : Lk} {l : List (Nat × AObj)} {nx N : Nat} {W : World} (hob : ∀ x ∈ l, ∃ obj, W.heap[x.1]? = some obj ∧ OR (startB l) ⟨x.1, 0, 0, 0⟩ obj x.2)
    (hg : ∀ g, L.glob g = true → g ∈ l.map (·.1)) (hn : ∀ x ∈ l, x.1 < nx) : Inv N (startB l) L (start l nx) W where
  rep := {
    inb := fun i p h => by
      unfold startB at h
      split at h
      · rename_i hm
        cases h
        obtain ⟨x, hx, rfl⟩ := List.mem_map.1 hm
        obtain ⟨obj, h1, _⟩ := hob x hx
        exact (Array.getElem?_eq_some_iff.1 h1).1
      · cases h
    obj := fun i p ob h hv => by
      have hm := tabM_mem l i ob hv
      unfold startB at h
      split at h
      · cases h
        exact hob _ hm
      · cases h
    inj := fun i j p q h1 h2 _ _ h => by
      unfold startB at h1 h2
      split at h1 <;> split at h2 <;> first | (cases h1; done) | (cases h2; done) | (cases h1; cases h2; exact h) }
  glob := fun g h => ⟨⟨g, 0, 0, 0⟩, by unfold startB; rw [if_pos (hg g h)], rfl, rfl⟩
  dom := fun i h => by
    left
    unfold startB at h
    split at h
    · rename_i hm
      obtain ⟨x, hx, rfl⟩ := List.mem_map.1 hm
      exact hn x hx
    · exact absurd rfl h
  wf := fun i h => by
    cases hm : (tabM l).get i with
    | none => exact hm
    | some ob =>
      have h1 := hn _ (tabM_mem l i ob hm)
      have h2 : nx ≤ i := h
      simp only at h1
      omega
  bn := Nat.le_refl _

/-- **A law that the evaluator answers 'true': the machine answers 'true', and what was there stays.** -/
theorem law_calls [Sym] {P : Program} {L : Lk} (hL : L.Ok P) (hC : ConOk P L) {n f : Nat} {fn : Func} (hf : L.func f = some (f, fn)) {l : List (Nat × AObj)} {nx : Nat} {W : World} {args : List Value} {v : Value} {st' : St}
    (h : runE P L n f args (start l nx) = some (v, st')) (hv : flat3 v = true) (hlog : st'.log = []) (hargs : ∀ x ∈ args, flat3 x = true)
    (hob : ∀ x ∈ l, ∃ obj, W.heap[x.1]? = some obj ∧ OR (startB l) ⟨x.1, 0, 0, 0⟩ obj x.2) (hg : ∀ g, L.glob g = true → g ∈ l.map (·.1)) (hn : ∀ x ∈ l, x.1 < nx) :
    Calls P f args.toArray W fun e W' => e = .returned v ∧ RowKit.Below W.heap.size W W' := by
  refine (run_sound hL hC h (start_inv hob hg hn) (VRs.flat (p := flat3) (fun v => flat3_refl) hargs) hf).mono fun e w' ⟨v', he, β', hp, hvr⟩ => ⟨by rw [he, flat3_eq hv hvr], ⟨hp.os, hp.tape, hp.output, hp.size, fun k hk => ?_⟩⟩
  rcases hp.frame k hk with h1 | ⟨i, p, h1, _, h3, h4⟩
  · exact h1
  · exfalso
    rw [hlog] at h4
    rcases h4 with h4 | h4
    · cases h4
    · have hw : (tabM l).get i ≠ none := h3
      cases hm : (tabM l).get i with
      | none => exact hw hm
      | some ob =>
        have h5 := hn _ (tabM_mem l i ob hm)
        have h6 : nx ≤ i := h4
        simp only at h5
        omega

/-! ### Variables that a row lays -/
theorem laid_var {P : Program} {w : World} : ∀ (laid : List (String × DataW Unit)) (ps : List MemPlace), DataW.LaidVars P w laid ps → ∀ n d, (n, d) ∈ laid →
    ∃ g t cs fuel p, P.globalNamed n = some g ∧ (P.globals[g]?).map (·.type) = some t ∧ w.var? P n = some cs ∧ DataW.trod (fun _ => ()) P w 0 (fun _ => true) false fuel t cs.toList = some (d, p)
  | [], _, _, n, d, h => by cases h
  | (m, e) :: r, ps, hl, n, d, h => by
    obtain ⟨g, t, cs, fuel, p, q, h1, h2, h3, h4, h5, _⟩ := hl
    rcases List.mem_cons.1 h with e1 | h
    · cases e1; exact ⟨g, t, cs, fuel, p, h1, h2, h3, h4⟩
    · exact laid_var r q h5 n d h

/-- A variable that is an array of whole numbers, as the row lays it: its cells. -/
theorem laid_ints [Sym] {P : Program} {w : World} {laid : List (String × DataW Unit)} (hl : laidMet P laid w) {n : String} {ds : List (DataW Unit)} (hm : (n, .agg ds) ∈ laid) {g t e k : Nat} {kk : IntKind}
    (hg : P.globalNamed n = some g) (htg : (P.globals[g]?).map (·.type) = some t) (ht : P.underlying t = some (.array k e)) (he : P.underlying e = some (.int kk)) (hc : P.cellsOf e = 1)
    (ns : List Int) (hds : ds = ns.map fun m => .lit (.int kk m)) :
    ∃ obj, w.heap[g]? = some obj ∧ ∀ β, OR β ⟨g, 0, 0, 0⟩ obj (.table (ns.map (Value.int kk))) := by
  obtain ⟨ps, hv, _, _⟩ := hl
  obtain ⟨g', t', cs, fuel, p, h1, h2, h3, h4⟩ := laid_var laid ps hv n _ hm
  rw [hg] at h1; cases h1
  rw [htg] at h2; cases h2
  obtain ⟨xs, m, rfl, hx, hlen, hn, hel⟩ := DataW.trod_array ht h4
  simp only [Prod.mk.injEq, DataW.agg.injEq] at hx
  obtain ⟨hx, _⟩ := hx
  rw [hc] at hel
  have hcell := World.var?_cell hg h3
  have hcs : ∀ (i : Nat) z, ns[i]? = some z → cs[i]? = some (Value.int kk z) := by
    intro i z hz
    have hlt : i < ns.length := (List.getElem?_eq_some_iff.1 hz).1
    have hxl : xs.length = ns.length := by
      have := congrArg List.length (hx.symm.trans hds)
      simpa using this
    have hi := hel i (by omega)
    rw [List.getElem?_eq_getElem (by omega)] at hi
    obtain ⟨z', hc', hx', _⟩ := DataW.trod_int he hi
    have hxi : (xs.map (·.1))[i]? = (ns.map fun m => DataW.lit (.int kk m))[i]? := by rw [← hx, hds]
    rw [List.getElem?_map, List.getElem?_map, List.getElem?_eq_getElem (by omega), hz] at hxi
    simp only [Option.map_some, Option.some.injEq] at hxi
    rw [hx'] at hxi
    simp only [DataW.lit.injEq, Lit.int.injEq] at hxi
    have h0 : ((cs.toList.drop (i * 1)).take 1)[0]? = some (.int kk z') := by rw [hc']; rfl
    rw [List.getElem?_take_of_lt (by omega), List.getElem?_drop] at h0
    rw [hxi.2] at h0
    simpa using h0
  by_cases hns : ns = []
  · subst hns
    have hw : ∃ obj, w.heap[g]? = some obj := by
      simp only [World.var?, hg, Option.bind_some] at h3
      split at h3
      · rename_i obj _ _ hh; exact ⟨_, hh⟩
      · cases h3
    obtain ⟨obj, hh⟩ := hw
    simp only [World.var?, hg, Option.bind_some, hh] at h3
    cases obj <;> simp at h3
    rename_i arr T fr
    exact ⟨_, hh, fun β => ⟨arr, T, fr, rfl, fun j v hv => by simp at hv⟩⟩
  · obtain ⟨z0, hz0⟩ : ∃ z, ns[0]? = some z := by
      cases ns with
      | nil => exact absurd rfl hns
      | cons a r => exact ⟨a, rfl⟩
    have h0 := (hcell 0).trans (hcs 0 z0 hz0)
    unfold World.cell? at h0
    simp only at h0
    split at h0
    · rename_i arr T fr hh
      refine ⟨_, hh, fun β => ⟨arr, T, fr, rfl, fun j v hv => ?_⟩⟩
      rw [List.getElem?_map] at hv
      simp only [Option.map_eq_some_iff] at hv
      obtain ⟨z, hz, rfl⟩ := hv
      have h1 := (hcell j).trans (hcs j z hz)
      unfold World.cell? at h1
      simp only [hh] at h1
      exact ⟨_, by simpa using h1, .int _ _⟩
    · cases h0
end Go.E
namespace Go.E
open Go
theorem PT.all_nil {α : Type} {p : Nat → α → Prop} {f : Nat → Nat} : (PT.nil : PT α).All p f := trivial
theorem PT.all_node {α : Type} {p : Nat → α → Prop} {f : Nat → Nat} {l r : PT α} {v : Option α} (h : ∀ x, v = some x → p (f 0) x) (hl : l.All p fun k => f (2 * k + 1)) (hr : r.All p fun k => f (2 * k + 2)) :
    (PT.node l v r).All p f := ⟨h, hl, hr⟩
def InfP (P : Program) (t : Nat) (i : TypeInfo) : Prop := P.info? t = some i
def UndP (P : Program) (t : Nat) (d : TypeDesc) : Prop := P.underlying t = some d
def FnP (P : Program) (f : Nat) (x : FuncId × Func) : Prop := (∀ args w, (callFunc f args).run P w = .ok (.enter x.1 args) w) ∧ P.funcs[x.1]? = some x.2
theorem infAt {P : Program} {n : Nat} {y : TypeInfo} (h : P.info? n = some y) : ∀ x, some y = some x → InfP P n x := fun x e => by cases e; exact h
theorem undAt {P : Program} {n : Nat} {y : TypeDesc} (h : P.underlying n = some y) : ∀ x, some y = some x → UndP P n x := fun x e => by cases e; exact h
theorem fnAt {P : Program} {f0 j : Nat} {fn : Func} (e : f0 = j) (h1 : ∀ args w, (callFunc j args).run P w = .ok (.enter j args) w) (h2 : P.funcs[j]? = some fn) : ∀ x, some (j, fn) = some x → FnP P f0 x :=
  fun x ex => by cases ex; subst e; exact ⟨h1, h2⟩
theorem noAt {α : Type} {p : α → Prop} : ∀ x, (none : Option α) = some x → p x := fun x e => by cases e
end Go.E
