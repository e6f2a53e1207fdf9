/- Operations that only reckon: what the evaluator tells of them is what the model does. -/
import Derived.Test.YtfgdoliihmjnoaaDoorXE2
import Derived.Laws.Tables
set_option linter.unusedSimpArgs false
set_option linter.unusedVariables false
namespace Go.E
open Go

section
variable {P : Program} {L : Lk} {β : Emb} {ρ : Operand → Option Value} {ρ' : Operand → Value}

/-- Parts with their numbers. -/
def PRs [Sym] (β : Emb) (l l' : List (Nat × Value)) : Prop := l.length = l'.length ∧ ∀ (i : Nat) x y, l[i]? = some x → l'[i]? = some y → x.1 = y.1 ∧ VR β x.2 y.2
theorem PRs.of_cons [Sym] {x : Nat × Value} {l l' : List (Nat × Value)} (h : PRs β (x :: l) l') : ∃ y r, l' = y :: r ∧ x.1 = y.1 ∧ VR β x.2 y.2 ∧ PRs β l r := by
  cases l' with
  | nil => simp [PRs] at h
  | cons y r =>
    have := h.2 0 x y rfl rfl
    exact ⟨y, r, rfl, this.1, this.2, by simpa using h.1, fun i a b ha hb => h.2 (i + 1) a b (by simpa using ha) (by simpa using hb)⟩
theorem PRs.of_nil [Sym] {l' : List (Nat × Value)} (h : PRs β [] l') : l' = [] := by
  cases l' with
  | nil => rfl
  | cons y r => simp [PRs] at h

theorem mapM_rho [Sym] (hρ : ∀ x v, ρ x = some v → VR β v (ρ' x)) : ∀ (xs : List Operand) (vs : List Value), xs.mapM ρ = some vs → VRs β vs (xs.map ρ')
  | [], vs, h => by simp at h; subst h; exact VRs.nil
  | x :: xs, vs, h => by
    simp only [List.mapM_cons, Option.bind_eq_bind, Option.pure_def, Option.bind_eq_some_iff] at h
    obtain ⟨v, hv, r, hr, h⟩ := h
    cases h
    exact VRs.cons (hρ x v hv) (mapM_rho hρ xs r hr)
theorem mapM_parts [Sym] (hρ : ∀ x v, ρ x = some v → VR β v (ρ' x)) : ∀ (xs : List (Nat × Operand)) (vs : List (Nat × Value)),
    (xs.mapM fun p => (ρ p.2).map fun v => (p.1, v)) = some vs → PRs β vs (xs.map fun p => (p.1, ρ' p.2))
  | [], vs, h => by simp at h; subst h; exact ⟨rfl, fun i x y h => by simp at h⟩
  | x :: xs, vs, h => by
    simp only [List.mapM_cons, Option.bind_eq_bind, Option.pure_def, Option.bind_eq_some_iff, Option.map_eq_some_iff] at h
    obtain ⟨v, ⟨u, hu, rfl⟩, r, hr, h⟩ := h
    cases h
    have := mapM_parts hρ xs r hr
    refine ⟨by simp [this.1], fun i a b ha hb => ?_⟩
    cases i with
    | zero => simp at ha hb; subst ha; subst hb; exact ⟨rfl, hρ _ _ hu⟩
    | succ i => simp at ha hb; exact this.2 i a b ha (by simpa using hb)

theorem fold_zip [Sym] (off : Nat) : ∀ (l l' : List Value) (k : Nat) (cs cs' : Array Value), VRs β l l' → VRs β cs.toList cs'.toList →
    VRs β ((l.zipIdx k).foldl (fun cs (x : Value × Nat) => cs.setIfInBounds (off + x.2) x.1) cs).toList
      ((l'.zipIdx k).foldl (fun cs (x : Value × Nat) => cs.setIfInBounds (off + x.2) x.1) cs').toList
  | [], l', k, cs, cs', h, hc => by rw [h.of_nil]; simpa using hc
  | x :: l, l', k, cs, cs', h, hc => by
    obtain ⟨y, r, rfl, hx, hr⟩ := h.of_cons
    simp only [List.zipIdx_cons, List.foldl_cons]
    refine fold_zip off l r (k + 1) _ _ hr ?_
    refine ⟨by simpa using hc.1, fun i a b ha hb => ?_⟩
    simp only [Array.toList_setIfInBounds] at ha hb
    rw [List.getElem?_set] at ha hb
    have hlen : cs.toList.length = cs'.toList.length := hc.1
    split at ha
    · rename_i hi
      simp only [hi, if_true] at hb
      split at ha
      · rename_i h1
        rw [if_pos (by rw [← hlen, ← hi]; exact h1)] at hb
        cases ha; cases hb; exact hx
      · cases ha
    · rename_i hi
      simp only [hi, if_false] at hb
      exact hc.2 i a b ha hb

theorem fill_rel [Sym] {place : Nat → Option (Nat × Nat)} : ∀ (ps ps' : List (Nat × Value)) (cs cs' r : Array Value), PRs β ps ps' → VRs β cs.toList cs'.toList →
    Instr.fill place cs ps = some r → ∃ r', Instr.fill place cs' ps' = some r' ∧ VRs β r.toList r'.toList
  | [], ps', cs, cs', r, hp, hc, h => by
    rw [hp.of_nil]
    simp only [Instr.fill] at h ⊢
    cases h
    exact ⟨_, rfl, hc⟩
  | x :: ps, ps', cs, cs', r, hp, hc, h => by
    obtain ⟨y, q, rfl, h1, h2, hq⟩ := hp.of_cons
    obtain ⟨i, v⟩ := x
    obtain ⟨i', v'⟩ := y
    simp only at h1 h2
    subst h1
    simp only [Instr.fill] at h ⊢
    cases hpl : place i with
    | none => rw [hpl] at h; cases h
    | some os =>
      obtain ⟨off, size⟩ := os
      rw [hpl] at h
      simp only at h ⊢
      have hcells := h2.cells
      have e1 : v'.cells.size = v.cells.size := by simpa using hcells.1.symm
      have e2 : cs'.size = cs.size := by simpa using hc.1.symm
      rw [e1, e2]
      split at h
      · cases h
      · rename_i hb
        rw [if_neg hb]
        refine fill_rel ps q _ _ r hq ?_ h
        have e3 : ∀ (u : Value) (c : Array Value), (u.cells.zipIdx.foldl (fun cs (x : Value × Nat) => cs.setIfInBounds (off + x.2) x.1) c) =
            (u.cells.toList.zipIdx 0).foldl (fun cs (x : Value × Nat) => cs.setIfInBounds (off + x.2) x.1) c := by
          intro u c
          rw [← Array.foldl_toList, Array.toList_zipIdx]
        have := fold_zip (β := β) off _ _ 0 cs cs' hcells hc
        rw [← e3, ← e3] at this
        exact this

theorem mapM_places [Sym] (hL : L.Ok P) : ∀ (fs : List Field) (pl : List (Nat × Nat)), (fs.mapM fun f => (L.info f.type).map fun i => (f.offset, i.size)) = some pl →
    (fs.mapM fun f => (P.info? f.type).map fun i => (f.offset, i.size)) = some pl
  | [], pl, h => h
  | f :: fs, pl, h => by
    simp only [List.mapM_cons, Option.bind_eq_bind, Option.pure_def, Option.bind_eq_some_iff, Option.map_eq_some_iff] at h ⊢
    obtain ⟨v, ⟨u, hu, rfl⟩, r, hr, h⟩ := h
    exact ⟨_, ⟨u, hL.info _ _ hu, rfl⟩, r, mapM_places hL fs r hr, h⟩

theorem built_rel [Sym] (hL : L.Ok P) {t : TypeId} {ps ps' : List (Nat × Value)} {cs : Array Value} (hp : PRs β ps ps') (h : builtE L t ps = some cs) :
    ∃ cs', P.built t ps' = some cs' ∧ VRs β cs.toList cs'.toList := by
  unfold builtE at h
  simp only [Option.bind_eq_some_iff] at h
  obtain ⟨i, hi, zero, hz, h⟩ := h
  cases hf : flat2 zero with
  | false => simp [hf] at h
  | true =>
    simp only [hf, cond_true] at h
    have hzz : VRs β zero.cells.toList zero.cells.toList := (flat2_refl hf).cells
    unfold Program.built
    rw [hL.info _ _ hi]
    split at h
    · rename_i fields hu
      rw [hL.und _ _ hu]
      simp only [Option.bind_eq_some_iff] at h
      obtain ⟨pl, hpl, h⟩ := h
      simp only [hz, mapM_places hL _ _ hpl]
      exact fill_rel _ _ _ _ _ hp hzz h
    · rename_i n e hu
      rw [hL.und _ _ hu]
      simp only [Option.bind_eq_some_iff] at h
      obtain ⟨ie, hie, h⟩ := h
      simp only [hz, hL.info _ _ hie]
      exact fill_rel _ _ _ _ _ hp hzz h
    · cases h

theorem asNat_some {v : Value} {n : Nat} (h : asNat? v = some n) : ∃ k m, v = .int k m ∧ 0 ≤ m ∧ m.toNat = n := by
  unfold asNat? at h
  split at h
  · rename_i k m
    split at h
    · rename_i hm; cases h; exact ⟨k, m, rfl, hm, rfl⟩
    · cases h
  · cases h
theorem addr_some {v : Value} {i k : Nat} (h : addr? v = some (i, k)) : v = .pointer (some ⟨i, k, none⟩) := by
  unfold addr? at h
  split at h
  · cases h; rfl
  · cases h
theorem addr_rel [Sym] {v v' : Value} {i k : Nat} (h : addr? v = some (i, k)) (r : VR β v v') : ∃ p, β i = some p ∧ v' = .pointer (some ⟨p.b, p.o + k, none⟩) := by
  rw [addr_some h] at r
  cases r with
  | ptr hp => exact ⟨_, hp, rfl⟩
theorem size_some {t : TypeId} {n : Nat} (h : L.size t = some n) : ∃ i, L.info t = some i ∧ i.size = n := by
  simpa [Lk.size, Option.map_eq_some_iff] using h

theorem add_addr (p : Pl) (k n : Nat) : Addr.add ⟨p.b, p.o + k, none⟩ n = ⟨p.b, p.o + (k + n), none⟩ := by
  unfold Addr.add
  split
  · rename_i h; subst h; rfl
  · simp; omega

theorem part_rel [Sym] (hL : L.Ok P) {t : TypeId} {cs cs' : Array Value} {off : Nat} {v : Value} (hc : VRs β cs.toList cs'.toList) (h : partE L t cs off = some v) :
    ∃ v', VR β v v' ∧ ∀ w, (part t cs' off).run P w = .ok v' w := by
  unfold partE at h
  have hext : ∀ n, VR β (.agg (cs.extract off (off + n))) (.agg (cs'.extract off (off + n))) := fun n => VRs.agg (by
    simp only [Array.toList_extract, List.extract_eq_take_drop]
    exact (hc.drop _).take _)
  split at h
  · rename_i f hu
    simp only [Option.map_eq_some_iff] at h
    obtain ⟨n, hn, rfl⟩ := h
    obtain ⟨i, hi, rfl⟩ := size_some hn
    refine ⟨_, hext _, fun w => ?_⟩
    unfold part
    simp [run_isAgg (hL.und _ _ hu), run_size (hL.info _ _ hi), aggD]
  · rename_i n e hu
    simp only [Option.map_eq_some_iff] at h
    obtain ⟨n, hn, rfl⟩ := h
    obtain ⟨i, hi, rfl⟩ := size_some hn
    refine ⟨_, hext _, fun w => ?_⟩
    unfold part
    simp [run_isAgg (hL.und _ _ hu), run_size (hL.info _ _ hi), aggD]
  · rename_i d h1 h2 hu
    obtain ⟨v', hv', hr⟩ := hc.get (by simpa using h)
    refine ⟨v', hr, fun w => ?_⟩
    unfold part
    rw [Sem.run_bind, run_isAgg (hL.und _ _ hu), aggD_no h1 h2]
    have : cs'[off]? = some v' := by simpa using hv'
    simp [this]
  · cases h
end
end Go.E
