/- Operations that lay a block, and operations that read one: sound. -/
import Derived.Test.YtfgdoliihmjnoaaDoorXE4
import Derived.Laws.IdiomStrings
import Derived.Laws.MakeOwn
import Derived.Laws.BytesString
set_option linter.unusedSimpArgs false
set_option linter.unusedVariables false
namespace Go.E
open Go

section
variable {P : Program} {L : Lk} {β : Emb} {ρ : Operand → Option Value} {ρ' : Operand → Value}

theorem run_new {α : Type} (o : Obj) (k : Nat → Sem α) (w : World) : (newObj o >>= k).run P w = (k w.heap.size).run P (w.alloc o) := rfl
theorem run_newRow (e : TypeId) (c : Array Value) (w : World) : (newRow e c).run P w = .ok ⟨w.heap.size, 0, none⟩ (w.alloc (.cells c e)) := rfl

def AllocOk [Sym] (P : Program) (β : Emb) (s : Sem Next) (ob : AObj) (vf : Nat → Value) : Prop :=
  ∀ w, ∃ obj d s' z v', s.run P w = .ok (.value v') { w with heap := w.heap.push obj, drawn := d } ∧
    ∀ β' n, (∀ i p, β i = some p → β' i = some p) → β' n = some ⟨w.heap.size, 0, s', z⟩ → OR β' ⟨w.heap.size, 0, s', z⟩ obj ob ∧ VR β' (vf n) v'

theorem OR_new [Sym] {β' : Emb} {b z : Nat} {c : List Value} {arr : Array Value} {T : TypeId} {fr : Nat × Nat} (h : VRs β' c (arr.toList.take c.length)) (hl : c.length ≤ arr.size)
    (hf : ∀ k, k < arr.size → ¬ (fr.1 ≤ k ∧ k < fr.2)) : OR β' ⟨b, 0, arr.size, z⟩ (.cells arr T fr) (.cells c z) := by
  refine ⟨arr, T, fr, rfl, rfl, rfl, by simpa using hl, hf, fun j v hv => ?_⟩
  obtain ⟨v', h1, h2⟩ := h.get hv
  rw [List.getElem?_take] at h1
  split at h1
  · exact ⟨v', by simpa using h1, h2⟩
  · cases h1
theorem OR_new_all [Sym] {β' : Emb} {b z : Nat} {c : List Value} {arr : Array Value} {T : TypeId} {fr : Nat × Nat} (h : VRs β' c arr.toList)
    (hf : ∀ k, k < arr.size → ¬ (fr.1 ≤ k ∧ k < fr.2)) : OR β' ⟨b, 0, arr.size, z⟩ (.cells arr T fr) (.cells c z) := by
  have hl : c.length = arr.size := by simpa using h.1
  refine OR_new ?_ (by omega) hf
  rw [hl, List.take_of_length_le (by simp)]
  exact h

theorem VRs.flat [Sym] {p : Value → Bool} (hp : ∀ v, p v = true → VR β v v) {l : List Value} (h : ∀ v ∈ l, p v = true) : VRs β l l :=
  ⟨rfl, fun i x y hx hy => by rw [hx] at hy; cases hy; exact hp x (h x (List.mem_of_getElem? hx))⟩

theorem zero_cells [Sym] {z : Value} (h : flat2 z = true) (n : Nat) (hs : n = 0 ∨ 0 < z.cells.size) : VRs β ((Array.range n).map (z.cells[· % z.cells.size]!)).toList ((Array.range n).map (z.cells[· % z.cells.size]!)).toList := by
  refine VRs.flat (p := flat1) (fun v => flat1_refl) fun v hv => ?_
  simp only [Array.toList_map, Array.toList_range, List.mem_map, List.mem_range] at hv
  obtain ⟨j, hj, rfl⟩ := hv
  have hpos : 0 < z.cells.size := by omega
  have hlt : j % z.cells.size < z.cells.size := Nat.mod_lt _ hpos
  rw [getElem!_pos z.cells _ hlt]
  have hall : z.cells.toList.all flat1 = true := by
    unfold flat2 at h
    split at h
    · exact h
    · rename_i hne
      cases z <;> first | (simp [Value.cells]; exact h) | exact absurd rfl (hne _)
  exact List.all_eq_true.1 hall _ (by simp)

theorem alloc_sound [Sym] (hL : L.Ok P) (hρ : ∀ x v, ρ x = some v → VR β v (ρ' x)) {o : Oper} {ob : AObj} {vf : Nat → Value} (h : allocE L ρ o = some (ob, vf)) :
    AllocOk P β (execOp ρ' o) ob vf := by
  unfold allocE at h
  split at h
  case h_1 t ho =>
    simp only [Option.bind_eq_some_iff] at h
    obtain ⟨i, hi, z, hz, h⟩ := h
    cases hf : flat2 z with
    | false => simp [hf] at h
    | true =>
      simp only [hf, cond_true, Option.some.injEq, Prod.mk.injEq] at h
      obtain ⟨rfl, rfl⟩ := h
      unfold execOp; simp only [ho]
      intro w
      refine ⟨.cells z.cells t, w.drawn, z.cells.size, 0, .pointer (some ⟨w.heap.size, 0, none⟩), ?_, fun β' n hb hn => ⟨?_, ?_⟩⟩
      · simp [Instr.alloc, run_zero (hL.info _ _ hi) hz, newVar, run_newRow]; try rfl
      · exact OR_new_all (flat2_refl hf).cells (by simp)
      · exact .ptr (p := ⟨w.heap.size, 0, z.cells.size, 0⟩) (k := 0) hn
  case h_2 t x ho =>
    simp only [Option.map_eq_some_iff, Prod.mk.injEq] at h
    obtain ⟨v, hv, rfl, rfl⟩ := h
    have rv := hρ _ _ hv
    unfold execOp; simp only [ho]
    intro w
    refine ⟨.cells (ρ' x).cells t, w.drawn, (ρ' x).cells.size, 0, .pointer (some ⟨w.heap.size, 0, none⟩), ?_, fun β' n hb hn => ⟨?_, ?_⟩⟩
    · simp [Instr.box, newVar, run_newRow]; try rfl
    · exact OR_new_all (rv.cells.mono hb) (by simp)
    · exact .ptr (p := ⟨w.heap.size, 0, (ρ' x).cells.size, 0⟩) (k := 0) hn
  case h_3 t len parts ho =>
    simp only [Option.bind_eq_some_iff] at h
    obtain ⟨ps, hps, h⟩ := h
    have hpr := mapM_parts hρ _ _ hps
    split at h
    · rename_i e hu
      simp only [Option.bind_eq_some_iff] at h
      obtain ⟨i, hi, z, hz, h⟩ := h
      cases hc : (flat2 z && Nat.ble (len * i.size) (2 ^ 24) && Nat.beq z.cells.size i.size && Nat.blt 0 i.size) with
      | false => rw [hc] at h; cases h
      | true =>
        rw [hc] at h
        simp only [cond_true, Option.map_eq_some_iff, Prod.mk.injEq] at h
        obtain ⟨cells, hcells, rfl, rfl⟩ := h
        simp only [Bool.and_eq_true, Nat.ble_eq, beq_dec, decide_eq_true_eq, Nat.blt_eq] at hc
        obtain ⟨⟨⟨hf, hle⟩, heq⟩, hpos⟩ := hc
        obtain ⟨cells', hcells', hr⟩ := fill_rel ps (parts.toList.map fun p => (p.1, ρ' p.2)) _ _ _ hpr (zero_cells (β := β) hf (len * i.size) (.inr (by omega))) hcells
        have hsz : ∀ (pl : Nat → Option (Nat × Nat)) (qs : List (Nat × Value)) (c r : Array Value), Instr.fill pl c qs = some r → r.size = c.size := by
          intro pl qs
          induction qs with
          | nil => intro c r h; simp [Instr.fill] at h; subst h; rfl
          | cons q qs ih =>
            intro c r h
            obtain ⟨a, b⟩ := q
            simp only [Instr.fill] at h
            split at h
            · cases h
            · split at h
              · cases h
              · have := ih _ _ h
                rw [this]
                have hfold : ∀ (l : List (Value × Nat)) (c : Array Value) (off : Nat), (l.foldl (fun cs (x : Value × Nat) => cs.setIfInBounds (off + x.2) x.1) c).size = c.size := by
                  intro l
                  induction l with
                  | nil => intro c off; rfl
                  | cons x l ih => intro c off; simp only [List.foldl_cons]; rw [ih]; simp
                rename_i off size _ _
                have e3 : (b.cells.zipIdx.foldl (fun cs (x : Value × Nat) => cs.setIfInBounds (off + x.2) x.1) c) =
                    (b.cells.toList.zipIdx 0).foldl (fun cs (x : Value × Nat) => cs.setIfInBounds (off + x.2) x.1) c := by
                  rw [← Array.foldl_toList, Array.toList_zipIdx]
                exact (congrArg Array.size e3).trans (hfold _ _ _)
        unfold execOp; simp only [ho]
        intro w
        refine ⟨.cells cells' e, w.drawn, cells'.size, i.size, .slice (some ⟨w.heap.size, 0, none⟩) len len, ?_, fun β' n hb hn => ⟨?_, ?_⟩⟩
        · have hne : ¬ (len * i.size > 2 ^ 24) := by omega
          have hpl : (parts.map fun (x : Nat × Operand) => (x.1, ρ' x.2)).toList = parts.toList.map fun p => (p.1, ρ' p.2) := by simp
          unfold Instr.buildSlice
          simp only [Sem.run_bind, run_underlying (hL.und _ _ hu), run_size (hL.info _ _ hi), Result.andThen_ok, if_neg hne]
          by_cases h0 : len * i.size = 0
          · simp only [h0, if_true, Sem.run_bind, Sem.run_pure, Result.andThen_ok]
            have hrng : ∀ z : Array Value, (Array.range 0).map (fun x => z[x % z.size]!) = #[] := fun z => by
              apply Array.toList_inj.1; simp
            have hcc : (Instr.fill (fun j => some (j * i.size, i.size)) #[] (parts.map fun (x : Nat × Operand) => (x.1, ρ' x.2)).toList) = some cells' := by
              rw [hpl, ← hcells', h0, hrng]
            rw [hrng]
            simp only [hcc]
            simp [run_newRow]; try rfl
          · simp only [h0, if_false, Sem.run_bind, run_zero (hL.info _ _ hi) hz, Sem.run_pure, Result.andThen_ok]
            rw [hpl]
            simp only [hcells']
            simp [run_newRow]; try rfl
        · exact OR_new_all (hr.mono hb) (by simp)
        · refine .slice (p := ⟨w.heap.size, 0, cells'.size, i.size⟩) hn (Nat.le_refl _) (Nat.le_refl _) (.inr rfl) (.inl rfl)
    · cases h
  case h_4 t len cap ho =>
    simp only [Option.bind_eq_some_iff] at h
    obtain ⟨vl, hvl, vc, hvc, l, hl, c, hc, h⟩ := h
    have r1 := hρ _ _ hvl
    have r2 := hρ _ _ hvc
    split at h
    · rename_i e hu
      simp only [Option.bind_eq_some_iff] at h
      obtain ⟨i, hi, z, hz, h⟩ := h
      cases hcd : (flat2 z && Nat.ble l c && Nat.ble c (2 ^ 40) && Nat.ble (c * i.bytes) (2 ^ 46) && Nat.beq z.cells.size i.size && Nat.blt 0 i.size) with
      | false => rw [hcd] at h; cases h
      | true =>
        rw [hcd] at h
        simp only [cond_true, Option.some.injEq, Prod.mk.injEq] at h
        obtain ⟨rfl, rfl⟩ := h
        simp only [Bool.and_eq_true, Nat.ble_eq, beq_dec, decide_eq_true_eq, Nat.blt_eq] at hcd
        obtain ⟨⟨⟨⟨⟨hf, hlc⟩, hc40⟩, hby⟩, heq⟩, hpos⟩ := hcd
        unfold execOp; simp only [ho]
        rw [asNat_rel hl r1, asNat_rel hc r2]
        obtain ⟨kl, ml, rfl, h0, rfl⟩ := asNat_some hl
        obtain ⟨kc, mc, rfl, h0c, rfl⟩ := asNat_some hc
        intro w
        have hrun := run_make (P := P) w t e i z (hL.und _ _ hu) (hL.info _ _ hi) hz kl kc ml mc h0 (by omega) (by
          have : ((mc.toNat * i.bytes : Nat) : Int) ≤ ((2 ^ 46 : Nat) : Int) := Int.ofNat_le.2 hby
          rw [Int.natCast_mul, Int.toNat_of_nonneg h0c, Int.mul_comm] at this
          omega) (by omega)
        refine ⟨.cells (madeCells z.cells (mc.toNat * i.size)) e, w.drawn, (madeCells z.cells (mc.toNat * i.size)).size, i.size, .slice (some ⟨w.heap.size, 0, none⟩) ml.toNat mc.toNat, ?_, fun β' n hb hn => ⟨?_, ?_⟩⟩
        · simp [hrun]; try rfl
        · refine OR_new_all ?_ (by simp)
          exact zero_cells hf _ (.inr (by omega))
        · exact .slice (p := ⟨w.heap.size, 0, _, i.size⟩) hn (by omega) (Nat.le_refl _) (.inr rfl) (.inl rfl)
    · cases h
  case h_5 src dst x ho =>
    simp only [Option.bind_eq_some_iff] at h
    obtain ⟨v, hv, h⟩ := h
    have rv := hρ _ _ hv
    split at h
    · rename_i e s hs hd
      split at h
      · rename_i he
        simp only [Option.some.injEq, Prod.mk.injEq] at h
        obtain ⟨rfl, rfl⟩ := h
        unfold execOp; simp only [ho]
        generalize ρ' x = v' at *
        cases rv
        intro w
        have hrun := run_bytes_of_string (P := P) w src dst e s (hL.und _ _ hs) (hL.und _ _ hd) (hL.und _ _ he)
        have hcap : s.size ≤ grownCap w s.size 0 e := Nat.le_add_right _ _
        have hsz : (bytesRow s (grownCap w s.size 0 e)).size = grownCap w s.size 0 e := by
          unfold bytesRow
          have : s.data.size = s.size := rfl
          simp [this]; omega
        refine ⟨.cells (bytesRow s (grownCap w s.size 0 e)) e ((bytesRow s (grownCap w s.size 0 e)).size, (bytesRow s (grownCap w s.size 0 e)).size + 1), w.drawn + 1, grownCap w s.size 0 e, 1,
          .slice (some ⟨w.heap.size, 0, none⟩) s.size (grownCap w s.size 0 e), ?_, fun β' n hb hn => ⟨?_, ?_⟩⟩
        · simp [hrun]; try rfl
        · have hor := OR_new (β' := β') (b := w.heap.size) (z := 1) (c := s.data.toList.map fun b => Value.int .u8 b.toNat) (arr := bytesRow s (grownCap w s.size 0 e)) (T := e)
            (fr := (grownCap w s.size 0 e, grownCap w s.size 0 e + 1)) ?_ ?_ ?_
          · rw [hsz] at hor; rw [hsz]; exact hor
          · unfold bytesRow
            simp only [Array.toList_append, Array.toList_map, List.length_map]
            rw [List.take_append_of_le_length (by simp), List.take_of_length_le (by simp)]
            refine VRs.flat (p := flat1) (fun v => flat1_refl) fun v hv => ?_
            simp only [List.mem_map] at hv
            obtain ⟨b, hb, rfl⟩ := hv
            rfl
          · rw [hsz]
            have : s.data.size = s.size := rfl
            simp [this]; omega
          · rw [hsz]; intro k hk; simp only; omega
        · exact .slice (p := ⟨w.heap.size, 0, _, 1⟩) hn (Nat.le_refl _) hcap (.inr rfl) (.inr ⟨by simp, by simp⟩)
      · cases h
    · cases h
  case h_6 t x ho =>
    simp only [Option.bind_eq_some_iff] at h
    obtain ⟨v, hv, h⟩ := h
    have rv := hρ _ _ hv
    split at h
    · rename_i s hu
      simp only [Option.some.injEq, Prod.mk.injEq] at h
      obtain ⟨rfl, rfl⟩ := h
      unfold execOp; simp only [ho]
      generalize ρ' x = v' at *
      cases rv
      intro w
      refine ⟨.stringIter s 0, w.drawn, 0, 0, .pointer (some ⟨w.heap.size, 0, none⟩), ?_, fun β' n hb hn => ⟨⟨rfl, rfl⟩, .ptr (p := ⟨w.heap.size, 0, 0, 0⟩) (k := 0) hn⟩⟩
      simp [Instr.range, run_underlying (hL.und _ _ hu)]
      try rfl
    · cases h
  case h_7 => cases h

/-! ### Reading -/
theorem cell_at [Sym] {w : World} {p : Pl} {c : List Value} {obj : Obj} (hh : w.heap[p.b]? = some obj) (h : OR β p obj (.table c)) {j : Nat} {v : Value} (hv : c[j]? = some v) :
    ∃ v', w.cell? ⟨p.b, p.o + j, none⟩ = some v' ∧ VR β v v' := by
  obtain ⟨arr, T, fr, rfl, h6⟩ := h
  obtain ⟨v', ha, hr⟩ := h6 j v hv
  exact ⟨v', by simp [World.cell?, hh, ha], hr⟩

theorem cut_some {c d : List Value} {k n : Nat} (h : cut c k n = some d) : d.length = n ∧ d = (c.drop k).take n ∧ k + n ≤ c.length ∨ d = [] ∧ n = 0 := by
  unfold cut at h
  simp only at h
  cases hb : Nat.beq ((c.drop k).take n).length n with
  | false => rw [hb] at h; cases h
  | true =>
    rw [hb] at h
    simp only [cond_true, Option.some.injEq] at h
    rw [beq_dec] at hb
    have hl := of_decide_eq_true hb
    by_cases hn : n = 0
    · right; subst hn; simp at h; exact ⟨h, rfl⟩
    · left
      refine ⟨by rw [← h]; exact hl, h.symm, ?_⟩
      simp only [List.length_take, List.length_drop] at hl
      omega
theorem cut_len {c d : List Value} {k n : Nat} (h : cut c k n = some d) : d.length = n := by
  rcases cut_some h with h | h
  · exact h.1
  · rw [h.1, h.2]; rfl
theorem cut_get {c d : List Value} {k n : Nat} (h : cut c k n = some d) {j : Nat} {v : Value} (hv : d[j]? = some v) : c[k + j]? = some v := by
  rcases cut_some h with ⟨_, rfl, _⟩ | ⟨rfl, _⟩
  · rw [List.getElem?_take] at hv
    split at hv
    · rwa [List.getElem?_drop] at hv
    · cases hv
  · simp at hv

/-- The cells of a row, loaded. -/
theorem run_cut [Sym] {w : World} {p : Pl} {c d : List Value} {k n : Nat} {obj : Obj} (hh : w.heap[p.b]? = some obj) (h : OR β p obj (.table c)) (hc : cut c k n = some d) :
    ∃ d', VRs β d d' ∧ (∀ j v, d'[j]? = some v → w.cell? (Addr.add ⟨p.b, p.o + k, none⟩ j) = some v) ∧ (loadCells ⟨p.b, p.o + k, none⟩ n).run P w = .ok d'.toArray w := by
  have hlen := cut_len hc
  have hex : ∀ j, j < n → ∃ v', w.cell? ⟨p.b, p.o + (k + j), none⟩ = some v' ∧ ∀ v, d[j]? = some v → VR β v v' := by
    intro j hj
    have hd : d[j]? = some d[j] := List.getElem?_eq_getElem (by omega)
    obtain ⟨v', h1, h2⟩ := cell_at hh h (cut_get hc hd)
    exact ⟨v', h1, fun v hv => by rw [hd] at hv; cases hv; exact h2⟩
  let f : Nat → Value := fun j => (w.cell? ⟨p.b, p.o + (k + j), none⟩).getD undef
  have hf : ∀ j, j < n → w.cell? (Addr.add ⟨p.b, p.o + k, none⟩ j) = some (f j) := by
    intro j hj
    obtain ⟨v', h1, _⟩ := hex j hj
    rw [add_addr, h1]
    simp [f, h1]
  refine ⟨(List.range n).map f, ⟨by simp [hlen], fun i x y hx hy => ?_⟩, fun j v hv => ?_, run_loadCells w _ n f hf⟩
  · rw [List.getElem?_map] at hy
    have hi : i < n := by rw [← hlen]; exact (List.getElem?_eq_some_iff.1 hx).1
    rw [List.getElem?_range hi] at hy
    simp only [Option.map_some, Option.some.injEq] at hy
    obtain ⟨v', h1, h2⟩ := hex i hi
    rw [← hy]
    simp only [f, h1, Option.getD_some]
    exact h2 x hx
  · rw [List.getElem?_map] at hv
    simp only [Option.map_eq_some_iff] at hv
    obtain ⟨a, ha, rfl⟩ := hv
    have haj : a = j ∧ j < n := by
      obtain ⟨h1, h2⟩ := List.getElem?_eq_some_iff.1 ha
      simp at h1 h2
      exact ⟨h2.symm, h1⟩
    rw [haj.1]
    exact hf j haj.2

theorem load_rel [Sym] (hL : L.Ok P) {w : World} {p : Pl} {c : List Value} {k : Nat} {t : TypeId} {v : Value} {obj : Obj} (hh : w.heap[p.b]? = some obj) (h : OR β p obj (.table c)) (hl : loadE L t k c = some v) :
    ∃ v', VR β v v' ∧ (loadVar t ⟨p.b, p.o + k, none⟩).run P w = .ok v' w := by
  unfold loadE at hl
  have hagg : ∀ d, L.und t = some d → aggD d = true → ((L.size t).bind fun n => (cut c k n).map fun d => .agg d.toArray) = some v →
      ∃ v', VR β v v' ∧ (loadVar t ⟨p.b, p.o + k, none⟩).run P w = .ok v' w := by
    intro d hu hd hl
    simp only [Option.bind_eq_some_iff, Option.map_eq_some_iff] at hl
    obtain ⟨n, hn, d, hc, rfl⟩ := hl
    obtain ⟨ti, hti, rfl⟩ := size_some hn
    obtain ⟨d', hr, _, hrun⟩ := run_cut (P := P) hh h hc
    refine ⟨.agg d'.toArray, VRs.agg (by simpa using hr), ?_⟩
    unfold loadVar
    rw [Sem.run_bind, run_isAgg (hL.und _ _ hu), hd]
    simp [run_size (hL.info _ _ hti), hrun]
  split at hl
  · rename_i f hu; exact hagg _ hu rfl hl
  · rename_i n e hu; exact hagg _ hu rfl hl
  · rename_i d h1 h2 hu
    obtain ⟨v', hv', hr⟩ := cell_at hh h hl
    refine ⟨v', hr, ?_⟩
    unfold loadVar
    rw [Sem.run_bind, run_isAgg (hL.und _ _ hu), aggD_no h1 h2]
    simp [load, Sem.run, hv']
  · cases hl

theorem bytes_some : ∀ {d : List Value} {l : List UInt8}, bytesE d = some l → ∃ ns : List Int, d = ns.map (Value.int .u8) ∧ l = ns.map fun n => UInt8.ofNat n.toNat
  | [], l, h => by simp [bytesE] at h; subst h; exact ⟨[], rfl, rfl⟩
  | v :: d, l, h => by
    unfold bytesE at h
    split at h
    · rename_i heq; cases heq
    · rename_i n r heq
      cases heq
      simp only [Option.map_eq_some_iff] at h
      obtain ⟨l', hl', rfl⟩ := h
      obtain ⟨ns, rfl, rfl⟩ := bytes_some hl'
      exact ⟨n :: ns, rfl, rfl⟩
    · cases h
theorem VRs.ints [Sym] {ns : List Int} {d' : List Value} (h : VRs β (ns.map (Value.int .u8)) d') : d' = ns.map (Value.int .u8) := by
  induction ns generalizing d' with
  | nil => exact h.of_nil
  | cons n ns ih =>
    obtain ⟨y, r, rfl, hy, hr⟩ := h.of_cons
    cases hy
    rw [ih hr]; rfl

def ReadOk [Sym] (P : Program) (β : Emb) (s : Sem Next) (i : Nat) (g : AObj → Option Value) : Prop :=
  ∃ p, β i = some p ∧ ∀ w ob obj v, g ob = some v → w.heap[p.b]? = some obj → OR β p obj ob → ∃ v', VR β v v' ∧ s.run P w = .ok (.value v') w

theorem read_sound [Sym] (hL : L.Ok P) (hρ : ∀ x v, ρ x = some v → VR β v (ρ' x)) {o : Oper} {i : Nat} {g : AObj → Option Value} (h : readE L ρ o = some (i, g)) :
    ReadOk P β (execOp ρ' o) i g := by
  unfold readE at h
  split at h
  case h_1 t a ho =>
    simp only [Option.bind_eq_some_iff, Option.map_eq_some_iff, Prod.mk.injEq] at h
    obtain ⟨v, hv, ⟨i', k⟩, hik, rfl, rfl⟩ := h
    have rv := hρ _ _ hv
    unfold execOp; simp only [ho]
    generalize ρ' a = a' at *
    obtain ⟨p, hp, rfl⟩ := addr_rel hik rv
    refine ⟨p, hp, fun w ob obj v hg hh hor => ?_⟩
    dsimp only at hg
    split at hg
    · obtain ⟨v', hr, hrun⟩ := load_rel hL hh hor.table hg
      exact ⟨v', hr, by simp [Instr.loadAt, Instr.sureAddr, hrun]⟩
    · obtain ⟨v', hr, hrun⟩ := load_rel hL hh hor hg
      exact ⟨v', hr, by simp [Instr.loadAt, Instr.sureAddr, hrun]⟩
    · cases hg
  case h_2 src dst x ho =>
    simp only [Option.bind_eq_some_iff] at h
    obtain ⟨v, hv, h⟩ := h
    have rv := hρ _ _ hv
    split at h
    · rename_i e i' k n cap hs hd
      split at h
      · rename_i he
        simp only [Option.some.injEq, Prod.mk.injEq] at h
        obtain ⟨rfl, rfl⟩ := h
        unfold execOp; simp only [ho]
        generalize ρ' x = a' at *
        cases rv with
        | slice hp hl hc hk hs' =>
        rename_i k' cap' p
        refine ⟨p, hp, fun w ob obj v hg hh hor => ?_⟩
        dsimp only at hg
        split at hg
        · simp only [Option.bind_eq_some_iff, Option.map_eq_some_iff] at hg
          obtain ⟨d, hd', l, hl', rfl⟩ := hg
          obtain ⟨ns, rfl, rfl⟩ := bytes_some hl'
          have hload : (loadCells ⟨p.b, k', none⟩ n).run P w = .ok (ns.map (Value.int .u8)).toArray w := by
            rcases hk with h0 | h0
            · have hn : n = 0 := by omega
              subst hn
              have : ns = [] := by
                have := cut_len hd'
                simpa using this
              subst this
              rfl
            · obtain ⟨d', hr, _, hrun⟩ := run_cut (P := P) hh hor.table hd'
              rw [h0, ← VRs.ints hr, hrun]
          refine ⟨_, .string _, ?_⟩
          have hb := run_bytesToString (P := P) w ⟨p.b, k', none⟩ n cap' ns hload
          rw [Sem.run_bind, run_convert_bytes_string w src dst e _ _ _ (hL.und _ _ hs) (hL.und _ _ he) (hL.und _ _ hd), hb]
          simp only [Result.andThen_ok, Sem.run_pure]
          congr 3
          have key : ∀ (ns : List Int) (s : ByteArray), ns.foldl (fun r n => r.push (UInt8.ofNat n.toNat)) s = ⟨s.data ++ (ns.map fun n => UInt8.ofNat n.toNat).toArray⟩ := by
            intro ns
            induction ns with
            | nil => intro s; cases s; simp
            | cons n ns ih =>
              intro s
              simp only [List.foldl_cons, ih]
              congr 1
              apply Array.toList_inj.1
              simp [ByteArray.push]
          rw [key]
          have e0 : ByteArray.empty.data = #[] := rfl
          rw [e0, Array.empty_append]
        · cases hg
      · cases h
    · cases h
  case h_3 t x lo hi ho =>
    simp only [Option.bind_eq_some_iff] at h
    obtain ⟨a, ha, lo1, hlo, hi1, hhi, h⟩ := h
    have ra := hρ _ _ ha
    unfold execOp; simp only [ho]
    generalize ρ' x = a' at *
    split at h
    · rename_i i' k n cap
      split at h
      · rename_i e hu
        simp only [Option.bind_eq_some_iff, Option.map_eq_some_iff, Prod.mk.injEq] at h
        obtain ⟨z, hz, ⟨l, h'⟩, hs, rfl, rfl⟩ := h
        obtain ⟨ti, hti, rfl⟩ := size_some hz
        have hs' := sliceE_rel hρ hlo hhi hs
        cases ra with
        | slice hp hl hc hk hcap =>
        rename_i k' cap' p
        have hs2 : sliceE n cap' (lo.map ρ') (hi.map ρ') = some (l, h') := by
          unfold sliceE at hs' ⊢
          simp only [Option.bind_eq_some_iff] at hs' ⊢
          obtain ⟨h1, hh, l1, hl1, hs'⟩ := hs'
          refine ⟨h1, hh, l1, hl1, ?_⟩
          cases hb : (Nat.ble h1 cap && Nat.ble l1 h1) with
          | false => simp [hb] at hs'
          | true =>
            simp only [hb, cond_true] at hs'
            simp only [Bool.and_eq_true, Nat.ble_eq] at hb
            rw [(by simp only [Bool.and_eq_true, Nat.ble_eq]; omega : (Nat.ble h1 cap' && Nat.ble l1 h1) = true)]
            simpa using hs'
        have hle := bounds_le hs
        refine ⟨p, hp, fun w ob obj v hg hh hor => ?_⟩
        dsimp only at hg
        split at hg
        · rename_i c zz
          cases hzz : (Nat.beq zz ti.size || Nat.beq zz 0) with
          | false => rw [hzz] at hg; cases hg
          | true =>
            rw [hzz] at hg
            simp only [cond_true, Option.some.injEq] at hg
            subst hg
            simp only [Bool.or_eq_true, beq_dec, decide_eq_true_eq] at hzz
            obtain ⟨arr, T, fr, _, h2, h3, _⟩ := hor
            refine ⟨.slice (some (if cap' = l then ⟨p.b, k', none⟩ else Addr.add ⟨p.b, k', none⟩ (l * ti.size))) (h' - l) (cap' - l), ?_, ?_⟩
            · have hmk : ∀ kk, (cap - l = 0 ∨ kk = p.o + (cond (Nat.beq cap l) k (k + l * ti.size))) → (cap' - l = cap - l ∨ (p.z ≠ 0 ∧ kk + (cap' - l) * p.z ≤ p.s)) →
                  VR β (.slice (some ⟨i', cond (Nat.beq cap l) k (k + l * ti.size), none⟩) (h' - l) (cap - l)) (.slice (some ⟨p.b, kk, none⟩) (h' - l) (cap' - l)) :=
                fun kk hk1 hk2 => .slice hp (by omega) (by omega) hk1 hk2
              have hspare : ∀ kk, kk = k' + l * ti.size → (cap' - l = cap - l ∨ (p.z ≠ 0 ∧ kk + (cap' - l) * p.z ≤ p.s)) := by
                intro kk hkk
                rcases hcap with h9 | ⟨hz0, h9⟩
                · left; omega
                · right
                  have hze : p.z = ti.size := by rcases hzz with h | h <;> omega
                  refine ⟨hz0, ?_⟩
                  rw [hkk, ← hze]
                  have : l * p.z + (cap' - l) * p.z = cap' * p.z := by rw [← Nat.add_mul]; congr 1; omega
                  omega
              by_cases e1 : cap' = l
              · have e2 : cap = l := by omega
                rw [if_pos e1]
                exact hmk _ (.inl (by omega)) (.inl (by omega))
              · rw [if_neg e1]
                have hadd : Addr.add ⟨p.b, k', none⟩ (l * ti.size) = ⟨p.b, k' + l * ti.size, none⟩ := by
                  unfold Addr.add; split
                  · rename_i h0; rw [h0]; rfl
                  · rfl
                rw [hadd]
                refine hmk _ ?_ (hspare _ rfl)
                by_cases e2 : cap = l
                · left; omega
                · right
                  rw [beq_dec, decide_eq_false e2]
                  simp only [cond_false]
                  have := hk.resolve_left (by omega)
                  omega
            · simp [Instr.sliceAt, Instr.slice, run_underlying (hL.und _ _ hu), (run_bounds (P := P) (b := true) hs2 w).1, run_size (hL.info _ _ hti)]
              split <;> rfl
        · cases hg
      · cases h
    · cases h
  case h_4 => cases h
end
end Go.E
