/- One operation: sound. -/
import Derived.Test.YtfgdoliihmjnoaaDoorXE9
set_option linter.unusedSimpArgs false
set_option linter.unusedVariables false
namespace Go.E
open Go

abbrev CallF := FuncId → List Value → St → Option (Value × St)
def WF (st : St) : Prop := ∀ i, st.next ≤ i → st.mem.get i = none
/-- What is asked of the calls: on the states alone, and over the worlds. -/
def CallMono (callf : CallF) : Prop := ∀ f args st v st', WF st → callf f args st = some (v, st') → Mono st st'
def CallSound [Sym] (P : Program) (L : Lk) (callf : CallF) : Prop := ∀ f args st v st', callf f args st = some (v, st') → ∀ N β w args', Inv N β L st w → st'.next ≤ N → VRs β args args' →
  (∃ j, (∀ as w, (callFunc f as).run P w = .ok (.enter j as) w) ∧ Calls P j args'.toArray w fun e w' => ∃ v', e = .returned v' ∧ ∃ β', Post st st' β w β' w' ∧ VR β' v v') ∨
  ∃ v', (callFunc f args'.toArray).run P w = .ok (.value v') w ∧ ∃ β', Post st st' β w β' w ∧ VR β' v v'

section
variable {P : Program} {L : Lk} {β : Emb} {st st' : St} {w : World} {o : Oper} {a : Act} {callf : CallF} {ρ : Operand → Option Value} {N : Nat}

theorem store_mono (hw : WF st) {i k : Nat} {vs : List Value} (h : storeE st i k vs = some st') : Mono st st' := by
  unfold storeE at h
  split at h
  · rename_i c z hm
    cases hone : vs.all one with
    | false => simp [hone] at h
    | true =>
      simp only [hone, cond_true, Option.map_eq_some_iff] at h
      obtain ⟨c', hc', rfl⟩ := h
      have hl : st.mem.get i ≠ none := by rw [hm]; simp
      exact mono_write (wf_lt hw hl) hl
  · cases h

theorem append_mono (hw : WF st) {t xt : TypeId} {s x v : Value} (h : appendE L st t xt s x = some (v, st')) : Mono st st' := by
  unfold appendE at h
  split at h
  · cases h
  · simp only [Option.bind_eq_some_iff] at h
    obtain ⟨i, hi', z, hz, n, hn, h⟩ := h
    split at h
    · cases h0 : Nat.beq n 0 with
      | true => rw [h0] at h; simp only [cond_true, Option.some.injEq, Prod.mk.injEq] at h; obtain ⟨rfl, rfl⟩ := h; exact .refl _
      | false =>
        rw [h0] at h
        simp only [cond_false] at h
        cases hc : (Nat.ble ((n + 1) * i.bytes) (2 ^ 44) && Nat.ble n (2 ^ 44) && Nat.blt 0 i.bytes && Nat.blt 0 i.size && Nat.beq z.cells.size i.size && flat2 z) with
        | false => rw [hc] at h; cases h
        | true =>
          rw [hc] at h
          simp only [cond_true, Option.bind_eq_some_iff, Option.some.injEq, Prod.mk.injEq] at h
          obtain ⟨new, hnew, rfl, rfl⟩ := h
          exact mono_new
    · rename_i j k len cap
      cases h0 : Nat.beq n 0 with
      | true => rw [h0] at h; simp only [cond_true, Option.some.injEq, Prod.mk.injEq] at h; obtain ⟨rfl, rfl⟩ := h; exact .refl _
      | false =>
        rw [h0] at h
        simp only [cond_false] at h
        cases hc : (Nat.ble ((len + n + 1) * i.bytes) (2 ^ 44) && Nat.ble (len + n) (2 ^ 44) && Nat.blt 0 i.bytes && Nat.blt 0 i.size && Nat.beq z.cells.size i.size && flat2 z) with
        | false => rw [hc] at h; cases h
        | true =>
          rw [hc] at h
          simp only [cond_true] at h
          split at h
          · rename_i c zz hm
            cases hc2 : (Nat.beq zz i.size && (Nat.blt cap (len + n) || Nat.ble (k + cap * i.size) c.length)) with
            | false => rw [hc2] at h; cases h
            | true =>
              rw [hc2] at h
              simp only [cond_true, Option.bind_eq_some_iff] at h
              obtain ⟨old, hold, new, hnew, h⟩ := h
              cases hone : new.all one with
              | false => rw [hone] at h; cases h
              | true =>
                rw [hone] at h
                simp only [cond_true, Option.some.injEq, Prod.mk.injEq] at h
                obtain ⟨rfl, rfl⟩ := h
                have hl : st.mem.get j ≠ none := by rw [hm]; simp
                exact (mono_write (wf_lt hw hl) hl).trans mono_new
          · cases h
    · cases h
  · cases h

theorem gen_mono (hc : CallMono callf) (hw : WF st) {v : Value} (h : genE L callf ρ o st = some (v, st')) : Mono st st' := by
  unfold genE at h
  split at h
  · simp only [Option.bind_eq_some_iff] at h
    obtain ⟨va, _, vx, _, ⟨i, k⟩, _, n, _, h⟩ := h
    cases hb : Nat.beq vx.cells.size n with
    | false => rw [hb] at h; cases h
    | true =>
      rw [hb] at h
      simp only [cond_true, Option.map_eq_some_iff, Prod.mk.injEq] at h
      obtain ⟨s, hs, _, rfl⟩ := h
      exact store_mono hw hs
  · simp only [Option.bind_eq_some_iff] at h
    obtain ⟨va, _, ⟨i, k⟩, _, h⟩ := h
    split at h
    · rename_i s pos hk hm
      have hl : st.mem.get i ≠ none := by simp only at hm; rw [hm]; simp
      cases hb : Nat.blt pos s.size with
      | false => rw [hb] at h; simp only [cond_false, Option.some.injEq, Prod.mk.injEq] at h; obtain ⟨_, rfl⟩ := h; exact .refl _
      | true => rw [hb] at h; simp only [cond_true, Option.some.injEq, Prod.mk.injEq] at h; obtain ⟨_, rfl⟩ := h; exact mono_write (wf_lt hw hl) hl
    · cases h
  · simp only [Option.bind_eq_some_iff] at h
    obtain ⟨f, _, vs, _, h⟩ := h
    split at h
    · exact hc _ _ _ _ _ hw h
    · cases h
  · simp only [Option.bind_eq_some_iff] at h
    obtain ⟨vs, _, h⟩ := h
    split at h
    · exact append_mono hw h
    · split at h
      · simp only [Option.bind_eq_some_iff] at h
        obtain ⟨sz, _, n, _, h⟩ := h
        split at h
        · simp only [Option.bind_eq_some_iff, Option.map_eq_some_iff, Prod.mk.injEq] at h
          obtain ⟨new, _, s, hs, _, rfl⟩ := h
          exact store_mono hw hs
        · simp only [Option.some.injEq, Prod.mk.injEq] at h; obtain ⟨_, rfl⟩ := h; exact .refl _
        · cases h
      · cases h
    · split at h
      · simp only [Option.some.injEq, Prod.mk.injEq] at h; obtain ⟨_, rfl⟩ := h; exact .refl _
      · simp only [Option.some.injEq, Prod.mk.injEq] at h; obtain ⟨_, rfl⟩ := h; exact .refl _
      · simp only [Option.bind_eq_some_iff] at h
        obtain ⟨inf, _, zero, _, h⟩ := h
        cases hb : flat2 zero with
        | false => rw [hb] at h; cases h
        | true =>
          rw [hb] at h
          simp only [cond_true, Option.map_eq_some_iff, Prod.mk.injEq] at h
          obtain ⟨s, hs, _, rfl⟩ := h
          exact store_mono hw hs
      · cases h
    · cases h
  · cases h

/-- What an operation that may write yields. -/
def Good [Sym] (st st' : St) (β : Emb) (w : World) (v : Value) : Value → World → Prop := fun v' w' => ∃ β', Post st st' β w β' w' ∧ VR β' v v'

theorem undef_vr [Sym] {β : Emb} : VR β undef undef := VR.undef

theorem zero_list [Sym] {z : Value} (h : flat2 z = true) (n : Nat) : VRs β (Builtin.zeroCells z.cells n).toList (Builtin.zeroCells z.cells n).toList := by
  unfold Builtin.zeroCells
  by_cases h0 : z.cells.size = 0
  · rw [h0]; simpa using VRs.nil
  · exact zero_cells h _ (.inr (by omega))

theorem gen_sound [Sym] (hL : L.Ok P) (hc : CallSound P L callf) (hi : Inv N β L st w) (hN : st'.next ≤ N) (hρ : ∀ x v, ρ x = some v → VR β v (a.eval x)) {v : Value} (h : genE L callf ρ o st = some (v, st')) :
    OpOk P o a w (Good st st' β w v) := by
  unfold genE at h
  split at h
  · rename_i t ad x ho
    simp only [Option.bind_eq_some_iff] at h
    obtain ⟨va, hva, vx, hvx, ⟨i, k⟩, hik, n, hn, h⟩ := h
    have ra := hρ _ _ hva
    have rx := hρ _ _ hvx
    obtain ⟨ti, hti, rfl⟩ := size_some hn
    obtain ⟨p, hp, hea⟩ := addr_rel hik ra
    cases hb : Nat.beq vx.cells.size ti.size with
    | false => rw [hb] at h; cases h
    | true =>
      rw [hb] at h
      simp only [cond_true, Option.map_eq_some_iff, Prod.mk.injEq] at h
      obtain ⟨s, hs, rfl, rfl⟩ := h
      rw [beq_dec] at hb
      have hsz := of_decide_eq_true hb
      obtain ⟨w', hrun, hpost, _⟩ := store_sound (P := P) hi hs hp rx.cells (.inr rfl)
      refine .skip (w' := w') ?_ ⟨β, hpost, undef_vr⟩
      unfold execOp
      simp only [ho, hea]
      have hsz' : (a.eval x).cells.size = ti.size := by rw [← hsz]; simpa using rx.cells.1.symm
      simp [Instr.storeAt, Instr.sureAddr, storeVar, run_size (hL.info _ _ hti), hsz', hrun]
  · rename_i it ho
    simp only [Option.bind_eq_some_iff] at h
    obtain ⟨va, hva, ⟨i, k⟩, hik, h⟩ := h
    have ra := hρ _ _ hva
    obtain ⟨p, hp, hea⟩ := addr_rel hik ra
    split at h
    · rename_i s pos hk hm
      simp only at hk hm
      subst hk
      have hl : st.mem.get i ≠ none := by rw [hm]; simp
      obtain ⟨obj, hh, h0, rfl⟩ := hi.rep.obj i p _ hp hm
      cases hb : Nat.blt pos s.size with
      | false =>
        rw [hb] at h
        simp only [cond_false, Option.some.injEq, Prod.mk.injEq] at h
        obtain ⟨rfl, rfl⟩ := h
        have hnl : ¬ pos < s.size := by rw [← Nat.blt_eq, hb]; simp
        refine .value (v' := .tuple #[.bool false]) (w' := w) ?_ ⟨β, .refl hi.rep, flat3_refl rfl⟩
        unfold execOp
        simp only [ho, hea, h0]
        simp [Instr.next, getObj, Sem.run, hh, hnl]
      | true =>
        rw [hb] at h
        simp only [cond_true, Option.some.injEq, Prod.mk.injEq] at h
        obtain ⟨rfl, rfl⟩ := h
        have hlt : pos < s.size := by rw [← Nat.blt_eq]; exact hb
        have hpb := hi.rep.inb i p hp
        refine .value (v' := .tuple #[.bool true, goInt pos, .int .i32 (Utf8.decode s pos).1]) (w' := { w with heap := w.heap.setIfInBounds p.b (.stringIter s (pos + (Utf8.decode s pos).2)) }) ?_ ⟨β, ?_, flat3_refl rfl⟩
        · unfold execOp
          simp only [ho, hea, h0]
          simp [Instr.next, getObj, setObj, Sem.run, hh, hlt]
        · refine post_write hi hp hl ⟨fun j hj => ?_, by simp, rfl, rfl, rfl⟩ ⟨_, ?_, h0, rfl⟩
          · simp only; rw [Array.getElem?_setIfInBounds_ne (Ne.symm hj)]
          · simp only; rw [Array.getElem?_setIfInBounds_self_of_lt hpb]
    · cases h
  · rename_i f args ats ho
    simp only [Option.bind_eq_some_iff] at h
    obtain ⟨vf, hvf, vs, hvs, h⟩ := h
    have rf := hρ _ _ hvf
    have rs := mapM_rho hρ _ _ hvs
    split at h
    · rename_i g xs ys
      generalize hef : a.eval f = f' at rf
      cases rf with
      | func h1 h2 h3 h4 =>
      rename_i xs' ys'
      have harr : (xs'.toList ++ args.toList.map a.eval ++ ys'.toList).toArray = xs' ++ args.map a.eval ++ ys' := by
        apply Array.toList_inj.1; simp
      rcases hc _ _ _ _ _ h N β w _ hi hN (((VRs.of_array h1 h2).append rs).append (VRs.of_array h3 h4)) with ⟨j, hj, hcalls⟩ | ⟨v', hrun, hpost⟩
      rotate_left
      · rw [harr] at hrun
        refine .value (v' := v') (w' := w) ?_ hpost
        unfold execOp
        simp only [ho]
        rw [Array.append_assoc] at hrun
        simp [resolve, hef, Deferred.ofValue, invoke, hrun]
      refine .enter (f := j) (args := xs' ++ args.map a.eval ++ ys') (w' := w) ?_ ?_
      · unfold execOp
        simp only [ho]
        simp [resolve, hef, Deferred.ofValue, invoke, hj]
      · rw [← harr]
        exact hcalls
    · cases h
  · rename_i b args ats ho
    simp only [Option.bind_eq_some_iff] at h
    obtain ⟨vs, hvs, h⟩ := h
    have rs := mapM_rho hρ _ _ hvs
    have hex : ∀ (xs : List Value), args.toList.map a.eval = xs → args.map a.eval = xs.toArray := fun xs hx => by
      subst hx; apply Array.toList_inj.1; rw [Array.toList_map]
    have hats : ∀ (ts : List TypeId), ats.toList = ts → ats = ts.toArray := fun ts hx => by subst hx; simp
    split at h
    · rename_i s x t xt hts
      obtain ⟨s', r, hy, hs, hr2⟩ := rs.of_cons
      obtain ⟨x', r', rfl, hx, hr3⟩ := hr2.of_cons
      have hr4 := hr3.of_nil
      subst hr4
      obtain ⟨v', w', β', hrun, hpost, hv⟩ := append_sound (P := P) hL hi hN hs hx h o.type
      refine .value (v' := v') (w' := w') ?_ ⟨β', hpost, hv⟩
      rw [run_builtin ho, hex _ hy, hats _ hts]
      simp [builtin, hrun]
    · rename_i d x t t2 hts
      obtain ⟨d', r, hy, hd, hr2⟩ := rs.of_cons
      obtain ⟨x', r', rfl, hx, hr3⟩ := hr2.of_cons
      have hr4 := hr3.of_nil
      subst hr4
      split at h
      · rename_i e hu
        simp only [Option.bind_eq_some_iff] at h
        obtain ⟨sz, hsz, n, hn, h⟩ := h
        obtain ⟨ti, hti, rfl⟩ := size_some hsz
        split at h
        · rename_i i k len cap
          simp only [Option.bind_eq_some_iff, Option.map_eq_some_iff, Prod.mk.injEq] at h
          obtain ⟨new, hnew, s, hs, rfl, rfl⟩ := h
          cases hd with
          | slice hp hl hcc hk hsp =>
          rename_i k' cap' p
          obtain ⟨hnl, new', hnr, hnf⟩ := first_rel (P := P) hi hn (Nat.min_le_left _ _) hnew hx
          have hk2 : new = [] ∨ k' = p.o + k := by
            rcases hk with h0 | h0
            · left
              have hl0 : len = 0 := by omega
              have : min n len = 0 := by omega
              rw [this] at hnl
              simpa using hnl
            · exact .inr h0
          obtain ⟨w', hrun, hpost, _⟩ := store_sound (P := P) hi hs hp hnr hk2
          refine .value (v' := goInt (Nat.min n len)) (w' := w') ?_ ⟨β, hpost, flat3_refl rfl⟩
          rw [run_builtin ho, hex _ hy, hats _ hts]
          have h1 := len_rel (P := P) hn hx w
          have h2 := hnf w rfl
          simp [builtin, Builtin.copy_, run_underlying (hL.und _ _ hu), run_size (hL.info _ _ hti), h1, h2, hrun]
        · simp only [Option.some.injEq, Prod.mk.injEq] at h
          obtain ⟨rfl, rfl⟩ := h
          cases hd
          refine .value (v' := goInt 0) (w' := w) ?_ ⟨β, .refl hi.rep, flat3_refl rfl⟩
          rw [run_builtin ho, hex _ hy, hats _ hts]
          have h1 := len_rel (P := P) hn hx w
          have h2 : ∃ r, (Builtin.firstCells ti.size 0 x').run P w = .ok r w := by
            cases hx <;> first
              | (simp [lenE] at hn; done)
              | (simp [Builtin.firstCells, loadCells, loadCellsFrom]; done)
          obtain ⟨r, hr⟩ := h2
          simp [builtin, Builtin.copy_, run_underlying (hL.und _ _ hu), run_size (hL.info _ _ hti), h1, hr, Nat.min]
        · cases h
      · cases h
    · rename_i x t hts
      obtain ⟨x', r, hy, hx, hr2⟩ := rs.of_cons
      have hr4 := hr2.of_nil
      subst hr4
      have hrun0 : ∀ (l c : Nat) (ad : Option Addr), (ad = none ∨ l = 0) → x' = .slice ad l c → (P.underlying t).isSome → (execOp a.eval o).run P w = .ok (.value (.tuple #[])) w := by
        intro l c ad hal hx' hus
        rw [run_builtin ho, hex _ hy, hats _ hts, hx']
        obtain ⟨d, hd⟩ := Option.isSome_iff_exists.1 hus
        rcases hal with rfl | rfl
        · simp [builtin, Builtin.clear_, run_underlying hd]
        · cases ad <;> simp [builtin, Builtin.clear_, run_underlying hd]
      split at h
      · rename_i d l c hu
        simp only [Option.some.injEq, Prod.mk.injEq] at h
        obtain ⟨rfl, rfl⟩ := h
        refine .value (w' := w) (hrun0 0 0 none (.inl rfl) (by cases hx; rfl) (by rw [hL.und _ _ hu]; rfl)) ⟨β, .refl hi.rep, flat3_refl rfl⟩
      · rename_i d ad c hne hu
        simp only [Option.some.injEq, Prod.mk.injEq] at h
        obtain ⟨rfl, rfl⟩ := h
        have : ∃ ad' c', x' = .slice ad' 0 c' := by
          cases hx with
          | slice0 => exact ⟨_, _, rfl⟩
          | slice _ _ _ _ _ => exact ⟨_, _, rfl⟩
        obtain ⟨ad', c', hx'⟩ := this
        exact .value (w' := w) (hrun0 0 c' ad' (.inr rfl) hx' (by rw [hL.und _ _ hu]; rfl)) ⟨β, .refl hi.rep, flat3_refl rfl⟩
      · rename_i e i k n c hne hu
        simp only [Option.bind_eq_some_iff] at h
        obtain ⟨inf, hinf, zero, hz, h⟩ := h
        cases hb : flat2 zero with
        | false => rw [hb] at h; cases h
        | true =>
          rw [hb] at h
          simp only [cond_true, Option.map_eq_some_iff, Prod.mk.injEq] at h
          obtain ⟨s, hs, rfl, rfl⟩ := h
          cases hx with
          | slice hp hl hcc hk hsp =>
          rename_i k' cap' p
          have hk2 : (Builtin.zeroCells zero.cells n).toList = [] ∨ k' = p.o + k := by
            rcases hk with h0 | h0
            · left
              have : n = 0 := by omega
              subst this
              simp [Builtin.zeroCells]
            · exact .inr h0
          obtain ⟨w', hrun, hpost, _⟩ := store_sound (P := P) hi hs hp (zero_list hb n) hk2
          refine .value (v' := .tuple #[]) (w' := w') ?_ ⟨β, hpost, flat3_refl rfl⟩
          rw [run_builtin ho, hex _ hy, hats _ hts]
          cases n with
          | zero =>
            have : w' = w := by simpa [Builtin.zeroCells, storeCells] using hrun.symm
            subst this
            simp [builtin, Builtin.clear_, run_underlying (hL.und _ _ hu)]
          | succ n => simp [builtin, Builtin.clear_, run_underlying (hL.und _ _ hu), run_zero (hL.info _ _ hinf) hz, hrun]
      · cases h
    · cases h
  · cases h
end
end Go.E
