/- Operations that only reckon: sound. -/
import Derived.Test.YtfgdoliihmjnoaaDoorXE3
set_option linter.unusedSimpArgs false
set_option linter.unusedVariables false
namespace Go.E
open Go

section
variable {P : Program} {L : Lk} {β : Emb} {ρ : Operand → Option Value} {ρ' : Operand → Value}

def PureOk [Sym] (P : Program) (β : Emb) (s : Sem Next) (v : Value) : Prop := ∃ v', VR β v v' ∧ ∀ w, s.run P w = .ok (.value v') w

theorem PureOk.of [Sym] {s : Sem Value} {v v' : Value} (h : VR β v v') (hr : ∀ w, s.run P w = .ok v' w) : PureOk P β (do pure (.value (← s))) v :=
  ⟨v', h, fun w => by simp [hr w]⟩
theorem PureOk.ret [Sym] {v v' : Value} (h : VR β v v') : PureOk P β (pure (.value v')) v := ⟨v', h, fun w => rfl⟩

theorem run_bound {v : Value} {n y : Nat} {code : BoundsCode} (h : asNat? v = some n) (hy : n ≤ y) (w : World) : (Instr.sliceBound v y code).run P w = .ok n w := by
  obtain ⟨k, m, rfl, h0, rfl⟩ := asNat_some h
  unfold Instr.sliceBound asIntOf
  have : 0 ≤ m ∧ m ≤ (y : Int) := ⟨h0, by omega⟩
  simp [this]

theorem run_bounds {n cap l h : Nat} {b : Bool} {lo hi : Option Value} (hs : sliceE n cap lo hi = some (l, h)) (w : World) :
    (Instr.sliceBounds b n cap lo hi none).run P w = .ok (l, h, cap) w ∧ l ≤ h ∧ h ≤ cap := by
  unfold sliceE at hs
  simp only [Option.bind_eq_some_iff] at hs
  obtain ⟨h1, hh, l1, hl, hs⟩ := hs
  cases hb : (Nat.ble h1 cap && Nat.ble l1 h1) with
  | false => simp [hb] at hs
  | true =>
    simp only [hb, cond_true, Option.some.injEq, Prod.mk.injEq] at hs
    obtain ⟨rfl, rfl⟩ := hs
    simp only [Bool.and_eq_true, Nat.ble_eq] at hb
    refine ⟨?_, hb.2, hb.1⟩
    unfold Instr.sliceBounds
    cases hi with
    | none =>
      simp only [Option.some.injEq] at hh
      subst hh
      cases lo with
      | none => simp only [Option.some.injEq] at hl; subst hl; simp
      | some v => simp at hl; simp [run_bound hl hb.2]
    | some u =>
      simp only at hh
      cases lo with
      | none => simp only [Option.some.injEq] at hl; subst hl; simp [run_bound hh hb.1]
      | some v => simp only at hl; simp [run_bound hh hb.1, run_bound hl hb.2]

theorem bounds_le {n cap l h : Nat} {lo hi : Option Value} (hs : sliceE n cap lo hi = some (l, h)) : l ≤ h ∧ h ≤ cap := by
  unfold sliceE at hs
  simp only [Option.bind_eq_some_iff] at hs
  obtain ⟨h1, hh, l1, hl, hs⟩ := hs
  cases hb : (Nat.ble h1 cap && Nat.ble l1 h1) with
  | false => simp [hb] at hs
  | true =>
    simp only [hb, cond_true, Option.some.injEq, Prod.mk.injEq] at hs
    obtain ⟨rfl, rfl⟩ := hs
    simp only [Bool.and_eq_true, Nat.ble_eq] at hb
    exact ⟨hb.2, hb.1⟩

theorem opt_rel [Sym] (hρ : ∀ x v, ρ x = some v → VR β v (ρ' x)) {lo : Option Operand} {r : Option Value}
    (h : (match lo with | some v => (ρ v).map some | none => some none) = some r) (hf : ∀ v n, r = some v → asNat? v = some n → True) :
    (r = none ∧ lo.map ρ' = none) ∨ ∃ v v', r = some v ∧ lo.map ρ' = some v' ∧ VR β v v' := by
  cases lo with
  | none => simp at h; exact .inl ⟨h.symm, rfl⟩
  | some x =>
    simp only [Option.map_eq_some_iff] at h
    obtain ⟨v, hv, rfl⟩ := h
    exact .inr ⟨v, ρ' x, rfl, rfl, hρ x v hv⟩

theorem asNat_rel [Sym] {v v' : Value} {n : Nat} (h : asNat? v = some n) (r : VR β v v') : v' = v := by
  obtain ⟨k, m, rfl, _⟩ := asNat_some h
  cases r; rfl

theorem sliceE_rel [Sym] (hρ : ∀ x v, ρ x = some v → VR β v (ρ' x)) {lo hi : Option Operand} {r s : Option Value} {n cap l h : Nat}
    (h1 : (match lo with | some v => (ρ v).map some | none => some none) = some r) (h2 : (match hi with | some v => (ρ v).map some | none => some none) = some s)
    (hs : sliceE n cap r s = some (l, h)) : sliceE n cap (lo.map ρ') (hi.map ρ') = some (l, h) := by
  have e1 : r = lo.map ρ' ∨ ∃ v, r = some v ∧ asNat? v = none := by
    rcases opt_rel hρ h1 (fun _ _ _ _ => trivial) with ⟨a, b⟩ | ⟨v, v', a, b, c⟩
    · exact .inl (a.trans b.symm)
    · cases hv : asNat? v with
      | none => exact .inr ⟨v, a, hv⟩
      | some n => rw [asNat_rel hv c] at b; exact .inl (a.trans b.symm)
  have e2 : s = hi.map ρ' ∨ ∃ v, s = some v ∧ asNat? v = none := by
    rcases opt_rel hρ h2 (fun _ _ _ _ => trivial) with ⟨a, b⟩ | ⟨v, v', a, b, c⟩
    · exact .inl (a.trans b.symm)
    · cases hv : asNat? v with
      | none => exact .inr ⟨v, a, hv⟩
      | some n => rw [asNat_rel hv c] at b; exact .inl (a.trans b.symm)
  rcases e2 with e2 | ⟨v, rfl, hv⟩
  · rcases e1 with e1 | ⟨v, rfl, hv⟩
    · rw [← e1, ← e2]; exact hs
    · unfold sliceE at hs
      simp [hv] at hs
  · unfold sliceE at hs
    simp [hv] at hs

theorem pureV_sound [Sym] {s : Sem Value} {v : Value} (h : pureV P s = some v) : VR β v v ∧ ∀ w, s.run P w = .ok v w := by
  unfold pureV at h
  simp only [Option.bind_eq_some_iff] at h
  obtain ⟨u, hu, h⟩ := h
  cases hf : flat3 u with
  | false => simp [hf] at h
  | true => simp [hf] at h; subst h; exact ⟨flat3_refl hf, runPure_run _ _ hu⟩

theorem eqNil_equal [Sym] (hL : L.Ok P) {t : TypeId} {d : TypeDesc} {a b a' b' : Value} {r : Bool} (hu : L.und t = some d) (h : eqNil d a b = some r)
    (ra : VR β a a') (rb : VR β b b') (w : World) : (Op.equal t a' b').run P w = .ok r w ∧
    ∀ op x y, (eqGuard op t x y a' b').run P w = .ok () w ∧ binOp .eql t a' b' = (do pure (.bool (← Op.equal t a' b'))) ∧ binOp .neq t a' b' = (do pure (.bool (!(← Op.equal t a' b')))) := by
  have hu' := hL.und _ _ hu
  unfold eqNil at h
  split at h <;> (try (cases h; done)) <;> split at h <;> (try (cases h; done)) <;> (rename_i f1 f2 f3; cases h) <;> cases ra <;> cases rb <;>
    refine ⟨?_, fun op x y => ⟨?_, rfl, rfl⟩⟩ <;>
    first
      | (show (Op.equalIn (9999 + 1) t _ _).run P w = _; rw [Op.equalIn, Sem.run_bind, run_underlying hu']; rfl)
      | (unfold eqGuard; cases op <;> rfl)

theorem run_builtin {o : Oper} {b : Builtin} {args : Array Operand} {argTypes : Array TypeId} (ho : o.op = .call { callee := .builtin b, args, argTypes }) (w : World) :
    (execOp ρ' o).run P w = (builtin b argTypes o.type (args.map fun | .const _ => true | _ => false) (args.map ρ')).run P w := by
  unfold execOp; simp only [ho]; rfl

theorem pure_sound [Sym] (hL : L.Ok P) (hρ : ∀ x v, ρ x = some v → VR β v (ρ' x)) {o : Oper} {v : Value} (h : pureE P L ρ o = some v) :
    PureOk P β (execOp ρ' o) v := by
  unfold pureE at h
  split at h
  case h_1 x ho => unfold execOp; simp only [ho]; exact .ret (hρ _ _ h)
  case h_2 x ho => unfold execOp; simp only [ho]; exact .ret (hρ _ _ h)
  case h_3 c a b ho =>
    simp only [Option.bind_eq_some_iff] at h
    obtain ⟨vc, hc, h⟩ := h
    have rc := hρ _ _ hc
    unfold execOp; simp only [ho]
    split at h
    · generalize hρc : ρ' c = vc' at rc; cases rc
      exact ⟨_, hρ _ _ h, fun w => by simp [hρc, asBool]⟩
    · generalize hρc : ρ' c = vc' at rc; cases rc
      exact ⟨_, hρ _ _ h, fun w => by simp [hρc, asBool]⟩
    · cases h
  case h_4 t parts ho =>
    simp only [Option.bind_eq_some_iff, Option.map_eq_some_iff] at h
    obtain ⟨ps, hps, cs, hcs, rfl⟩ := h
    obtain ⟨cs', hcs', hr⟩ := built_rel hL (mapM_parts hρ _ _ hps) hcs
    unfold execOp; simp only [ho]
    refine .of hr.agg fun w => run_build w t _ cs' ?_
    rw [← hcs']; simp
  case h_5 x ho =>
    simp only [Option.bind_eq_some_iff] at h
    obtain ⟨vx, hx, h⟩ := h
    have rx := hρ _ _ hx
    unfold execOp; simp only [ho]
    generalize hx' : ρ' x = vx' at rx
    split at h
    · cases h; cases rx with
      | ptr hp => exact .ret (.ptr hp)
    · cases h; cases rx with
      | func a b c d => exact .ret (.func a b c d)
    · cases h
  case h_6 op t x y yt ho =>
    simp only [Option.bind_eq_some_iff] at h
    obtain ⟨a, ha, b, hb, h⟩ := h
    have ra := hρ _ _ ha
    have rb := hρ _ _ hb
    unfold execOp; simp only [ho]
    cases hf : (flat2 a && flat2 b) with
    | true =>
      simp only [hf, cond_true] at h
      simp only [Bool.and_eq_true] at hf
      rw [flat2_eq hf.1 ra, flat2_eq hf.2 rb]
      exact .of (pureV_sound h).1 (pureV_sound (β := β) h).2
    | false =>
      simp only [hf, cond_false] at h
      split at h
      · rename_i r hr
        cases hs : (symOk a && symOk b) with
        | false => rw [hs] at h; cases h
        | true =>
          rw [hs] at h
          simp only [cond_true, Option.some.injEq] at h
          subst h
          simp only [Bool.and_eq_true] at hs
          rw [symOk_eq hs.1 ra, symOk_eq hs.2 rb]
          have h9 := hL.symOp _ _ _ _ _ hr x y
          exact .of (pureV_sound h9).1 (pureV_sound (β := β) h9).2
      simp only [Option.bind_eq_some_iff] at h
      obtain ⟨d, hd, r, hr, h⟩ := h
      generalize ρ' x = a' at *
      generalize ρ' y = b' at *
      split at h
      · cases h
        exact .of (.bool _) fun w => by
          obtain ⟨h1, h2⟩ := eqNil_equal hL hd hr ra rb w
          obtain ⟨h3, h4, h5⟩ := h2 .eql x y
          simp [h3, h4, h1]
      · cases h
        exact .of (.bool _) fun w => by
          obtain ⟨h1, h2⟩ := eqNil_equal hL hd hr ra rb w
          obtain ⟨h3, h4, h5⟩ := h2 .neq x y
          simp [h3, h5, h1]
      · cases h
  case h_7 op t x ho =>
    simp only [Option.bind_eq_some_iff] at h
    obtain ⟨a, ha, h⟩ := h
    have ra := hρ _ _ ha
    unfold execOp; simp only [ho]
    cases hf : flat1 a with
    | true =>
      simp only [hf, cond_true] at h
      rw [flat1_eq hf ra]
      exact .of (pureV_sound h).1 (pureV_sound (β := β) h).2
    | false => simp [hf] at h
  case h_8 s d x ho =>
    simp only [Option.bind_eq_some_iff] at h
    obtain ⟨a, ha, h⟩ := h
    have ra := hρ _ _ ha
    unfold execOp; simp only [ho]
    cases hf : flat1 a with
    | true =>
      simp only [hf, cond_true] at h
      rw [flat1_eq hf ra]
      exact .of (pureV_sound h).1 (pureV_sound (β := β) h).2
    | false => simp [hf] at h
  case h_9 t x lo hi ho =>
    simp only [Option.bind_eq_some_iff] at h
    obtain ⟨a, ha, lo1, hlo, hi1, hhi, h⟩ := h
    have ra := hρ _ _ ha
    unfold execOp; simp only [ho]
    generalize ρ' x = a' at *
    split at h
    · rename_i s
      split at h
      · rename_i hu
        simp only [Option.map_eq_some_iff] at h
        obtain ⟨⟨l, h'⟩, hs, rfl⟩ := h
        have hs' := sliceE_rel hρ hlo hhi hs
        cases ra
        refine .of (.string _) fun w => ?_
        simp [Instr.sliceAt, Instr.slice, run_underlying (hL.und _ _ hu), (run_bounds hs' w).1]
      · cases h
    · split at h
      · rename_i e hu
        simp only [Option.bind_eq_some_iff, Option.map_eq_some_iff] at h
        obtain ⟨z, hz, ⟨l, h'⟩, hs, rfl⟩ := h
        obtain ⟨ti, hti, rfl⟩ := size_some hz
        have hs' := sliceE_rel hρ hlo hhi hs
        cases ra
        refine .of .slice0 fun w => ?_
        have hb := (run_bounds (P := P) (b := true) hs' w)
        have h1 : l = 0 := by omega
        have h2 : h' = 0 := by omega
        subst h1; subst h2
        simp [Instr.sliceAt, Instr.slice, run_underlying (hL.und _ _ hu), hb.1, run_size (hL.info _ _ hti)]
      · cases h
    · rename_i i k
      split at h
      · rename_i n e hu
        simp only [Option.bind_eq_some_iff, Option.map_eq_some_iff] at h
        obtain ⟨z, hz, ⟨l, h'⟩, hs, rfl⟩ := h
        obtain ⟨ti, hti, rfl⟩ := size_some hz
        have hs' := sliceE_rel hρ hlo hhi hs
        have hle := bounds_le hs
        cases ra with
        | ptr hp =>
        rename_i p
        refine .of (v' := .slice (some (if n = l then ⟨p.b, p.o + k, none⟩ else ⟨p.b, p.o + (k + l * ti.size), none⟩)) (h' - l) (n - l)) ?_ fun w => ?_
        · by_cases hnl : n = l
          · simp only [hnl, if_true]
            exact .slice hp (by omega) (by omega) (.inr (by simp [hnl, beq_dec]; try omega)) (.inl rfl)
          · simp only [hnl, if_false]
            exact .slice hp (by omega) (by omega) (.inr (by simp [hnl, beq_dec]; try omega)) (.inl rfl)
        · simp [Instr.sliceAt, Instr.sureAddr, run_underlying (hL.und _ _ hu), (run_bounds (b := false) hs' w).1, run_size (hL.info _ _ hti), add_addr]
      · cases h
    · cases h
  case h_10 s x f ho =>
    simp only [Option.bind_eq_some_iff] at h
    obtain ⟨a, ha, ⟨i, k⟩, hik, h⟩ := h
    have ra := hρ _ _ ha
    unfold execOp; simp only [ho]
    generalize ρ' x = a' at *
    obtain ⟨p, hp, rfl⟩ := addr_rel hik ra
    split at h
    · rename_i fields hu
      simp only [Option.bind_eq_some_iff] at h
      obtain ⟨fd, hfd, z, hz, h⟩ := h
      obtain ⟨ti, hti, rfl⟩ := size_some hz
      cases hb : Nat.beq ti.size 0 with
      | true => simp [hb] at h
      | false =>
        simp only [hb, cond_false, Option.some.injEq] at h
        subst h
        refine .of (.ptr hp) fun w => ?_
        have hne : ti.size ≠ 0 := by rw [beq_dec] at hb; simpa using hb
        simp [Instr.fieldAt, Instr.sureAddr, run_underlying (hL.und _ _ hu), hfd, fieldPlace, run_size (hL.info _ _ hti), hne, add_addr]
    · cases h
  case h_11 t x ix ho =>
    simp only [Option.bind_eq_some_iff] at h
    obtain ⟨a, ha, vi, hvi, n, hn, h⟩ := h
    have ra := hρ _ _ ha
    have ri := hρ _ _ hvi
    unfold execOp; simp only [ho]
    rw [asNat_rel hn ri]
    obtain ⟨kk, m, rfl, h0, rfl⟩ := asNat_some hn
    generalize ρ' x = a' at *
    split at h
    · rename_i len e i k hu
      cases ra with
      | ptr hp =>
      cases hb : Nat.blt m.toNat len with
      | false => simp [hb] at h
      | true =>
        simp only [hb, cond_true, Option.map_eq_some_iff] at h
        obtain ⟨z, hz, rfl⟩ := h
        obtain ⟨ti, hti, rfl⟩ := size_some hz
        refine .of (.ptr hp) fun w => ?_
        have hlt : m < (len : Int) := by rw [Nat.blt_eq] at hb; omega
        simp [Instr.indexAt, asIntOf, Instr.sureAddr, run_underlying (hL.und _ _ hu), run_size (hL.info _ _ hti), h0, hlt, add_addr]
    · rename_i e i k len cap hu
      cases ra with
      | slice hp hl hc hk hs =>
      cases hb : Nat.blt m.toNat len with
      | false => simp [hb] at h
      | true =>
        simp only [hb, cond_true, Option.map_eq_some_iff] at h
        obtain ⟨z, hz, rfl⟩ := h
        obtain ⟨ti, hti, rfl⟩ := size_some hz
        refine .of (.ptr hp) fun w => ?_
        have hlt : m < (len : Int) := by rw [Nat.blt_eq] at hb; omega
        have hk' := hk.resolve_left (by omega)
        simp [Instr.indexAt, asIntOf, run_underlying (hL.und _ _ hu), run_size (hL.info _ _ hti), h0, hlt, hk', add_addr]
    · cases h
  case h_12 t x f ho =>
    simp only [Option.bind_eq_some_iff] at h
    obtain ⟨a, ha, h⟩ := h
    have ra := hρ _ _ ha
    unfold execOp; simp only [ho]
    generalize ρ' x = a' at *
    split at h
    · rename_i fields cs hu
      simp only [Option.bind_eq_some_iff] at h
      obtain ⟨fd, hfd, h⟩ := h
      cases ra with
      | agg h1 h2 =>
        obtain ⟨v', hr, hrun⟩ := part_rel hL (VRs.of_array h1 h2) h
        refine .of hr fun w => ?_
        simp [Instr.field, run_underlying (hL.und _ _ hu), hfd, asAgg, hrun]
    · cases h
  case h_13 t x ix ho =>
    simp only [Option.bind_eq_some_iff] at h
    obtain ⟨a, ha, vi, hvi, n, hn, h⟩ := h
    have ra := hρ _ _ ha
    have ri := hρ _ _ hvi
    unfold execOp; simp only [ho]
    rw [asNat_rel hn ri]
    obtain ⟨kk, m, rfl, h0, rfl⟩ := asNat_some hn
    generalize ρ' x = a' at *
    split at h
    · rename_i len e cs hu
      cases hb : Nat.blt m.toNat len with
      | false => simp [hb] at h
      | true =>
        simp only [hb, cond_true, Option.bind_eq_some_iff] at h
        obtain ⟨z, hz, h⟩ := h
        obtain ⟨ti, hti, rfl⟩ := size_some hz
        have hlt : m < (len : Int) := by rw [Nat.blt_eq] at hb; omega
        cases ra with
        | agg h1 h2 =>
          obtain ⟨v', hr, hrun⟩ := part_rel hL (VRs.of_array h1 h2) h
          refine .of hr fun w => ?_
          simp [Instr.index, asIntOf, run_underlying (hL.und _ _ hu), run_size (hL.info _ _ hti), h0, hlt, hrun]
    · rename_i s hu
      simp only [Option.map_eq_some_iff] at h
      obtain ⟨b, hb, rfl⟩ := h
      cases ra
      refine .of (.int _ _) fun w => ?_
      simp [Instr.index, asIntOf, run_underlying (hL.und _ _ hu), h0, hb]
    · cases h
  case h_14 t ix ho =>
    simp only [Option.bind_eq_some_iff] at h
    obtain ⟨a, ha, h⟩ := h
    have ra := hρ _ _ ha
    unfold execOp; simp only [ho]
    generalize ρ' t = a' at *
    split at h
    · cases ra with
      | tuple h1 h2 =>
        obtain ⟨y, hy, hr⟩ := (VRs.of_array h1 h2).get (i := ix) (by simpa using h)
        refine .of hr fun w => ?_
        have hy' := by simpa using hy
        simp [Instr.extract, hy']
    · cases h
  case h_15 t x ho =>
    simp only [Option.bind_eq_some_iff] at h
    obtain ⟨a, ha, h⟩ := h
    have ra := hρ _ _ ha
    unfold execOp; simp only [ho]
    split at h
    · cases h
    · cases h
    · rename_i d hni hu
      cases h
      refine .of (.iface ra) fun w => ?_
      unfold Instr.makeInterface
      rw [Sem.run_bind, run_underlying (hL.und _ _ hu)]
      cases d <;> first | rfl | exact absurd rfl (hni _)
  case h_16 f first captured ho =>
    simp only [Option.bind_eq_some_iff, Option.some.injEq] at h
    obtain ⟨xs, hxs, ys, hys, rfl⟩ := h
    have rx := mapM_rho hρ _ _ hxs
    have ry := mapM_rho hρ _ _ hys
    unfold execOp; simp only [ho]
    refine .ret (.func ?_ (fun i x y hx hy => rx.2 i x y (by simpa using hx) ?_) ?_ (fun i x y hx hy => ry.2 i x y (by simpa using hx) ?_))
    · simpa using rx.1
    · simpa using hy
    · simpa using ry.1
    · simpa using hy
  case h_17 b args argTypes ho =>
    simp only [Option.bind_eq_some_iff] at h
    obtain ⟨vs, hvs, h⟩ := h
    have hrs := mapM_rho hρ _ _ hvs
    have hex : ∀ (xs : List Value), args.toList.map ρ' = xs → args.map ρ' = xs.toArray := fun xs hx => by
      subst hx; apply Array.toList_inj.1; rw [Array.toList_map]
    have one : ∀ b x, vs = [x] → (cond (flat2 x) ((runPure P (builtin b argTypes o.type (args.map fun | .const _ => true | _ => false) #[x])).bind fun | .value v => cond (flat3 v) (some v) none | _ => none) none) = some v →
        ∃ v', VR β v v' ∧ ∀ w, (builtin b argTypes o.type (args.map fun | .const _ => true | _ => false) (args.map ρ')).run P w = .ok (.value v') w := by
      intro b x hx h9
      subst hx
      obtain ⟨y, r, hy, hr, hr2⟩ := hrs.of_cons
      have hr3 := hr2.of_nil
      subst hr3
      cases hf : flat2 x with
      | false => simp [hf] at h9
      | true =>
        simp only [hf, cond_true, Option.bind_eq_some_iff] at h9
        obtain ⟨nx, hnx, h9⟩ := h9
        rw [hex _ hy, flat2_eq hf hr]
        split at h9
        · rename_i u
          cases hg : flat3 u with
          | false => simp [hg] at h9
          | true => simp [hg] at h9; subst h9; exact ⟨_, flat3_refl hg, fun w => runPure_run _ _ hnx w⟩
        · cases h9
    have two : ∀ x y, vs = [x, y] → ∃ x' y', args.map ρ' = #[x', y'] ∧ VR β x x' ∧ VR β y y' := by
      intro x y hx
      subst hx
      obtain ⟨y1, r, hy, hr, hr2⟩ := hrs.of_cons
      obtain ⟨y2, r', rfl, hr', hr3⟩ := hr2.of_cons
      have hr4 := hr3.of_nil
      subst hr4
      exact ⟨y1, y2, hex _ hy, hr, hr'⟩
    unfold PureOk
    simp only [run_builtin ho]
    split at h
    · obtain ⟨y, r, hy, hr, hr2⟩ := hrs.of_cons
      have hr3 := hr2.of_nil
      subst hr3
      split at h
      · rename_i hu
        simp only [Option.bind_eq_some_iff] at hu
        obtain ⟨t0, ht0, hu⟩ := hu
        obtain ⟨e1, s, e2, e3⟩ := hL.symLen _ _ h
        refine ⟨_, symOk_refl e1, fun w => ?_⟩
        rw [hex _ hy, e3]
        cases hr
        rw [e2]
        simp [builtin, Builtin.len_, ht0, run_underlying (hL.und _ _ hu)] <;> rfl
      · cases h
    · obtain ⟨y, r, hy, hr, hr2⟩ := hrs.of_cons
      have hr3 := hr2.of_nil
      subst hr3
      split at h
      · rename_i e hu
        cases h
        simp only [Option.bind_eq_some_iff] at hu
        obtain ⟨t0, ht0, hu⟩ := hu
        refine ⟨_, .int _ _, fun w => ?_⟩
        rw [hex _ hy]
        cases hr <;> simp [builtin, Builtin.len_, ht0, run_underlying (hL.und _ _ hu)] <;> rfl
      · cases h
    · exact one _ _ rfl h
    · exact one _ _ rfl h
    · exact one _ _ rfl h
    · rename_i k x k' y
      split at h
      · rename_i hk
        cases h
        obtain ⟨x', y', he, h1, h2⟩ := two _ _ rfl
        cases h1; cases h2
        refine ⟨_, .int _ _, fun w => ?_⟩
        rw [he]
        rfl
      · cases h
    · rename_i k x k' y
      split at h
      · rename_i hk
        cases h
        obtain ⟨x', y', he, h1, h2⟩ := two _ _ rfl
        cases h1; cases h2
        refine ⟨_, .int _ _, fun w => ?_⟩
        rw [he]
        rfl
      · cases h
    · cases h
  case h_18 => cases h
end
end Go.E
