/- What the reference's Parse comes to. -/
import Derived.Test.YthngaoncjpgeiaaDoorPar8
set_option linter.unusedVariables false
set_option linter.unusedSimpArgs false
namespace Go.Proofs.YthngaoncjpgeiaaDoorE
open Go Go.E Go.Proofs

def RParseR (B b0 : Nat) (st : SS) (its : List Item) (r : Option (Nat × List Value × SS)) : Except (Nat × Nat) (List PLine) → Prop
  | .ok xs => ∃ v st' m its', r = some (0, [ptr b0 0, v], st') ∧ Keep B [] st st' ∧ its'.map (·.1) = its.map (·.1) ++ xs ∧ Coll st' b0 m B v its'
  | .error e => ∃ st', r = some (1, [.slice none 0 0, ptr b0 0], st') ∧ Keep B [b0] st st' ∧ At st' b0 [.int .i64 e.1, .int .i64 e.2]
theorem Keep.toExt {B : Nat} {a b : SS} (h : Keep B [] a b) (hB : a.next ≤ B) : Ext a b := (h.mod hB).toExt
theorem rparse_loop [Sym] {b0 B : Nat} {w : Value} (hb0 : b0 < B) (all : List (List UInt8)) (hall : all.length ≤ 65537) (hsz : ∀ p ∈ all, p.length ≤ 65536) : ∀ (ps : List (List UInt8)) (i m : Nat) (out : Value) (its : List Item) (tss : List (List Tok)) (st : SS), all.drop i = ps → i ≤ all.length → lexLs i ps = .ok tss →
    RdB st b0 B w (strs all) 1 all.length → st.lim ≤ st.next → Coll st b0 m B out its → (∃ r, At st b0 r ∧ r.length = 2) → B ≤ st.next → its.length ≤ i →
    RParseR B b0 st its (camshaftref16_Parse_lf 6 [ptr b0 0, out, w, .int .i64 all.length, .int .i64 i] st) (parseLs i tss) := by
  intro ps
  induction ps with
  | nil =>
    intro i m out its tss st hd hi hx hw hll hc ha hB hn
    rw [List.drop_eq_nil_iff] at hd
    cases hx
    have hlt : ¬ (i : Int) < (all.length : Int) := by omega
    refine ⟨out, st, m, its, camshaftref16_Parse_l6_eq _ out w _ _ st ?_, .refl _, by simp, hc⟩
    simp only [camshaftref16_Parse_l6, decide_eq_false hlt, cond_false]
  | cons p r ih =>
    intro i m out its tss st hd hi hx hw hll hc ha hB hn
    have hgp : all[i]? = some p := by
      have := congrArg (·[0]?) hd
      simpa using this
    have hlt : i < all.length := (List.getElem?_eq_some_iff.1 hgp).1
    have hpl := hsz p (List.mem_of_getElem? hgp)
    have hr : all.drop (i + 1) = r := by
      have := drop_cons hgp
      rw [hd] at this
      exact (List.cons.inj this).2.symm
    have hlt' : (i : Int) < (all.length : Int) := by omega
    unfold lexLs at hx
    cases hy : lineX p with
    | error c => rw [hy] at hx; cases hx
    | ok ts =>
      rw [hy] at hx
      cases hz : lexLs (i + 1) r with
      | error e => rw [hz] at hx; cases hx
      | ok tss' =>
        rw [hz] at hx
        cases hx
        obtain ⟨hlin, htok⟩ := lineX_ok hy
        have hlen := lineX_len p ts hy
        obtain ⟨q, hq1, hq2, hq3⟩ := hw.1.load (j := (i : Int)) (by omega) hlt' (strs_get _ i p hgp) rfl
        have hld : (st.ld q.1 q.2).bind asS = some (mkS p) := by
          have := hq3 0 (by omega)
          rw [Nat.add_zero] at this
          rw [this]; rfl
        have h1 := rline_ok hll (mkS p) (by simp; omega) ((i + 1 : Nat) : Int)
        rw [bl_mkS, hy] at h1
        obtain ⟨v5, s4, c4, x4, o4, _⟩ := h1
        have c4' : cc 29 [.string (mkS p), .int .i64 ((i + 1 : Nat) : Int)] st = some (.tuple #[v5, .int .i64 0], s4) := c4
        have hT : RT s4 v5 (ts.map fun t => (i + 1, t)) s4.next := by
          refine ⟨?_, fun j k l q hv => ?_, by simp; omega⟩
          · rw [rowsL_map]; simpa using o4.rd
          · obtain ⟨_, ⟨ev, _⟩ | ⟨i', ev, _, _, hbi, hi'⟩⟩ := o4
            · rw [ev] at hv; cases hv
            · rw [ev] at hv; cases hv; exact hi'
        have h2 := read_ok (x4.ll hll) (Nat.le_refl _) hT hlin htok
        have hw1 : IntKind.wrap .i64 ((i : Int) + 1) = ((i + 1 : Nat) : Int) := wrapI1 (by omega)
        have hpos : 0 < ts.length := by obtain ⟨t, u, rfl⟩ := hlin.ne; simp
        have hlv : (lenV v5).bind (asI .i64) = some (ts.length : Int) := by rw [o4.rd.len]; rfl
        have hlim : st.lim ≤ B := by obtain ⟨_, a, _⟩ := ha; have := a.2.2; omega
        unfold parseLs
        cases hu : readT ts with
        | error o =>
          rw [hu] at h2
          obtain ⟨s7, row, c7, K7, hrow, hrow1⟩ := h2
          have x7 : Ext s4 s7 := Keep.toExt K7 (Nat.le_refl _)
          have c7' : cc 32 [v5] s4 = some (.tuple #[.agg row.toArray, .int .i64 (o : Nat)], s7) := by rw [Nat.zero_add] at c7; exact c7
          have hoff := readT_err ts hlin o hu
          obtain ⟨t, ht⟩ : ∃ t, ts[o]? = some t := ⟨_, List.getElem?_eq_getElem hoff⟩
          obtain ⟨s11, e11, a11, x11, _⟩ := newV_ok (st := s7) ((x4.trans x7).ll hll) (r := L5) (aggC row) (n := 5) hrow hrow1 rfl
          have x := (x4.trans x7).trans x11
          obtain ⟨z, g1, g2⟩ := hT.at' (i := o) (t := (i + 1, t)) (by rw [List.getElem?_map, ht]; rfl)
          obtain ⟨_, _, _, _, g5⟩ := g2 s11 (hT.ext (x7.trans x11))
          obtain ⟨ra, aa, hra⟩ := ha
          obtain ⟨s15, e15, a15, m15, _⟩ := (aa.ext x).sto (k := 0) (vs := [.int .i64 ((i + 1 : Nat) : Int), .int .i64 t.col]) (row' := [.int .i64 ((i + 1 : Nat) : Int), .int .i64 t.col]) rfl (by rw [splice_of (by simp; omega)]; simp [hra])
          have hcol : colAt ts o = t.col := by unfold colAt; rw [ht]; rfl
          have hpos' : (0 : Int) ≤ ((o : Nat) : Int) := by omega
          refine ⟨s15, camshaftref16_Parse_l6_eq _ out w _ _ st ?_, (x.keepB hB).thenI m15 (Nat.le_trans hB x.next) (.inr (by simp)), by rw [hcol]; exact a15⟩
          simp only [camshaftref16_Parse_l6, decide_eq_true hlt', cond_true, hq1, Option.bind_some, hld, hw1, c4', tupG, List.getElem?_toArray, List.getElem?_cons_succ, List.getElem?_cons_zero, asI_int, c7', e11, decide_eq_true hpos', g1, g5, addr_ptr, e15]
        | ok x =>
          rw [hu] at h2
          obtain ⟨s7, av, pv, c7, K7, o1, o2⟩ := h2
          have x7 : Ext s4 s7 := Keep.toExt K7 (Nat.le_refl _)
          obtain ⟨s11, e11, a11, x11, _⟩ := newV_ok (st := s7) ((x4.trans x7).ll hll) (r := L5) (aggC [.int .i64 ((i + 1 : Nat) : Int), .string (mkS x.lab), .string (mkS x.dir), av, pv]) (n := 5) rfl (by simp only [List.all_cons, List.all_nil, o1.cell.2, o2.cell.2]; rfl) rfl
          have e11' : (s7.new (.cells L5 0)).stV s7.next 0 5 (lineVal (i + 1) x av pv) = some s11 := e11
          have xx := (x4.trans x7).trans x11
          have hc11 := hc.ext xx
          have nx11 : B ≤ s11.next := Nat.le_trans hB xx.next
          have ha11 : ∃ r, At s11 b0 r ∧ r.length = 2 := by obtain ⟨ra, aa, hra⟩ := ha; exact ⟨ra, aa.ext xx, hra⟩
          have hw11 : RdB s11 b0 B w (strs all) 1 all.length := hw.go (Nat.le_refl _) xx.next fun j hj _ _ => xx.keep j hj
          have hneg : ¬ (0 : Int) ≤ -1 := by omega
          have hb4 : b0 < s4.next := by have := x4.next; omega
          by_cases hkp : 1 < ts.length
          · have hkp' : (1 : Int) < (ts.length : Int) := by omega
            have w1 : RdB s11 b0 s11.next av (rowsF valRow x.args) 3 x.args.length := (Own.rdB o1 hb4 (Nat.le_refl _)).go x11.next x11.next fun j hj _ _ => x11.keep j hj
            have w2 : RdB s11 b0 s11.next pv (rowsF prRow x.prs) 5 x.prs.length := (Own.rdB o2 hb4 (Nat.le_refl _)).go x11.next x11.next fun j hj _ _ => x11.keep j hj
            have hnew : ∀ u : Value, (∀ j k l q, u = .slice (some ⟨j, k, none⟩) l q → st.next ≤ j) → ∀ j k l q k' l' q', out = .slice (some ⟨j, k, none⟩) l q → u ≠ .slice (some ⟨j, k', none⟩) l' q' := by
              intro u hu' j k l q k' l' q' ho he
              have h1 := hu' j k' l' q' he
              obtain ⟨_, ⟨ev, _⟩ | ⟨i', ev, _, _, hbi, hi'⟩⟩ := hc.own
              · rw [ev] at ho; cases ho
              · rw [ev] at ho; cases ho; omega
            have hown : ∀ {u : Value} {c : List Value} {z n : Nat}, Own s4.next s7 u c z n → ∀ j k l q, u = .slice (some ⟨j, k, none⟩) l q → st.next ≤ j := by
              intro u c z n ho j k l q hv
              have := x4.next
              obtain ⟨_, ⟨ev, _⟩ | ⟨i', ev, _, _, hbi, hi'⟩⟩ := ho
              · rw [ev] at hv; cases hv
              · rw [ev] at hv; cases hv; omega
            obtain ⟨out', s21, g1, g2, g3⟩ := hc11.push ({ x with ln := i + 1 }, av, pv) nx11 (by rw [xx.lim]; exact hlim) (by omega) o1.cell.2 o2.cell.2 w1 w2 (hnew av (hown o1)) (hnew pv (hown o2))
            have g1' : (s11.new (.cells ([.int .i64 ((i + 1 : Nat) : Int), .string (mkS x.lab), .string (mkS x.dir), av, pv] ++ []) 5)).app 5 88 out (.slice (some ⟨s11.next, 0, none⟩) 1 1) = some (out', s21) := g1
            have K21 : Keep B [] st s21 := (xx.keepB hB).then (g3 _)
            have ha21 : ∃ r, At s21 b0 r ∧ r.length = 2 := by obtain ⟨ra, aa, hra⟩ := ha11; exact ⟨ra, aa.keepB (g3 []) hb0 (by simp), hra⟩
            have hw21 : RdB s21 b0 B w (strs all) 1 all.length := hw11.go (Nat.le_refl _) (g3 []).next fun j _ _ hjB => (g3 []).keep j hjB (by simp)
            have next := ih (i + 1) s11.next out' (its ++ [({ x with ln := i + 1 }, av, pv)]) tss' s21 hr (by omega) hz hw21 (K21.ll hll) g2 ha21 (Nat.le_trans hB K21.next) (by simp; omega)
            have l18 : s11.ldN s7.next 0 5 = some (.agg [.int .i64 ((i + 1 : Nat) : Int), .string (mkS x.lab), .string (mkS x.dir), av, pv].toArray) := a11.ldN rfl
            have hc19 : cellsN (.agg [.int .i64 ((i + 1 : Nat) : Int), .string (mkS x.lab), .string (mkS x.dir), av, pv].toArray) 5 = some [.int .i64 ((i + 1 : Nat) : Int), .string (mkS x.lab), .string (mkS x.dir), av, pv] := cells5 _ _ _ _ _
            have step : ∀ z, camshaftref16_Parse_lf 6 [ptr b0 0, out', w, .int .i64 all.length, .int .i64 ((i + 1 : Nat) : Int)] s21 = some z → camshaftref16_Parse_lf 6 [ptr b0 0, out, w, .int .i64 all.length, .int .i64 i] st = some z := fun z hz => by
              refine camshaftref16_Parse_l6_eq _ out w _ _ st ?_
              simp only [camshaftref16_Parse_l6, decide_eq_true hlt', cond_true, hq1, Option.bind_some, hld, hw1, c4', tupG, List.getElem?_toArray, List.getElem?_cons_succ, List.getElem?_cons_zero, asI_int, c7, e11', decide_eq_false hneg, cond_false, hlv, decide_eq_true hkp', l18, hc19, g1']
              exact hz
            simp only
            cases hv : parseLs (i + 1) tss' with
            | error e =>
              rw [hv] at next
              obtain ⟨st', a, k', d⟩ := next
              exact ⟨st', step _ a, (K21.mono (Nat.le_refl _) (fun j hj _ => by cases hj)).then k', d⟩
            | ok xs =>
              rw [hv] at next
              obtain ⟨v2, st', m', its2, a, k', d, e⟩ := next
              refine ⟨v2, st', m', its2, step _ a, K21.then k', ?_, e⟩
              rw [d]; simp [hkp]
          · have hkp' : ¬ (1 : Int) < (ts.length : Int) := by omega
            have K11 : Keep B [] st s11 := xx.keepB hB
            have next := ih (i + 1) m out its tss' s11 hr (by omega) hz hw11 (xx.ll hll) hc11 ha11 nx11 (by omega)
            have step : ∀ z, camshaftref16_Parse_lf 6 [ptr b0 0, out, w, .int .i64 all.length, .int .i64 ((i + 1 : Nat) : Int)] s11 = some z → camshaftref16_Parse_lf 6 [ptr b0 0, out, w, .int .i64 all.length, .int .i64 i] st = some z := fun z hz => by
              refine camshaftref16_Parse_l6_eq _ out w _ _ st ?_
              simp only [camshaftref16_Parse_l6, decide_eq_true hlt', cond_true, hq1, Option.bind_some, hld, hw1, c4', tupG, List.getElem?_toArray, List.getElem?_cons_succ, List.getElem?_cons_zero, asI_int, c7, e11', decide_eq_false hneg, cond_false, hlv, decide_eq_false hkp']
              exact hz
            simp only
            cases hv : parseLs (i + 1) tss' with
            | error e =>
              rw [hv] at next
              obtain ⟨st', a, k', d⟩ := next
              exact ⟨st', step _ a, (K11.mono (Nat.le_refl _) (fun j hj _ => by cases hj)).then k', d⟩
            | ok xs =>
              rw [hv] at next
              obtain ⟨v2, st', m', its2, a, k', d, e⟩ := next
              refine ⟨v2, st', m', its2, step _ a, K11.then k', ?_, e⟩
              rw [d]; simp [hkp]
/-- What the reference's Parse hands back. -/
def RParR (st : SS) (r : Option (Value × SS)) : Except (Nat × Nat) (List PLine) → Prop
  | .ok xs => ∃ v st', r = some (.tuple #[v, pairV (0, 0)], st') ∧ Ext st st' ∧ LinesR st' v xs
  | .error e => ∃ st', r = some (.tuple #[.slice none 0 0, pairV e], st') ∧ Ext st st'
theorem rparse_ok [Sym] {st : SS} (hl : st.lim ≤ st.next) (s : ByteArray) (hs : s.size ≤ 65536) : RParR st (cc 21 [.string s] st) (parsT (bl s)) := by
  have a1 : At (st.new (.cells [.int .i64 0, .int .i64 0] 0)) st.next [.int .i64 0, .int .i64 0] := At.new hl _
  have x1 : Ext st (st.new (.cells [.int .i64 0, .int .i64 0] 0)) := (Ext.refl st).new _
  have hlex := rlex_ok (x1.ll hl) s (by omega)
  have hlx : lexT (bl s) = match lexLs 0 (pieces 10 (bl s)) with
    | .error e => .error e
    | .ok tss => .ok (flat 0 tss) := lexPs_flat _ _
  unfold parsT
  have hb0 : Nat.beq 0 0 = true := rfl
  have hb1 : Nat.beq 1 0 = false := rfl
  cases hy : lexLs 0 (pieces 10 (bl s)) with
  | error e =>
    rw [hy] at hlx
    rw [hlx] at hlex
    obtain ⟨s2, c2, x2⟩ := hlex
    have c2' : cc 16 [.string s] (st.new (.cells [.int .i64 0, .int .i64 0] 0)) = some (.tuple #[.slice none 0 0, pairV e], s2) := c2
    obtain ⟨s7, e7, a7, x7, _⟩ := newV_ok (st := s2) ((x1.trans x2).ll hl) (r := [.int .i64 0, .int .i64 0]) (v := pairV e) (row := [.int .i64 e.1, .int .i64 e.2]) (n := 2) rfl rfl rfl rfl
    have a17 := (a1.ext x2).ext x7
    obtain ⟨s9, f1, f2, f3, f4, f5⟩ := fin_ok (n := 2) a17 rfl a7 rfl rfl
    have hpos := lexPs_pos (pieces 10 (bl s)) 0 e (show lexPs 0 (pieces 10 (bl s)) = .error e from hlx)
    have hpos' : (0 : Int) < (e.1 : Int) := by omega
    have l8 : s7.ld s2.next 0 = some (.int .i64 e.1) := a7.ld
    refine ⟨s9, camshaftref16_Parse_eq s st ?_, ((Mod.ofExt (S := [st.next]) ((x1.trans x2).trans x7)).then f4).fresh (by simp)⟩
    simp only [camshaftref16_Parse, c2', Option.bind_some, tupG, List.getElem?_toArray, List.getElem?_cons_succ, List.getElem?_cons_zero, e7, elemA0, l8, asI_int, decide_eq_true hpos', cond_true, f1, f2, f3]
    rfl
  | ok tss =>
    rw [hy] at hlx
    rw [hlx] at hlex
    obtain ⟨v, s2, c2, x2, o2⟩ := hlex
    have c2' : cc 16 [.string s] (st.new (.cells [.int .i64 0, .int .i64 0] 0)) = some (.tuple #[v, pairV (0, 0)], s2) := c2
    obtain ⟨s7, e7, a7, x7, _⟩ := newV_ok (st := s2) ((x1.trans x2).ll hl) (r := [.int .i64 0, .int .i64 0]) (v := pairV (0, 0)) (row := [.int .i64 0, .int .i64 0]) (n := 2) rfl rfl rfl rfl
    have x07 := (x1.trans x2).trans x7
    have l8 : s7.ld s2.next 0 = some (.int .i64 0) := a7.ld
    obtain ⟨w, s12, c12, x12, o12⟩ := cut_ok s 10 (by omega) s7 (x07.ll hl)
    have c12' : cc 18 [.string s, .int .u8 10] s7 = some (w, s12) := c12
    have hlw : (lenV w).bind (asI .i64) = some ((pieces 10 (bl s)).length : Int) := by rw [o12.rd.len]; rfl
    have hplen := pieces_len 10 (bl s)
    rw [bl_length] at hplen
    have hpm := pieces_mem 10 (bl s)
    rw [bl_length] at hpm
    have a12 := ((a1.ext x2).ext x7).ext x12
    have hn7 : st.next < s7.next := by have := x2.next; have := x7.next; simp at *; omega
    have hloop := rparse_loop (b0 := st.next) (B := s12.next) (w := w) (by have := x12.next; omega) (pieces 10 (bl s)) (by omega) (fun p hp => by have := hpm p hp; omega) (pieces 10 (bl s)) 0 s12.next (.slice none 0 0) [] tss s12 (by simp) (by omega) hy
      (Own.rdB o12 hn7 (Nat.le_refl _)) ((x07.trans x12).ll hl) ⟨Own.nil _ _ _, fun j k l q hv => (by cases hv), fun x hx => (by cases hx), by have := x12.next; omega, Nat.le_refl _⟩ ⟨_, a12, rfl⟩ (Nat.le_refl _) (by simp)
    have hloop' : RParseR s12.next st.next s12 [] (camshaftref16_Parse_lf 6 [ptr st.next 0, .slice none 0 0, w, .int .i64 (pieces 10 (bl s)).length, .int .i64 0] s12) (parseLs 0 tss) := hloop
    have h00 : ¬ (0 : Int) < 0 := by omega
    show RParR st _ (parseLs 0 tss)
    cases hz : parseLs 0 tss with
    | error e =>
      rw [hz] at hloop'
      obtain ⟨s13, d1, d2, d3⟩ := hloop'
      have hr := d3.rdN (n := 2) rfl
      have x13 : Ext st s13 := ((Mod.ofExt (S := [st.next]) (x07.trans x12)).then (d2.mod (Nat.le_refl _))).fresh (by simp)
      refine ⟨s13, camshaftref16_Parse_eq s st ?_, x13⟩
      simp only [camshaftref16_Parse, c2', Option.bind_some, tupG, List.getElem?_toArray, List.getElem?_cons_succ, List.getElem?_cons_zero, e7, elemA0, l8, asI_int, decide_eq_false h00, cond_false, c12', hlw, d1, hb1, addr_ptr, hr]
      rfl
    | ok xs =>
      rw [hz] at hloop'
      obtain ⟨u, s13, m, its, d1, d2, d3, d4⟩ := hloop'
      have a13 := a12.keepB d2 a12.lt (by simp)
      obtain ⟨s17, e17, a17, m17, n17⟩ := a13.sto (k := 0) (vs := [.int .i64 0, .int .i64 0]) (row' := [.int .i64 0, .int .i64 0]) rfl rfl
      have hr := a17.rdN (n := 2) rfl
      have d4' := d4.keep (m17.keepB (Nat.le_refl _))
      have x17 : Ext st s17 := ((Mod.ofExt (S := [st.next]) (x07.trans x12)).then ((d2.mod (Nat.le_refl _)).mono (by simp)) |>.then m17).fresh (by simp)
      refine ⟨u, s17, camshaftref16_Parse_eq s st ?_, x17, ?_⟩
      · simp only [camshaftref16_Parse, c2', Option.bind_some, tupG, List.getElem?_toArray, List.getElem?_cons_succ, List.getElem?_cons_zero, e7, elemA0, l8, asI_int, decide_eq_false h00, cond_false, c12', hlw, d1, hb0, cond_true, addr_ptr, e17, hr]
        rfl
      · have := d4'.lines
        rw [d3] at this
        simpa using this
end Go.Proofs.YthngaoncjpgeiaaDoorE
