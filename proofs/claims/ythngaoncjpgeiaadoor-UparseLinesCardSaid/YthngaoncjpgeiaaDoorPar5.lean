/- The parser's lines. -/
import Derived.Test.YthngaoncjpgeiaaDoorPar4
set_option linter.unusedVariables false
set_option linter.unusedSimpArgs false
namespace Go.Proofs.YthngaoncjpgeiaaDoorE
open Go Go.E Go.Proofs

theorem LineAt.go {us : List (Nat × Tok)} {i ln n : Nat} {l : List Tok} (h : LineAt us i ln l) (hn : Lin (l.drop n)) : LineAt us (i + n) ln (l.drop n) := by
  have hlt : n < l.length := by
    obtain ⟨t, r, e⟩ := hn.ne
    have := congrArg List.length e
    simp at this
    omega
  refine ⟨?_, hn, fun t ht => h.ok t (List.mem_of_mem_drop ht)⟩
  obtain ⟨rest, hr⟩ := h.drop
  refine ⟨rest, ?_⟩
  rw [← List.drop_drop, hr, List.drop_append_of_le_length (by simp; omega), List.map_drop]
theorem own_ne' {S : List Nat} {B : Nat} {st st' : SS} {pv : Value} {c : List Value} {z n j : Nat} (ho : Own B st pv c z n) (m : Mod [j] st st') (hj : j < B ∨ st.next ≤ j) : Own B st' pv c z n := by
  refine ho.mod m (fun k k' l' q hv hm' => ?_)
  have hk : k = j := by simpa using hm'
  obtain ⟨_, ⟨ev, _⟩ | ⟨i', ev, _, _, hbi, hi'⟩⟩ := ho
  · rw [ev] at hv; cases hv
  · rw [ev] at hv; cases hv; omega

/-- What the loop over pairs comes to. -/
def PairsR (B b lb j2 : Nat) (w0 w1 w2 w3 v : Value) (us : List (Nat × Tok)) (i e : Nat) (ps : List Pr) (st : SS) (r : Option (Nat × List Value × SS)) : Except Nat (List Pr) → Prop
  | .ok qs => ∃ st' pv', r = some (0, [ptr j2 0, ptr lb 0], st') ∧ Keep B [b, lb] st st' ∧ PAt st' b v us e ∧ At st' lb [w0, w1, w2, w3, pv'] ∧ Own B st' pv' (rowsF prRow (ps ++ qs)) 5 (ps ++ qs).length
  | .error o => ∃ st' row, r = some (1, [ptr j2 0, .bool false], st') ∧ Keep B [b, lb, j2] st st' ∧ PAt st' b v us (i + o) ∧ At st' j2 row ∧ row.length = 5 ∧ row.all one = true
theorem pairs_loop [Sym] {ln lb B b j2 : Nat} {v w0 w1 w2 w3 : Value} {us : List (Nat × Tok)} (hbj : b < j2) (hjl : j2 < lb) (hlB : lb < B) (hw : one w0 = true ∧ one w1 = true ∧ one w2 = true ∧ one w3 = true) : ∀ (k i : Nat) (l : List Tok) (ps : List Pr) (pv : Value) (st : SS), l.length ≤ k → ps.length + k ≤ 1099511627776 / 8 → PAt st b v us i → LineAt us i ln l →
    At st lb [w0, w1, w2, w3, pv] → (∃ r2, At st j2 r2 ∧ r2.length = 5) → B ≤ st.next → Own B st pv (rowsF prRow ps) 5 ps.length →
    PairsR B b lb j2 w0 w1 w2 w3 v us i (i + (l.length - 1)) ps st (uparse_parser_line_lf 17 [ptr b 0, ptr j2 0, ptr lb 0] st) (pairsT k (ps.map (·.fd)) l) := by
  intro k
  induction k with
  | zero =>
    intro i l ps pv st hk _ h hl
    obtain ⟨t, r, rfl⟩ := hl.lin.ne
    simp at hk
  | succ k ih =>
    intro i l ps pv st hk hps h hl ha hj2 hB ho
    obtain ⟨t, r, rfl⟩ := hl.lin.ne
    obtain ⟨n1, hn1, c1⟩ := now_ok h.has hl.head
    have k0 := (tok_fld (ln := ln) (t := t)).1
    have x1 : Ext st (st.adv n1) := .advR st hn1
    unfold pairsT
    by_cases h0 : t.kd = 0
    · rw [if_pos h0]
      have hr := hl.lin.last h0
      subst hr
      have h0' : (t.kd : Int) = 0 := by omega
      refine ⟨st.adv n1, pv, uparse_parser_line_l17_eq _ _ _ st ?_, x1.keepB hB, by simpa using h.ext x1, ha.ext x1, by simpa using ho.ext x1⟩
      simp only [uparse_parser_line_l17, c1, Option.bind_some, k0, decide_eq_true h0', Bool.not_true, cond_false]
    · rw [if_neg h0]
      have h0' : ¬ (t.kd : Int) = 0 := by omega
      have hp := pair_ok (h.ext x1) hl (ha.ext x1) (by omega) hlB (Nat.le_trans hB hn1) (by omega) (ho.ext x1)
      have hlin := pairT_lin (seen := ps.map (·.fd)) hl.lin
      cases hx : pairT (ps.map (·.fd)) (t :: r) with
      | error o =>
        rw [hx] at hp
        obtain ⟨s3, c3, K3, p3, a3, o3⟩ := hp
        have K3' : Keep B [b, lb] st s3 := (x1.keepB hB).then K3
        obtain ⟨r2, a2, l2⟩ := hj2
        have a23 := a2.keepB K3' (by omega) (by simp; omega)
        obtain ⟨s8, f1, f2, f3, f4, f5⟩ := fin_ok (n := 5) a23 l2 a3 rfl (by simp [hw, o3.cell.2])
        have nx3 : B ≤ s3.next := Nat.le_trans hB K3'.next
        refine ⟨s8, [w0, w1, w2, w3, pv], uparse_parser_line_l17_eq _ _ _ st ?_, (K3'.mono (Nat.le_refl _) (fun j hj _ => by simp at hj ⊢; omega)).thenI f4 nx3 (.inr (by simp)), p3.modI f4 hbj, f5, rfl, by simp [hw, o3.cell.2]⟩
        simp only [uparse_parser_line_l17, c1, Option.bind_some, k0, decide_eq_false h0', Bool.not_false, cond_true, c3, asB_bool, addr_ptr, f1, f2]
      | ok y =>
        obtain ⟨p, n⟩ := y
        rw [hx] at hp hlin
        obtain ⟨s3, pv', c3, K3, p3, a3, o3⟩ := hp
        simp only at hlin
        have K3' : Keep B [b, lb] st s3 := (x1.keepB hB).then K3
        have hnl : n < (t :: r).length := by
          obtain ⟨t', r', e⟩ := hlin.1.ne
          have := congrArg List.length e
          simp at this ⊢
          omega
        have hj23 : ∃ r2, At s3 j2 r2 ∧ r2.length = 5 := by
          obtain ⟨r2, a2, l2⟩ := hj2
          exact ⟨r2, a2.keepB K3' (by omega) (by simp; omega), l2⟩
        have next := ih (i + n) ((t :: r).drop n) (ps ++ [p]) pv' s3 (by rw [List.length_drop]; omega) (by simp; omega) p3 (hl.go hlin.1) a3 hj23 (Nat.le_trans hB K3'.next) o3
        have hend : i + n + (((t :: r).drop n).length - 1) = i + ((t :: r).length - 1) := by rw [List.length_drop]; omega
        rw [hend, List.map_append] at next
        have step : ∀ y, uparse_parser_line_lf 17 [ptr b 0, ptr j2 0, ptr lb 0] s3 = some y → uparse_parser_line_lf 17 [ptr b 0, ptr j2 0, ptr lb 0] st = some y := fun y hy => by
          refine uparse_parser_line_l17_eq _ _ _ st ?_
          simp only [uparse_parser_line_l17, c1, Option.bind_some, k0, decide_eq_false h0', Bool.not_false, cond_true, c3, asB_bool, Bool.not_true, cond_false]
          exact hy
        simp only
        have next' : PairsR B b lb j2 w0 w1 w2 w3 v us (i + n) (i + ((t :: r).length - 1)) (ps ++ [p]) s3 (uparse_parser_line_lf 17 [ptr b 0, ptr j2 0, ptr lb 0] s3) (pairsT k (ps.map (·.fd) ++ [p.fd]) ((t :: r).drop n)) := next
        cases hz : pairsT k (ps.map (·.fd) ++ [p.fd]) ((t :: r).drop n) with
        | error o =>
          rw [hz] at next'
          obtain ⟨st', row, d1, d2, d3, d4, d5, d6⟩ := next'
          exact ⟨st', row, step _ d1, (K3'.mono (Nat.le_refl _) (fun j hj _ => by simp at hj ⊢; omega)).then d2, by rw [Nat.add_assoc] at d3; exact d3, d4, d5, d6⟩
        | ok qs =>
          rw [hz] at next'
          obtain ⟨st', pv2, d1, d2, d3, d4, d5⟩ := next'
          exact ⟨st', pv2, step _ d1, K3'.then d2, d3, d4, by simpa using d5⟩
/-- What the loop over values comes to. -/
def ArgsR (B b lb j2 : Nat) (w0 w1 w2 w4 v : Value) (us : List (Nat × Tok)) (i e : Nat) (vs : List Val) (st : SS) (r : Option (Nat × List Value × SS)) : Except Nat (List Val) → Prop
  | .ok qs => ∃ st' av', r = some (0, [ptr j2 0, ptr lb 0], st') ∧ Keep B [b, lb] st st' ∧ PAt st' b v us e ∧ At st' lb [w0, w1, w2, av', w4] ∧ Own B st' av' (rowsF valRow (vs ++ qs)) 3 (vs ++ qs).length
  | .error o => ∃ st' row, r = some (1, [ptr j2 0, .bool false], st') ∧ Keep B [b, lb, j2] st st' ∧ PAt st' b v us (i + o) ∧ At st' j2 row ∧ row.length = 5 ∧ row.all one = true
theorem args_loop [Sym] {ln lb B b j2 : Nat} {v w0 w1 w2 w4 : Value} {us : List (Nat × Tok)} (hbj : b < j2) (hjl : j2 < lb) (hlB : lb < B) (hw : one w0 = true ∧ one w1 = true ∧ one w2 = true ∧ one w4 = true) : ∀ (k i : Nat) (l : List Tok) (vs : List Val) (av : Value) (st : SS), l.length ≤ k → vs.length + k ≤ 1099511627776 / 8 → PAt st b v us i → LineAt us i ln l →
    At st lb [w0, w1, w2, av, w4] → (∃ r2, At st j2 r2 ∧ r2.length = 5) → B ≤ st.next → Own B st av (rowsF valRow vs) 3 vs.length →
    ArgsR B b lb j2 w0 w1 w2 w4 v us i (i + (l.length - 1)) vs st (uparse_parser_line_lf 11 [ptr b 0, ptr j2 0, ptr lb 0] st) (argsT k l) := by
  intro k
  induction k with
  | zero =>
    intro i l vs av st hk _ h hl
    obtain ⟨t, r, rfl⟩ := hl.lin.ne
    simp at hk
  | succ k ih =>
    intro i l vs av st hk hvs h hl ha hj2 hB ho
    obtain ⟨t, r, rfl⟩ := hl.lin.ne
    obtain ⟨n1, hn1, c1⟩ := now_ok h.has hl.head
    have k0 := (tok_fld (ln := ln) (t := t)).1
    have x1 : Ext st (st.adv n1) := .advR st hn1
    have hlim : st.lim ≤ B := by have := ha.2.2; omega
    unfold argsT
    by_cases h0 : t.kd = 0
    · rw [if_pos h0]
      have hr := hl.lin.last h0
      subst hr
      have h0' : (t.kd : Int) = 0 := by omega
      refine ⟨st.adv n1, av, uparse_parser_line_l11_eq _ _ _ st ?_, x1.keepB hB, by simpa using h.ext x1, ha.ext x1, by simpa using ho.ext x1⟩
      simp only [uparse_parser_line_l11, c1, Option.bind_some, k0, decide_eq_true h0', Bool.not_true, cond_false]
    · rw [if_neg h0]
      have h0' : ¬ (t.kd : Int) = 0 := by omega
      have hp := value_ok (h.ext x1) hl
      have hlin := takeT_lin hl.lin
      have nx1 : B ≤ (st.adv n1).next := Nat.le_trans hB hn1
      cases hx : takeT (t :: r) with
      | error o =>
        rw [hx] at hp
        obtain ⟨w, s3, c3, m3, p3⟩ := hp
        have K3 : Keep B [b, lb] st s3 := (x1.keepB hB).thenI m3 nx1 (.inr (by simp))
        have nx3 : B ≤ s3.next := Nat.le_trans hB K3.next
        obtain ⟨s7, e7, a7, x7, _⟩ := newV_ok (st := s3) p3.ll (r := Z3) (aggC (valRow w)) (n := 3) rfl rfl rfl
        have K7 := K3.thenX x7 nx3
        have nx7 : B ≤ s7.next := Nat.le_trans hB K7.next
        obtain ⟨r2, a2, l2⟩ := hj2
        have a27 := a2.keepB K7 (by omega) (by simp; omega)
        have la7 : At s7 lb [w0, w1, w2, av, w4] := (((ha.ext x1).mod m3 (by simp; omega))).ext x7
        have o7 := ((ho.ext x1).modLt m3 (by simp; omega)).ext x7
        obtain ⟨s8, f1, f2, f3, f4, f5⟩ := fin_ok (n := 5) a27 l2 la7 rfl (by simp [hw, o7.cell.2])
        refine ⟨s8, [w0, w1, w2, av, w4], uparse_parser_line_l11_eq _ _ _ st ?_, (K7.mono (Nat.le_refl _) (fun j hj _ => by simp at hj ⊢; omega)).thenI f4 nx7 (.inr (by simp)), (p3.ext x7).modI f4 hbj, f5, rfl, by simp [hw, o7.cell.2]⟩
        simp only [uparse_parser_line_l11, c1, Option.bind_some, k0, decide_eq_false h0', Bool.not_false, cond_true, c3, tupG, List.getElem?_toArray, List.getElem?_cons_succ, List.getElem?_cons_zero, asB_bool, e7, addr_ptr, f1, f2]
      | ok y =>
        obtain ⟨x, n⟩ := y
        rw [hx] at hp hlin
        obtain ⟨s3, c3, m3, p3⟩ := hp
        simp only at hlin
        have K3 : Keep B [b, lb] st s3 := (x1.keepB hB).thenI m3 nx1 (.inr (by simp))
        have nx3 : B ≤ s3.next := Nat.le_trans hB K3.next
        obtain ⟨s7, e7, a7, x7, _⟩ := newV_ok (st := s3) p3.ll (r := Z3) (aggC (valRow x)) (n := 3) rfl rfl rfl
        have K7 := K3.thenX x7 nx3
        have nx7 : B ≤ s7.next := Nat.le_trans hB K7.next
        have la7 : At s7 lb [w0, w1, w2, av, w4] := (((ha.ext x1).mod m3 (by simp; omega))).ext x7
        have o7 := ((ho.ext x1).modLt m3 (by simp; omega)).ext x7
        have l13 : s7.ld lb 3 = some av := la7.ld
        have l14 : s7.ldN s3.next 0 3 = some (.agg (valRow x).toArray) := a7.ldN rfl
        have hc15 : cellsN (.agg (valRow x).toArray) 3 = some (valRow x) := cellsN_agg rfl
        obtain ⟨av', s17, g1, g2, g3⟩ := o7.pushK nx7 (by rw [K7.lim]; exact hlim) (row := valRow x) rfl (by omega) rfl (bt := 32) (by omega) (by omega)
        have la17 := la7.keepB (g3 []) hlB (by simp)
        have p17 := (p3.ext x7).keepB (g3 []) (by omega) (by simp)
        have K17 := K7.then (g3 _)
        obtain ⟨s19, e19, a19, m19, _⟩ := la17.stV (k := 3) (n := 1) g2.cell.1 rfl (by simp [g2.cell.2]) (row' := [w0, w1, w2, av', w4]) rfl
        have nx17 : B ≤ s17.next := Nat.le_trans hB K17.next
        have K19 := K17.thenI m19 nx17 (.inr (by simp))
        have p19 := p17.modI m19 (by omega)
        have o19 := g2.modLt m19 (by simp; omega)
        have o19' : Own B s19 av' (rowsF valRow (vs ++ [x])) 3 (vs ++ [x]).length := by rw [rowsF_append, rowsF_one, List.length_append]; exact o19
        have hnl : n < (t :: r).length := by
          obtain ⟨t', r', e⟩ := hlin.1.ne
          have := congrArg List.length e
          simp at this ⊢
          omega
        have hj23 : ∃ r2, At s19 j2 r2 ∧ r2.length = 5 := by
          obtain ⟨r2, a2, l2⟩ := hj2
          exact ⟨r2, a2.keepB K19 (by omega) (by simp; omega), l2⟩
        have next := ih (i + n) ((t :: r).drop n) (vs ++ [x]) av' s19 (by rw [List.length_drop]; omega) (by simp; omega) p19 (hl.go hlin.1) a19 hj23 (Nat.le_trans hB K19.next) o19'
        have hend : i + n + (((t :: r).drop n).length - 1) = i + ((t :: r).length - 1) := by rw [List.length_drop]; omega
        rw [hend] at next
        have step : ∀ y, uparse_parser_line_lf 11 [ptr b 0, ptr j2 0, ptr lb 0] s19 = some y → uparse_parser_line_lf 11 [ptr b 0, ptr j2 0, ptr lb 0] st = some y := fun y hy => by
          refine uparse_parser_line_l11_eq _ _ _ st ?_
          simp only [uparse_parser_line_l11, c1, Option.bind_some, k0, decide_eq_false h0', Bool.not_false, cond_true, c3, tupG, List.getElem?_toArray, List.getElem?_cons_succ, List.getElem?_cons_zero, asB_bool, Bool.not_true, cond_false, e7, addr_ptr, l13, l14, hc15, List.append_nil, g1, e19]
          exact hy
        simp only
        cases hz : argsT k ((t :: r).drop n) with
        | error o =>
          rw [hz] at next
          obtain ⟨st', row, d1, d2, d3, d4, d5, d6⟩ := next
          exact ⟨st', row, step _ d1, (K19.mono (Nat.le_refl _) (fun j hj _ => by simp at hj ⊢; omega)).then d2, by rw [Nat.add_assoc] at d3; exact d3, d4, d5, d6⟩
        | ok qs =>
          rw [hz] at next
          obtain ⟨st', pv2, d1, d2, d3, d4, d5⟩ := next
          exact ⟨st', pv2, step _ d1, K19.then d2, d3, d4, by simpa using d5⟩

/-- A line behind its label, as the code does it. -/
noncomputable def lineTail (cf : CallS) (lf : LoopS) (p' : Value) (j2 lb : Nat) (s : SS) : Option (Value × SS) :=
  (cf 46 [p', .string ⟨#[46]⟩] s).bind fun r23 =>
     ((some r23.1).bind asB).bind fun b24 =>
     cond b24 (
      (cf 47 [p'] r23.2).bind fun r25 =>
      ((tupG r25.1 0).bind asS).bind fun s26 =>
      ((tupG r25.1 1).bind asB).bind fun b27 =>
      (r25.2.st lb 2 [.string s26]).bind fun st28 =>
      cond (!b27) (
       (st28.ldN lb 0 5).bind fun v29 =>
       (st28.stV j2 0 5 v29).bind fun st30 =>
       (st30.rdN j2 0 5).bind fun v31 =>
       some (.tuple #[v31, .bool false], st30)) (
       (lf 11 [p', ptr j2 0, ptr lb 0] st28).bind fun r32 =>
       cond (Nat.beq r32.1 0) (
        (r32.2.1[0]?).bind fun v33 =>
        (r32.2.1[1]?).bind fun v34 =>
        (addr? v34).bind fun p35 =>
        (r32.2.2.ldN p35.1 p35.2 5).bind fun v36 =>
        (addr? v33).bind fun p37 =>
        (r32.2.2.stV p37.1 p37.2 5 v36).bind fun st38 =>
        (addr? v33).bind fun p39 =>
        (st38.rdN p39.1 p39.2 5).bind fun v40 =>
        some (.tuple #[v40, .bool true], st38)) (
        (r32.2.1[0]?).bind fun v41 =>
        ((r32.2.1[1]?).bind asB).bind fun b42 =>
        (addr? v41).bind fun p43 =>
        (r32.2.2.rdN p43.1 p43.2 5).bind fun v44 =>
        some (.tuple #[v44, .bool b42], r32.2.2)))) (
      (lf 17 [p', ptr j2 0, ptr lb 0] r23.2).bind fun r45 =>
      cond (Nat.beq r45.1 0) (
       (r45.2.1[0]?).bind fun v46 =>
       (r45.2.1[1]?).bind fun v47 =>
       (addr? v47).bind fun p48 =>
       (r45.2.2.ldN p48.1 p48.2 5).bind fun v49 =>
       (addr? v46).bind fun p50 =>
       (r45.2.2.stV p50.1 p50.2 5 v49).bind fun st51 =>
       (addr? v46).bind fun p52 =>
       (st51.rdN p52.1 p52.2 5).bind fun v53 =>
       some (.tuple #[v53, .bool true], st51)) (
       (r45.2.1[0]?).bind fun v54 =>
       ((r45.2.1[1]?).bind asB).bind fun b55 =>
       (addr? v54).bind fun p56 =>
       (r45.2.2.rdN p56.1 p56.2 5).bind fun v57 =>
       some (.tuple #[v57, .bool b55], r45.2.2)))
/-- A line, as it is handed back. -/
def lineVal (ln : Nat) (x : PLine) (av pv : Value) : Value := .agg #[.int .i64 ln, .string (mkS x.lab), .string (mkS x.dir), av, pv]
def LinR (B b : Nat) (v : Value) (us : List (Nat × Tok)) (i e ln : Nat) (st : SS) (r : Option (Value × SS)) : Except Nat PLine → Prop
  | .ok x => ∃ st' av pv, r = some (.tuple #[lineVal ln x av pv, .bool true], st') ∧ Keep B [b] st st' ∧ PAt st' b v us e ∧ Own B st' av (rowsF valRow x.args) 3 x.args.length ∧ Own B st' pv (rowsF prRow x.prs) 5 x.prs.length
  | .error o => ∃ (st' : SS) (row : List Value), r = some (.tuple #[.agg row.toArray, .bool false], st') ∧ Keep B [b] st st' ∧ PAt st' b v us (i + o) ∧ row.length = 5 ∧ row.all one = true
theorem tail_ok [Sym] {ln lb b j2 i B : Nat} {v : Value} {us : List (Nat × Tok)} {l : List Tok} {lab : List UInt8} {s : SS} (hBj : B ≤ j2) (hbB : b < B) (hjl : j2 < lb) (hls : lb < s.next) (hsz : l.length ≤ 1099511627776 / 8) (h : PAt s b v us i) (hl : LineAt us i ln l)
    (ha : At s lb [.int .i64 ln, .string (mkS lab), .string ⟨#[]⟩, .slice none 0 0, .slice none 0 0]) (hj2 : ∃ r2, At s j2 r2 ∧ r2.length = 5) :
    LinR B b v us i (i + (l.length - 1)) ln s (lineTail cc uparse_parser_line_lf (ptr b 0) j2 lb s) (restT lab l) := by
  obtain ⟨t, r, rfl⟩ := hl.lin.ne
  have hb0 : Nat.beq 0 0 = true := rfl
  have hb1 : Nat.beq 1 0 = false := rfl
  have hBs : B ≤ s.next := by omega
  have hbj : b < j2 := by omega
  obtain ⟨s23, c23, m23, p23⟩ := takes_ok h hl.head [46]
  have c23' : cc 46 [ptr b 0, .string ⟨#[46]⟩] s = some (.bool (isSign t [46]), s23) := c23
  have a23 := ha.mod m23 (by simp; omega)
  have hj23 : ∃ r2, At s23 j2 r2 ∧ r2.length = 5 := by obtain ⟨r2, a, l2⟩ := hj2; exact ⟨r2, a.mod m23 (by simp; omega), l2⟩
  have K23 : Keep B [b] s s23 := m23.keepB hBs
  have nx23 := m23.next
  rw [restT_cons]
  by_cases hs : isSign t [46] = true
  · rw [hs] at c23'
    rw [if_pos hs] at p23
    rw [if_pos hs]
    have hl1 := hl.tail (by have := isSign_kd hs; omega)
    obtain ⟨d, u, rfl⟩ := hl1.lin.ne
    obtain ⟨s25, c25, m25, p25⟩ := name_ok p23 hl1.head
    have a25 := a23.mod m25 (by simp; omega)
    have hj25 : ∃ r2, At s25 j2 r2 ∧ r2.length = 5 := by obtain ⟨r2, a, l2⟩ := hj23; exact ⟨r2, a.mod m25 (by simp; omega), l2⟩
    have K25 := K23.thenM m25 (by omega)
    have nx25 := m25.next
    simp only
    by_cases hd : d.kd = 1
    · rw [if_pos hd, decide_eq_true hd] at c25
      rw [if_pos hd] at p25
      rw [if_pos hd]
      have hl2 := hl1.tail (by omega)
      obtain ⟨s28, e28, a28, m28, n28⟩ := a25.sto (k := 2) (vs := [.string (mkS d.tx)]) (row' := [.int .i64 ln, .string (mkS lab), .string (mkS d.tx), .slice none 0 0, .slice none 0 0]) rfl rfl
      have hj28 : ∃ r2, At s28 j2 r2 ∧ r2.length = 5 := by obtain ⟨r2, a, l2⟩ := hj25; exact ⟨r2, a.mod m28 (by simp; omega), l2⟩
      have p28 := p25.modI m28 (by omega)
      have K28 := K25.thenI m28 (by omega) (.inl (by omega))
      have hloop := args_loop (B := s28.next) hbj hjl (by omega) ⟨rfl, rfl, rfl, rfl⟩ u.length (i + 1 + 1) u [] (.slice none 0 0) s28 (Nat.le_refl _) (by simp at hsz ⊢; omega) p28 hl2 a28 hj28 (Nat.le_refl _) (Own.nil _ _ _)
      cases hx : argsT u.length u with
      | error o =>
        rw [hx] at hloop
        obtain ⟨s32, row, d1, d2, d3, d4, d5, d6⟩ := hloop
        have hr := d4.rdN d5
        refine ⟨s32, row, ?_, (K28.then (d2.mono (by omega) (fun j hj hlt => by simp at hj ⊢; omega))), (by rw [show i + (2 + o) = i + 1 + 1 + o by omega]; exact d3), d5, d6⟩
        simp only [lineTail, c23', Option.bind_some, asB_bool, cond_true, c25, tupG, List.getElem?_toArray, List.getElem?_cons_succ, List.getElem?_cons_zero, asS_string, e28, Bool.not_true, cond_false, d1, hb1, addr_ptr, hr]
      | ok vs =>
        rw [hx] at hloop
        obtain ⟨s32, av', d1, d2, d3, d4, d5⟩ := hloop
        obtain ⟨r2, a2, l2⟩ := hj28
        have a232 := a2.keepB d2 (by have := a28.lt; omega) (by simp; omega)
        obtain ⟨s38, f1, f2, f3, f4, f5⟩ := fin_ok (n := 5) a232 l2 d4 rfl (by simp only [List.all_cons, List.all_nil, d5.cell.2]; rfl)
        have K32 : Keep B [b] s s32 := K28.then (d2.mono (by omega) (fun j hj hlt => by simp at hj ⊢; omega))
        have nx32 := d2.next
        refine ⟨s38, av', .slice none 0 0, ?_, K32.thenI f4 (by omega) (.inl hBj), ?_, ((own_ne' (S := []) d5 f4 (.inl (by have := a28.lt; omega))).low (by omega)), Own.nil _ _ _⟩
        · simp only [lineTail, c23', Option.bind_some, asB_bool, cond_true, c25, tupG, List.getElem?_toArray, List.getElem?_cons_succ, List.getElem?_cons_zero, asS_string, e28, Bool.not_true, cond_false, d1, hb0, addr_ptr, f1, f2, f3]
          rfl
        · have e' : i + 1 + 1 + (u.length - 1) = i + ((t :: d :: u).length - 1) := by
            obtain ⟨z1, z2, rfl⟩ := hl2.lin.ne
            simp; omega
          rw [← e']; exact d3.modI f4 hbj
    · rw [if_neg hd, decide_eq_false hd] at c25
      rw [if_neg hd] at p25
      rw [if_neg hd]
      obtain ⟨s28, e28, a28, m28, n28⟩ := a25.sto (k := 2) (vs := [.string (mkS [])]) (row' := [.int .i64 ln, .string (mkS lab), .string (mkS []), .slice none 0 0, .slice none 0 0]) rfl rfl
      obtain ⟨r2, a2, l2⟩ := hj25
      have a228 := a2.mod m28 (by simp; omega)
      obtain ⟨s30, f1, f2, f3, f4, f5⟩ := fin_ok (n := 5) a228 l2 a28 rfl rfl
      have K28 := K25.thenI m28 (by omega) (.inl (by omega))
      refine ⟨s30, [.int .i64 ln, .string (mkS lab), .string (mkS []), .slice none 0 0, .slice none 0 0], ?_, K28.thenI f4 (by omega) (.inl hBj), (p25.modI m28 (by omega)).modI f4 hbj, rfl, rfl⟩
      simp only [lineTail, c23', Option.bind_some, asB_bool, cond_true, c25, tupG, List.getElem?_toArray, List.getElem?_cons_succ, List.getElem?_cons_zero, asS_string, e28, Bool.not_false, f1, f2, f3]
  · have hs' : isSign t [46] = false := Bool.eq_false_iff.2 hs
    rw [hs'] at c23'
    rw [if_neg hs] at p23
    rw [if_neg hs]
    have hloop := pairs_loop (B := s23.next) hbj hjl (by omega) ⟨rfl, rfl, rfl, rfl⟩ (t :: r).length i (t :: r) [] (.slice none 0 0) s23 (Nat.le_refl _) (by simp at hsz ⊢; omega) p23 hl a23 hj23 (Nat.le_refl _) (Own.nil _ _ _)
    have hloop' : PairsR s23.next b lb j2 (.int .i64 ln) (.string (mkS lab)) (.string ⟨#[]⟩) (.slice none 0 0) v us i (i + ((t :: r).length - 1)) [] s23 (uparse_parser_line_lf 17 [ptr b 0, ptr j2 0, ptr lb 0] s23) (pairsT (t :: r).length [] (t :: r)) := hloop
    cases hx : pairsT (t :: r).length [] (t :: r) with
    | error o =>
      rw [hx] at hloop'
      obtain ⟨s32, row, d1, d2, d3, d4, d5, d6⟩ := hloop'
      have hr := d4.rdN d5
      refine ⟨s32, row, ?_, (K23.then (d2.mono (by omega) (fun j hj hlt => by simp at hj ⊢; omega))), d3, d5, d6⟩
      simp only [lineTail, c23', Option.bind_some, asB_bool, cond_false, d1, hb1, addr_ptr, hr, List.getElem?_cons_succ, List.getElem?_cons_zero]
    | ok ps =>
      rw [hx] at hloop'
      obtain ⟨s32, pv', d1, d2, d3, d4, d5⟩ := hloop'
      obtain ⟨r2, a2, l2⟩ := hj23
      have a232 := a2.keepB d2 (by have := a23.lt; omega) (by simp; omega)
      obtain ⟨s38, f1, f2, f3, f4, f5⟩ := fin_ok (n := 5) a232 l2 d4 rfl (by simp only [List.all_cons, List.all_nil, d5.cell.2]; rfl)
      have K32 : Keep B [b] s s32 := K23.then (d2.mono (by omega) (fun j hj hlt => by simp at hj ⊢; omega))
      have nx32 := d2.next
      refine ⟨s38, .slice none 0 0, pv', ?_, K32.thenI f4 (by omega) (.inl hBj), d3.modI f4 hbj, Own.nil _ _ _, ((own_ne' (S := []) d5 f4 (.inl (by have := a23.lt; omega))).low (by omega))⟩
      simp only [lineTail, c23', Option.bind_some, asB_bool, cond_false, d1, hb0, cond_true, addr_ptr, f1, f2, f3, List.getElem?_cons_succ, List.getElem?_cons_zero]
      rfl
end Go.Proofs.YthngaoncjpgeiaaDoorE
