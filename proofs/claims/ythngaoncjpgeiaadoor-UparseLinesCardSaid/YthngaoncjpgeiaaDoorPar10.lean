/- Are two lines the same? -/
import Derived.Test.YthngaoncjpgeiaaDoorPar9
set_option linter.unusedVariables false
set_option linter.unusedSimpArgs false
namespace Go.Proofs.YthngaoncjpgeiaaDoorE
open Go Go.E Go.Proofs

/-- A list that may be read, in a block below a bound. -/
def RdH (st : SS) (v : Value) (c : List Value) (z n hi : Nat) : Prop := Rd st v c z n ∧ ∀ j k l q, v = .slice (some ⟨j, k, none⟩) l q → j < hi
theorem Rd.h {st : SS} {v : Value} {c : List Value} {z n : Nat} (h : Rd st v c z n) : RdH st v c z n st.next := by
  refine ⟨h, fun j k l q hv => ?_⟩
  obtain ⟨_, ⟨ev, _⟩ | ⟨i, cap, ev, _, hi⟩⟩ := h
  · rw [ev] at hv; cases hv
  · rw [ev] at hv; cases hv; exact hi
theorem RdH.keepB {S : List Nat} {st st' : SS} {v : Value} {c : List Value} {z n hi B : Nat} (h : RdH st v c z n hi) (k : Keep B S st st') (hB : hi ≤ B) (hS : ∀ j, j ∈ S → hi ≤ j) : RdH st' v c z n hi := by
  refine ⟨?_, h.2⟩
  obtain ⟨h1, h2⟩ := h.1
  refine ⟨h1, h2.imp id ?_⟩
  rintro ⟨j, cap, e, ⟨z', hm⟩, hj⟩
  have hjb := h.2 j 0 _ cap e
  exact ⟨j, cap, e, ⟨z', (k.keep j (by omega) (fun hx => by have := hS j hx; omega)).trans hm⟩, Nat.lt_of_lt_of_le hj k.next⟩
theorem RdH.ext {st st' : SS} {v : Value} {c : List Value} {z n hi : Nat} (h : RdH st v c z n hi) (x : Ext st st') : RdH st' v c z n hi := ⟨h.1.ext x, h.2⟩
theorem RdH.cell {st : SS} {v : Value} {c : List Value} {z n hi : Nat} (h : RdH st v c z n hi) : one v = true := by
  obtain ⟨⟨_, ⟨rfl, _⟩ | ⟨i, _, rfl, _⟩⟩, _⟩ := h <;> rfl
/-- One of a list's rows. -/
theorem RdH.row {α : Type} {f : α → List Value} {st : SS} {v : Value} {z hi : Nat} {l : List α} (hf : ∀ x, (f x).length = z) (h : RdH st v (rowsF f l) z l.length hi) {j : Nat} {x : α} (hx : l[j]? = some x) : ∃ p, elemS v (j : Int) z = some p ∧ ∀ s : SS, RdH s v (rowsF f l) z l.length hi → s.ldN p.1 p.2 z = some (.agg (f x).toArray) ∧ ∀ m, m < z → s.ld p.1 (p.2 + m) = (f x)[m]? := by
  have hlt : (j : Int) < (l.length : Int) := by have := (List.getElem?_eq_some_iff.1 hx).1; omega
  obtain ⟨p, a1, _, _⟩ := h.1.load (j := (j : Int)) (by omega) hlt (rowsF_get hf l j x hx) (hf x)
  refine ⟨p, a1, fun s hs => ?_⟩
  obtain ⟨q, b1, b2, b3⟩ := hs.1.load (j := (j : Int)) (by omega) hlt (rowsF_get hf l j x hx) (hf x)
  rw [a1] at b1
  cases b1
  exact ⟨b2, b3⟩
theorem take_succ' {α : Type} {l : List α} {j : Nat} {x : α} (h : l[j]? = some x) : l.take (j + 1) = l.take j ++ [x] := by
  rw [List.take_add_one, h]; rfl

theorem copyA_loop [Sym] {xb B hi : Nat} {w0 w1 w2 w4 av t2 l0 : Value} (args : List Val) (hsz : args.length ≤ 1099511627776 / 8) (hhi : hi ≤ xb) (hxB : xb < B) : ∀ (k j : Nat) (cur : Value) (st : SS), args.length = k + j → st.lim ≤ st.next → RdH st av (rowsF valRow args) 3 args.length hi → At st xb [w0, w1, w2, cur, w4] → B ≤ st.next → Own B st cur (rowsF valRow (args.take j)) 3 j →
    ∃ cur' st', camshaftlaw16_line_lf 3 [l0, t2, ptr xb 0, av, .int .i64 args.length, .int .i64 j] st = some (0, [l0, t2, ptr xb 0], st') ∧ Keep B [xb] st st' ∧ At st' xb [w0, w1, w2, cur', w4] ∧ Own B st' cur' (rowsF valRow args) 3 args.length := by
  intro k
  induction k with
  | zero =>
    intro j cur st hk hll h ha hB ho
    have hlt : ¬ (j : Int) < (args.length : Int) := by omega
    have hj : j = args.length := by omega
    subst hj
    refine ⟨cur, st, camshaftlaw16_line_l3_eq l0 t2 _ av _ _ st ?_, .refl _, ha, by simpa using ho⟩
    simp only [camshaftlaw16_line_l3, decide_eq_false hlt, cond_false]
  | succ k ih =>
    intro j cur st hk hll h ha hB ho
    obtain ⟨x, hx⟩ : ∃ x, args[j]? = some x := ⟨_, List.getElem?_eq_getElem (by omega)⟩
    have hlt : (j : Int) < (args.length : Int) := by omega
    have hlim : st.lim ≤ B := by have := ha.2.2; omega
    obtain ⟨p, e, hp⟩ := h.row valRow_len hx
    have q := (hp st h).1
    obtain ⟨s4, e4, a4, x4, _⟩ := newV_ok (st := st) hll (r := Z3) (aggC (valRow x)) (n := 3) rfl rfl rfl
    have la4 := ha.ext x4
    have k6 : s4.ld xb 3 = some cur := la4.ld
    have k7 : s4.ld st.next 0 = some (.string (mkS x.nm)) := a4.ld
    have k8 : s4.ld st.next 1 = some (.int .i64 x.x) := a4.ld
    have k9 : s4.ld st.next 2 = some (.int .i64 x.col) := a4.ld
    have nx4 : B ≤ s4.next := Nat.le_trans hB x4.next
    obtain ⟨cur', s11, g1, g2, g3⟩ := (ho.ext x4).pushK nx4 (by rw [x4.lim]; exact hlim) (row := valRow x) rfl (by omega) rfl (bt := 32) (by omega) (by omega)
    have g1' : (s4.new (.cells [.string (mkS x.nm), .int .i64 x.x, .int .i64 x.col] 3)).app 3 32 cur (.slice (some ⟨s4.next, 0, none⟩) 1 1) = some (cur', s11) := g1
    have la11 := la4.keepB (g3 []) hxB (by simp)
    have K11 : Keep B [xb] st s11 := (x4.keepB hB).then (g3 _)
    obtain ⟨s13, e13, a13, m13, _⟩ := la11.stV (k := 3) (n := 1) g2.cell.1 rfl (by simp [g2.cell.2]) (row' := [w0, w1, w2, cur', w4]) rfl
    have K13 := K11.thenI m13 (Nat.le_trans hB K11.next) (.inr (by simp))
    have h13 := h.keepB K13 (by omega) (by simp; omega)
    have o13 := g2.modLt m13 (by simp; omega)
    have o13' : Own B s13 cur' (rowsF valRow (args.take (j + 1))) 3 (j + 1) := by rw [take_succ' hx, rowsF_append, rowsF_one]; exact o13
    obtain ⟨c2, st', d1, d2, d3, d4⟩ := ih (j + 1) cur' s13 (by omega) (K13.ll hll) h13 a13 (Nat.le_trans hB K13.next) o13'
    have hw := wrapI1 (i := j) (by omega)
    refine ⟨c2, st', camshaftlaw16_line_l3_eq l0 t2 _ av _ _ st ?_, K13.then d2, d3, d4⟩
    simp only [camshaftlaw16_line_l3, decide_eq_true hlt, cond_true, e, Option.bind_some, q, e4, addr_ptr, Nat.zero_add, k6, k7, k8, k9, asS_string, asI_int, g1', e13, hw]
    exact d1
theorem copyP_loop [Sym] {xb B hi : Nat} {w0 w1 w2 w3 pv t2 : Value} (ps : List Pr) (hsz : ps.length ≤ 1099511627776 / 8) (hhi : hi ≤ xb) (hxB : xb < B) : ∀ (k j : Nat) (cur : Value) (st : SS), ps.length = k + j → st.lim ≤ st.next → RdH st pv (rowsF prRow ps) 5 ps.length hi → At st xb [w0, w1, w2, w3, cur] → B ≤ st.next → Own B st cur (rowsF prRow (ps.take j)) 5 j →
    ∃ cur' st', camshaftlaw16_line_lf 8 [t2, ptr xb 0, pv, .int .i64 ps.length, .int .i64 j] st = some (0, [t2, ptr xb 0], st') ∧ Keep B [xb] st st' ∧ At st' xb [w0, w1, w2, w3, cur'] ∧ Own B st' cur' (rowsF prRow ps) 5 ps.length := by
  intro k
  induction k with
  | zero =>
    intro j cur st hk hll h ha hB ho
    have hlt : ¬ (j : Int) < (ps.length : Int) := by omega
    have hj : j = ps.length := by omega
    subst hj
    refine ⟨cur, st, camshaftlaw16_line_l8_eq t2 _ pv _ _ st ?_, .refl _, ha, by simpa using ho⟩
    simp only [camshaftlaw16_line_l8, decide_eq_false hlt, cond_false]
  | succ k ih =>
    intro j cur st hk hll h ha hB ho
    obtain ⟨x, hx⟩ : ∃ x, ps[j]? = some x := ⟨_, List.getElem?_eq_getElem (by omega)⟩
    have hlt : (j : Int) < (ps.length : Int) := by omega
    have hlim : st.lim ≤ B := by have := ha.2.2; omega
    obtain ⟨p, e, hp⟩ := h.row prRow_len hx
    have q := (hp st h).1
    obtain ⟨s4, e4, a4, x4, _⟩ := newV_ok (st := st) hll (r := [.string ⟨#[]⟩, .int .i64 0, .string ⟨#[]⟩, .int .i64 0, .int .i64 0]) (aggC (prRow x)) (n := 5) rfl rfl rfl
    have k5 : s4.ld st.next 2 = some (.string (mkS x.v.nm)) := a4.ld
    have k6 : s4.ld st.next 3 = some (.int .i64 x.v.x) := a4.ld
    have k7 : s4.ld st.next 4 = some (.int .i64 x.v.col) := a4.ld
    obtain ⟨s9, e9, a9, x9, _⟩ := new_ok (st := s4) (x4.ll hll) (r := Z3) (row := valRow x.v) rfl rfl
    have e9' : (s4.new (.cells Z3 0)).st s4.next 0 [.string (mkS x.v.nm), .int .i64 x.v.x, .int .i64 x.v.col] = some s9 := e9
    have xx := x4.trans x9
    have la9 := ha.ext xx
    have a49 := a4.ext x9
    have k11 : s9.ld xb 4 = some cur := la9.ld
    have k12 : s9.ld st.next 0 = some (.string (mkS x.fd)) := a49.ld
    have k13 : s9.ld st.next 1 = some (.int .i64 x.col) := a49.ld
    have k14 : s9.ldN s4.next 0 3 = some (.agg (valRow x.v).toArray) := a9.ldN rfl
    have hc15 : cellsN (.agg (valRow x.v).toArray) 3 = some (valRow x.v) := cellsN_agg rfl
    have nx9 : B ≤ s9.next := Nat.le_trans hB xx.next
    obtain ⟨cur', s18, g1, g2, g3⟩ := (ho.ext xx).pushK nx9 (by rw [xx.lim]; exact hlim) (row := prRow x) rfl (by omega) rfl (bt := 56) (by omega) (by omega)
    have g1' : (s9.new (.cells [.string (mkS x.fd), .int .i64 x.col, .string (mkS x.v.nm), .int .i64 x.v.x, .int .i64 x.v.col] 5)).app 5 56 cur (.slice (some ⟨s9.next, 0, none⟩) 1 1) = some (cur', s18) := g1
    have la18 := la9.keepB (g3 []) hxB (by simp)
    have K18 : Keep B [xb] st s18 := (xx.keepB hB).then (g3 _)
    obtain ⟨s20, e20, a20, m20, _⟩ := la18.stV (k := 4) (n := 1) g2.cell.1 rfl (by simp [g2.cell.2]) (row' := [w0, w1, w2, w3, cur']) rfl
    have K20 := K18.thenI m20 (Nat.le_trans hB K18.next) (.inr (by simp))
    have h20 := h.keepB K20 (by omega) (by simp; omega)
    have o20 := g2.modLt m20 (by simp; omega)
    have o20' : Own B s20 cur' (rowsF prRow (ps.take (j + 1))) 5 (j + 1) := by rw [take_succ' hx, rowsF_append, rowsF_one]; exact o20
    obtain ⟨c2, st', d1, d2, d3, d4⟩ := ih (j + 1) cur' s20 (by omega) (K20.ll hll) h20 a20 (Nat.le_trans hB K20.next) o20'
    have hw := wrapI1 (i := j) (by omega)
    refine ⟨c2, st', camshaftlaw16_line_l8_eq t2 _ pv _ _ st ?_, K20.then d2, d3, d4⟩
    simp only [camshaftlaw16_line_l8, decide_eq_true hlt, cond_true, e, Option.bind_some, q, e4, k5, k6, k7, asS_string, asI_int, e9', addr_ptr, Nat.zero_add, k11, k12, k13, k14, hc15, spl_pr, List.append_nil, g1', e20, hw]
    exact d1
/-- The law's copy of a line. -/
theorem lline_ok [Sym] {st : SS} (hll : st.lim ≤ st.next) (x : PLine) (av pv : Value) (h1 : Rd st av (rowsF valRow x.args) 3 x.args.length) (h2 : Rd st pv (rowsF prRow x.prs) 5 x.prs.length) (hs1 : x.args.length ≤ 1099511627776 / 8) (hs2 : x.prs.length ≤ 1099511627776 / 8) :
    ∃ st' aw pw, cc 23 [.agg (lnRow (x, av, pv)).toArray] st = some (.agg (lnRow (x, aw, pw)).toArray, st') ∧ Ext st st' ∧ Rd st' aw (rowsF valRow x.args) 3 x.args.length ∧ Rd st' pw (rowsF prRow x.prs) 5 x.prs.length := by
  have a1 : At (st.new (.cells (lnRow (x, av, pv)) 0)) st.next (lnRow (x, av, pv)) := At.new hll _
  have x1 : Ext st (st.new (.cells (lnRow (x, av, pv)) 0)) := (Ext.refl st).new _
  have b1 : At ((st.new (.cells (lnRow (x, av, pv)) 0)).new (.cells L5 0)) (st.new (.cells (lnRow (x, av, pv)) 0)).next L5 := At.new (x1.ll hll) _
  have x2 : Ext (st.new (.cells (lnRow (x, av, pv)) 0)) ((st.new (.cells (lnRow (x, av, pv)) 0)).new (.cells L5 0)) := (Ext.refl _).new _
  have a2 := a1.ext x2
  have x12 := x1.trans x2
  have k3 : ((st.new (.cells (lnRow (x, av, pv)) 0)).new (.cells L5 0)).ld st.next 0 = some (.int .i64 x.ln) := a2.ld
  have k4 : ((st.new (.cells (lnRow (x, av, pv)) 0)).new (.cells L5 0)).ld st.next 1 = some (.string (mkS x.lab)) := a2.ld
  have k5 : ((st.new (.cells (lnRow (x, av, pv)) 0)).new (.cells L5 0)).ld st.next 2 = some (.string (mkS x.dir)) := a2.ld
  obtain ⟨s7, e7, a7, x7, n7⟩ := new_ok (st := (st.new (.cells (lnRow (x, av, pv)) 0)).new (.cells L5 0)) (x12.ll hll) (r := L5) (row := [.int .i64 x.ln, .string (mkS x.lab), .string (mkS x.dir), .slice none 0 0, .slice none 0 0]) rfl rfl
  have x07 := x12.trans x7
  have la := a2.ext x7
  have lb := b1.ext x7
  have k8 : s7.ld st.next 3 = some av := la.ld
  have hn1 : (st.new (.cells (lnRow (x, av, pv)) 0)).next = st.next + 1 := rfl
  have hn2 : ((st.new (.cells (lnRow (x, av, pv)) 0)).new (.cells L5 0)).next = st.next + 2 := rfl
  have hn7 : s7.next = st.next + 3 := by rw [n7, hn2]
  have hlv : (lenV av).bind (asI .i64) = some (x.args.length : Int) := by rw [h1.len]; rfl
  obtain ⟨aw, s10, d1, d2, d3, d4⟩ := copyA_loop (xb := ((st.new (.cells (lnRow (x, av, pv)) 0)).new (.cells L5 0)).next) (B := s7.next) (hi := st.next) (av := av) (t2 := ptr (st.new (.cells (lnRow (x, av, pv)) 0)).next 0) (l0 := ptr st.next 0) x.args hs1 (by omega) (by omega) x.args.length 0 (.slice none 0 0) s7 (by omega) (x07.ll hll) ((Rd.h h1).ext x07) a7 (Nat.le_refl _) (by simpa [rowsF] using Own.nil s7.next s7 3)
  have d1' : camshaftlaw16_line_lf 3 [ptr st.next 0, ptr (st.new (.cells (lnRow (x, av, pv)) 0)).next 0, ptr ((st.new (.cells (lnRow (x, av, pv)) 0)).new (.cells L5 0)).next 0, av, .int .i64 x.args.length, .int .i64 0] s7 = some (0, [ptr st.next 0, ptr (st.new (.cells (lnRow (x, av, pv)) 0)).next 0, ptr ((st.new (.cells (lnRow (x, av, pv)) 0)).new (.cells L5 0)).next 0], s10) := d1
  have la10 := la.keepB d2 (by omega) (by simp; omega)
  have lb10 := lb.keepB d2 (by omega) (by simp)
  have k15 : s10.ld st.next 4 = some pv := la10.ld
  have hlp : (lenV pv).bind (asI .i64) = some (x.prs.length : Int) := by rw [h2.len]; rfl
  have hp10 : RdH s10 pv (rowsF prRow x.prs) 5 x.prs.length st.next := ((Rd.h h2).ext x07).keepB d2 (by omega) (by simp; omega)
  obtain ⟨pw, s17, f1, f2, f3, f4⟩ := copyP_loop (xb := ((st.new (.cells (lnRow (x, av, pv)) 0)).new (.cells L5 0)).next) (B := s10.next) (hi := st.next) (pv := pv) (t2 := ptr (st.new (.cells (lnRow (x, av, pv)) 0)).next 0) x.prs hs2 (by omega) (by have := d2.next; omega) x.prs.length 0 (.slice none 0 0) s10 (by omega) (d2.ll (x07.ll hll)) hp10 d3 (Nat.le_refl _) (by simpa [rowsF] using Own.nil s10.next s10 5)
  have f1' : camshaftlaw16_line_lf 8 [ptr (st.new (.cells (lnRow (x, av, pv)) 0)).next 0, ptr ((st.new (.cells (lnRow (x, av, pv)) 0)).new (.cells L5 0)).next 0, pv, .int .i64 x.prs.length, .int .i64 0] s10 = some (0, [ptr (st.new (.cells (lnRow (x, av, pv)) 0)).next 0, ptr ((st.new (.cells (lnRow (x, av, pv)) 0)).new (.cells L5 0)).next 0], s17) := f1
  have nx10 := d2.next
  have nx17 := f2.next
  have lb17 := lb10.keepB f2 (by omega) (by simp)
  obtain ⟨s23, z1, z2, z3, z4, z5⟩ := fin_ok (n := 5) lb17 rfl f3 rfl (by simp only [List.all_cons, List.all_nil, d4.cell.2, f4.cell.2]; rfl)
  have K17 : Keep st.next [] st s17 := ((x07.keepB (Nat.le_refl _)).then (d2.mono (by omega) (fun j hj hlt => by simp at hj; omega))).then (f2.mono (by omega) (fun j hj hlt => by simp at hj; omega))
  have K23 := K17.thenI z4 (by omega) (.inl (by omega))
  have o1 : Own s7.next s17 aw (rowsF valRow x.args) 3 x.args.length := by
    obtain ⟨c1, c2⟩ := d4
    refine ⟨c1, c2.imp id ?_⟩
    rintro ⟨i, e, h0, hm, hb, hi⟩
    exact ⟨i, e, h0, (f2.keep i hi (by simp; omega)).trans hm, hb, by omega⟩
  refine ⟨s23, aw, pw, camshaftlaw16_line_eq _ st ?_, Keep.toExt K23 (Nat.le_refl _), ((own_ne' (S := []) o1 z4 (.inl (by omega))).rd), ((own_ne' (S := []) f4 z4 (.inl (by omega))).rd)⟩
  have e7' : (((st.new (.cells (lnRow (x, av, pv)) 0)).new (.cells L5 0)).new (.cells L5 0)).st ((st.new (.cells (lnRow (x, av, pv)) 0)).new (.cells L5 0)).next 0 [.int .i64 x.ln, .string (mkS x.lab), .string (mkS x.dir), .slice none 0 0, .slice none 0 0] = some s7 := e7
  simp only [camshaftlaw16_line, aggC, k3, k4, k5, Option.bind_some, asI_int, asS_string, e7', k8, hlv]
  rw [d1', Option.bind_some]
  simp only [List.getElem?_cons_succ, List.getElem?_cons_zero, Option.bind_some, addr_ptr, Nat.zero_add, k15, hlp]
  rw [f1', Option.bind_some]
  simp only [List.getElem?_cons_succ, List.getElem?_cons_zero, Option.bind_some, addr_ptr, z1, z2, z3]
  rfl
end Go.Proofs.YthngaoncjpgeiaaDoorE
