/- The laws over texts. -/
import Derived.Test.YthngaoncjpgeiaaDoorPar10
import Derived.Test.YthngaoncjpgeiaaDoorLex10
import Derived.Test.YthngaoncjpgeiaaDoorShS
set_option linter.unusedVariables false
set_option linter.unusedSimpArgs false
namespace Go.Proofs.YthngaoncjpgeiaaDoorE
open Go Go.E Go.Proofs

theorem eqT_self (s : ByteArray) : eqT s s = true := by rw [eqT_iff']; simp
theorem sameA_loop [Sym] (args : List Val) (hsz : args.length ≤ 1099511627776 / 8) (pl : Bool) (pa av aw : Value) (jb : Nat) (rowb : List Value) (st0 : SS) (hll : st0.lim ≤ st0.next) (h1 : RdH st0 av (rowsF valRow args) 3 args.length st0.next) (h2 : RdH st0 aw (rowsF valRow args) 3 args.length st0.next) (hb : At st0 jb rowb) (hr : rowb[3]? = some aw) :
    ∀ (k j : Nat) (st : SS), args.length = k + j → Ext st0 st → ∃ st', camshaftref16_Same_lf 4 [.bool pl, pa, ptr jb 0, av, .int .i64 args.length, .int .i64 j] st = some (0, [.bool pl, pa, ptr jb 0], st') ∧ Ext st0 st' := by
  intro k
  induction k with
  | zero =>
    intro j st hk he
    have hlt : ¬ (j : Int) < (args.length : Int) := by omega
    refine ⟨st, camshaftref16_Same_l4_eq pl pa _ av _ _ st ?_, he⟩
    simp only [camshaftref16_Same_l4, decide_eq_false hlt, cond_false]
  | succ k ih =>
    intro j st hk he
    obtain ⟨x, hx⟩ : ∃ x, args[j]? = some x := ⟨_, List.getElem?_eq_getElem (by omega)⟩
    have hlt : (j : Int) < (args.length : Int) := by omega
    obtain ⟨p, e, hp⟩ := h1.row valRow_len hx
    obtain ⟨p2, e2, hp2⟩ := h2.row valRow_len hx
    have q := (hp st (h1.ext he)).1
    obtain ⟨s4, e4, a4, x4, _⟩ := newV_ok (st := st) (he.ll hll) (r := Z3) (aggC (valRow x)) (n := 3) rfl rfl rfl
    have l6 : s4.ld jb 3 = some aw := ((hb.ext (he.trans x4)).ld).trans hr
    have q2 := (hp2 s4 (h2.ext (he.trans x4))).1
    obtain ⟨s10, e10, a10, x10, _⟩ := newV_ok (st := s4) ((he.trans x4).ll hll) (r := Z3) (aggC (valRow x)) (n := 3) rfl rfl rfl
    have a410 := a4.ext x10
    have u0 : s10.ld st.next 0 = some (.string (mkS x.nm)) := a410.ld
    have u1 : s10.ld st.next 1 = some (.int .i64 x.x) := a410.ld
    have u2 : s10.ld st.next 2 = some (.int .i64 x.col) := a410.ld
    have v0 : s10.ld s4.next 0 = some (.string (mkS x.nm)) := a10.ld
    have v1 : s10.ld s4.next 1 = some (.int .i64 x.x) := a10.ld
    have v2 : s10.ld s4.next 2 = some (.int .i64 x.col) := a10.ld
    have hw := wrapI1 (i := j) (by omega)
    obtain ⟨st', d1, d2⟩ := ih (j + 1) s10 (by omega) ((he.trans x4).trans x10)
    refine ⟨st', camshaftref16_Same_l4_eq pl pa _ av _ _ st ?_, d2⟩
    cases pl with
    | true =>
      simp only [camshaftref16_Same_l4, decide_eq_true hlt, cond_true, e, Option.bind_some, q, e4, addr_ptr, Nat.zero_add, l6, e2, q2, e10, u0, v0, asS_string, eqT_self, Bool.not_true, cond_false, u1, v1, asI_int, decide_true, u2, v2, hw]
      exact d1
    | false =>
      simp only [camshaftref16_Same_l4, decide_eq_true hlt, cond_true, e, Option.bind_some, q, e4, addr_ptr, Nat.zero_add, l6, e2, q2, e10, u0, v0, asS_string, eqT_self, Bool.not_true, cond_false, u1, v1, asI_int, decide_true, hw]
      exact d1
theorem sameP_loop [Sym] (ps : List Pr) (hsz : ps.length ≤ 1099511627776 / 8) (pl : Bool) (pv pw : Value) (jb : Nat) (rowb : List Value) (st0 : SS) (hll : st0.lim ≤ st0.next) (h1 : RdH st0 pv (rowsF prRow ps) 5 ps.length st0.next) (h2 : RdH st0 pw (rowsF prRow ps) 5 ps.length st0.next) (hb : At st0 jb rowb) (hr : rowb[4]? = some pw) :
    ∀ (k j : Nat) (st : SS), ps.length = k + j → Ext st0 st → ∃ st', camshaftref16_Same_lf 11 [.bool pl, ptr jb 0, pv, .int .i64 ps.length, .int .i64 j] st = some (0, [], st') ∧ Ext st0 st' := by
  intro k
  induction k with
  | zero =>
    intro j st hk he
    have hlt : ¬ (j : Int) < (ps.length : Int) := by omega
    refine ⟨st, camshaftref16_Same_l11_eq pl _ pv _ _ st ?_, he⟩
    simp only [camshaftref16_Same_l11, decide_eq_false hlt, cond_false]
  | succ k ih =>
    intro j st hk he
    obtain ⟨x, hx⟩ : ∃ x, ps[j]? = some x := ⟨_, List.getElem?_eq_getElem (by omega)⟩
    have hlt : (j : Int) < (ps.length : Int) := by omega
    obtain ⟨p, e, hp⟩ := h1.row prRow_len hx
    obtain ⟨p2, e2, hp2⟩ := h2.row prRow_len hx
    have q := (hp st (h1.ext he)).1
    obtain ⟨s4, e4, a4, x4, _⟩ := newV_ok (st := st) (he.ll hll) (r := [.string ⟨#[]⟩, .int .i64 0, .string ⟨#[]⟩, .int .i64 0, .int .i64 0]) (aggC (prRow x)) (n := 5) rfl rfl rfl
    have l6 : s4.ld jb 4 = some pw := ((hb.ext (he.trans x4)).ld).trans hr
    have q2 := (hp2 s4 (h2.ext (he.trans x4))).1
    obtain ⟨s10, e10, a10, x10, _⟩ := newV_ok (st := s4) ((he.trans x4).ll hll) (r := [.string ⟨#[]⟩, .int .i64 0, .string ⟨#[]⟩, .int .i64 0, .int .i64 0]) (aggC (prRow x)) (n := 5) rfl rfl rfl
    have a410 := a4.ext x10
    have u0 : s10.ld st.next 0 = some (.string (mkS x.fd)) := a410.ld
    have u1 : s10.ld st.next 1 = some (.int .i64 x.col) := a410.ld
    have u2 : s10.ld st.next 2 = some (.string (mkS x.v.nm)) := a410.ld
    have u3 : s10.ld st.next 3 = some (.int .i64 x.v.x) := a410.ld
    have u4 : s10.ld st.next 4 = some (.int .i64 x.v.col) := a410.ld
    have v0 : s10.ld s4.next 0 = some (.string (mkS x.fd)) := a10.ld
    have v1 : s10.ld s4.next 1 = some (.int .i64 x.col) := a10.ld
    have v2 : s10.ld s4.next 2 = some (.string (mkS x.v.nm)) := a10.ld
    have v3 : s10.ld s4.next 3 = some (.int .i64 x.v.x) := a10.ld
    have v4 : s10.ld s4.next 4 = some (.int .i64 x.v.col) := a10.ld
    have hw := wrapI1 (i := j) (by omega)
    obtain ⟨st', d1, d2⟩ := ih (j + 1) s10 (by omega) ((he.trans x4).trans x10)
    refine ⟨st', camshaftref16_Same_l11_eq pl _ pv _ _ st ?_, d2⟩
    cases pl with
    | true =>
      simp only [camshaftref16_Same_l11, decide_eq_true hlt, cond_true, e, Option.bind_some, q, e4, addr_ptr, Nat.zero_add, l6, e2, q2, e10, u0, v0, asS_string, eqT_self, Bool.not_true, cond_false, u1, v1, asI_int, decide_true, u2, v2, u3, v3, u4, v4, hw]
      exact d1
    | false =>
      simp only [camshaftref16_Same_l11, decide_eq_true hlt, cond_true, e, Option.bind_some, q, e4, addr_ptr, Nat.zero_add, l6, e2, q2, e10, u0, v0, asS_string, eqT_self, Bool.not_true, cond_false, u2, v2, u3, v3, asI_int, decide_true, hw]
      exact d1
theorem lsame_ok [Sym] {st : SS} (x : PLine) (k : Nat) (pl : Bool) (hk : pl = true → k = x.ln) (av pv aw pw : Value) (h1 : Rd st av (rowsF valRow x.args) 3 x.args.length) (h2 : Rd st pv (rowsF prRow x.prs) 5 x.prs.length) (h3 : Rd st aw (rowsF valRow x.args) 3 x.args.length) (h4 : Rd st pw (rowsF prRow x.prs) 5 x.prs.length)
    (hs1 : x.args.length ≤ 1099511627776 / 8) (hs2 : x.prs.length ≤ 1099511627776 / 8) :
    ∃ n, st.next ≤ n ∧ cc 22 [.agg (lnRow (x, av, pv)).toArray, .agg (lnRow ({ x with ln := k }, aw, pw)).toArray, .bool pl] st = some (.bool true, st.adv n) := by
  have hll : (st.ro st.next).lim ≤ (st.ro st.next).next := Nat.le_refl _
  have a1 : At ((st.ro st.next).new (.cells (lnRow (x, av, pv)) 0)) st.next (lnRow (x, av, pv)) := At.new (st := st.ro st.next) hll _
  have x1 : Ext (st.ro st.next) ((st.ro st.next).new (.cells (lnRow (x, av, pv)) 0)) := (Ext.refl _).new _
  have b2 : At (((st.ro st.next).new (.cells (lnRow (x, av, pv)) 0)).new (.cells (lnRow ({ x with ln := k }, aw, pw)) 0)) ((st.ro st.next).new (.cells (lnRow (x, av, pv)) 0)).next (lnRow ({ x with ln := k }, aw, pw)) := At.new (x1.ll hll) _
  have x2 : Ext ((st.ro st.next).new (.cells (lnRow (x, av, pv)) 0)) (((st.ro st.next).new (.cells (lnRow (x, av, pv)) 0)).new (.cells (lnRow ({ x with ln := k }, aw, pw)) 0)) := (Ext.refl _).new _
  have a2 := a1.ext x2
  have xx := x1.trans x2
  obtain ⟨s2, hs2e⟩ : ∃ s2, s2 = ((st.ro st.next).new (.cells (lnRow (x, av, pv)) 0)).new (.cells (lnRow ({ x with ln := k }, aw, pw)) 0) := ⟨_, rfl⟩
  rw [← hs2e] at a2 b2 xx
  have r1 : Rd (st.ro st.next) av (rowsF valRow x.args) 3 x.args.length := h1
  have r2 : Rd (st.ro st.next) pv (rowsF prRow x.prs) 5 x.prs.length := h2
  have r3 : Rd (st.ro st.next) aw (rowsF valRow x.args) 3 x.args.length := h3
  have r4 : Rd (st.ro st.next) pw (rowsF prRow x.prs) 5 x.prs.length := h4
  obtain ⟨s19, d1, d2⟩ := sameA_loop x.args hs1 pl (ptr st.next 0) av aw _ _ s2 (xx.ll hll) (Rd.h (r1.ext xx)) (Rd.h (r3.ext xx)) b2 rfl x.args.length 0 s2 (by omega) (.refl _)
  have a19 := a2.ext d2
  have hl19 : s19.lim ≤ s19.next := d2.ll (xx.ll hll)
  obtain ⟨s26, f1, f2⟩ := sameP_loop x.prs hs2 pl pv pw _ _ s19 hl19 (Rd.h ((r2.ext xx).ext d2)) (Rd.h ((r4.ext xx).ext d2)) (b2.ext d2) rfl x.prs.length 0 s19 (by omega) (.refl _)
  have hnx : st.next ≤ s26.next := by have := xx.next; have := d2.next; have := f2.next; simp at *; omega
  have u0 : s2.ld st.next 0 = some (.int .i64 x.ln) := a2.ld
  have u1 : s2.ld st.next 1 = some (.string (mkS x.lab)) := a2.ld
  have u2 : s2.ld st.next 2 = some (.string (mkS x.dir)) := a2.ld
  have u3 : s2.ld st.next 3 = some av := a2.ld
  have u4 : s2.ld st.next 4 = some pv := a2.ld
  have w0 : s2.ld ((st.ro st.next).new (.cells (lnRow (x, av, pv)) 0)).next 0 = some (.int .i64 k) := b2.ld
  have w1 : s2.ld ((st.ro st.next).new (.cells (lnRow (x, av, pv)) 0)).next 1 = some (.string (mkS x.lab)) := b2.ld
  have w2 : s2.ld ((st.ro st.next).new (.cells (lnRow (x, av, pv)) 0)).next 2 = some (.string (mkS x.dir)) := b2.ld
  have w3 : s2.ld ((st.ro st.next).new (.cells (lnRow (x, av, pv)) 0)).next 3 = some aw := b2.ld
  have w4 : s2.ld ((st.ro st.next).new (.cells (lnRow (x, av, pv)) 0)).next 4 = some pw := b2.ld
  have z4 : s19.ld st.next 4 = some pv := a19.ld
  have hlv : (lenV av).bind (asI .i64) = some (x.args.length : Int) := by rw [h1.len]; rfl
  have hlw : (lenV aw).bind (asI .i64) = some (x.args.length : Int) := by rw [h3.len]; rfl
  have hlp : (lenV pv).bind (asI .i64) = some (x.prs.length : Int) := by rw [h2.len]; rfl
  have hlq : (lenV pw).bind (asI .i64) = some (x.prs.length : Int) := by rw [h4.len]; rfl
  have d1' : camshaftref16_Same_lf 4 [.bool pl, ptr st.next 0, ptr ((st.ro st.next).new (.cells (lnRow (x, av, pv)) 0)).next 0, av, .int .i64 x.args.length, .int .i64 0] s2 = some (0, [.bool pl, ptr st.next 0, ptr ((st.ro st.next).new (.cells (lnRow (x, av, pv)) 0)).next 0], s19) := d1
  have f1' : camshaftref16_Same_lf 11 [.bool pl, ptr ((st.ro st.next).new (.cells (lnRow (x, av, pv)) 0)).next 0, pv, .int .i64 x.prs.length, .int .i64 0] s19 = some (0, [], s26) := f1
  have hb0 : Nat.beq 0 0 = true := rfl
  refine ⟨s26.next, hnx, camshaftref16_Same_eq _ _ _ st ?_⟩
  cases pl with
  | true =>
    have hk' : ((x.ln : Nat) : Int) = (k : Int) := by rw [hk rfl]
    simp only [camshaftref16_Same, aggC, SS.ro_next, ← hs2e, cond_true, u0, w0, Option.bind_some, asI_int, decide_eq_true hk', Bool.not_true, cond_false, u1, w1, asS_string, eqT_self, u2, w2, u3, hlv, w3, hlw, decide_true, u4, hlp, w4, hlq]
    rw [d1', Option.bind_some]
    simp only [hb0, cond_true, List.getElem?_cons_succ, List.getElem?_cons_zero, Option.bind_some, asB_bool, addr_ptr, Nat.zero_add, z4, hlp]
    rw [f1', Option.bind_some]
    rfl
  | false =>
    simp only [camshaftref16_Same, aggC, SS.ro_next, ← hs2e, cond_false, Option.bind_some, asI_int, Bool.not_true, u1, w1, asS_string, eqT_self, u2, w2, u3, hlv, w3, hlw, decide_true, u4, hlp, w4, hlq]
    rw [d1', Option.bind_some]
    simp only [hb0, cond_true, List.getElem?_cons_succ, List.getElem?_cons_zero, Option.bind_some, asB_bool, addr_ptr, Nat.zero_add, z4, hlp]
    rw [f1', Option.bind_some]
    rfl

theorem alive16T : parsT (bl ⟨#[103, 111, 58, 32, 97, 108, 117, 61, 97, 100, 100, 32, 116, 111, 61, 103, 111, 43, 49]⟩) = .ok [⟨1, [103, 111], [], [], [⟨[97, 108, 117], 5, ⟨[97, 100, 100], 0, 9⟩⟩, ⟨[116, 111], 13, ⟨[103, 111], 1, 16⟩⟩]⟩] := by kernel_rfl
theorem eq_val (s s' : ByteArray) (a b a' b' : Int) : eqA Tryd.prog Lk0 57 (.agg #[.string s, .int .i64 a, .int .i64 b]) (.agg #[.string s', .int .i64 a', .int .i64 b']) = some (eqT s s' && (decide (a = a') && (decide (b = b') && true))) := by kernel_rfl
theorem LinesR.one {st : SS} {v : Value} {x : PLine} (h : LinesR st v [x]) : ∃ av pv, Rd st v (lnRow (x, av, pv)) 5 1 ∧ Rd st av (rowsF valRow x.args) 3 x.args.length ∧ Rd st pv (rowsF prRow x.prs) 5 x.prs.length := by
  obtain ⟨its, a, b, c⟩ := h
  cases its with
  | nil => simp at a
  | cons y r =>
    cases r with
    | cons z r => simp at a
    | nil =>
      obtain ⟨y1, av, pv⟩ := y
      have e : y1 = x := by simpa using a
      subst e
      have := c (y1, av, pv) (by simp)
      exact ⟨av, pv, by simpa [rowsF] using b, this.1, this.2⟩
theorem alive16_ok [Sym] {st : SS} (hg : Gd st) : ∃ n, st.next ≤ n ∧ cc 19 [] st = some (.bool true, st.adv n) := by
  have h := parse_ok (st := st.ro st.next) hg.ro (Nat.le_refl _) ⟨#[103, 111, 58, 32, 97, 108, 117, 61, 97, 100, 100, 32, 116, 111, 61, 103, 111, 43, 49]⟩ (by decide)
  rw [alive16T] at h
  obtain ⟨v, s1, c1, x1, hl1⟩ := h
  obtain ⟨s6, e6, a6, x6, _⟩ := newV_ok (st := s1) (x1.ll (Nat.le_refl _)) (r := [.int .i64 0, .int .i64 0]) (v := pairV (0, 0)) (row := [.int .i64 0, .int .i64 0]) (n := 2) rfl rfl rfl rfl
  obtain ⟨av, pv, h1, h2, h3⟩ := (hl1.ext x6).one
  obtain ⟨p, b1, b2, b3⟩ := h1.load (j := 0) (by omega) (by omega) (row := lnRow (⟨1, [103, 111], [], [], [⟨[97, 108, 117], 5, ⟨[97, 100, 100], 0, 9⟩⟩, ⟨[116, 111], 13, ⟨[103, 111], 1, 16⟩⟩]⟩, av, pv)) rfl rfl
  obtain ⟨q, g1, g2⟩ := (Rd.h h3).row prRow_len (j := 1) (x := ⟨[116, 111], 13, ⟨[103, 111], 1, 16⟩⟩) rfl
  have g1' : elemS pv 1 5 = some q := g1
  obtain ⟨g3, g4⟩ := g2 s6 (Rd.h h3)
  have m1 : s6.ld p.1 (p.2 + 1) = some (.string ⟨#[103, 111]⟩) := b3 1 (by omega)
  have m4 : s6.ld p.1 (p.2 + 4) = some pv := b3 4 (by omega)
  have hlv : (lenV v).bind (asI .i64) = some 1 := by rw [h1.len]; rfl
  have hlp : (lenV pv).bind (asI .i64) = some 2 := by rw [h3.len]; rfl
  have hN : s6.ldN q.1 (q.2 + 2) 3 = some (.agg #[.string ⟨#[103, 111]⟩, .int .i64 1, .int .i64 16]) := by
    obtain ⟨hA, hB⟩ := h3
    rcases hB with ⟨rfl, hz⟩ | ⟨i, cap, rfl, ⟨z', hm⟩, hi⟩
    · cases hz
    · have : q = (i, 5) := by
        have : elemS (.slice (some ⟨i, 0, none⟩) 2 cap) 1 5 = some (i, 0 + 5) := rfl
        have h' : some q = some (i, 0 + 5) := g1'.symm.trans this
        injection h'
      subst this
      rw [SS.ldN_cells hm]
      rfl
  have c1' : cc 20 [.string ⟨#[103, 111, 58, 32, 97, 108, 117, 61, 97, 100, 100, 32, 116, 111, 61, 103, 111, 43, 49]⟩] (st.ro st.next) = some (.tuple #[v, pairV (0, 0), .int .i64 0], s1) := c1
  have hq1 : eqT ⟨#[103, 111]⟩ ⟨#[103, 111]⟩ = true := rfl
  have hnx : st.next ≤ s6.next := by have := x1.next; have := x6.next; simp at *; omega
  refine ⟨s6.next, hnx, camshaftlaw16_alive_eq st ?_⟩
  simp only [camshaftlaw16_alive, c1', Option.bind_some, tupG, List.getElem?_toArray, List.getElem?_cons_succ, List.getElem?_cons_zero, asI_int, e6, decide_true, cond_true, hlv, b1, m1, asS_string, hq1, m4, hlp, g1', hN, eq_val, Bool.and_true, asB_bool]

theorem Ext.unro {st s : SS} {n : Nat} (h : Ext (st.ro n) s) : Ext st (s.ro st.lim) := ⟨h.next, rfl, h.keep⟩
theorem its_get {its : List Item} {xs : List PLine} (h : its.map (·.1) = xs) {j : Nat} {x : PLine} (hx : xs[j]? = some x) : ∃ av pv, its[j]? = some (x, av, pv) := by
  subst h
  rw [List.getElem?_map] at hx
  cases hi : its[j]? with
  | none => rw [hi] at hx; cases hx
  | some y =>
    rw [hi] at hx
    obtain ⟨y1, av, pv⟩ := y
    have : y1 = x := by simpa using hx
    subst this
    exact ⟨av, pv, rfl⟩
/-- One of the lines that may be read. -/
theorem LinesR.get {st : SS} {v : Value} {xs : List PLine} (h : LinesR st v xs) {j : Nat} {x : PLine} (hx : xs[j]? = some x) : ∃ p av pv, elemS v (j : Int) 5 = some p ∧ Rd st av (rowsF valRow x.args) 3 x.args.length ∧ Rd st pv (rowsF prRow x.prs) 5 x.prs.length ∧ ∀ s : SS, Ext st s → s.ldN p.1 p.2 5 = some (.agg (lnRow (x, av, pv)).toArray) ∧ s.ld p.1 p.2 = some (.int .i64 x.ln) := by
  obtain ⟨its, a, b, c⟩ := h
  obtain ⟨av, pv, hit⟩ := its_get a hx
  obtain ⟨p, e, hp⟩ := (Rd.h b).row lnRow_len hit
  have hm := c _ (List.mem_of_getElem? hit)
  refine ⟨p, av, pv, e, hm.1, hm.2, fun s hs => ?_⟩
  obtain ⟨h1, h2⟩ := hp s ((Rd.h b).ext hs)
  exact ⟨h1, h2 0 (by omega)⟩
theorem LinesR.len {st : SS} {v : Value} {xs : List PLine} (h : LinesR st v xs) : (lenV v).bind (asI .i64) = some (xs.length : Int) := by
  obtain ⟨its, a, b, c⟩ := h
  rw [b.len, ← a]
  simp
/-- How great the parts of lines are. -/
def Small (x : PLine) : Prop := x.args.length ≤ 1099511627776 / 8 ∧ x.prs.length ≤ 1099511627776 / 8
theorem is_loop [Sym] (xs : List PLine) (hsm : ∀ x ∈ xs, Small x) (hn : xs.length ≤ 1099511627776) (v w : Value) (st0 : SS) (hll : st0.lim ≤ st0.next) (h1 : LinesR st0 v xs) (h2 : LinesR st0 w xs) : ∀ (k j : Nat) (st : SS), xs.length = k + j → Ext st0 st →
    ∃ st', camshaftlaw16_UparseIs_lf 10 [v, w, .int .i64 xs.length, .int .i64 j] st = some (0, [], st') := by
  intro k
  induction k with
  | zero =>
    intro j st hk he
    have hlt : ¬ (j : Int) < (xs.length : Int) := by omega
    refine ⟨st, camshaftlaw16_UparseIs_l10_eq v w _ _ st ?_⟩
    simp only [camshaftlaw16_UparseIs_l10, decide_eq_false hlt, cond_false]
  | succ k ih =>
    intro j st hk he
    obtain ⟨x, hx⟩ : ∃ x, xs[j]? = some x := ⟨_, List.getElem?_eq_getElem (by omega)⟩
    have hlt : (j : Int) < (xs.length : Int) := by omega
    obtain ⟨s1, s2⟩ := hsm x (List.mem_of_getElem? hx)
    obtain ⟨p, av, pv, e, r1, r2, hp⟩ := h1.get hx
    obtain ⟨q, bv, qv, e2, r3, r4, hq⟩ := h2.get hx
    have q1 := (hp st he).1
    have e1 : Rd (st.ro st.next) av (rowsF valRow x.args) 3 x.args.length := by have h := r1.ext he; exact h
    have e2' : Rd (st.ro st.next) pv (rowsF prRow x.prs) 5 x.prs.length := by have h := r2.ext he; exact h
    obtain ⟨s3, aw, pw, c3, x3, r5, r6⟩ := lline_ok (st := st.ro st.next) (Nat.le_refl _) x av pv e1 e2' s1 s2
    have x3' := Ext.unro x3
    have he3 : Ext st0 (s3.ro st.lim) := he.trans x3'
    have q2 := (hq _ he3).1
    obtain ⟨n, hn', c6⟩ := lsame_ok (st := s3.ro st.lim) x x.ln true (fun _ => rfl) aw pw bv qv r5 r6 (r3.ext he3) (r4.ext he3) s1 s2
    have c6' : cc 22 [.agg (lnRow (x, aw, pw)).toArray, .agg (lnRow (x, bv, qv)).toArray, .bool true] (s3.ro st.lim) = some (.bool true, (s3.ro st.lim).adv n) := c6
    obtain ⟨st', d1⟩ := ih (j + 1) ((s3.ro st.lim).adv n) (by omega) (he3.trans (.advR _ hn'))
    have hw := wrapI1 (i := j) (by omega)
    refine ⟨st', camshaftlaw16_UparseIs_l10_eq v w _ _ st ?_⟩
    simp only [camshaftlaw16_UparseIs_l10, decide_eq_true hlt, cond_true, e, Option.bind_some, q1, c3, e2, q2, c6', asB_bool, Bool.not_true, cond_false, hw]
    exact d1
/-! ### How great lines are -/
theorem argsT_len (k : Nat) (l : List Tok) (vs : List Val) (h : argsT k l = .ok vs) : vs.length ≤ k := by
  induction k generalizing l vs with
  | zero => cases h; simp
  | succ k ih =>
    cases l with
    | nil => cases h; simp
    | cons t r =>
      unfold argsT at h
      split at h
      · cases h; simp
      · cases hx : takeT (t :: r) with
        | error o => rw [hx] at h; cases h
        | ok y =>
          obtain ⟨v, n⟩ := y
          rw [hx] at h
          simp only at h
          cases hz : argsT k ((t :: r).drop n) with
          | error o => rw [hz] at h; cases h
          | ok ws => rw [hz] at h; cases h; have := ih _ _ hz; simp; omega
theorem pairsT_len (k : Nat) (seen : List (List UInt8)) (l : List Tok) (ps : List Pr) (h : pairsT k seen l = .ok ps) : ps.length ≤ k := by
  induction k generalizing seen l ps with
  | zero => cases h; simp
  | succ k ih =>
    cases l with
    | nil => cases h; simp
    | cons t r =>
      unfold pairsT at h
      split at h
      · cases h; simp
      · cases hx : pairT seen (t :: r) with
        | error o => rw [hx] at h; cases h
        | ok y =>
          obtain ⟨p, n⟩ := y
          rw [hx] at h
          simp only at h
          cases hz : pairsT k (seen ++ [p.fd]) ((t :: r).drop n) with
          | error o => rw [hz] at h; cases h
          | ok ws => rw [hz] at h; cases h; have := ih _ _ _ hz; simp; omega
theorem restT_len (lab : List UInt8) (l : List Tok) (x : PLine) (h : restT lab l = .ok x) : x.args.length ≤ l.length ∧ x.prs.length ≤ l.length := by
  cases l with
  | nil => cases h
  | cons t r =>
    rw [restT_cons] at h
    split at h
    · cases r with
      | nil => cases h
      | cons d u =>
        simp only at h
        split at h
        · cases hz : argsT u.length u with
          | error o => rw [hz] at h; cases h
          | ok vs => rw [hz] at h; cases h; have := argsT_len _ _ _ hz; simp; omega
        · cases h
    · cases hz : pairsT (t :: r).length [] (t :: r) with
      | error o => rw [hz] at h; cases h
      | ok vs => rw [hz] at h; cases h; have := pairsT_len _ _ _ _ hz; simp at *; omega
theorem readT_len (l : List Tok) (x : PLine) (h : readT l = .ok x) : x.args.length ≤ l.length ∧ x.prs.length ≤ l.length := by
  cases l with
  | nil => cases h
  | cons t r =>
    cases r with
    | nil => exact restT_len [] _ x h
    | cons s r =>
      rw [readT_two] at h
      split at h
      · cases hz : restT t.tx r with
        | error o => rw [hz] at h; cases h
        | ok y => rw [hz] at h; cases h; have := restT_len _ _ _ hz; simp; omega
      · exact restT_len [] _ x h
theorem parseLs_small (N : Nat) (tss : List (List Tok)) (i : Nat) (xs : List PLine) (hN : ∀ ts ∈ tss, ts.length ≤ N) (h : parseLs i tss = .ok xs) : xs.length ≤ tss.length ∧ ∀ x ∈ xs, x.args.length ≤ N ∧ x.prs.length ≤ N := by
  induction tss generalizing i xs with
  | nil => cases h; exact ⟨by simp, fun x hx => by cases hx⟩
  | cons ts r ih =>
    unfold parseLs at h
    cases hx : readT ts with
    | error o => rw [hx] at h; cases h
    | ok y =>
      rw [hx] at h
      simp only at h
      cases hz : parseLs (i + 1) r with
      | error e => rw [hz] at h; cases h
      | ok ys =>
        rw [hz] at h
        have h1 := ih (i + 1) ys (fun q hq => hN q (List.mem_cons_of_mem _ hq)) hz
        have h2 := readT_len ts y hx
        have h3 := hN ts (List.mem_cons_self ..)
        cases h
        split
        · refine ⟨by simp; omega, fun z hz' => ?_⟩
          rcases List.mem_cons.1 hz' with rfl | hz'
          · exact ⟨by show y.args.length ≤ N; omega, by show y.prs.length ≤ N; omega⟩
          · exact h1.2 z hz'
        · exact ⟨by simp; omega, h1.2⟩
theorem lexLs_small (N : Nat) (ps : List (List UInt8)) (i : Nat) (tss : List (List Tok)) (hN : ∀ p ∈ ps, p.length + 1 ≤ N) (h : lexLs i ps = .ok tss) : ∀ ts ∈ tss, ts.length ≤ N := by
  induction ps generalizing i tss with
  | nil => cases h; intro ts ht; cases ht
  | cons p r ih =>
    unfold lexLs at h
    cases hx : lineX p with
    | error c => rw [hx] at h; cases h
    | ok ts =>
      rw [hx] at h
      cases hy : lexLs (i + 1) r with
      | error e => rw [hy] at h; cases h
      | ok us =>
        rw [hy] at h; cases h
        intro ts' ht
        rcases List.mem_cons.1 ht with rfl | ht
        · have := lineX_len p _ hx; have := hN p (List.mem_cons_self ..); omega
        · exact ih _ _ (fun q hq => hN q (List.mem_cons_of_mem _ hq)) hy ts' ht
theorem parsT_small (l : List UInt8) (xs : List PLine) (h : parsT l = .ok xs) : xs.length ≤ l.length + 1 ∧ ∀ x ∈ xs, x.args.length ≤ l.length + 1 ∧ x.prs.length ≤ l.length + 1 := by
  unfold parsT at h
  cases hy : lexLs 0 (pieces 10 l) with
  | error e => rw [hy] at h; cases h
  | ok tss =>
    rw [hy] at h
    have h1 := lexLs_small (l.length + 1) _ _ _ (fun p hp => by have := pieces_mem 10 l p hp; omega) hy
    have h2 := parseLs_small (l.length + 1) tss 0 xs h1 h
    have h3 := lexLs_len _ _ _ hy
    have h4 := pieces_len 10 l
    exact ⟨by omega, h2.2⟩
theorem parseLs_pos (tss : List (List Tok)) (i : Nat) (e : Nat × Nat) (h : parseLs i tss = .error e) : 0 < e.1 := by
  induction tss generalizing i with
  | nil => cases h
  | cons ts r ih =>
    unfold parseLs at h
    cases hx : readT ts with
    | error o => rw [hx] at h; cases h; simp
    | ok y =>
      rw [hx] at h
      simp only at h
      cases hz : parseLs (i + 1) r with
      | error e' => rw [hz] at h; cases h; exact ih _ hz
      | ok ys => rw [hz] at h; cases h
theorem parsT_pos (l : List UInt8) (e : Nat × Nat) (h : parsT l = .error e) : 0 < e.1 := by
  unfold parsT at h
  cases hy : lexLs 0 (pieces 10 l) with
  | error e' =>
    rw [hy] at h; cases h
    refine lexPs_pos (pieces 10 l) 0 e ?_
    rw [lexPs_flat, hy]
  | ok tss => rw [hy] at h; exact parseLs_pos _ _ _ h
theorem small_of {l : List UInt8} {xs : List PLine} (hl : l.length ≤ 65536) (h : parsT l = .ok xs) : ∀ x ∈ xs, Small x := fun x hx => by
  have := (parsT_small l xs h).2 x hx
  exact ⟨by omega, by omega⟩

theorem uparseIs_ok [Sym] {st : SS} (hg : Gd st) (hl : st.lim ≤ st.next) (s : ByteArray) : ∃ st', cc 9 [.string s] st = some (.bool true, st') := by
  obtain ⟨n, hn, ha⟩ := alive16_ok hg
  have hg1 : Gd (st.adv n) := hg.ext ((Ext.refl st).adv hn)
  by_cases hs : 2048 < s.size
  · refine ⟨st.adv n, camshaftlaw16_UparseIs_eq s st ?_⟩
    have hs' : (2048 : Int) < (s.size : Int) := by omega
    simp only [camshaftlaw16_UparseIs, ha, Option.bind_some, asB_bool, Bool.not_true, cond_false, decide_eq_true hs', cond_true]
  have hs' : ¬ (2048 : Int) < (s.size : Int) := by omega
  have l1 : (st.adv n).lim ≤ (st.adv n).next := by simp; omega
  have h1 := parse_ok hg1 l1 s (by omega)
  have hb0 : Nat.beq 0 0 = true := rfl
  have hln : (lenV (.slice none 0 0)).bind (asI .i64) = some 0 := rfl
  cases hx : parsT (bl s) with
  | ok xs =>
    have hsm := parsT_small _ _ hx
    rw [bl_length] at hsm
    rw [hx] at h1
    obtain ⟨v, s3, c3, x3, L3⟩ := h1
    have c3' : cc 20 [.string s] (st.adv n) = some (.tuple #[v, pairV (0, 0), .int .i64 0], s3) := c3
    have l3 := x3.ll l1
    obtain ⟨s8, e8, a8, x8, _⟩ := newV_ok (st := s3) l3 (r := [.int .i64 0, .int .i64 0]) (v := pairV (0, 0)) (row := [.int .i64 0, .int .i64 0]) (n := 2) rfl rfl rfl rfl
    have h2 := rparse_ok (x8.ll l3) s (by omega)
    rw [hx] at h2
    obtain ⟨w, s9, c9, x9, L9⟩ := h2
    have c9' : cc 21 [.string s] s8 = some (.tuple #[w, pairV (0, 0)], s9) := c9
    have l9 := x9.ll (x8.ll l3)
    obtain ⟨s13, e13, a13, x13, _⟩ := newV_ok (st := s9) l9 (r := [.int .i64 0, .int .i64 0]) (v := pairV (0, 0)) (row := [.int .i64 0, .int .i64 0]) (n := 2) rfl rfl rfl rfl
    have a813 := (a8.ext x9).ext x13
    have m14 : s13.ldN s3.next 0 2 = some (.agg #[.int .i64 0, .int .i64 0]) := a813.ldN rfl
    have m15 : s13.ldN s9.next 0 2 = some (.agg #[.int .i64 0, .int .i64 0]) := a13.ldN rfl
    have m18 : s13.ld s9.next 0 = some (.int .i64 0) := a13.ld
    have L313 : LinesR s13 v xs := ((L3.ext x8).ext x9).ext x13
    have L913 : LinesR s13 w xs := L9.ext x13
    obtain ⟨st', d1⟩ := is_loop xs (small_of (by rw [bl_length]; omega) hx) (by omega) v w s13 (x13.ll l9) L313 L913 xs.length 0 s13 (by omega) (.refl _)
    have d1' : camshaftlaw16_UparseIs_lf 10 [v, w, .int .i64 xs.length, .int .i64 0] s13 = some (0, [], st') := d1
    have hbb : (true == true) = true := rfl
    refine ⟨st', camshaftlaw16_UparseIs_eq s st ?_⟩
    simp only [camshaftlaw16_UparseIs, ha, Option.bind_some, asB_bool, Bool.not_true, cond_false, decide_eq_false hs', c3', tupG, List.getElem?_toArray, List.getElem?_cons_succ, List.getElem?_cons_zero, asI_int, e8, c9', e13, m14, m15, eq_pair, decide_true, Bool.and_true, elemA0, m18, hbb, L3.len, L9.len]
    rw [d1', Option.bind_some]
    simp only [hb0, cond_true]
  | error e =>
    have hpos := parsT_pos _ _ hx
    rw [hx] at h1
    obtain ⟨s3, c3, x3⟩ := h1
    have c3' : cc 20 [.string s] (st.adv n) = some (.tuple #[.slice none 0 0, pairV e, .int .i64 4], s3) := c3
    have l3 := x3.ll l1
    obtain ⟨s8, e8, a8, x8, _⟩ := newV_ok (st := s3) l3 (r := [.int .i64 0, .int .i64 0]) (v := pairV e) (row := [.int .i64 e.1, .int .i64 e.2]) (n := 2) rfl rfl rfl rfl
    have h2 := rparse_ok (x8.ll l3) s (by omega)
    rw [hx] at h2
    obtain ⟨s9, c9, x9⟩ := h2
    have c9' : cc 21 [.string s] s8 = some (.tuple #[.slice none 0 0, pairV e], s9) := c9
    have l9 := x9.ll (x8.ll l3)
    obtain ⟨s13, e13, a13, x13, _⟩ := newV_ok (st := s9) l9 (r := [.int .i64 0, .int .i64 0]) (v := pairV e) (row := [.int .i64 e.1, .int .i64 e.2]) (n := 2) rfl rfl rfl rfl
    have a813 := (a8.ext x9).ext x13
    have m14 : s13.ldN s3.next 0 2 = some (.agg #[.int .i64 e.1, .int .i64 e.2]) := a813.ldN rfl
    have m15 : s13.ldN s9.next 0 2 = some (.agg #[.int .i64 e.1, .int .i64 e.2]) := a13.ldN rfl
    have m18 : s13.ld s9.next 0 = some (.int .i64 e.1) := a13.ld
    have h40 : decide ((4 : Int) = 0) = false := rfl
    have he0 : ¬ (e.1 : Int) = 0 := by omega
    have hbb : (false == false) = true := rfl
    have d1 : camshaftlaw16_UparseIs_lf 10 [.slice none 0 0, .slice none 0 0, .int .i64 0, .int .i64 0] s13 = some (0, [], s13) := by
      refine camshaftlaw16_UparseIs_l10_eq _ _ _ _ s13 ?_
      have : ¬ (0 : Int) < 0 := by omega
      simp only [camshaftlaw16_UparseIs_l10, decide_eq_false this, cond_false]
    refine ⟨s13, camshaftlaw16_UparseIs_eq s st ?_⟩
    simp only [camshaftlaw16_UparseIs, ha, Option.bind_some, asB_bool, Bool.not_true, cond_false, decide_eq_false hs', c3', tupG, List.getElem?_toArray, List.getElem?_cons_succ, List.getElem?_cons_zero, asI_int, e8, c9', e13, m14, m15, eq_pair, decide_true, Bool.and_true, elemA0, m18, h40, decide_eq_false he0, hbb, Bool.not_false, cond_true, hln]
    rw [d1, Option.bind_some]
    simp only [hb0, cond_true]

/-! ### UparseLines -/
theorem parsT_piece {l p : List UInt8} (hp : p ∈ pieces 10 l) {ts : List Tok} (hy : lineX p = .ok ts) {x : PLine} (hx : readT ts = .ok x) : parsT p = .ok (if 1 < ts.length then [{ x with ln := 1 }] else []) := by
  unfold parsT
  rw [pieces_none (pieces_no 10 l p hp)]
  have e1 : lexLs 0 [p] = .ok [ts] := by
    unfold lexLs
    rw [hy]
    rfl
  rw [e1]
  show parseLs 0 [ts] = _
  unfold parseLs
  rw [hx]
  rfl
theorem plines_loop [Sym] (l : List UInt8) (hl2 : l.length ≤ 2048) (xs : List PLine) (hn : xs.length ≤ 1099511627776) (hsm : ∀ x ∈ xs, Small x) (v w : Value) (st0 : SS) (hg : Gd st0) (hll : st0.lim ≤ st0.next) (h1 : LinesR st0 v xs) (hw : Rd st0 w (strs (pieces 10 l)) 1 (pieces 10 l).length) :
    ∀ (ps : List (List UInt8)) (i n : Nat) (tss : List (List Tok)) (st : SS), (pieces 10 l).drop i = ps → i ≤ (pieces 10 l).length → lexLs i ps = .ok tss → parseLs i tss = .ok (xs.drop n) → n ≤ xs.length → Ext st0 st →
    ∃ st', camshaftlaw16_UparseLines_lf 10 [v, .int .i64 n, w, .int .i64 (pieces 10 l).length, .int .i64 i] st = some (0, [v, .int .i64 xs.length], st') := by
  have hall := pieces_len 10 l
  intro ps
  induction ps with
  | nil =>
    intro i n tss st hd hi hx hy hnx he
    cases hx
    have hil : i = (pieces 10 l).length := by rw [List.drop_eq_nil_iff] at hd; omega
    have hnl : n = xs.length := by
      have h2 : (Except.ok [] : Except (Nat × Nat) (List PLine)) = .ok (xs.drop n) := hy
      have h3 : xs.drop n = [] := by
        cases h2' : xs.drop n with
        | nil => rfl
        | cons x y => rw [h2'] at h2; cases h2
      rw [List.drop_eq_nil_iff] at h3; omega
    subst hil; subst hnl
    have hlt : ¬ ((pieces 10 l).length : Int) < ((pieces 10 l).length : Int) := by omega
    refine ⟨st, camshaftlaw16_UparseLines_l10_eq v _ w _ _ st ?_⟩
    simp only [camshaftlaw16_UparseLines_l10, decide_eq_false hlt, cond_false]
  | cons p r ih =>
    intro i n tss st hd hi hx hy hnx he
    have hgp : (pieces 10 l)[i]? = some p := by
      have := congrArg (·[0]?) hd
      simpa using this
    have hlt : i < (pieces 10 l).length := (List.getElem?_eq_some_iff.1 hgp).1
    have hpm : p ∈ pieces 10 l := List.mem_of_getElem? hgp
    have hpl := pieces_mem 10 l p hpm
    have hr : (pieces 10 l).drop (i + 1) = r := by
      have := drop_cons hgp
      rw [hd] at this
      exact (List.cons.inj this).2.symm
    have hlt' : (i : Int) < ((pieces 10 l).length : Int) := by omega
    unfold lexLs at hx
    cases hq : lineX p with
    | error c => rw [hq] at hx; cases hx
    | ok ts =>
      rw [hq] at hx
      cases hz : lexLs (i + 1) r with
      | error e => rw [hz] at hx; cases hx
      | ok tss' =>
        rw [hz] at hx
        cases hx
        unfold parseLs at hy
        cases hu : readT ts with
        | error o => rw [hu] at hy; cases hy
        | ok x =>
          rw [hu] at hy
          simp only at hy
          cases hv : parseLs (i + 1) tss' with
          | error e => rw [hv] at hy; cases hy
          | ok ys =>
            rw [hv] at hy
            have hy' := Except.ok.inj hy
            obtain ⟨q, hq1, hq2, hq3⟩ := (hw.ext he).load (j := (i : Int)) (by omega) hlt' (strs_get _ i p hgp) rfl
            have hld : (st.ld q.1 q.2).bind asS = some (mkS p) := by
              have := hq3 0 (by omega)
              rw [Nat.add_zero] at this
              rw [this]; rfl
            have h2 := parse_ok (hg.ext he) (he.ll hll) (mkS p) (by simp; omega)
            rw [bl_mkS, parsT_piece hpm hq hu] at h2
            obtain ⟨v4, s3, c3, x3, L3⟩ := h2
            have c3' : cc 20 [.string (mkS p)] st = some (.tuple #[v4, pairV (0, 0), .int .i64 0], s3) := c3
            have l3 := x3.ll (he.ll hll)
            obtain ⟨s8, e8, a8, x8, _⟩ := newV_ok (st := s3) l3 (r := [.int .i64 0, .int .i64 0]) (v := pairV (0, 0)) (row := [.int .i64 0, .int .i64 0]) (n := 2) rfl rfl rfl rfl
            have he8 := (he.trans x3).trans x8
            have hw1 : IntKind.wrap .i64 ((i : Int) + 1) = ((i + 1 : Nat) : Int) := wrapI1 (by omega)
            by_cases hkp : 1 < ts.length
            · rw [if_pos hkp] at hy' L3
              have hxn : xs[n]? = some { x with ln := i + 1 } := by
                have := congrArg (·[0]?) hy'
                simpa using this.symm
              have hnlt := (List.getElem?_eq_some_iff.1 hxn).1
              have hdn : xs.drop (n + 1) = ys := by
                have := drop_cons hxn
                rw [← hy'] at this
                exact (List.cons.inj this).2.symm
              obtain ⟨sm1, sm2⟩ := hsm _ (List.mem_of_getElem? hxn)
              obtain ⟨z, av, pv, f1, f2, f3, f4⟩ := h1.get hxn
              obtain ⟨g1, g2⟩ := f4 s8 he8
              have L8 := L3.ext x8
              obtain ⟨z', bv, qv, f1', f2', f3', f4'⟩ := L8.get (j := 0) (x := { x with ln := 1 }) rfl
              have f1'' : elemS v4 0 5 = some z' := f1'
              have r1 : Rd (s8.ro s8.next) av (rowsF valRow x.args) 3 x.args.length := by have h := f2.ext he8; exact h
              have r2 : Rd (s8.ro s8.next) pv (rowsF prRow x.prs) 5 x.prs.length := by have h := f3.ext he8; exact h
              obtain ⟨s17, aw, pw, c17, x17, r5, r6⟩ := lline_ok (st := s8.ro s8.next) (Nat.le_refl _) { x with ln := i + 1 } av pv r1 r2 sm1 sm2
              have x17' := Ext.unro x17
              obtain ⟨g1', _⟩ := f4' _ x17'
              have r3 : Rd (s17.ro s8.lim) bv (rowsF valRow x.args) 3 x.args.length := f2'.ext x17'
              have r4 : Rd (s17.ro s8.lim) qv (rowsF prRow x.prs) 5 x.prs.length := f3'.ext x17'
              have l8 := x8.ll l3
              have l17 : (s17.ro s8.lim).lim ≤ (s17.ro s8.lim).next := x17'.ll l8
              obtain ⟨s20, bw, qw, c20, x20, r7, r8⟩ := lline_ok (st := s17.ro s8.lim) l17 { x with ln := 1 } bv qv r3 r4 sm1 sm2
              have r5' : Rd (s17.ro s8.lim) aw (rowsF valRow x.args) 3 x.args.length := r5
              have r6' : Rd (s17.ro s8.lim) pw (rowsF prRow x.prs) 5 x.prs.length := r6
              obtain ⟨m, hm, c21⟩ := lsame_ok (st := s20) { x with ln := i + 1 } 1 false (fun h => by cases h) aw pw bw qw (r5'.ext x20) (r6'.ext x20) r7 r8 sm1 sm2
              have c21' : cc 22 [.agg (lnRow ({ x with ln := i + 1 }, aw, pw)).toArray, .agg (lnRow ({ x with ln := 1 }, bw, qw)).toArray, .bool false] s20 = some (.bool true, s20.adv m) := c21
              have hwn : IntKind.wrap .i64 ((n : Int) + 1) = ((n + 1 : Nat) : Int) := wrapI1 (by omega)
              have next := ih (i + 1) (n + 1) tss' (s20.adv m) hr (by omega) hz (by rw [hdn]; exact hv) (by omega) (((he8.trans x17').trans x20).trans (.advR _ hm))
              obtain ⟨st', d1⟩ := next
              have hl4 : (lenV v4).bind (asI .i64) = some 1 := L3.len
              have h11 : ¬ (1 : Int) < 1 := by omega
              have hnle : ¬ (xs.length : Int) ≤ (n : Int) := by omega
              refine ⟨st', camshaftlaw16_UparseLines_l10_eq v _ w _ _ st ?_⟩
              simp only [camshaftlaw16_UparseLines_l10, decide_eq_true hlt', cond_true, hq1, Option.bind_some, hld, c3', tupG, List.getElem?_toArray, List.getElem?_cons_succ, List.getElem?_cons_zero, asI_int, e8, decide_true, Bool.not_true, cond_false, hl4, decide_eq_false h11, h1.len, decide_eq_false hnle, f1, g2, hw1, g1, c17, f1'', g1', c20, c21', asB_bool, hwn]
              exact d1
            · rw [if_neg hkp] at hy' L3
              have hl4 : (lenV v4).bind (asI .i64) = some 0 := L3.len
              have next := ih (i + 1) n tss' s8 hr (by omega) hz (by rw [hv, hy']) hnx he8
              obtain ⟨st', d1⟩ := next
              have h11 : ¬ (1 : Int) < 0 := by omega
              have h12 : ¬ (0 : Int) = 1 := by omega
              refine ⟨st', camshaftlaw16_UparseLines_l10_eq v _ w _ _ st ?_⟩
              simp only [camshaftlaw16_UparseLines_l10, decide_eq_true hlt', cond_true, hq1, Option.bind_some, hld, c3', tupG, List.getElem?_toArray, List.getElem?_cons_succ, List.getElem?_cons_zero, asI_int, e8, decide_true, Bool.not_true, cond_false, hl4, decide_eq_false h11, decide_eq_false h12, hw1]
              exact d1
theorem uparseLines_ok [Sym] {st : SS} (hg : Gd st) (hl : st.lim ≤ st.next) (s : ByteArray) : ∃ st', cc 10 [.string s] st = some (.bool true, st') := by
  obtain ⟨n, hn, ha⟩ := alive16_ok hg
  have hg1 : Gd (st.adv n) := hg.ext ((Ext.refl st).adv hn)
  by_cases hs : 2048 < s.size
  · refine ⟨st.adv n, camshaftlaw16_UparseLines_eq s st ?_⟩
    have hs' : (2048 : Int) < (s.size : Int) := by omega
    simp only [camshaftlaw16_UparseLines, ha, Option.bind_some, asB_bool, Bool.not_true, cond_false, decide_eq_true hs', cond_true]
  have hs' : ¬ (2048 : Int) < (s.size : Int) := by omega
  have l1 : (st.adv n).lim ≤ (st.adv n).next := by simp; omega
  have h1 := parse_ok hg1 l1 s (by omega)
  have hb0 : Nat.beq 0 0 = true := rfl
  cases hx : parsT (bl s) with
  | ok xs =>
    have hsm := parsT_small _ _ hx
    rw [bl_length] at hsm
    rw [hx] at h1
    obtain ⟨v, s3, c3, x3, L3⟩ := h1
    have c3' : cc 20 [.string s] (st.adv n) = some (.tuple #[v, pairV (0, 0), .int .i64 0], s3) := c3
    have l3 := x3.ll l1
    obtain ⟨s8, e8, a8, x8, _⟩ := newV_ok (st := s3) l3 (r := [.int .i64 0, .int .i64 0]) (v := pairV (0, 0)) (row := [.int .i64 0, .int .i64 0]) (n := 2) rfl rfl rfl rfl
    obtain ⟨w, s12, c12, x12, o12⟩ := cut_ok s 10 (by omega) s8 (x8.ll l3)
    have c12' : cc 18 [.string s, .int .u8 10] s8 = some (w, s12) := c12
    have hlw : (lenV w).bind (asI .i64) = some ((pieces 10 (bl s)).length : Int) := by rw [o12.rd.len]; rfl
    unfold parsT at hx
    cases hy : lexLs 0 (pieces 10 (bl s)) with
    | error e => rw [hy] at hx; cases hx
    | ok tss =>
      rw [hy] at hx
      have hx2 : parsT (bl s) = .ok xs := by unfold parsT; rw [hy]; exact hx
      obtain ⟨st', d1⟩ := plines_loop (bl s) (by rw [bl_length]; omega) xs (by omega) (small_of (by rw [bl_length]; omega) hx2) v w s12 (((hg1.ext x3).ext x8).ext x12) (x12.ll (x8.ll l3)) ((L3.ext x8).ext x12) o12.rd (pieces 10 (bl s)) 0 0 tss s12 rfl (by omega) hy (by simpa using hx) (by omega) (.refl _)
      have d1' : camshaftlaw16_UparseLines_lf 10 [v, .int .i64 0, w, .int .i64 (pieces 10 (bl s)).length, .int .i64 0] s12 = some (0, [v, .int .i64 xs.length], st') := d1
      refine ⟨st', camshaftlaw16_UparseLines_eq s st ?_⟩
      simp only [camshaftlaw16_UparseLines, ha, Option.bind_some, asB_bool, Bool.not_true, cond_false, decide_eq_false hs', c3', tupG, List.getElem?_toArray, List.getElem?_cons_succ, List.getElem?_cons_zero, asI_int, e8, decide_true, c12', hlw]
      rw [d1', Option.bind_some]
      simp only [hb0, cond_true, List.getElem?_cons_succ, List.getElem?_cons_zero, Option.bind_some, asI_int, L3.len, decide_true]
  | error e =>
    have hpos := parsT_pos _ _ hx
    rw [hx] at h1
    obtain ⟨s3, c3, x3⟩ := h1
    have c3' : cc 20 [.string s] (st.adv n) = some (.tuple #[.slice none 0 0, pairV e, .int .i64 4], s3) := c3
    have l3 := x3.ll l1
    obtain ⟨s8, e8, a8, x8, _⟩ := newV_ok (st := s3) l3 (r := [.int .i64 0, .int .i64 0]) (v := pairV e) (row := [.int .i64 e.1, .int .i64 e.2]) (n := 2) rfl rfl rfl rfl
    have m11 : s8.ld s3.next 0 = some (.int .i64 e.1) := a8.ld
    have h40 : decide ((4 : Int) = 0) = false := rfl
    have hln : (lenV (.slice none 0 0)).bind (asI .i64) = some 0 := rfl
    have hpos' : (0 : Int) < (e.1 : Int) := by omega
    refine ⟨s8, camshaftlaw16_UparseLines_eq s st ?_⟩
    simp only [camshaftlaw16_UparseLines, ha, Option.bind_some, asB_bool, Bool.not_true, cond_false, decide_eq_false hs', c3', tupG, List.getElem?_toArray, List.getElem?_cons_succ, List.getElem?_cons_zero, asI_int, e8, h40, Bool.not_false, cond_true, hln, decide_true, elemA0, m11, decide_eq_true hpos']
end Go.Proofs.YthngaoncjpgeiaaDoorE
