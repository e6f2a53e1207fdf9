/- The reference's reading of lines. -/
import Derived.Test.YthngaoncjpgeiaaDoorPar7
import Derived.Test.YthngaoncjpgeiaaDoorShR
set_option linter.unusedVariables false
set_option linter.unusedSimpArgs false
namespace Go.Proofs.YthngaoncjpgeiaaDoorE
open Go Go.E Go.Proofs

/-- Tokens that may be read, in a block below a bound. -/
structure RT (st : SS) (v : Value) (us : List (Nat × Tok)) (hi : Nat) : Prop where
  rd : Rd st v (rowsL us) 5 us.length
  vb : ∀ j k l q, v = .slice (some ⟨j, k, none⟩) l q → j < hi
  sz : us.length ≤ 1099511627776 / 8
section
variable {S : List Nat} {st st' : SS} {v : Value} {us : List (Nat × Tok)} {hi B : Nat}
theorem RT.keepB (h : RT st v us hi) (k : Keep B S st st') (hB : hi ≤ B) (hS : ∀ j, j ∈ S → hi ≤ j) : RT st' v us hi := by
  refine ⟨?_, h.vb, h.sz⟩
  obtain ⟨h1, h2⟩ := h.rd
  refine ⟨h1, h2.imp id ?_⟩
  rintro ⟨j, cap, e, ⟨z', hm⟩, hj⟩
  have hjb := h.vb j 0 _ cap e
  exact ⟨j, cap, e, ⟨z', (k.keep j (by omega) (fun hx => by have := hS j hx; omega)).trans hm⟩, Nat.lt_of_lt_of_le hj k.next⟩
theorem RT.ext (h : RT st v us hi) (x : Ext st st') : RT st' v us hi := ⟨h.rd.ext x, h.vb, h.sz⟩
/-- A token's place. -/
theorem RT.at' (h : RT st v us hi) {i : Nat} {t : Nat × Tok} (ht : us[i]? = some t) : ∃ p, elemS v (i : Int) 5 = some p ∧ ∀ s : SS, RT s v us hi →
    s.ld p.1 p.2 = some (.int .i64 t.2.kd) ∧ s.ld p.1 (p.2 + 1) = some (.string (mkS t.2.tx)) ∧ s.ld p.1 (p.2 + 2) = some (.int .i64 t.2.nm) ∧ s.ld p.1 (p.2 + 3) = some (.int .i64 t.1) ∧ s.ld p.1 (p.2 + 4) = some (.int .i64 t.2.col) := by
  have hlt : (i : Int) < (us.length : Int) := by have := (List.getElem?_eq_some_iff.1 ht).1; omega
  obtain ⟨p, a1, _, _⟩ := h.rd.load (j := (i : Int)) (by omega) hlt (rowsL_get us i t ht) rfl
  refine ⟨p, a1, fun s hs => ?_⟩
  obtain ⟨q, b1, _, b3⟩ := hs.rd.load (j := (i : Int)) (by omega) hlt (rowsL_get us i t ht) rfl
  rw [a1] at b1
  cases b1
  exact ⟨b3 0 (by omega), b3 1 (by omega), b3 2 (by omega), b3 3 (by omega), b3 4 (by omega)⟩
theorem RT.len (h : RT st v us hi) : (lenV v).bind (asI .i64) = some (us.length : Int) := by rw [h.rd.len]; rfl
end
theorem ris_ok [Sym] {st : SS} {v : Value} {us : List (Nat × Tok)} {hi i : Nat} (h : RT st v us hi) {t : Nat × Tok} (ht : us[i]? = some t) (sg : List UInt8) : cc 50 [v, .int .i64 i, .int .i64 3, .string (mkS sg)] st = some (.bool (isSign t.2 sg), st) := by
  obtain ⟨p, e, hp⟩ := h.at' ht
  obtain ⟨k0, k1, _⟩ := hp (st.ro st.next) ⟨h.rd, h.vb, h.sz⟩
  have hlt : (i : Int) < (us.length : Int) := by have := (List.getElem?_eq_some_iff.1 ht).1; omega
  refine camshaftref16_is_eq v _ _ _ st ?_
  unfold isSign
  by_cases hk : t.2.kd = 3
  · have hk' : (t.2.kd : Int) = 3 := by omega
    rw [decide_eq_true hk]
    simp only [camshaftref16_is, h.len, Option.bind_some, decide_eq_true hlt, cond_true, e, k0, k1, asI_int, asS_string, decide_eq_true hk', eqT_dec, Bool.true_and]
    rfl
  · have hk' : ¬ (t.2.kd : Int) = 3 := by omega
    rw [decide_eq_false hk]
    simp only [camshaftref16_is, h.len, Option.bind_some, decide_eq_true hlt, cond_true, e, k0, asI_int, decide_eq_false hk', cond_false, Bool.false_and]
    rfl
theorem LineAt.isz {us : List (Nat × Tok)} {i ln : Nat} {l : List Tok} (hl : LineAt us i ln l) : i < us.length := by
  obtain ⟨t, r, rfl⟩ := hl.lin.ne
  exact (List.getElem?_eq_some_iff.1 hl.head).1
theorem flat3_val (w : Val) (n : Int) : flat3 (.tuple #[.agg (valRow w).toArray, .int .i64 n]) = true := by rfl
theorem wrapN {n : Int} (h0 : -1000000 ≤ n) (h1 : n ≤ 2199023255552) : IntKind.wrap .i64 n = n := wrap64 (by omega) (by omega)

/-- What Take comes to. -/
def TakR (v : Value) (i : Nat) (st : SS) (r : Option (Value × SS)) : Except Nat (Val × Nat) → Prop
  | .ok (x, n) => ∃ m, st.next ≤ m ∧ r = some (.tuple #[.agg (valRow x).toArray, .int .i64 n], st.adv m)
  | .error o => ∃ m w, st.next ≤ m ∧ r = some (.tuple #[.agg (valRow w).toArray, .int .i64 (-((o : Int) + 1))], st.adv m)
theorem take_ok [Sym] {st : SS} {v : Value} {us : List (Nat × Tok)} {hi i ln : Nat} {l : List Tok} (h : RT st v us hi) (hhi : hi ≤ st.next) (hl : LineAt us i ln l) : TakR v i st (cc 51 [v, .int .i64 i] st) (takeT l) := by
  obtain ⟨t, r, rfl⟩ := hl.lin.ne
  have hisz : i ≤ 1099511627776 := by have := hl.isz; have := h.sz; omega
  have h0 : RT (st.ro st.next) v us hi := ⟨h.rd, h.vb, h.sz⟩
  have a1 : At ((st.ro st.next).new (.cells Z3 0)) st.next Z3 := At.new (st := st.ro st.next) (Nat.le_refl _) Z3
  have x1 : Ext (st.ro st.next) ((st.ro st.next).new (.cells Z3 0)) := (Ext.refl _).new _
  obtain ⟨p, e, hp⟩ := h.at' hl.head
  obtain ⟨s5, e5, a5, x5, n5⟩ := new_ok (st := (st.ro st.next).new (.cells Z3 0)) (by simp) (r := Z3) (row := valRow ⟨[], 0, t.col⟩) rfl rfl
  have e5' : (((st.ro st.next).new (.cells Z3 0)).new (.cells Z3 0)).st ((st.ro st.next).new (.cells Z3 0)).next 0 [.string ⟨#[]⟩, .int .i64 0, .int .i64 t.col] = some s5 := e5
  have b5 := a1.ext x5
  have h5 := (h0.ext x1).ext x5
  obtain ⟨_, _, _, _, q4⟩ := hp _ (h0.ext x1)
  obtain ⟨k0, k1, k2, _, _⟩ := hp _ h5
  have hn5 : s5.next = st.next + 2 := by rw [n5]; rfl
  have hj : ((st.ro st.next).new (.cells Z3 0)).next = st.next + 1 := rfl
  have nx : ∀ {s : SS}, s5.next ≤ s.next → st.next ≤ s.next := fun hs => by omega
  rw [takeT_cons]
  by_cases h2 : t.kd = 2
  · rw [if_pos h2]
    have h2' : (t.kd : Int) = 2 := by omega
    obtain ⟨s10, e10, a10, m10, n10⟩ := a5.sto (k := 1) (vs := [.int .i64 t.nm]) (row' := valRow ⟨[], t.nm, t.col⟩) rfl rfl
    obtain ⟨s12, f1, f2, f3, f4, _⟩ := fin_ok (n := 3) (b5.mod m10 (by simp)) rfl a10 rfl rfl
    refine ⟨s12.next, nx (by have := f4.next; omega), camshaftref16_Take_eq v _ st ?_⟩
    simp only [camshaftref16_Take, SS.ro_next, e, Option.bind_some, q4, asI_int, e5', k0, decide_eq_true h2', cond_true, k2, e10, f1, f2, f3, flat3_val]
    rfl
  · rw [if_neg h2]
    have h2' : ¬ (t.kd : Int) = 2 := by omega
    by_cases h1 : t.kd = 1
    case neg =>
      rw [if_neg h1]
      have h1' : ¬ (t.kd : Int) = 1 := by omega
      obtain ⟨s17, f1, f2, f3, f4, _⟩ := fin_ok (n := 3) b5 rfl a5 rfl rfl
      have hfl := flat3_val ⟨[], 0, t.col⟩ (-1)
      refine ⟨s17.next, ⟨[], 0, t.col⟩, nx (by have := f4.next; omega), camshaftref16_Take_eq v _ st ?_⟩
      simp only [camshaftref16_Take, SS.ro_next, e, Option.bind_some, q4, asI_int, e5', k0, decide_eq_false h2', cond_false, decide_eq_false h1', Bool.not_false, cond_true, f1, f2, f3, hfl]
      rfl
    rw [if_pos h1]
    have h1' : (t.kd : Int) = 1 := by omega
    have hl1 := hl.tail (by omega)
    obtain ⟨s, u, rfl⟩ := hl1.lin.ne
    obtain ⟨s21, e21, a21, m21, n21⟩ := a5.sto (k := 0) (vs := [.string (mkS t.tx)]) (row' := valRow ⟨t.tx, 0, t.col⟩) rfl rfl
    have b21 := b5.mod m21 (by simp)
    have h21 : RT s21 v us hi := h5.keepB (m21.keepB (Nat.le_refl _)) (by omega) (by simp; omega)
    have hw1 := wrapI1 hisz
    have hw2 : IntKind.wrap .i64 ((i : Int) + 2) = ((i + 2 : Nat) : Int) := wrapI hisz (k := 2) (by omega)
    have c1 := ris_ok h21 hl1.head [43]
    have c1' : cc 50 [v, .int .i64 ((i + 1 : Nat) : Int), .int .i64 3, .string ⟨#[43]⟩] s21 = some (.bool (isSign s [43]), s21) := c1
    simp only
    by_cases hpl : isSign s [43] = true
    · rw [hpl] at c1'
      rw [if_pos hpl]
      have hl2 := hl1.tail (by have := isSign_kd hpl; omega)
      obtain ⟨w, z, rfl⟩ := hl2.lin.ne
      obtain ⟨p2, g2, hp2⟩ := h.at' hl2.head
      have g2' : elemS v ((i + 2 : Nat) : Int) 5 = some p2 := g2
      obtain ⟨w0, _, w2, _⟩ := hp2 s21 h21
      simp only
      by_cases hw : w.kd = 2
      · rw [if_pos hw]
        have hw' : (w.kd : Int) = 2 := by omega
        obtain ⟨s59, e59, a59, m59, n59⟩ := a21.sto (k := 1) (vs := [.int .i64 w.nm]) (row' := valRow ⟨t.tx, w.nm, t.col⟩) rfl rfl
        obtain ⟨s67, f1, f2, f3, f4, _⟩ := fin_ok (n := 3) (b21.mod m59 (by simp)) rfl a59 rfl rfl
        have hfl := flat3_val ⟨t.tx, w.nm, t.col⟩ 3
        refine ⟨s67.next, nx (by have := f4.next; omega), camshaftref16_Take_eq v _ st ?_⟩
        simp only [camshaftref16_Take, SS.ro_next, e, Option.bind_some, q4, asI_int, asS_string, e5', k0, k1, decide_eq_false h2', cond_false, decide_eq_true h1', Bool.not_true, e21, hw1, c1', asB_bool, hw2, g2', w0, decide_eq_true hw', w2, e59, f1, f2, f3, hfl, cond_true]
        rfl
      · rw [if_neg hw]
        have hw' : ¬ (w.kd : Int) = 2 := by omega
        obtain ⟨s54, f1, f2, f3, f4, _⟩ := fin_ok (n := 3) b21 rfl a21 rfl rfl
        have hfl := flat3_val ⟨t.tx, 0, t.col⟩ (-3)
        refine ⟨s54.next, ⟨t.tx, 0, t.col⟩, nx (by have := f4.next; omega), camshaftref16_Take_eq v _ st ?_⟩
        simp only [camshaftref16_Take, SS.ro_next, e, Option.bind_some, q4, asI_int, asS_string, e5', k0, k1, decide_eq_false h2', cond_false, decide_eq_true h1', Bool.not_true, e21, hw1, c1', asB_bool, hw2, g2', w0, decide_eq_false hw', Bool.not_false, f1, f2, f3, hfl, cond_true]
        rfl
    · have hpl' : isSign s [43] = false := Bool.eq_false_iff.2 hpl
      rw [hpl'] at c1'
      rw [if_neg hpl]
      have c2 := ris_ok h21 hl1.head [45]
      have c2' : cc 50 [v, .int .i64 ((i + 1 : Nat) : Int), .int .i64 3, .string ⟨#[45]⟩] s21 = some (.bool (isSign s [45]), s21) := c2
      by_cases hm : isSign s [45] = true
      · rw [hm] at c2'
        rw [if_pos hm]
        have hl2 := hl1.tail (by have := isSign_kd hm; omega)
        obtain ⟨w, z, rfl⟩ := hl2.lin.ne
        obtain ⟨p2, g2, hp2⟩ := h.at' hl2.head
        have g2' : elemS v ((i + 2 : Nat) : Int) 5 = some p2 := g2
        obtain ⟨w0, _, w2, _⟩ := hp2 s21 h21
        simp only
        by_cases hw : w.kd = 2
        · rw [if_pos hw]
          have hw' : (w.kd : Int) = 2 := by omega
          obtain ⟨s40, e40, a40, m40, n40⟩ := a21.sto (k := 1) (vs := [.int .i64 w.nm]) (row' := valRow ⟨t.tx, w.nm, t.col⟩) rfl rfl
          have l41 : s40.ld ((st.ro st.next).new (.cells Z3 0)).next 1 = some (.int .i64 w.nm) := a40.ld
          obtain ⟨s43, e43, a43, m43, n43⟩ := a40.sto (k := 1) (vs := [.int .i64 (-w.nm)]) (row' := valRow ⟨t.tx, -w.nm, t.col⟩) rfl rfl
          obtain ⟨s45, f1, f2, f3, f4, _⟩ := fin_ok (n := 3) ((b21.mod m40 (by simp)).mod m43 (by simp)) rfl a43 rfl rfl
          have hneg := wrapNeg hl2.tok.nm0 hl2.tok.nm1
          have hfl := flat3_val ⟨t.tx, -w.nm, t.col⟩ 3
          refine ⟨s45.next, nx (by have := f4.next; omega), camshaftref16_Take_eq v _ st ?_⟩
          simp only [camshaftref16_Take, SS.ro_next, e, Option.bind_some, q4, asI_int, asS_string, e5', k0, k1, decide_eq_false h2', cond_false, decide_eq_true h1', Bool.not_true, e21, hw1, c1', asB_bool, Bool.not_false, cond_true, c2', hw2, g2', w0, decide_eq_true hw', w2, e40, l41, hneg, e43, f1, f2, f3, hfl]
          rfl
        · rw [if_neg hw]
          have hw' : ¬ (w.kd : Int) = 2 := by omega
          obtain ⟨s54, f1, f2, f3, f4, _⟩ := fin_ok (n := 3) b21 rfl a21 rfl rfl
          have hfl := flat3_val ⟨t.tx, 0, t.col⟩ (-3)
          refine ⟨s54.next, ⟨t.tx, 0, t.col⟩, nx (by have := f4.next; omega), camshaftref16_Take_eq v _ st ?_⟩
          simp only [camshaftref16_Take, SS.ro_next, e, Option.bind_some, q4, asI_int, asS_string, e5', k0, k1, decide_eq_false h2', cond_false, decide_eq_true h1', Bool.not_true, e21, hw1, c1', asB_bool, Bool.not_false, cond_true, c2', hw2, g2', w0, decide_eq_false hw', f1, f2, f3, hfl]
          rfl
      · have hm' : isSign s [45] = false := Bool.eq_false_iff.2 hm
        rw [hm'] at c2'
        rw [if_neg hm]
        obtain ⟨s54, f1, f2, f3, f4, _⟩ := fin_ok (n := 3) b21 rfl a21 rfl rfl
        have hfl := flat3_val ⟨t.tx, 0, t.col⟩ 1
        refine ⟨s54.next, nx (by have := f4.next; omega), camshaftref16_Take_eq v _ st ?_⟩
        simp only [camshaftref16_Take, SS.ro_next, e, Option.bind_some, q4, asI_int, asS_string, e5', k0, k1, decide_eq_false h2', cond_false, decide_eq_true h1', Bool.not_true, e21, hw1, c1', asB_bool, Bool.not_false, cond_true, c2', f1, f2, f3, hfl]
        rfl

/-! ### The loops -/
def RArgsR (B lb j2 : Nat) (w0 w1 w2 w4 v : Value) (i : Nat) (vs : List Val) (st : SS) (r : Option (Nat × List Value × SS)) : Except Nat (List Val) → Prop
  | .ok qs => ∃ st' av', r = some (0, [ptr j2 0, ptr lb 0], st') ∧ Keep B [lb] st st' ∧ At st' lb [w0, w1, w2, av', w4] ∧ Own B st' av' (rowsF valRow (vs ++ qs)) 3 (vs ++ qs).length
  | .error o => ∃ st' row, r = some (1, [ptr j2 0, .int .i64 ((i + o : Nat) : Int)], st') ∧ Keep B [lb, j2] st st' ∧ At st' j2 row ∧ row.length = 5 ∧ row.all one = true
theorem rargs_loop [Sym] {ln lb B j2 hi : Nat} {v w0 w1 w2 w4 : Value} {us : List (Nat × Tok)} (hhj : hi ≤ j2) (hjl : j2 < lb) (hlB : lb < B) (hw : one w0 = true ∧ one w1 = true ∧ one w2 = true ∧ one w4 = true) : ∀ (k i : Nat) (l : List Tok) (vs : List Val) (av : Value) (st : SS), l.length ≤ k → vs.length + k ≤ 1099511627776 / 8 → st.lim ≤ st.next → RT st v us hi → LineAt us i ln l →
    At st lb [w0, w1, w2, av, w4] → (∃ r2, At st j2 r2 ∧ r2.length = 5) → B ≤ st.next → Own B st av (rowsF valRow vs) 3 vs.length →
    RArgsR B lb j2 w0 w1 w2 w4 v i vs st (camshaftref16_Read_lf 11 [v, ptr j2 0, ptr lb 0, .int .i64 i] st) (argsT k l) := by
  intro k
  induction k with
  | zero =>
    intro i l vs av st hk _ _ h hl
    obtain ⟨t, r, rfl⟩ := hl.lin.ne
    simp at hk
  | succ k ih =>
    intro i l vs av st hk hvs hll h hl ha hj2 hB ho
    obtain ⟨t, r, rfl⟩ := hl.lin.ne
    obtain ⟨p, e, hp⟩ := h.at' hl.head
    obtain ⟨k0, _⟩ := hp st h
    have hlim : st.lim ≤ B := by have := ha.2.2; omega
    have hisz : i ≤ 1099511627776 := by have := hl.isz; have := h.sz; omega
    unfold argsT
    by_cases h0 : t.kd = 0
    · rw [if_pos h0]
      have hr := hl.lin.last h0
      subst hr
      have h0' : (t.kd : Int) = 0 := by omega
      refine ⟨st, av, camshaftref16_Read_l11_eq v _ _ _ st ?_, .refl _, ha, by simpa using ho⟩
      simp only [camshaftref16_Read_l11, e, Option.bind_some, k0, asI_int, decide_eq_true h0', Bool.not_true, cond_false]
    · rw [if_neg h0]
      have h0' : ¬ (t.kd : Int) = 0 := by omega
      have hp := take_ok h (by omega) hl
      have hlin := takeT_lin hl.lin
      cases hx : takeT (t :: r) with
      | error o =>
        rw [hx] at hp hlin
        obtain ⟨m, w, hm, c3⟩ := hp
        have x3 : Ext st (st.adv m) := .advR st hm
        obtain ⟨s7, e7, a7, x7, _⟩ := newV_ok (st := st.adv m) (x3.ll hll) (r := Z3) (aggC (valRow w)) (n := 3) rfl rfl rfl
        have x07 := x3.trans x7
        obtain ⟨r2, a2, l2⟩ := hj2
        have la7 := ha.ext x07
        obtain ⟨s8, f1, f2, f3, f4, f5⟩ := fin_ok (n := 5) (a2.ext x07) l2 la7 rfl (by simp [hw, ho.cell.2])
        have hneg : -((o : Int) + 1) < 0 := by omega
        have hw1 : IntKind.wrap .i64 ((i : Int) - -((o : Int) + 1)) = (i : Int) + o + 1 := by
          have := hl.isz; have := h.sz
          simp only at hlin
          have : o < us.length := by
            obtain ⟨rest, hr⟩ := hl.drop
            have := congrArg List.length hr
            simp at this hlin
            omega
          rw [wrapN (by omega) (by omega)]; omega
        have hw2 : IntKind.wrap .i64 ((i : Int) + o + 1 - 1) = ((i + o : Nat) : Int) := by
          have := hl.isz; have := h.sz
          simp only at hlin
          have : o < us.length := by
            obtain ⟨rest, hr⟩ := hl.drop
            have := congrArg List.length hr
            simp at this hlin
            omega
          rw [wrapN (by omega) (by omega)]; omega
        refine ⟨s8, [w0, w1, w2, av, w4], camshaftref16_Read_l11_eq v _ _ _ st ?_, (x07.keepB hB).thenI f4 (Nat.le_trans hB x07.next) (.inr (by simp)), f5, rfl, by simp [hw, ho.cell.2]⟩
        simp only [camshaftref16_Read_l11, e, Option.bind_some, k0, asI_int, decide_eq_false h0', Bool.not_false, cond_true, c3, tupG, List.getElem?_toArray, List.getElem?_cons_succ, List.getElem?_cons_zero, e7, decide_eq_true hneg, addr_ptr, f1, hw1, hw2, f2]
      | ok y =>
        obtain ⟨x, n⟩ := y
        rw [hx] at hp hlin
        obtain ⟨m, hm, c3⟩ := hp
        simp only at hlin
        have x3 : Ext st (st.adv m) := .advR st hm
        obtain ⟨s7, e7, a7, x7, _⟩ := newV_ok (st := st.adv m) (x3.ll hll) (r := Z3) (aggC (valRow x)) (n := 3) rfl rfl rfl
        have x07 := x3.trans x7
        have nx7 : B ≤ s7.next := Nat.le_trans hB x07.next
        have la7 := ha.ext x07
        have o7 := ho.ext x07
        have l13 : s7.ld lb 3 = some av := la7.ld
        have l14 : s7.ldN (st.adv m).next 0 3 = some (.agg (valRow x).toArray) := a7.ldN rfl
        have hc15 : cellsN (.agg (valRow x).toArray) 3 = some (valRow x) := cellsN_agg rfl
        obtain ⟨av', s17, g1, g2, g3⟩ := o7.pushK nx7 (by rw [x07.lim]; exact hlim) (row := valRow x) rfl (by omega) rfl (bt := 32) (by omega) (by omega)
        have la17 := la7.keepB (g3 []) hlB (by simp)
        have h17 := (h.ext x07).keepB (g3 []) (by omega) (by simp)
        have K17 : Keep B [lb] st s17 := (x07.keepB hB).then (g3 _)
        obtain ⟨s19, e19, a19, m19, _⟩ := la17.stV (k := 3) (n := 1) g2.cell.1 rfl (by simp [g2.cell.2]) (row' := [w0, w1, w2, av', w4]) rfl
        have nx17 : B ≤ s17.next := Nat.le_trans hB K17.next
        have K19 := K17.thenI m19 nx17 (.inr (by simp))
        have h19 := h17.keepB (m19.keepB (Nat.le_refl _)) (by omega) (by simp; omega)
        have o19 := g2.modLt m19 (by simp; omega)
        have o19' : Own B s19 av' (rowsF valRow (vs ++ [x])) 3 (vs ++ [x]).length := by rw [rowsF_append, rowsF_one, List.length_append]; exact o19
        have hnl : n < (t :: r).length := by
          obtain ⟨t', r', e⟩ := hlin.1.ne
          have := congrArg List.length e
          simp at this ⊢
          omega
        have hj23 : ∃ r2, At s19 j2 r2 ∧ r2.length = 5 := by
          obtain ⟨r2, a2, l2⟩ := hj2
          exact ⟨r2, a2.keepB K19 (by omega) (by simp; omega), l2⟩
        have next := ih (i + n) ((t :: r).drop n) (vs ++ [x]) av' s19 (by rw [List.length_drop]; omega) (by simp; omega) (K19.ll hll) h19 (hl.go hlin.1) a19 hj23 (Nat.le_trans hB K19.next) o19'
        have hneg : ¬ (n : Int) < 0 := by omega
        have hgo := (hl.go hlin.1).isz
        have hwn : IntKind.wrap .i64 ((i : Int) + (n : Int)) = ((i + n : Nat) : Int) := wrapI hisz (by have := h.sz; omega)
        have step : ∀ y, camshaftref16_Read_lf 11 [v, ptr j2 0, ptr lb 0, .int .i64 ((i + n : Nat) : Int)] s19 = some y → camshaftref16_Read_lf 11 [v, ptr j2 0, ptr lb 0, .int .i64 i] st = some y := fun y hy => by
          refine camshaftref16_Read_l11_eq v _ _ _ st ?_
          simp only [camshaftref16_Read_l11, e, Option.bind_some, k0, asI_int, decide_eq_false h0', Bool.not_false, cond_true, c3, tupG, List.getElem?_toArray, List.getElem?_cons_succ, List.getElem?_cons_zero, e7, decide_eq_false hneg, cond_false, addr_ptr, l13, l14, hc15, List.append_nil, g1, e19, hwn]
          exact hy
        simp only
        cases hz : argsT k ((t :: r).drop n) with
        | error o =>
          rw [hz] at next
          obtain ⟨st', row, d1, d2, d4, d5, d6⟩ := next
          rw [Nat.add_assoc] at d1
          exact ⟨st', row, step _ d1, (K19.mono (Nat.le_refl _) (fun j hj _ => by simp at hj ⊢; omega)).then d2, d4, d5, d6⟩
        | ok qs =>
          rw [hz] at next
          obtain ⟨st', pv2, d1, d2, d4, d5⟩ := next
          exact ⟨st', pv2, step _ d1, K19.then d2, d4, by simpa using d5⟩

theorem known_loop [Sym] {us : List (Nat × Tok)} {hi i : Nat} {t : Nat × Tok} (ps : List Pr) (hsz : ps.length ≤ 1099511627776) (v pv t2 x : Value) (st0 : SS) (hll : st0.lim ≤ st0.next) (h : RT st0 v us hi) (ht : us[i]? = some t) (hv : Rd st0 pv (rowsF prRow ps) 5 ps.length) :
    ∀ (k j : Nat) (b : Bool) (st : SS), ps.length = k + j → Ext st0 st → ∃ st', camshaftref16_Read_lf 21 [v, t2, x, .int .i64 i, .bool b, pv, .int .i64 ps.length, .int .i64 j] st = some (0, [v, t2, x, .int .i64 i, .bool (b || decide (t.2.tx ∈ (ps.drop j).map (·.fd)))], st') ∧ Ext st0 st' := by
  intro k
  induction k with
  | zero =>
    intro j b st hk he
    have hlt : ¬ (j : Int) < (ps.length : Int) := by omega
    refine ⟨st, camshaftref16_Read_l21_eq v t2 x _ _ pv _ _ st ?_, he⟩
    rw [List.drop_of_length_le (by omega)]
    simp only [camshaftref16_Read_l21, decide_eq_false hlt, cond_false, List.map_nil, List.not_mem_nil, decide_false, Bool.or_false]
  | succ k ih =>
    intro j b st hk he
    obtain ⟨p, hp⟩ : ∃ p, ps[j]? = some p := ⟨_, List.getElem?_eq_getElem (by omega)⟩
    have hjl : (j : Int) < (ps.length : Int) := by omega
    obtain ⟨y, b1, b2, _⟩ := (hv.ext he).load (j := (j : Int)) (by omega) hjl (rowsF_get prRow_len ps j p hp) rfl
    have b2' : st.ldN y.1 y.2 5 = some (.agg (prRow p).toArray) := b2
    obtain ⟨s4, e4, a4, x4, _⟩ := newV_ok (st := st) (he.ll hll) (r := [.string ⟨#[]⟩, .int .i64 0, .string ⟨#[]⟩, .int .i64 0, .int .i64 0]) (aggC (prRow p)) (n := 5) rfl rfl rfl
    have l0 : s4.ld st.next 0 = some (.string (mkS p.fd)) := a4.ld
    obtain ⟨q, e, hq⟩ := h.at' ht
    obtain ⟨_, k1, _⟩ := hq s4 (h.ext (he.trans x4))
    have hw := wrapI1 (i := j) (by omega)
    rw [drop_cons hp]
    cases b with
    | true =>
      obtain ⟨st', d1, d2⟩ := ih (j + 1) true s4 (by omega) (he.trans x4)
      refine ⟨st', camshaftref16_Read_l21_eq v t2 x _ _ pv _ _ st ?_, d2⟩
      simp only [Bool.true_or] at d1
      simp only [camshaftref16_Read_l21, decide_eq_true hjl, cond_true, b1, Option.bind_some, b2', e4, hw, Bool.true_or]
      exact d1
    | false =>
      obtain ⟨st', d1, d2⟩ := ih (j + 1) (eqT (mkS p.fd) (mkS t.2.tx)) s4 (by omega) (he.trans x4)
      refine ⟨st', camshaftref16_Read_l21_eq v t2 x _ _ pv _ _ st ?_, d2⟩
      have hor : (eqT (mkS p.fd) (mkS t.2.tx) || decide (t.2.tx ∈ (ps.drop (j + 1)).map (·.fd))) = (false || decide (t.2.tx ∈ (p :: ps.drop (j + 1)).map (·.fd))) := by
        rw [eqT_dec, Bool.eq_iff_iff]
        simp only [Bool.or_eq_true, decide_eq_true_eq, List.map_cons, List.mem_cons, Bool.false_eq_true, false_or]
        constructor
        · rintro (h | h)
          · exact .inl h.symm
          · exact .inr h
        · rintro (h | h)
          · exact .inl h.symm
          · exact .inr h
      rw [hor] at d1
      simp only [camshaftref16_Read_l21, decide_eq_true hjl, cond_true, b1, Option.bind_some, b2', e4, cond_false, l0, asS_string, e, k1, hw]
      exact d1

/-- The loop over pairs, behind the look at the fields that are known: as the code does it. -/
noncomputable def rpStep (cf : CallS) (lf : LoopS) (v7 v8 v9 : Value) (n10 : Int) (b11 : Bool) (s : SS) : Option (Nat × List Value × SS) :=
  (elemS v7 n10 5).bind fun p12 =>
   ((s.ld p12.1 p12.2).bind (asI .i64)).bind fun n13 =>
   cond (!(decide (n13 = 1))) (
    (addr? v9).bind fun p14 =>
    (s.ldN p14.1 p14.2 5).bind fun v15 =>
    (addr? v8).bind fun p16 =>
    (s.stV p16.1 p16.2 5 v15).bind fun st17 =>
    some (1, [v8, .int .i64 n10], st17)) (
    cond b11 (
     (addr? v9).bind fun p18 =>
     (s.ldN p18.1 p18.2 5).bind fun v19 =>
     (addr? v8).bind fun p20 =>
     (s.stV p20.1 p20.2 5 v19).bind fun st21 =>
     some (1, [v8, .int .i64 n10], st21)) (
     let n22 : Int := IntKind.wrap .i64 (n10 + 1)
     (cf 50 [v7, .int .i64 n22, .int .i64 3, .string ⟨#[61]⟩] s).bind fun r23 =>
     ((some r23.1).bind asB).bind fun b24 =>
     cond (!b24) (
      (addr? v9).bind fun p25 =>
      (r23.2.ldN p25.1 p25.2 5).bind fun v26 =>
      let n27 : Int := IntKind.wrap .i64 (n10 + 1)
      (addr? v8).bind fun p28 =>
      (r23.2.stV p28.1 p28.2 5 v26).bind fun st29 =>
      some (1, [v8, .int .i64 n27], st29)) (
      let n30 : Int := IntKind.wrap .i64 (n10 + 2)
      (cf 51 [v7, .int .i64 n30] r23.2).bind fun r31 =>
      (tupG r31.1 0).bind fun v32 =>
      ((tupG r31.1 1).bind (asI .i64)).bind fun n33 =>
      let st34 : SS := r31.2.new (.cells [.string ⟨#[]⟩, .int .i64 0, .int .i64 0] 0)
      (st34.stV r31.2.next 0 3 v32).bind fun st35 =>
      cond (decide (n33 < 0)) (
       (addr? v9).bind fun p36 =>
       (st35.ldN p36.1 p36.2 5).bind fun v37 =>
       let n38 : Int := IntKind.wrap .i64 (n10 + 2)
       let n39 : Int := IntKind.wrap .i64 (n38 - n33)
       let n40 : Int := IntKind.wrap .i64 (n39 - 1)
       (addr? v8).bind fun p41 =>
       (st35.stV p41.1 p41.2 5 v37).bind fun st42 =>
       some (1, [v8, .int .i64 n40], st42)) (
       (addr? v9).bind fun p43 =>
       (st35.ld p43.1 (p43.2 + 4)).bind fun v44 =>
       (elemS v7 n10 5).bind fun p45 =>
       ((st35.ld p45.1 (p45.2 + 1)).bind asS).bind fun s46 =>
       (elemS v7 n10 5).bind fun p47 =>
       ((st35.ld p47.1 (p47.2 + 4)).bind (asI .i64)).bind fun n48 =>
       (st35.ldN r31.2.next 0 3).bind fun v49 =>
       (cellsN v49 3).bind fun c50 =>
       (cellsN (.agg ⟨spl [.string s46, .int .i64 n48, .string ⟨#[]⟩, .int .i64 0, .int .i64 0] 2 c50⟩) 5).bind fun c51 =>
       let st52 : SS := st35.new (.cells (c51 ++ ([])) 5)
       (st52.app 5 56 v44 (.slice (some ⟨st35.next, 0, none⟩) 1 1)).bind fun r53 =>
       (addr? v9).bind fun p54 =>
       (r53.2.stV p54.1 (p54.2 + 4) 1 r53.1).bind fun st55 =>
       let n56 : Int := IntKind.wrap .i64 (n10 + 2)
       let n57 : Int := IntKind.wrap .i64 (n56 + n33)
       lf 18 [v7, v8, v9, .int .i64 n57] st55))))
noncomputable def rpK (cf : CallS) (lf : LoopS) (r6 : Nat × List Value × SS) : Option (Nat × List Value × SS) :=
  (r6.2.1[0]?).bind fun v7 => (r6.2.1[1]?).bind fun v8 => (r6.2.1[2]?).bind fun v9 => ((r6.2.1[3]?).bind (asI .i64)).bind fun n10 => ((r6.2.1[4]?).bind asB).bind fun b11 => rpStep cf lf v7 v8 v9 n10 b11 r6.2.2
theorem rpK_eq (cf : CallS) (lf : LoopS) (e : Nat) (v7 v8 v9 : Value) (n : Int) (b : Bool) (s : SS) : rpK cf lf (e, [v7, v8, v9, .int .i64 n, .bool b], s) = rpStep cf lf v7 v8 v9 n b s := rfl
theorem l18_split (cf : CallS) (lf : LoopS) (v t2 x : Value) (i : Int) (st : SS) : camshaftref16_Read_l18 cf lf v t2 x i st = (elemS v i 5).bind fun p1 => ((st.ld p1.1 p1.2).bind (asI .i64)).bind fun n2 => cond (!(decide (n2 = 0)))
    ((addr? x).bind fun p3 => (st.ld p3.1 (p3.2 + 4)).bind fun v4 => ((lenV v4).bind (asI .i64)).bind fun n5 => (lf 21 [v, t2, x, .int .i64 i, .bool false, v4, .int .i64 n5, .int .i64 0] st).bind (rpK cf lf)) (some (0, [t2, x], st)) := rfl
def RPairsR (B lb j2 : Nat) (w0 w1 w2 w3 v : Value) (i : Nat) (ps : List Pr) (st : SS) (r : Option (Nat × List Value × SS)) : Except Nat (List Pr) → Prop
  | .ok qs => ∃ st' pv', r = some (0, [ptr j2 0, ptr lb 0], st') ∧ Keep B [lb] st st' ∧ At st' lb [w0, w1, w2, w3, pv'] ∧ Own B st' pv' (rowsF prRow (ps ++ qs)) 5 (ps ++ qs).length
  | .error o => ∃ st' row, r = some (1, [ptr j2 0, .int .i64 ((i + o : Nat) : Int)], st') ∧ Keep B [lb, j2] st st' ∧ At st' j2 row ∧ row.length = 5 ∧ row.all one = true
theorem spl_pr (a : ByteArray) (c : Int) (w : Val) : cellsN (.agg ⟨spl [.string a, .int .i64 c, .string ⟨#[]⟩, .int .i64 0, .int .i64 0] 2 (valRow w)⟩) 5 = some [.string a, .int .i64 c, .string (mkS w.nm), .int .i64 w.x, .int .i64 w.col] := rfl
/-- What a pair's step comes to: the loop itself is told by a parameter. -/
def RStepR (B lb j2 : Nat) (w0 w1 w2 w3 pv v : Value) (us : List (Nat × Tok)) (hi i : Nat) (ps : List Pr) (st s6 : SS) (lf : LoopS) (r : Option (Nat × List Value × SS)) : Except Nat (Pr × Nat) → Prop
  | .ok (p, n) => ∃ s55 pv', r = lf 18 [v, ptr j2 0, ptr lb 0, .int .i64 ((i + n : Nat) : Int)] s55 ∧ Keep B [lb] st s55 ∧ At s55 lb [w0, w1, w2, w3, pv'] ∧ Own B s55 pv' (rowsF prRow (ps ++ [p])) 5 (ps ++ [p]).length ∧ RT s55 v us hi
  | .error o => ∃ s', r = some (1, [ptr j2 0, .int .i64 ((i + o : Nat) : Int)], s') ∧ Keep B [lb, j2] st s' ∧ At s' j2 [w0, w1, w2, w3, pv]
theorem rpStep_ok [Sym] {ln lb B j2 hi i : Nat} {v w0 w1 w2 w3 pv : Value} {us : List (Nat × Tok)} {l : List Tok} {t : Tok} {r : List Tok} (hlr : l = t :: r) {ps : List Pr} {st s6 : SS} (lf : LoopS) (hhj : hi ≤ j2) (hjl : j2 < lb) (hlB : lb < B) (hw : one w0 = true ∧ one w1 = true ∧ one w2 = true ∧ one w3 = true)
    (hps : ps.length ≤ 1099511627776 / 8) (hll : st.lim ≤ st.next) (h : RT st v us hi) (hl : LineAt us i ln l) (ha : At st lb [w0, w1, w2, w3, pv]) (hj2 : ∃ r2, At st j2 r2 ∧ r2.length = 5) (hB : B ≤ st.next) (ho : Own B st pv (rowsF prRow ps) 5 ps.length) (x6 : Ext st s6) :
    RStepR B lb j2 w0 w1 w2 w3 pv v us hi i ps st s6 lf (rpStep cc lf v (ptr j2 0) (ptr lb 0) i (decide (t.tx ∈ ps.map (·.fd))) s6) (pairT (ps.map (·.fd)) l) := by
  subst hlr
  obtain ⟨p, e, hp⟩ := h.at' hl.head
  have hlim : st.lim ≤ B := by have := ha.2.2; omega
  have hisz : i ≤ 1099511627776 := by have := hl.isz; have := h.sz; omega
  have h6 := h.ext x6
  obtain ⟨q0, q1, _, _, q4⟩ := hp s6 h6
  have fail : ∀ (s : SS), Ext st s → ∃ s', s.ldN lb 0 5 = some (.agg [w0, w1, w2, w3, pv].toArray) ∧ s.stV j2 0 5 (.agg [w0, w1, w2, w3, pv].toArray) = some s' ∧ Keep B [lb, j2] st s' ∧ At s' j2 [w0, w1, w2, w3, pv] := by
    intro s x
    obtain ⟨r2, a2, l2⟩ := hj2
    obtain ⟨s', f1, f2, f3, f4, f5⟩ := fin_ok (n := 5) (a2.ext x) l2 (ha.ext x) rfl (by simp [hw, ho.cell.2])
    exact ⟨s', f1, f2, (x.keepB hB).thenI f4 (Nat.le_trans hB x.next) (.inr (by simp)), f5⟩
  have hlin := pairT_lin (seen := ps.map (·.fd)) hl.lin
  have hoff : ∀ o, pairT (ps.map (·.fd)) (t :: r) = .error o → i + o < us.length := fun o ho' => by
    rw [ho'] at hlin
    simp only at hlin
    obtain ⟨rest, hr⟩ := hl.drop
    have hr' := congrArg List.length hr
    rw [List.length_drop, List.length_append, List.length_map] at hr'
    have hlt := hl.isz
    omega
  rw [pairT_cons] at hlin hoff ⊢
  by_cases h1 : t.kd = 1
  case neg =>
    rw [if_neg (fun x => h1 x.1)]
    have h1' : ¬ (t.kd : Int) = 1 := by omega
    obtain ⟨s', f1, f2, f3, f4⟩ := fail s6 x6
    refine ⟨s', ?_, f3, f4⟩
    rw [Nat.add_zero]
    simp only [rpStep, e, Option.bind_some, asI_int, addr_ptr, q0, decide_eq_false h1', Bool.not_false, cond_true, f1, f2]
  have h1' : (t.kd : Int) = 1 := by omega
  by_cases hk : t.tx ∈ ps.map (·.fd)
  · rw [if_neg (fun x => x.2 hk)]
    obtain ⟨s', f1, f2, f3, f4⟩ := fail s6 x6
    refine ⟨s', ?_, f3, f4⟩
    rw [Nat.add_zero, decide_eq_true hk]
    simp only [rpStep, e, Option.bind_some, asI_int, addr_ptr, q0, decide_eq_true h1', Bool.not_true, cond_false, cond_true, f1, f2]
  rw [if_pos ⟨h1, hk⟩] at hlin hoff ⊢
  rw [decide_eq_false hk]
  have hl1 := hl.tail (by omega)
  obtain ⟨e', u, rfl⟩ := hl1.lin.ne
  have c23 := ris_ok h6 hl1.head [61]
  have c23' : cc 50 [v, .int .i64 ((i + 1 : Nat) : Int), .int .i64 3, .string ⟨#[61]⟩] s6 = some (.bool (isSign e' [61]), s6) := c23
  have hw1 := wrapI1 hisz
  have hw2 : IntKind.wrap .i64 ((i : Int) + 2) = ((i + 2 : Nat) : Int) := wrapI hisz (k := 2) (by omega)
  simp only at hlin hoff ⊢
  by_cases he : isSign e' [61] = true
  case neg =>
    have he' : isSign e' [61] = false := Bool.eq_false_iff.2 he
    rw [he'] at c23'
    rw [if_neg he]
    obtain ⟨s', f1, f2, f3, f4⟩ := fail s6 x6
    refine ⟨s', ?_, f3, f4⟩
    simp only [rpStep, e, Option.bind_some, asI_int, addr_ptr, q0, decide_eq_true h1', Bool.not_true, cond_false, hw1, c23', asB_bool, Bool.not_false, cond_true, f1, f2]
  rw [he] at c23'
  rw [if_pos he] at hlin hoff ⊢
  have hl2 := hl1.tail (by have := isSign_kd he; omega)
  have hval := take_ok h6 (by have := x6.next; omega) hl2
  cases hx : takeT u with
  | error o =>
    rw [hx] at hval hoff
    have hoff' := hoff (2 + o) rfl
    obtain ⟨m, w, hm, c31⟩ := hval
    have c31' : cc 51 [v, .int .i64 ((i + 2 : Nat) : Int)] s6 = some (.tuple #[.agg (valRow w).toArray, .int .i64 (-((o : Int) + 1))], s6.adv m) := c31
    have x31 : Ext s6 (s6.adv m) := .advR _ hm
    obtain ⟨s35, e35, a35, x35, _⟩ := newV_ok (st := s6.adv m) ((x6.trans x31).ll hll) (r := Z3) (aggC (valRow w)) (n := 3) rfl rfl rfl
    have hneg : -((o : Int) + 1) < 0 := by omega
    have hw3 : IntKind.wrap .i64 (((i + 2 : Nat) : Int) - -((o : Int) + 1)) = (i : Int) + 2 + o + 1 := by have := h.sz; rw [wrapN (by omega) (by omega)]; omega
    have hw4 : IntKind.wrap .i64 ((i : Int) + 2 + o + 1 - 1) = ((i + (2 + o) : Nat) : Int) := by have := h.sz; rw [wrapN (by omega) (by omega)]; omega
    obtain ⟨s', f1, f2, f3, f4⟩ := fail s35 ((x6.trans x31).trans x35)
    refine ⟨s', ?_, f3, f4⟩
    simp only [rpStep, e, Option.bind_some, asI_int, addr_ptr, q0, decide_eq_true h1', Bool.not_true, cond_false, hw1, c23', asB_bool, hw2, c31', tupG, List.getElem?_toArray, List.getElem?_cons_succ, List.getElem?_cons_zero, e35, decide_eq_true hneg, cond_true, f1, hw3, hw4, f2]
  | ok y =>
    obtain ⟨x, n⟩ := y
    rw [hx] at hval hlin
    simp only at hlin
    obtain ⟨m, hm, c31⟩ := hval
    have c31' : cc 51 [v, .int .i64 ((i + 2 : Nat) : Int)] s6 = some (.tuple #[.agg (valRow x).toArray, .int .i64 n], s6.adv m) := c31
    have x31 : Ext s6 (s6.adv m) := .advR _ hm
    obtain ⟨s35, e35, a35, x35, _⟩ := newV_ok (st := s6.adv m) ((x6.trans x31).ll hll) (r := Z3) (aggC (valRow x)) (n := 3) rfl rfl rfl
    have x035 := (x6.trans x31).trans x35
    have la35 := ha.ext x035
    have o35 := ho.ext x035
    have l44 : s35.ld lb 4 = some pv := la35.ld
    obtain ⟨_, z1, _, _, z4⟩ := hp s35 (h.ext x035)
    have l49 : s35.ldN (s6.adv m).next 0 3 = some (.agg (valRow x).toArray) := a35.ldN rfl
    have hc50 : cellsN (.agg (valRow x).toArray) 3 = some (valRow x) := cellsN_agg rfl
    have nx35 : B ≤ s35.next := Nat.le_trans hB x035.next
    obtain ⟨pv', s53, g1, g2, g3⟩ := o35.pushK nx35 (by rw [x035.lim]; exact hlim) (row := prRow ⟨t.tx, t.col, x⟩) rfl (by omega) rfl (bt := 56) (by omega) (by omega)
    have g1' : (s35.new (.cells [.string (mkS t.tx), .int .i64 t.col, .string (mkS x.nm), .int .i64 x.x, .int .i64 x.col] 5)).app 5 56 pv (.slice (some ⟨s35.next, 0, none⟩) 1 1) = some (pv', s53) := g1
    have la53 := la35.keepB (g3 []) hlB (by simp)
    have h53 := (h.ext x035).keepB (g3 []) (by omega) (by simp)
    have K53 : Keep B [lb] st s53 := (x035.keepB hB).then (g3 _)
    obtain ⟨s55, e55, a55, m55, _⟩ := la53.stV (k := 4) (n := 1) g2.cell.1 rfl (by simp [g2.cell.2]) (row' := [w0, w1, w2, w3, pv']) rfl
    have nx53 : B ≤ s53.next := Nat.le_trans hB K53.next
    have K55 := K53.thenI m55 nx53 (.inr (by simp))
    have h55 := h53.keepB (m55.keepB (Nat.le_refl _)) (by omega) (by simp; omega)
    have o55 := g2.modLt m55 (by simp; omega)
    have o55' : Own B s55 pv' (rowsF prRow (ps ++ [(⟨t.tx, t.col, x⟩ : Pr)])) 5 (ps ++ [(⟨t.tx, t.col, x⟩ : Pr)]).length := by rw [rowsF_append, rowsF_one, List.length_append]; exact o55
    have hgo := hl.go (n := 2 + n) hlin.1
    have hgz := hgo.isz
    have hneg : ¬ (n : Int) < 0 := by omega
    have hw3 : IntKind.wrap .i64 (((i + 2 : Nat) : Int) + (n : Int)) = ((i + (2 + n) : Nat) : Int) := by have := h.sz; rw [wrapN (by omega) (by omega)]; omega
    refine ⟨s55, pv', ?_, K55, a55, o55', h55⟩
    simp only [rpStep, e, Option.bind_some, asI_int, addr_ptr, q0, decide_eq_true h1', Bool.not_true, cond_false, hw1, c23', asB_bool, hw2, c31', tupG, List.getElem?_toArray, List.getElem?_cons_succ, List.getElem?_cons_zero, e35, decide_eq_false hneg, l44, z1, asS_string, z4, l49, hc50, spl_pr, List.append_nil, g1', e55, hw3]
theorem rpairs_loop [Sym] {ln lb B j2 hi : Nat} {v w0 w1 w2 w3 : Value} {us : List (Nat × Tok)} (hhj : hi ≤ j2) (hjl : j2 < lb) (hlB : lb < B) (hw : one w0 = true ∧ one w1 = true ∧ one w2 = true ∧ one w3 = true) : ∀ (k i : Nat) (l : List Tok) (ps : List Pr) (pv : Value) (st : SS), l.length ≤ k → ps.length + k ≤ 1099511627776 / 8 → st.lim ≤ st.next → RT st v us hi → LineAt us i ln l →
    At st lb [w0, w1, w2, w3, pv] → (∃ r2, At st j2 r2 ∧ r2.length = 5) → B ≤ st.next → Own B st pv (rowsF prRow ps) 5 ps.length →
    RPairsR B lb j2 w0 w1 w2 w3 v i ps st (camshaftref16_Read_lf 18 [v, ptr j2 0, ptr lb 0, .int .i64 i] st) (pairsT k (ps.map (·.fd)) l) := by
  intro k
  induction k with
  | zero =>
    intro i l ps pv st hk _ _ h hl
    obtain ⟨t, r, rfl⟩ := hl.lin.ne
    simp at hk
  | succ k ih =>
    intro i l ps pv st hk hps hll h hl ha hj2 hB ho
    obtain ⟨t, r, rfl⟩ := hl.lin.ne
    obtain ⟨p, e, hp⟩ := h.at' hl.head
    obtain ⟨k0, _⟩ := hp st h
    unfold pairsT
    by_cases h0 : t.kd = 0
    · rw [if_pos h0]
      have hr := hl.lin.last h0
      subst hr
      have h0' : (t.kd : Int) = 0 := by omega
      refine ⟨st, pv, camshaftref16_Read_l18_eq v _ _ _ st ?_, .refl _, ha, by simpa using ho⟩
      simp only [l18_split, e, Option.bind_some, k0, asI_int, decide_eq_true h0', Bool.not_true, cond_false]
    rw [if_neg h0]
    have h0' : ¬ (t.kd : Int) = 0 := by omega
    have l4 : st.ld lb 4 = some pv := ha.ld
    have hlp : (lenV pv).bind (asI .i64) = some (ps.length : Int) := by rw [ho.len]; rfl
    obtain ⟨s6, c6, x6⟩ := known_loop ps (by omega) v pv (ptr j2 0) (ptr lb 0) st hll h hl.head ho.rd ps.length 0 false st (by omega) (.refl _)
    have c6' : camshaftref16_Read_lf 21 [v, ptr j2 0, ptr lb 0, .int .i64 i, .bool false, pv, .int .i64 ps.length, .int .i64 0] st = some (0, [v, ptr j2 0, ptr lb 0, .int .i64 i, .bool (decide (t.tx ∈ ps.map (·.fd)))], s6) := c6
    have hst := rpStep_ok rfl camshaftref16_Read_lf hhj hjl hlB hw (by omega) hll h hl ha hj2 hB ho x6
    have step : ∀ y, rpStep cc camshaftref16_Read_lf v (ptr j2 0) (ptr lb 0) i (decide (t.tx ∈ ps.map (·.fd))) s6 = some y → camshaftref16_Read_lf 18 [v, ptr j2 0, ptr lb 0, .int .i64 i] st = some y := fun y hy => by
      refine camshaftref16_Read_l18_eq v _ _ _ st ?_
      have E : camshaftref16_Read_l18 cc camshaftref16_Read_lf v (ptr j2 0) (ptr lb 0) i st = (camshaftref16_Read_lf 21 [v, ptr j2 0, ptr lb 0, .int .i64 i, .bool false, pv, .int .i64 ps.length, .int .i64 0] st).bind (rpK cc camshaftref16_Read_lf) := by
        rw [l18_split]
        simp only [e, Option.bind_some, k0, asI_int, decide_eq_false h0', Bool.not_false, cond_true, addr_ptr, Nat.zero_add, l4, hlp]
      rw [E, c6', Option.bind_some, rpK_eq]
      exact hy
    have hlin := pairT_lin (seen := ps.map (·.fd)) hl.lin
    cases hx : pairT (ps.map (·.fd)) (t :: r) with
    | error o =>
      rw [hx] at hst
      obtain ⟨s', d1, d2, d3⟩ := hst
      exact ⟨s', _, step _ d1, d2, d3, rfl, by simp [hw, ho.cell.2]⟩
    | ok y =>
      obtain ⟨x, n⟩ := y
      rw [hx] at hst hlin
      simp only at hlin
      obtain ⟨s55, pv', d1, K55, a55, o55, h55⟩ := hst
      have hgo := hl.go (n := n) hlin.1
      have hnl : n < (t :: r).length := by
        obtain ⟨t', r', e⟩ := hlin.1.ne
        have := congrArg List.length e
        simp at this ⊢
        omega
      have hj23 : ∃ r2, At s55 j2 r2 ∧ r2.length = 5 := by
        obtain ⟨r2, a2, l2⟩ := hj2
        exact ⟨r2, a2.keepB K55 (by omega) (by simp; omega), l2⟩
      have next := ih (i + n) ((t :: r).drop n) (ps ++ [x]) pv' s55 (by rw [List.length_drop]; omega) (by simp; omega) (K55.ll hll) h55 hgo a55 hj23 (Nat.le_trans hB K55.next) o55
      rw [List.map_append] at next
      have next' : RPairsR B lb j2 w0 w1 w2 w3 v (i + n) (ps ++ [x]) s55 (camshaftref16_Read_lf 18 [v, ptr j2 0, ptr lb 0, .int .i64 ((i + n : Nat) : Int)] s55) (pairsT k (ps.map (·.fd) ++ [x.fd]) ((t :: r).drop n)) := next
      simp only
      cases hz : pairsT k (ps.map (·.fd) ++ [x.fd]) ((t :: r).drop n) with
      | error o =>
        rw [hz] at next'
        obtain ⟨st', row, b1, b2, b4, b5, b6⟩ := next'
        rw [Nat.add_assoc] at b1
        exact ⟨st', row, step _ (d1.trans b1), (K55.mono (Nat.le_refl _) (fun j hj _ => by simp at hj ⊢; omega)).then b2, b4, b5, b6⟩
      | ok qs =>
        rw [hz] at next'
        obtain ⟨st', pv2, b1, b2, b4, b5⟩ := next'
        exact ⟨st', pv2, step _ (d1.trans b1), K55.then b2, b4, by simpa using b5⟩
/-- A line behind its label, as the reference does it. -/
noncomputable def readTail (cf : CallS) (lf : LoopS) (l' : Value) (j2 lb : Nat) (a0 a1 a2 : Int) (s : SS) : Option (Value × SS) :=
  (cf 50 [l', .int .i64 a0, .int .i64 3, .string ⟨#[46]⟩] s).bind fun r85 =>
   ((some r85.1).bind asB).bind fun b86 =>
   cond b86 (
    (elemS l' a1 5).bind fun p87 =>
    ((r85.2.ld p87.1 p87.2).bind (asI .i64)).bind fun n88 =>
    cond (!(decide (n88 = 1))) (
     (r85.2.ldN lb 0 5).bind fun v89 =>
     (r85.2.stV j2 0 5 v89).bind fun st90 =>
     (st90.rdN j2 0 5).bind fun v91 =>
     some (.tuple #[v91, .int .i64 a1], st90)) (
     (elemS l' a1 5).bind fun p92 =>
     ((r85.2.ld p92.1 (p92.2 + 1)).bind asS).bind fun s93 =>
     (r85.2.st lb 2 [.string s93]).bind fun st94 =>
     (lf 11 [l', ptr j2 0, ptr lb 0, .int .i64 a2] st94).bind fun r95 =>
     cond (Nat.beq r95.1 0) (
      (r95.2.1[0]?).bind fun v96 =>
      (r95.2.1[1]?).bind fun v97 =>
      (addr? v97).bind fun p98 =>
      (r95.2.2.ldN p98.1 p98.2 5).bind fun v99 =>
      (addr? v96).bind fun p100 =>
      (r95.2.2.stV p100.1 p100.2 5 v99).bind fun st101 =>
      (addr? v96).bind fun p102 =>
      (st101.rdN p102.1 p102.2 5).bind fun v103 =>
      some (.tuple #[v103, .int .i64 (-1)], st101)) (
      (r95.2.1[0]?).bind fun v104 =>
      ((r95.2.1[1]?).bind (asI .i64)).bind fun n105 =>
      (addr? v104).bind fun p106 =>
      (r95.2.2.rdN p106.1 p106.2 5).bind fun v107 =>
      some (.tuple #[v107, .int .i64 n105], r95.2.2)))) (
    (lf 18 [l', ptr j2 0, ptr lb 0, .int .i64 a0] r85.2).bind fun r108 =>
    cond (Nat.beq r108.1 0) (
     (r108.2.1[0]?).bind fun v109 =>
     (r108.2.1[1]?).bind fun v110 =>
     (addr? v110).bind fun p111 =>
     (r108.2.2.ldN p111.1 p111.2 5).bind fun v112 =>
     (addr? v109).bind fun p113 =>
     (r108.2.2.stV p113.1 p113.2 5 v112).bind fun st114 =>
     (addr? v109).bind fun p115 =>
     (st114.rdN p115.1 p115.2 5).bind fun v116 =>
     some (.tuple #[v116, .int .i64 (-1)], st114)) (
     (r108.2.1[0]?).bind fun v117 =>
     ((r108.2.1[1]?).bind (asI .i64)).bind fun n118 =>
     (addr? v117).bind fun p119 =>
     (r108.2.2.rdN p119.1 p119.2 5).bind fun v120 =>
     some (.tuple #[v120, .int .i64 n118], r108.2.2)))
def RdR (B ln : Nat) (i : Nat) (st : SS) (r : Option (Value × SS)) : Except Nat PLine → Prop
  | .ok x => ∃ st' av pv, r = some (.tuple #[lineVal ln x av pv, .int .i64 (-1)], st') ∧ Keep B [] st st' ∧ Own B st' av (rowsF valRow x.args) 3 x.args.length ∧ Own B st' pv (rowsF prRow x.prs) 5 x.prs.length
  | .error o => ∃ (st' : SS) (row : List Value), r = some (.tuple #[.agg row.toArray, .int .i64 ((i + o : Nat) : Int)], st') ∧ Keep B [] st st' ∧ row.length = 5 ∧ row.all one = true
theorem rtail_ok [Sym] {ln lb j2 i B hi : Nat} {v : Value} {us : List (Nat × Tok)} {l : List Tok} {lab : List UInt8} {s : SS} (hhi : hi ≤ B) (hBj : B ≤ j2) (hjl : j2 < lb) (hls : lb < s.next) (hll : s.lim ≤ s.next) (h : RT s v us hi) (hl : LineAt us i ln l)
    (ha : At s lb [.int .i64 ln, .string (mkS lab), .string ⟨#[]⟩, .slice none 0 0, .slice none 0 0]) (hj2 : ∃ r2, At s j2 r2 ∧ r2.length = 5) :
    RdR B ln i s (readTail cc camshaftref16_Read_lf v j2 lb i ((i + 1 : Nat) : Int) ((i + 2 : Nat) : Int) s) (restT lab l) := by
  obtain ⟨t, r, rfl⟩ := hl.lin.ne
  have hb0 : Nat.beq 0 0 = true := rfl
  have hb1 : Nat.beq 1 0 = false := rfl
  have hBs : B ≤ s.next := by omega
  have hlen : (t :: r).length ≤ us.length := by
    obtain ⟨rest, hr⟩ := hl.drop
    have := congrArg List.length hr
    simp at this ⊢
    omega
  have hsz := h.sz
  have c23 := ris_ok h hl.head [46]
  have c23' : cc 50 [v, .int .i64 i, .int .i64 3, .string ⟨#[46]⟩] s = some (.bool (isSign t [46]), s) := c23
  rw [restT_cons]
  by_cases hs : isSign t [46] = true
  · rw [hs] at c23'
    rw [if_pos hs]
    have hl1 := hl.tail (by have := isSign_kd hs; omega)
    obtain ⟨d, u, rfl⟩ := hl1.lin.ne
    obtain ⟨p, e, hp⟩ := h.at' hl1.head
    obtain ⟨k0, k1, _⟩ := hp s h
    simp only
    by_cases hd : d.kd = 1
    · rw [if_pos hd]
      have hd' : (d.kd : Int) = 1 := by omega
      have hl2 := hl1.tail (by omega)
      obtain ⟨s28, e28, a28, m28, n28⟩ := ha.sto (k := 2) (vs := [.string (mkS d.tx)]) (row' := [.int .i64 ln, .string (mkS lab), .string (mkS d.tx), .slice none 0 0, .slice none 0 0]) rfl rfl
      have hj28 : ∃ r2, At s28 j2 r2 ∧ r2.length = 5 := by obtain ⟨r2, a, l2⟩ := hj2; exact ⟨r2, a.mod m28 (by simp; omega), l2⟩
      have h28 := h.keepB (m28.keepB (Nat.le_refl _)) (by omega) (by simp; omega)
      have K28 : Keep B [] s s28 := (m28.keepB hBs).mono (Nat.le_refl _) (fun j hj hlt => by simp at hj; omega)
      have hloop := rargs_loop (B := s28.next) (lb := lb) (j2 := j2) (ln := ln) (by omega) hjl (by omega) (w0 := .int .i64 ln) (w1 := .string (mkS lab)) (w2 := .string (mkS d.tx)) (w4 := .slice none 0 0) ⟨rfl, rfl, rfl, rfl⟩ u.length (i + 1 + 1) u [] (.slice none 0 0) s28 (Nat.le_refl _) (by simp at hlen ⊢; omega) (m28.ll hll) h28 hl2 a28 hj28 (Nat.le_refl _) (Own.nil _ _ _)
      cases hx : argsT u.length u with
      | error o =>
        rw [hx] at hloop
        obtain ⟨s32, row, d1, d2, d4, d5, d6⟩ := hloop
        have d1' : camshaftref16_Read_lf 11 [v, ptr j2 0, ptr lb 0, .int .i64 ((i + 2 : Nat) : Int)] s28 = some (1, [ptr j2 0, .int .i64 ((i + 1 + 1 + o : Nat) : Int)], s32) := d1
        have hr := d4.rdN d5
        refine ⟨s32, row, ?_, K28.then (d2.mono (by omega) (fun j hj hlt => by simp at hj; omega)), d5, d6⟩
        have ei : i + 1 + 1 + o = i + (2 + o) := by omega
        rw [ei] at d1'
        simp only [readTail, c23', Option.bind_some, asB_bool, cond_true, e, k0, asI_int, decide_eq_true hd', Bool.not_true, cond_false, k1, asS_string, e28, d1', hb1, List.getElem?_cons_succ, List.getElem?_cons_zero, addr_ptr, hr]
      | ok vs =>
        rw [hx] at hloop
        obtain ⟨s32, av', d1, d2, d4, d5⟩ := hloop
        have d1' : camshaftref16_Read_lf 11 [v, ptr j2 0, ptr lb 0, .int .i64 ((i + 2 : Nat) : Int)] s28 = some (0, [ptr j2 0, ptr lb 0], s32) := d1
        obtain ⟨r2, a2, l2⟩ := hj28
        have a232 := a2.keepB d2 (by have := a28.lt; omega) (by simp; omega)
        obtain ⟨s38, f1, f2, f3, f4, f5⟩ := fin_ok (n := 5) a232 l2 d4 rfl (by simp only [List.all_cons, List.all_nil, d5.cell.2]; rfl)
        have K32 : Keep B [] s s32 := K28.then (d2.mono (by omega) (fun j hj hlt => by simp at hj; omega))
        have nx32 := d2.next
        refine ⟨s38, av', .slice none 0 0, ?_, K32.thenI f4 (by omega) (.inl hBj), ((own_ne' (S := []) d5 f4 (.inl (by have := a28.lt; omega))).low (by omega)), Own.nil _ _ _⟩
        simp only [readTail, c23', Option.bind_some, asB_bool, cond_true, e, k0, asI_int, decide_eq_true hd', Bool.not_true, cond_false, k1, asS_string, e28, d1', hb0, List.getElem?_cons_succ, List.getElem?_cons_zero, addr_ptr, f1, f2, f3]
        rfl
    · rw [if_neg hd]
      have hd' : ¬ (d.kd : Int) = 1 := by omega
      obtain ⟨r2, a2, l2⟩ := hj2
      obtain ⟨s30, f1, f2, f3, f4, f5⟩ := fin_ok (n := 5) a2 l2 ha rfl rfl
      refine ⟨s30, [.int .i64 ln, .string (mkS lab), .string ⟨#[]⟩, .slice none 0 0, .slice none 0 0], ?_, ((f4.keepB hBs).mono (Nat.le_refl _) (fun j hj hlt => by simp at hj; omega)), rfl, rfl⟩
      simp only [readTail, c23', Option.bind_some, asB_bool, cond_true, e, k0, asI_int, decide_eq_false hd', Bool.not_false, f1, f2, f3]
  · have hs' : isSign t [46] = false := Bool.eq_false_iff.2 hs
    rw [hs'] at c23'
    rw [if_neg hs]
    have hloop := rpairs_loop (B := s.next) (lb := lb) (j2 := j2) (ln := ln) (by omega) hjl (by omega) (w0 := .int .i64 ln) (w1 := .string (mkS lab)) (w2 := .string ⟨#[]⟩) (w3 := .slice none 0 0) ⟨rfl, rfl, rfl, rfl⟩ (t :: r).length i (t :: r) [] (.slice none 0 0) s (Nat.le_refl _) (by simp at hlen ⊢; omega) hll h hl ha hj2 (Nat.le_refl _) (Own.nil _ _ _)
    have hloop' : RPairsR s.next lb j2 (.int .i64 ln) (.string (mkS lab)) (.string ⟨#[]⟩) (.slice none 0 0) v i [] s (camshaftref16_Read_lf 18 [v, ptr j2 0, ptr lb 0, .int .i64 i] s) (pairsT (t :: r).length [] (t :: r)) := hloop
    cases hx : pairsT (t :: r).length [] (t :: r) with
    | error o =>
      rw [hx] at hloop'
      obtain ⟨s32, row, d1, d2, d4, d5, d6⟩ := hloop'
      have hr := d4.rdN d5
      refine ⟨s32, row, ?_, d2.mono (by omega) (fun j hj hlt => by simp at hj; omega), d5, d6⟩
      simp only [readTail, c23', Option.bind_some, asB_bool, cond_false, d1, hb1, List.getElem?_cons_succ, List.getElem?_cons_zero, asI_int, addr_ptr, hr]
    | ok ps =>
      rw [hx] at hloop'
      obtain ⟨s32, pv', d1, d2, d4, d5⟩ := hloop'
      obtain ⟨r2, a2, l2⟩ := hj2
      have a232 := a2.keepB d2 (by have := ha.lt; omega) (by simp; omega)
      obtain ⟨s38, f1, f2, f3, f4, f5⟩ := fin_ok (n := 5) a232 l2 d4 rfl (by simp only [List.all_cons, List.all_nil, d5.cell.2]; rfl)
      have K32 : Keep B [] s s32 := d2.mono (by omega) (fun j hj hlt => by simp at hj; omega)
      have nx32 := d2.next
      refine ⟨s38, .slice none 0 0, pv', ?_, K32.thenI f4 (by omega) (.inl hBj), Own.nil _ _ _, ((own_ne' (S := []) d5 f4 (.inl (by have := ha.lt; omega))).low (by omega))⟩
      simp only [readTail, c23', Option.bind_some, asB_bool, cond_false, d1, hb0, cond_true, List.getElem?_cons_succ, List.getElem?_cons_zero, addr_ptr, f1, f2, f3]
      rfl
theorem RdR.to {B ln i : Nat} {st s : SS} {r r' : Option (Value × SS)} {x : Except Nat PLine} (h : RdR B ln i s r x) (K : Keep B [] st s) (hr : ∀ y, r = some y → r' = some y) : RdR B ln i st r' x := by
  cases x with
  | ok x => obtain ⟨st', av, pv, a, k, c⟩ := h; exact ⟨st', av, pv, hr _ a, K.then k, c⟩
  | error o => obtain ⟨st', row, a, k, c⟩ := h; exact ⟨st', row, hr _ a, K.then k, c⟩
theorem RdR.off {B ln d : Nat} {st : SS} {r : Option (Value × SS)} {x : Except Nat PLine} (h : RdR B ln d st r x) : RdR B ln 0 st r (offE d x) := by
  cases x with
  | ok x => exact h
  | error o => obtain ⟨st', row, a, k, c⟩ := h; exact ⟨st', row, by rw [Nat.zero_add]; exact a, k, c⟩
theorem read_ok [Sym] {st : SS} {ln hi : Nat} {v : Value} {l : List Tok} (hll : st.lim ≤ st.next) (hhi : hi ≤ st.next) (h : RT st v (l.map fun t => (ln, t)) hi) (hlin : Lin l) (hok : ∀ t ∈ l, TokOk t) : RdR st.next ln 0 st (cc 32 [v] st) (readT l) := by
  have hl : LineAt (l.map fun t => (ln, t)) 0 ln l := ⟨⟨[], by simp⟩, hlin, hok⟩
  obtain ⟨t, r, rfl⟩ := hlin.ne
  have a1 : At (st.new (.cells L5 0)) st.next L5 := At.new hll L5
  have x1 : Ext st (st.new (.cells L5 0)) := (Ext.refl st).new _
  obtain ⟨p, e, hp⟩ := h.at' hl.head
  have e' : elemS v 0 5 = some p := e
  obtain ⟨_, _, _, q3, _⟩ := hp _ (h.ext x1)
  obtain ⟨s5, e5, a5, x5, n5⟩ := new_ok (st := st.new (.cells L5 0)) (x1.ll hll) (r := L5) (row := [.int .i64 ln, .string (mkS []), .string ⟨#[]⟩, .slice none 0 0, .slice none 0 0]) rfl rfl
  have e5' : ((st.new (.cells L5 0)).new (.cells L5 0)).st (st.new (.cells L5 0)).next 0 [.int .i64 ln, .string ⟨#[]⟩, .string ⟨#[]⟩, .slice none 0 0, .slice none 0 0] = some s5 := e5
  have x05 := x1.trans x5
  have b5 := a1.ext x5
  have h5 := h.ext x05
  obtain ⟨k0, k1, _⟩ := hp _ h5
  have hlb : st.next < (st.new (.cells L5 0)).next := by simp
  have K5 : Keep st.next [] st s5 := x05.keepB (Nat.le_refl _)
  have plain : readT (t :: r) = restT [] (t :: r) → (∀ y, readTail cc camshaftref16_Read_lf v st.next (st.new (.cells L5 0)).next 0 1 2 s5 = some y → cc 32 [v] st = some y) → RdR st.next ln 0 st (cc 32 [v] st) (readT (t :: r)) := by
    intro hr step
    rw [hr]
    have ht := rtail_ok (B := st.next) (s := s5) hhi (Nat.le_refl _) hlb a5.lt (x05.ll hll) h5 hl a5 ⟨_, b5, rfl⟩
    exact RdR.to ht K5 step
  by_cases hk : t.kd = 1
  · have hk' : (t.kd : Int) = 1 := by omega
    have hl1 := hl.tail (by omega)
    obtain ⟨u, r', rfl⟩ := hl1.lin.ne
    have c8 := ris_ok h5 hl1.head [58]
    have c8' : cc 50 [v, .int .i64 1, .int .i64 3, .string ⟨#[58]⟩] s5 = some (.bool (isSign u [58]), s5) := c8
    by_cases hc : isSign u [58] = true
    · rw [hc] at c8'
      have hoff : readT (t :: u :: r') = offE 2 (restT t.tx r') := by
        rw [readT_two, if_pos ⟨hk, hc⟩]
        cases restT t.tx r' <;> rfl
      rw [hoff]
      have hl2 := hl1.tail (by have := isSign_kd hc; omega)
      obtain ⟨s12, e12, a12, m12, n12⟩ := a5.sto (k := 1) (vs := [.string (mkS t.tx)]) (row' := [.int .i64 ln, .string (mkS t.tx), .string ⟨#[]⟩, .slice none 0 0, .slice none 0 0]) rfl rfl
      have b12 := b5.mod m12 (by simp)
      have h12 := h5.keepB (m12.keepB (Nat.le_refl _)) (by simp at n5; omega) (by simp; omega)
      have K12 := K5.thenI m12 x05.next (.inl (by simp))
      have ht := rtail_ok (B := st.next) (s := s12) (i := 2) hhi (Nat.le_refl _) hlb a12.lt (K12.ll hll) h12 hl2 a12 ⟨_, b12, rfl⟩
      refine RdR.to (RdR.off ht) K12 fun y hy => ?_
      refine camshaftref16_Read_eq v st ?_
      simp only [camshaftref16_Read, e', Option.bind_some, q3, asI_int, e5', k0, decide_eq_true hk', cond_true, c8', asB_bool, k1, asS_string, e12]
      exact hy
    · have hc' : isSign u [58] = false := Bool.eq_false_iff.2 hc
      rw [hc'] at c8'
      refine plain (by rw [readT_two, if_neg (fun x => hc x.2)]) fun y hy => ?_
      refine camshaftref16_Read_eq v st ?_
      simp only [camshaftref16_Read, e', Option.bind_some, q3, asI_int, e5', k0, decide_eq_true hk', cond_true, c8', asB_bool, cond_false]
      exact hy
  · have hk' : ¬ (t.kd : Int) = 1 := by omega
    refine plain ?_ fun y hy => ?_
    · cases r with
      | nil => rfl
      | cons u r' => rw [readT_two, if_neg (fun x => hk x.1)]
    · refine camshaftref16_Read_eq v st ?_
      simp only [camshaftref16_Read, e', Option.bind_some, q3, asI_int, e5', k0, decide_eq_false hk', cond_false]
      exact hy
end Go.Proofs.YthngaoncjpgeiaaDoorE
