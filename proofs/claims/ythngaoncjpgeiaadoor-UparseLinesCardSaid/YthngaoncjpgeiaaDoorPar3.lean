/- The parser's values and pairs. -/
import Derived.Test.YthngaoncjpgeiaaDoorPar2
import Derived.Test.YthngaoncjpgeiaaDoorShQ
set_option linter.unusedVariables false
set_option linter.unusedSimpArgs false
namespace Go.Proofs.YthngaoncjpgeiaaDoorE
open Go Go.E Go.Proofs

def valRow (x : Val) : List Value := [.string (mkS x.nm), .int .i64 x.x, .int .i64 x.col]
def prRow (p : Pr) : List Value := [.string (mkS p.fd), .int .i64 p.col, .string (mkS p.v.nm), .int .i64 p.v.x, .int .i64 p.v.col]
abbrev Z3 : List Value := [.string ⟨#[]⟩, .int .i64 0, .int .i64 0]
theorem LineAt.sz {st : SS} {b i ln : Nat} {v : Value} {us : List (Nat × Tok)} {l : List Tok} (h : PAt st b v us i) (hl : LineAt us i ln l) : i ≤ 1099511627776 := by
  obtain ⟨t, r, rfl⟩ := hl.lin.ne
  have := (List.getElem?_eq_some_iff.1 hl.head).1
  have := h.sz
  omega
theorem wrapNeg {n : Int} (h0 : 0 ≤ n) (h1 : n ≤ 2147483647) : IntKind.wrap .i64 (0 - n) = -n := by rw [wrap64 (by omega) (by omega)]; omega

/-- What value comes to. -/
def ValR (b : Nat) (v : Value) (us : List (Nat × Tok)) (i : Nat) (st : SS) (r : Option (Value × SS)) : Except Nat (Val × Nat) → Prop
  | .ok (x, n) => ∃ st', r = some (.tuple #[.agg (valRow x).toArray, .bool true], st') ∧ Mod [b] st st' ∧ PAt st' b v us (i + n)
  | .error o => ∃ w st', r = some (.tuple #[.agg (valRow w).toArray, .bool false], st') ∧ Mod [b] st st' ∧ PAt st' b v us (i + o)
theorem value_ok [Sym] {st : SS} {b i ln : Nat} {v : Value} {us : List (Nat × Tok)} {l : List Tok} (h : PAt st b v us i) (hl : LineAt us i ln l) :
    ValR b v us i st (cc 48 [ptr b 0] st) (takeT l) := by
  obtain ⟨t, r, rfl⟩ := hl.lin.ne
  have hb := h.blk.lt
  have a1 : At (st.new (.cells Z3 0)) st.next Z3 := At.new h.ll Z3
  have x1 : Ext st (st.new (.cells Z3 0)) := (Ext.refl st).new _
  obtain ⟨n, hn, c1⟩ := now_ok (h.ext x1).has hl.head
  have hn' : st.next + 1 ≤ n := hn
  obtain ⟨s5, e5, a5, x5, _⟩ := new_ok (st := (st.new (.cells Z3 0)).adv n) (Nat.le_trans h.ll (by simp; omega)) (r := Z3) (row := [.string ⟨#[]⟩, .int .i64 0, .int .i64 t.col]) rfl rfl
  have x05 : Ext st s5 := x1.trans ((Ext.advR _ hn).trans x5)
  have b5 : At s5 st.next Z3 := (a1.adv hn).ext x5
  obtain ⟨s6, c6, m6, p6⟩ := pnumber_ok (h.ext x05) hl.head
  have a6 := a5.mod m6 (by simp; omega)
  have b6 := b5.mod m6 (by simp; omega)
  have M6 : Mod [b] st s6 := (Mod.ofExt x05).then m6
  have k4 := (tok_fld (ln := ln) (t := t)).2.2.2
  have cN : ∀ row : List Value, row.length = 3 → ∀ d : List Value, d = row → True := fun _ _ _ _ => trivial
  by_cases h2 : t.kd = 2
  · rw [if_pos h2, decide_eq_true h2] at c6
    rw [if_pos h2] at p6
    obtain ⟨s9, e9, a9, m9, _⟩ := a6.sto (k := 1) (vs := [.int .i64 t.nm]) (row' := valRow ⟨[], t.nm, t.col⟩) rfl rfl
    have b9 := b6.mod m9 (by simp; omega)
    obtain ⟨s11, f1, f2, f3, f4, _⟩ := fin_ok (n := 3) b9 rfl a9 rfl rfl
    rw [takeT_cons, if_pos h2]
    refine ⟨s11, uparse_parser_value_eq _ st ?_, (M6.thenI m9 (.inl (by simp; omega))).thenI f4 (.inl (Nat.le_refl _)), (p6.modI m9 (by simp; omega)).modI f4 hb⟩
    simp only [uparse_parser_value, c1, Option.bind_some, k4, e5, c6, tupG, List.getElem?_toArray, List.getElem?_cons_succ, List.getElem?_cons_zero, asI_int, asB_bool, e9, cond_true, f1, f2, f3]
  · rw [if_neg h2, decide_eq_false h2] at c6
    rw [if_neg h2] at p6
    obtain ⟨s9, e9, a9, m9, _⟩ := a6.sto (k := 1) (vs := [.int .i64 0]) (row' := valRow ⟨[], 0, t.col⟩) rfl rfl
    have b9 := b6.mod m9 (by simp; omega)
    have p9 := p6.modI m9 (by simp; omega)
    have M9 := M6.thenI m9 (.inl (by simp; omega))
    obtain ⟨s13, c13, m13, p13⟩ := name_ok p9 hl.head
    have a13 := a9.mod m13 (by simp; omega)
    have b13 := b9.mod m13 (by simp; omega)
    have M13 := M9.then m13
    rw [takeT_cons, if_neg h2]
    by_cases h1 : t.kd = 1
    · rw [if_pos h1, decide_eq_true h1] at c13
      rw [if_pos h1] at p13
      rw [if_pos h1]
      have hl1 := hl.tail (by omega)
      obtain ⟨s, u, rfl⟩ := hl1.lin.ne
      obtain ⟨s16, e16, a16, m16, _⟩ := a13.sto (k := 0) (vs := [.string (mkS t.tx)]) (row' := valRow ⟨t.tx, 0, t.col⟩) rfl rfl
      have b16 := b13.mod m16 (by simp; omega)
      have p16 := p13.modI m16 (by simp; omega)
      have M16 := M13.thenI m16 (.inl (by simp; omega))
      obtain ⟨s20, c20, m20, p20⟩ := takes_ok p16 hl1.head [43]
      have c20' : cc 46 [ptr b 0, .string ⟨#[43]⟩] s16 = some (.bool (isSign s [43]), s20) := c20
      have a20 := a16.mod m20 (by simp; omega)
      have b20 := b16.mod m20 (by simp; omega)
      have M20 := M16.then m20
      simp only
      by_cases hp : isSign s [43] = true
      · rw [hp] at c20'
        rw [if_pos hp] at p20
        rw [if_pos hp]
        have hl2 := hl1.tail (by have := isSign_kd hp; omega)
        obtain ⟨w, z, rfl⟩ := hl2.lin.ne
        obtain ⟨s22, c22, m22, p22⟩ := pnumber_ok p20 hl2.head
        have a22 := a20.mod m22 (by simp; omega)
        have b22 := b20.mod m22 (by simp; omega)
        have M22 := M20.then m22
        simp only
        by_cases hw : w.kd = 2
        · rw [if_pos hw, decide_eq_true hw] at c22
          rw [if_pos hw] at p22
          rw [if_pos hw]
          obtain ⟨s25, e25, a25, m25, _⟩ := a22.sto (k := 1) (vs := [.int .i64 w.nm]) (row' := valRow ⟨t.tx, w.nm, t.col⟩) rfl rfl
          have b25 := b22.mod m25 (by simp; omega)
          obtain ⟨s27, f1, f2, f3, f4, _⟩ := fin_ok (n := 3) b25 rfl a25 rfl rfl
          refine ⟨s27, uparse_parser_value_eq _ st ?_, (M22.thenI m25 (.inl (by simp; omega))).thenI f4 (.inl (Nat.le_refl _)), (p22.modI m25 (by simp; omega)).modI f4 hb⟩
          simp only [uparse_parser_value, c1, Option.bind_some, k4, e5, c6, tupG, List.getElem?_toArray, List.getElem?_cons_succ, List.getElem?_cons_zero, asI_int, asB_bool, e9, cond_false, c13, asS_string, e16, Bool.not_true, c20', cond_true, c22, e25, f1, f2, f3]
        · rw [if_neg hw, decide_eq_false hw] at c22
          rw [if_neg hw] at p22
          rw [if_neg hw]
          obtain ⟨s25, e25, a25, m25, _⟩ := a22.sto (k := 1) (vs := [.int .i64 0]) (row' := valRow ⟨t.tx, 0, t.col⟩) rfl rfl
          have b25 := b22.mod m25 (by simp; omega)
          obtain ⟨s27, f1, f2, f3, f4, _⟩ := fin_ok (n := 3) b25 rfl a25 rfl rfl
          refine ⟨⟨t.tx, 0, t.col⟩, s27, uparse_parser_value_eq _ st ?_, (M22.thenI m25 (.inl (by simp; omega))).thenI f4 (.inl (Nat.le_refl _)), (p22.modI m25 (by simp; omega)).modI f4 hb⟩
          simp only [uparse_parser_value, c1, Option.bind_some, k4, e5, c6, tupG, List.getElem?_toArray, List.getElem?_cons_succ, List.getElem?_cons_zero, asI_int, asB_bool, e9, cond_false, c13, asS_string, e16, Bool.not_true, c20', cond_true, c22, e25, f1, f2, f3]
      · rw [if_neg hp] at p20
        have hp' : isSign s [43] = false := Bool.eq_false_iff.2 hp
        rw [hp'] at c20'
        rw [if_neg hp]
        obtain ⟨s29, c29, m29, p29⟩ := takes_ok p20 hl1.head [45]
        have c29' : cc 46 [ptr b 0, .string ⟨#[45]⟩] s20 = some (.bool (isSign s [45]), s29) := c29
        have a29 := a20.mod m29 (by simp; omega)
        have b29 := b20.mod m29 (by simp; omega)
        have M29 := M20.then m29
        by_cases hm : isSign s [45] = true
        · rw [hm] at c29'
          rw [if_pos hm] at p29
          rw [if_pos hm]
          have hl2 := hl1.tail (by have := isSign_kd hm; omega)
          obtain ⟨w, z, rfl⟩ := hl2.lin.ne
          obtain ⟨s31, c31, m31, p31⟩ := pnumber_ok p29 hl2.head
          have a31 := a29.mod m31 (by simp; omega)
          have b31 := b29.mod m31 (by simp; omega)
          have M31 := M29.then m31
          simp only
          by_cases hw : w.kd = 2
          · rw [if_pos hw, decide_eq_true hw] at c31
            rw [if_pos hw] at p31
            rw [if_pos hw]
            obtain ⟨s34, e34, a34, m34, _⟩ := a31.sto (k := 1) (vs := [.int .i64 w.nm]) (row' := valRow ⟨t.tx, w.nm, t.col⟩) rfl rfl
            have b34 := b31.mod m34 (by simp; omega)
            have l34 : s34.ld ((st.new (.cells Z3 0)).adv n).next 1 = some (.int .i64 w.nm) := a34.ld
            obtain ⟨s37, e37, a37, m37, _⟩ := a34.sto (k := 1) (vs := [.int .i64 (-w.nm)]) (row' := valRow ⟨t.tx, -w.nm, t.col⟩) rfl rfl
            have b37 := b34.mod m37 (by simp; omega)
            obtain ⟨s39, f1, f2, f3, f4, _⟩ := fin_ok (n := 3) b37 rfl a37 rfl rfl
            have hneg := wrapNeg hl2.tok.nm0 hl2.tok.nm1
            refine ⟨s39, uparse_parser_value_eq _ st ?_, ((M31.thenI m34 (.inl (by simp; omega))).thenI m37 (.inl (by simp; omega))).thenI f4 (.inl (Nat.le_refl _)), ((p31.modI m34 (by simp; omega)).modI m37 (by simp; omega)).modI f4 hb⟩
            simp only [uparse_parser_value, c1, Option.bind_some, k4, e5, c6, tupG, List.getElem?_toArray, List.getElem?_cons_succ, List.getElem?_cons_zero, asI_int, asB_bool, e9, cond_false, c13, asS_string, e16, Bool.not_true, c20', c29', cond_true, c31, e34, l34, hneg, e37, f1, f2, f3]
          · rw [if_neg hw, decide_eq_false hw] at c31
            rw [if_neg hw] at p31
            rw [if_neg hw]
            obtain ⟨s34, e34, a34, m34, _⟩ := a31.sto (k := 1) (vs := [.int .i64 0]) (row' := valRow ⟨t.tx, 0, t.col⟩) rfl rfl
            have b34 := b31.mod m34 (by simp; omega)
            have l34 : s34.ld ((st.new (.cells Z3 0)).adv n).next 1 = some (.int .i64 0) := a34.ld
            obtain ⟨s37, e37, a37, m37, _⟩ := a34.sto (k := 1) (vs := [.int .i64 0]) (row' := valRow ⟨t.tx, 0, t.col⟩) rfl rfl
            have b37 := b34.mod m37 (by simp; omega)
            obtain ⟨s39, f1, f2, f3, f4, _⟩ := fin_ok (n := 3) b37 rfl a37 rfl rfl
            have hneg : IntKind.wrap .i64 (0 - 0) = 0 := by decide
            refine ⟨⟨t.tx, 0, t.col⟩, s39, uparse_parser_value_eq _ st ?_, ((M31.thenI m34 (.inl (by simp; omega))).thenI m37 (.inl (by simp; omega))).thenI f4 (.inl (Nat.le_refl _)), ((p31.modI m34 (by simp; omega)).modI m37 (by simp; omega)).modI f4 hb⟩
            simp only [uparse_parser_value, c1, Option.bind_some, k4, e5, c6, tupG, List.getElem?_toArray, List.getElem?_cons_succ, List.getElem?_cons_zero, asI_int, asB_bool, e9, cond_false, c13, asS_string, e16, Bool.not_true, c20', c29', cond_true, c31, e34, l34, hneg, e37, f1, f2, f3]
        · rw [if_neg hm] at p29
          have hm' : isSign s [45] = false := Bool.eq_false_iff.2 hm
          rw [hm'] at c29'
          rw [if_neg hm]
          obtain ⟨s42, f1, f2, f3, f4, _⟩ := fin_ok (n := 3) b29 rfl a29 rfl rfl
          refine ⟨s42, uparse_parser_value_eq _ st ?_, M29.thenI f4 (.inl (Nat.le_refl _)), p29.modI f4 hb⟩
          simp only [uparse_parser_value, c1, Option.bind_some, k4, e5, c6, tupG, List.getElem?_toArray, List.getElem?_cons_succ, List.getElem?_cons_zero, asI_int, asB_bool, e9, cond_false, c13, asS_string, e16, Bool.not_true, c20', c29', f1, f2, f3]
    · rw [if_neg h1, decide_eq_false h1] at c13
      rw [if_neg h1] at p13
      rw [if_neg h1]
      obtain ⟨s16, e16, a16, m16, _⟩ := a13.sto (k := 0) (vs := [.string (mkS [])]) (row' := valRow ⟨[], 0, t.col⟩) rfl rfl
      have b16 := b13.mod m16 (by simp; omega)
      obtain ⟨s18, f1, f2, f3, f4, _⟩ := fin_ok (n := 3) b16 rfl a16 rfl rfl
      refine ⟨⟨[], 0, t.col⟩, s18, uparse_parser_value_eq _ st ?_, (M13.thenI m16 (.inl (by simp; omega))).thenI f4 (.inl (Nat.le_refl _)), (p13.modI m16 (by simp; omega)).modI f4 hb⟩
      simp only [uparse_parser_value, c1, Option.bind_some, k4, e5, c6, tupG, List.getElem?_toArray, List.getElem?_cons_succ, List.getElem?_cons_zero, asI_int, asB_bool, e9, cond_false, c13, asS_string, e16, Bool.not_false, cond_true, f1, f2, f3]

/-! ### Is a field known? -/
theorem prRow_len (p : Pr) : (prRow p).length = 5 := rfl
theorem prRow_one (p : Pr) : (prRow p).all one = true := rfl
theorem valRow_len (p : Val) : (valRow p).length = 3 := rfl
theorem valRow_one (p : Val) : (valRow p).all one = true := rfl
theorem pairEq_ok [Sym] (p : Pr) (f : List UInt8) (q : Nat) (st : SS) (hq : st.mem.get q = some (.cells [.string (mkS f)] 0)) (hlt : q < st.next) : ∃ n, st.next ≤ n ∧ cc 66 [.agg (prRow p).toArray, ptr q 0] st = some (.bool (decide (p.fd = f)), st.adv n) := by
  refine ⟨st.next + 1, by omega, pairEq_eq _ _ st ?_⟩
  have l0 : ((st.ro st.next).new (.cells (prRow p) 0)).ld st.next 0 = some (.string (mkS p.fd)) := by
    have hm : ((st.ro st.next).new (.cells (prRow p) 0)).mem.get st.next = some (.cells (prRow p) 0) := SS.new_get (st := st.ro st.next)
    rw [SS.ld_cells hm]; rfl
  have l1 : ((st.ro st.next).new (.cells (prRow p) 0)).ld q 0 = some (.string (mkS f)) := by
    rw [SS.ld_cells (c := [.string (mkS f)]) (z := 0) (by rw [SS.new_old (by simp; omega)]; exact hq)]; rfl
  simp only [pairEq, aggC, SS.ro_next, l0, Option.bind_some, asS_string, addr_ptr, l1, eqT_dec]
  rfl
theorem cont_loop [Sym] (ps : List Pr) (hsz : ps.length ≤ 1099511627776) (f : List UInt8) (q : Nat) (v : Value) (st0 : SS) (hv : Rd st0 v (rowsF prRow ps) 5 ps.length) (hq : st0.mem.get q = some (.cells [.string (mkS f)] 0)) (hlt : q < st0.next) :
    ∀ (k j : Nat) (st : SS), ps.length = k + j → Ext st0 st → ∃ e vs st', idxPair_lf 2 [v, .func (.func 66) #[] #[ptr q 0], .int .i64 ps.length, .int .i64 j] st = some (e, vs, st') ∧ Ext st0 st' ∧
      ((e = 0 ∧ vs = [] ∧ f ∉ (ps.drop j).map (·.fd)) ∨ (e = 1 ∧ f ∈ (ps.drop j).map (·.fd) ∧ ∃ m : Nat, vs = [.int .i64 m])) := by
  intro k
  induction k with
  | zero =>
    intro j st hk he
    refine ⟨0, [], st, idxPair_l2_eq v q _ _ st ?_, he, .inl ⟨rfl, rfl, ?_⟩⟩
    · have : ¬ (j : Int) < (ps.length : Int) := by omega
      simp only [idxPair_l2, decide_eq_false this, cond_false]
    · rw [List.drop_of_length_le (by omega)]; simp
  | succ k ih =>
    intro j st hk he
    obtain ⟨p, hp⟩ : ∃ p, ps[j]? = some p := ⟨_, List.getElem?_eq_getElem (by omega)⟩
    have hjl : (j : Int) < (ps.length : Int) := by omega
    obtain ⟨x, b1, b2, _⟩ := (hv.ext he).load (j := (j : Int)) (by omega) hjl (rowsF_get prRow_len ps j p hp) rfl
    obtain ⟨n, hn, c1⟩ := pairEq_ok p f q st (he.get hlt hq) (Nat.lt_of_lt_of_le hlt he.next)
    have b2' : st.ldN x.1 x.2 5 = some (.agg (prRow p).toArray) := b2
    have hd := drop_cons hp
    have hw := wrapI1 (i := j) (by omega)
    by_cases hf : p.fd = f
    · refine ⟨1, [.int .i64 j], st.adv n, idxPair_l2_eq v q _ _ st ?_, he.adv (by have := he.next; omega), .inr ⟨rfl, ?_, j, rfl⟩⟩
      · rw [decide_eq_true hf] at c1
        simp only [idxPair_l2, decide_eq_true hjl, cond_true, b1, Option.bind_some, b2', c1, asB_bool]
      · rw [hd]; simp [hf]
    · obtain ⟨e, vs, st', d1, d2, d3⟩ := ih (j + 1) (st.adv n) (by omega) (he.adv (by have := he.next; omega))
      rw [decide_eq_false hf] at c1
      refine ⟨e, vs, st', idxPair_l2_eq v q _ _ st ?_, d2, ?_⟩
      · simp only [idxPair_l2, decide_eq_true hjl, cond_true, b1, Option.bind_some, b2', c1, asB_bool, cond_false, hw]
        exact d1
      · rw [hd]
        rcases d3 with ⟨e1, e2, e3⟩ | ⟨e1, e2, e3⟩
        · exact .inl ⟨e1, e2, by simp only [List.map_cons, List.mem_cons, not_or]; exact ⟨fun x => hf x.symm, e3⟩⟩
        · exact .inr ⟨e1, by simp only [List.map_cons, List.mem_cons]; exact .inr e2, e3⟩
theorem cont_ok [Sym] (ps : List Pr) (hsz : ps.length ≤ 1099511627776) (f : List UInt8) (q : Nat) (v : Value) (st : SS) (hv : Rd st v (rowsF prRow ps) 5 ps.length) (hq : st.mem.get q = some (.cells [.string (mkS f)] 0)) (hlt : q < st.next) :
    ∃ n, st.next ≤ n ∧ cc 65 [v, .func (.func 66) #[] #[ptr q 0]] st = some (.bool (decide (f ∈ ps.map (·.fd))), st.adv n) := by
  obtain ⟨e, vs, st', d1, d2, d3⟩ := cont_loop ps hsz f q v ((st.ro st.next).ro (st.ro st.next).next) hv hq hlt ps.length 0 ((st.ro st.next).ro (st.ro st.next).next) (by omega) (.refl _)
  have d1' : idxPair_lf 2 [v, .func (.func 66) #[] #[ptr q 0], .int .i64 ps.length, .int .i64 0] ((st.ro st.next).ro (st.ro st.next).next) = some (e, vs, st') := d1
  have hlen : (lenV v).bind (asI .i64) = some (ps.length : Int) := by rw [hv.len]; rfl
  rw [List.drop_zero] at d3
  have hnx := d2.next
  simp at hnx
  refine ⟨st'.next, hnx, contPair_eq _ _ st ?_⟩
  rcases d3 with ⟨rfl, rfl, e3⟩ | ⟨rfl, e2, m, rfl⟩
  · have c : cc 81 [v, .func (.func 66) #[] #[ptr q 0]] (st.ro st.next) = some (.int .i64 (-1), (st.ro st.next).adv st'.next) := by
      refine idxPair_eq _ _ _ ?_
      have hb0 : Nat.beq 0 0 = true := rfl
      simp only [idxPair, hlen, Option.bind_some, d1', hb0, cond_true]
    have h0 : ¬ (0 : Int) ≤ -1 := by omega
    rw [decide_eq_false e3]
    simp only [contPair, c, Option.bind_some, asI_int, decide_eq_false h0]
    rfl
  · have c : cc 81 [v, .func (.func 66) #[] #[ptr q 0]] (st.ro st.next) = some (.int .i64 m, (st.ro st.next).adv st'.next) := by
      refine idxPair_eq _ _ _ ?_
      have hb0 : Nat.beq 1 0 = false := rfl
      simp only [idxPair, hlen, Option.bind_some, d1', hb0, cond_false, List.getElem?_cons_zero, asI_int]
    have h0 : (0 : Int) ≤ (m : Int) := by omega
    rw [decide_eq_true e2]
    simp only [contPair, c, Option.bind_some, asI_int, decide_eq_true h0]
    rfl
end Go.Proofs.YthngaoncjpgeiaaDoorE
