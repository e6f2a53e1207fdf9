/- UlexIs. -/
import Derived.Test.YthngaoncjpgeiaaDoorShD
import Derived.Test.YthngaoncjpgeiaaDoorXF
set_option linter.unusedVariables false
set_option linter.unusedSimpArgs false
namespace Go.Proofs.YthngaoncjpgeiaaDoorE
open Go Go.E Go.Proofs

theorem eq_pair (a b c d : Int) : eqA Tryd.prog Lk0 24 (.agg #[.int .i64 a, .int .i64 b]) (.agg #[.int .i64 c, .int .i64 d]) = some (decide (a = c) && (decide (b = d) && true)) := by kernel_rfl
theorem eq_tok (a b c d a' b' c' d' : Int) (s s' : ByteArray) : eqA Tryd.prog Lk0 36 (.agg #[.int .i64 a, .string s, .int .i64 b, .int .i64 c, .int .i64 d]) (.agg #[.int .i64 a', .string s', .int .i64 b', .int .i64 c', .int .i64 d']) = some (decide (a = a') && (eqT s s' && (decide (b = b') && (decide (c = c') && (decide (d = d') && true))))) := by kernel_rfl
theorem eq_rtok (a b c d a' b' c' d' : Int) (s s' : ByteArray) : eqA Tryd.prog Lk0 73 (.agg #[.int .i64 a, .string s, .int .i64 b, .int .i64 c, .int .i64 d]) (.agg #[.int .i64 a', .string s', .int .i64 b', .int .i64 c', .int .i64 d']) = some (decide (a = a') && (eqT s s' && (decide (b = b') && (decide (c = c') && (decide (d = d') && true))))) := by kernel_rfl

theorem TK.newV {st : SS} {r : List Value} {v : Value} {n : Nat} (hl : st.lim ≤ st.next) (h1 : v.cells.toList.all one = true) (hn : v.cells.size = n) (hr : r.length = n) : ∃ stX, (st.new (.cells r 0)).stV st.next 0 n v = some stX ∧ TK st stX v.cells.toList := by
  obtain ⟨stX, h, t⟩ := TK.new (st := st) (r := r) (row := v.cells.toList) hl h1 (by simp [hr, hn])
  refine ⟨stX, ?_, t⟩
  unfold SS.stV
  have : Nat.beq v.cells.size n = true := by rw [beq_dec, hn]; simp
  rw [this]
  exact h
theorem TK.pair {st : SS} {r : List Value} (e : Nat × Nat) (hl : st.lim ≤ st.next) (hr : r.length = 2) : ∃ stX, (st.new (.cells r 0)).stV st.next 0 2 (pairV e) = some stX ∧ TK st stX [.int .i64 e.1, .int .i64 e.2] := TK.newV (v := pairV e) hl (by rfl) rfl hr
theorem rowsL_get (us : List (Nat × Tok)) (i : Nat) (t : Nat × Tok) (h : us[i]? = some t) : ((rowsL us).drop (i * 5)).take 5 = tokRow t.1 t.2 := by
  induction us generalizing i with
  | nil => simp at h
  | cons a r ih =>
    cases i with
    | zero =>
      simp at h
      subst h
      show ((tokRow a.1 a.2 ++ rowsL r).drop (0 * 5)).take 5 = _
      rfl
    | succ i =>
      have := ih i (by simpa using h)
      show ((tokRow a.1 a.2 ++ rowsL r).drop ((i + 1) * 5)).take 5 = _
      have e : (i + 1) * 5 = (tokRow a.1 a.2).length + i * 5 := by simp [tokRow]; omega
      rw [e, ← List.drop_drop, List.drop_left]
      exact this
theorem tokRow_len (a : Int) (t : Tok) : (tokRow a t).length = 5 := rfl
theorem tokRow_one (a : Int) (t : Tok) : (tokRow a t).all one = true := rfl
theorem aliveT : lexT (bl ⟨#[116, 111, 61, 108, 111, 111, 112]⟩) = .ok [(1, ⟨1, [116, 111], 0, 1⟩), (1, ⟨3, [61], 0, 3⟩), (1, ⟨1, [108, 111, 111, 112], 0, 4⟩), (1, ⟨0, [], 0, 8⟩)] := by kernel_rfl
theorem elemA0 (i : Nat) : elemA (ptr i 0) 2 0 1 = some (i, 0) := rfl
theorem elemA1 (i : Nat) : elemA (ptr i 0) 2 1 1 = some (i, 1) := rfl
theorem alive_ok [Sym] {st : SS} (hg : Gd st) : ∃ n, st.next ≤ n ∧ cc 14 [] st = some (.bool true, st.adv n) := by
  have h := lex_ok (st := st.ro st.next) hg.ro (Nat.le_refl _) ⟨#[116, 111, 61, 108, 111, 111, 112]⟩ (by decide)
  rw [aliveT] at h
  obtain ⟨v, st', a, he, ho⟩ := h
  have hr := ho.rd
  have hl : st'.lim ≤ st'.next := by rw [he.lim]; exact he.next
  obtain ⟨st6, e6, t6⟩ := TK.pair (st := st') (r := [.int .i64 0, .int .i64 0]) (0, 0) hl rfl
  have hr6 := hr.ext t6.ext
  have hn6 : st.next ≤ st6.next := Nat.le_trans he.next t6.ext.next
  refine ⟨st6.next, hn6, camshaftlaw15_alive_eq st ?_⟩
  have hlen : (lenV v).bind (asI .i64) = some 4 := by rw [hr.len]; rfl
  obtain ⟨p0, a0, _, b0⟩ := hr6.load (j := 0) (by omega) (by simp) (rowsL_get _ 0 (1, ⟨1, [116, 111], 0, 1⟩) rfl) rfl
  obtain ⟨p1, a1, _, b1⟩ := hr6.load (j := 1) (by omega) (by simp) (rowsL_get _ 1 (1, ⟨3, [61], 0, 3⟩) rfl) rfl
  obtain ⟨p2, a2, _, b2⟩ := hr6.load (j := 2) (by omega) (by simp) (rowsL_get _ 2 (1, ⟨1, [108, 111, 111, 112], 0, 4⟩) rfl) rfl
  obtain ⟨p3, a3, c3, _⟩ := hr6.load (j := 3) (by omega) (by simp) (rowsL_get _ 3 (1, ⟨0, [], 0, 8⟩) rfl) rfl
  have b0' : st6.ld p0.1 (p0.2 + 1) = some (.string ⟨#[116, 111]⟩) := b0 1 (by omega)
  have b1' : st6.ld p1.1 p1.2 = some (.int .i64 3) := b1 0 (by omega)
  have b2' : st6.ld p2.1 p2.2 = some (.int .i64 1) := b2 0 (by omega)
  have c3' : st6.ldN p3.1 p3.2 5 = some (.agg #[.int .i64 0, .string ⟨#[]⟩, .int .i64 0, .int .i64 1, .int .i64 8]) := c3
  have q1 : eqT ⟨#[116, 111]⟩ ⟨#[116, 111]⟩ = true := rfl
  have q2 : (decide ((0 : Int) = 0) && (eqT ⟨#[]⟩ ⟨#[]⟩ && (decide ((0 : Int) = 0) && (decide ((1 : Int) = 1) && (decide ((8 : Int) = 8) && true))))) = true := rfl
  have q3 : eqA Tryd.prog Lk0 36 (.agg #[.int .i64 0, .string ⟨#[]⟩, .int .i64 0, .int .i64 1, .int .i64 8]) (.agg #[.int .i64 0, .string ⟨#[]⟩, .int .i64 0, .int .i64 1, .int .i64 8]) = some true := (eq_tok ..).trans (congrArg some q2)
  have a' : cc 15 [.string ⟨#[116, 111, 61, 108, 111, 111, 112]⟩] (st.ro st.next) = some (.tuple #[v, pairV (0, 0), .int .i64 0], st') := a
  simp only [camshaftlaw15_alive, a', Option.bind_some, tupG, List.getElem?_toArray, List.getElem?_cons_succ, List.getElem?_cons_zero, asI_int, e6, decide_true, cond_true, hlen, a0, a1, a2, a3, b0', b1', b2', c3', asS_string, q1, q3, asB_bool]
theorem same_loop [Sym] (us : List (Nat × Tok)) (hus : us.length ≤ 2 ^ 40) (v w : Value) (st0 : SS) (hv : Rd st0 v (rowsL us) 5 us.length) (hw : Rd st0 w (rowsL us) 5 us.length) : ∀ (k i : Nat) (st : SS), us.length = k + i → Ext st0 st → st.lim ≤ st.next →
    ∃ st', camshaftlaw15_same_lf 4 [w, v, .int .i64 us.length, .int .i64 i] st = some (0, [], st') ∧ Ext st0 st' := by
  intro k
  induction k with
  | zero =>
    intro i st hk he hl
    refine ⟨st, camshaftlaw15_same_l4_eq w v _ _ st ?_, he⟩
    have : ¬ (i : Int) < (us.length : Int) := by omega
    simp only [camshaftlaw15_same_l4, decide_eq_false this, cond_false]
  | succ k ih =>
    intro i st hk he hl
    obtain ⟨t, ht⟩ : ∃ t, us[i]? = some t := ⟨_, List.getElem?_eq_getElem (by omega)⟩
    have hlt : (i : Int) < (us.length : Int) := by omega
    obtain ⟨p, a1, a2, _⟩ := (hv.ext he).load (j := (i : Int)) (by omega) hlt (rowsL_get us i t ht) rfl
    obtain ⟨st4, e4, t4⟩ := TK.newV (st := st) (r := [.int .i64 0, .string ⟨#[]⟩, .int .i64 0, .int .i64 0, .int .i64 0]) (v := .agg (tokRow t.1 t.2).toArray) (n := 5) hl (by rfl) (by rfl) rfl
    have t4' : TK st st4 [.int .i64 t.2.kd, .string (mkS t.2.tx), .int .i64 t.2.nm, .int .i64 t.1, .int .i64 t.2.col] := t4
    obtain ⟨q, b1, b2, _⟩ := (hw.ext (he.trans t4.ext)).load (j := (i : Int)) (by omega) hlt (rowsL_get us i t ht) rfl
    obtain ⟨st', c1, c2⟩ := ih (i + 1) st4 (by omega) (he.trans t4.ext) (by rw [t4.ext.lim]; have := t4.ext.next; omega)
    refine ⟨st', camshaftlaw15_same_l4_eq w v _ _ st ?_, c2⟩
    have hw1 : IntKind.wrap .i64 ((i : Int) + 1) = ((i + 1 : Nat) : Int) := by rw [wrap64 (by omega) (by omega)]; omega
    have b2' : st4.ldN q.1 q.2 5 = some (.agg #[.int .i64 t.2.kd, .string (mkS t.2.tx), .int .i64 t.2.nm, .int .i64 t.1, .int .i64 t.2.col]) := b2
    have hq : eqT (mkS t.2.tx) (mkS t.2.tx) = true := by rw [eqT_iff']; simp
    simp only [camshaftlaw15_same_l4, decide_eq_true hlt, cond_true, a1, a2, e4, Option.bind_some, t4'.ld, List.getElem?_cons_succ, List.getElem?_cons_zero, asI_int, asS_string, b1, b2', eq_rtok, decide_true, hq, Bool.and_true, Bool.not_true, asB_bool, cond_false, hw1]
    exact c1
theorem same_ok [Sym] (us : List (Nat × Tok)) (hus : us.length ≤ 2 ^ 40) (v w : Value) (st : SS) (hv : Rd st v (rowsL us) 5 us.length) (hw : Rd st w (rowsL us) 5 us.length) :
    ∃ n, st.next ≤ n ∧ cc 17 [v, w] st = some (.bool true, st.adv n) := by
  have hr : ∀ {x : Value}, Rd st x (rowsL us) 5 us.length → Rd (st.ro st.next) x (rowsL us) 5 us.length := fun h => h
  obtain ⟨st', h1, h2⟩ := same_loop us hus v w (st.ro st.next) (hr hv) (hr hw) us.length 0 (st.ro st.next) (by omega) (.refl _) (Nat.le_refl _)
  refine ⟨st'.next, h2.next, camshaftlaw15_same_eq v w st ?_⟩
  have e1 : (lenV v).bind (asI .i64) = some (us.length : Int) := by rw [hv.len]; rfl
  have e2 : (lenV w).bind (asI .i64) = some (us.length : Int) := by rw [hw.len]; rfl
  have hb0 : Nat.beq 0 0 = true := rfl
  have h1' : camshaftlaw15_same_lf 4 [w, v, .int .i64 us.length, .int .i64 0] (st.ro st.next) = some (0, [], st') := h1
  simp only [camshaftlaw15_same, e1, e2, Option.bind_some, decide_true, Bool.not_true, cond_false, h1', hb0, cond_true]
theorem lexPs_len (ps : List (List UInt8)) (i N : Nat) (us : List (Nat × Tok)) (h : lexPs i ps = .ok us) (hN : ∀ p ∈ ps, ∀ ts, lineX p = .ok ts → ts.length ≤ N) : us.length ≤ ps.length * N := by
  induction ps generalizing i us with
  | nil => cases h; simp
  | cons p r ih =>
    unfold lexPs at h
    cases hx : lineX p with
    | error c => rw [hx] at h; cases h
    | ok ts =>
      rw [hx] at h
      cases hy : lexPs (i + 1) r with
      | error e => rw [hy] at h; cases h
      | ok vs =>
        rw [hy] at h
        cases h
        have h1 := ih (i + 1) vs hy (fun q hq => hN q (List.mem_cons_of_mem _ hq))
        have h2 := hN p (List.mem_cons_self ..) ts hx
        rw [List.length_append, List.length_map, List.length_cons, Nat.add_mul]
        omega
theorem lexL_len (k col : Nat) (l : List UInt8) (ts : List Tok) (h : lexL k col l = .ok ts) : ts.length ≤ k := by
  induction k generalizing col l ts with
  | zero => cases h; simp
  | succ k ih =>
    unfold lexL at h
    split at h
    · cases h; simp
    · have := ih _ _ _ h; omega
    · rename_i kd n x _
      cases hx : lexL k (col + n) (l.drop n) with
      | error e => rw [hx] at h; cases h
      | ok us => rw [hx] at h; cases h; have := ih _ _ _ hx; simp; omega
    · cases h
theorem lineX_len (p : List UInt8) (ts : List Tok) (h : lineX p = .ok ts) : ts.length ≤ p.length + 1 := by
  unfold lineX at h
  split at h
  · rename_i us hu; cases h; have := lexL_len _ _ _ _ hu; simp; omega
  · cases h
theorem lexT_len (l : List UInt8) (us : List (Nat × Tok)) (h : lexT l = .ok us) : us.length ≤ (l.length + 1) * (l.length + 1) := by
  have h1 := lexPs_len (pieces 10 l) 0 (l.length + 1) us h (fun p hp ts hts => by have := pieces_mem 10 l p hp; have := lineX_len p ts hts; omega)
  exact Nat.le_trans h1 (Nat.mul_le_mul_right _ (pieces_len 10 l))
theorem lexPs_pos (ps : List (List UInt8)) (i : Nat) (e : Nat × Nat) (h : lexPs i ps = .error e) : 0 < e.1 := by
  induction ps generalizing i with
  | nil => cases h
  | cons p r ih =>
    unfold lexPs at h
    cases hx : lineX p with
    | error c => rw [hx] at h; cases h; simp
    | ok ts =>
      rw [hx] at h
      cases hy : lexPs (i + 1) r with
      | error e => rw [hy] at h; cases h; exact ih _ hy
      | ok vs => rw [hy] at h; cases h
theorem ulexIs_ok [Sym] {st : SS} (hg : Gd st) (hl : st.lim ≤ st.next) (s : ByteArray) : ∃ st', cc 3 [.string s] st = some (.bool true, st') := by
  obtain ⟨n, hn, ha⟩ := alive_ok hg
  have hg1 : Gd (st.adv n) := hg.ext ((Ext.refl st).adv hn)
  by_cases hs : 2048 < s.size
  · refine ⟨st.adv n, camshaftlaw15_UlexIs_eq s st ?_⟩
    have hs' : (2048 : Int) < (s.size : Int) := by omega
    simp only [camshaftlaw15_UlexIs, ha, Option.bind_some, asB_bool, Bool.not_true, cond_false, decide_eq_true hs', cond_true]
  · have hs' : ¬ (2048 : Int) < (s.size : Int) := by omega
    have h1 := lex_ok hg1 (by simp; omega) s (by omega)
    cases hx : lexT (bl s) with
    | ok us =>
      have hlen := lexT_len _ _ hx
      rw [bl_length] at hlen
      have hlen2 : (s.size + 1) * (s.size + 1) ≤ 2049 * 2049 := Nat.mul_le_mul (by omega) (by omega)
      rw [hx] at h1
      obtain ⟨v, st3, a3, e3, o3⟩ := h1
      have l3 : st3.lim ≤ st3.next := by rw [e3.lim]; have := e3.next; simp at this ⊢; omega
      obtain ⟨st8, e8, t8⟩ := TK.pair (st := st3) (r := [.int .i64 0, .int .i64 0]) (0, 0) l3 rfl
      have l8 : st8.lim ≤ st8.next := by rw [t8.ext.lim]; have := t8.ext.next; omega
      have h2 := rlex_ok l8 s (by omega)
      rw [hx] at h2
      obtain ⟨w, st9, a9, e9, o9⟩ := h2
      have l9 : st9.lim ≤ st9.next := by rw [e9.lim]; have := e9.next; omega
      obtain ⟨st13, e13, t13⟩ := TK.pair (st := st9) (r := [.int .i64 0, .int .i64 0]) (0, 0) l9 rfl
      have rv : Rd st13 v (rowsL us) 5 us.length := ((o3.rd.ext t8.ext).ext e9).ext t13.ext
      have rw' : Rd st13 w (rowsL us) 5 us.length := o9.rd.ext t13.ext
      obtain ⟨m, hm, hsame⟩ := same_ok us (by omega) v w st13 rv rw'
      have m8 : st13.mem.get st3.next = some (.cells [.int .i64 0, .int .i64 0] 0) := (e9.trans t13.ext).get t8.lt t8.mem
      have k1 : st13.ldN st3.next 0 2 = some (.agg #[.int .i64 0, .int .i64 0]) := by rw [SS.ldN_cells m8, cut_all (n := 2) rfl]; rfl
      have k2 : st13.ldN st9.next 0 2 = some (.agg #[.int .i64 0, .int .i64 0]) := t13.ldN (n := 2) rfl
      have a3' : cc 15 [.string s] (st.adv n) = some (.tuple #[v, pairV (0, 0), .int .i64 0], st3) := a3
      have a9' : cc 16 [.string s] st8 = some (.tuple #[w, pairV (0, 0)], st9) := a9
      refine ⟨st13.adv m, camshaftlaw15_UlexIs_eq s st ?_⟩
      have h00 : decide ((0 : Int) < 0) = false := rfl
      have h01 : st13.ld st9.next 0 = some (.int .i64 0) := t13.ld
      simp only [camshaftlaw15_UlexIs, ha, Option.bind_some, asB_bool, Bool.not_true, cond_false, decide_eq_false hs', a3', tupG, List.getElem?_toArray, List.getElem?_cons_succ, List.getElem?_cons_zero, asI_int, e8, a9', e13, elemA0, h01, h00, decide_true, cond_true, k1, k2, eq_pair, Bool.and_true, hsame]
    | error e =>
      have hpos := lexPs_pos _ _ _ hx
      rw [hx] at h1
      obtain ⟨st3, a3, e3⟩ := h1
      have l3 : st3.lim ≤ st3.next := by rw [e3.lim]; have := e3.next; simp at this ⊢; omega
      obtain ⟨st8, e8, t8⟩ := TK.pair (st := st3) (r := [.int .i64 0, .int .i64 0]) e l3 rfl
      have l8 : st8.lim ≤ st8.next := by rw [t8.ext.lim]; have := t8.ext.next; omega
      have h2 := rlex_ok l8 s (by omega)
      rw [hx] at h2
      obtain ⟨st9, a9, e9⟩ := h2
      have l9 : st9.lim ≤ st9.next := by rw [e9.lim]; have := e9.next; omega
      obtain ⟨st13, e13, t13⟩ := TK.pair (st := st9) (r := [.int .i64 0, .int .i64 0]) e l9 rfl
      have m8 : st13.mem.get st3.next = some (.cells [.int .i64 e.1, .int .i64 e.2] 0) := (e9.trans t13.ext).get t8.lt t8.mem
      have k1 : st13.ldN st3.next 0 2 = some (.agg #[.int .i64 e.1, .int .i64 e.2]) := by rw [SS.ldN_cells m8, cut_all (n := 2) rfl]; rfl
      have k2 : st13.ldN st9.next 0 2 = some (.agg #[.int .i64 e.1, .int .i64 e.2]) := t13.ldN (n := 2) rfl
      have a3' : cc 15 [.string s] (st.adv n) = some (.tuple #[.slice none 0 0, pairV e, .int .i64 4], st3) := a3
      have a9' : cc 16 [.string s] st8 = some (.tuple #[.slice none 0 0, pairV e], st9) := a9
      refine ⟨st13, camshaftlaw15_UlexIs_eq s st ?_⟩
      have h00 : (0 : Int) < (e.1 : Int) := by omega
      have h01 : st13.ld st9.next 0 = some (.int .i64 e.1) := t13.ld
      have hlv : (lenV (.slice none 0 0)).bind (asI .i64) = some 0 := rfl
      simp only [camshaftlaw15_UlexIs, ha, Option.bind_some, asB_bool, Bool.not_true, cond_false, decide_eq_false hs', a3', tupG, List.getElem?_toArray, List.getElem?_cons_succ, List.getElem?_cons_zero, asI_int, e8, a9', e13, elemA0, h01, decide_eq_true h00, decide_true, cond_true, k1, k2, eq_pair, Bool.and_true, hlv]

/-! ### The start -/
noncomputable def tab0 : List (Nat × AObj) := [(4, .table [.chan (some 4)]), (5, .table [.chan (some 5)])]
noncomputable def st0 : SS := ⟨tabM tab0, 12, 12⟩
theorem gd0 : Gd st0 := ⟨by simp [st0, tabM, tab0, PT.get_upd], by simp [st0, tabM, tab0, PT.get_upd], Nat.le_refl _⟩
theorem globIn : ∀ g, Lk0.glob g = true → g ∈ tab0.map (·.1) := fun g h => by
  have h' : (Nat.beq g 4 || Nat.beq g 5) = true := h
  simp only [Bool.or_eq_true, beq_dec, decide_eq_true_eq] at h'
  rcases h' with rfl | rfl <;> simp [tab0]
theorem tabLt : ∀ x ∈ tab0, x.1 < 12 := fun x hx => by
  simp only [tab0, List.mem_cons, List.not_mem_nil, or_false] at hx
  rcases hx with rfl | rfl <;> decide
abbrev symE (a4 : TypeId) (u4 : Value) (a5 : TypeId) (u5 : Value) : Sym where
  v i := if i = 4 then .iface a4 u4 else .iface a5 u5
  ok i := by
    refine .inr (.inr ?_)
    split <;> exact ⟨_, _, rfl⟩
/-- A law of this seat, at its start. -/
theorem law_at {f : Nat} {fn : Func} (hf : Lk0.func f = some (f, fn)) {W : World} {laid : List (String × DataW Unit)} (h : laidMet Tryd.prog laid W) (h4 : ∃ nm d, ("strconv.ErrSyntax", DataW.iface nm d) ∈ laid) (h5 : ∃ nm d, ("strconv.ErrRange", DataW.iface nm d) ∈ laid)
    {args : List Value} (hargs : ∀ x ∈ args, flat3 x = true) (hlaw : ∀ [Sym], ∃ st', cc f args st0 = some (.bool true, st')) :
    Calls Tryd.prog f args.toArray W fun e W' => e = .returned (.bool true) ∧ RowKit.Below W.heap.size W W' := by
  obtain ⟨nm4, d4, m4⟩ := h4
  obtain ⟨nm5, d5, m5⟩ := h5
  obtain ⟨a4, u4, c4⟩ := laid_iface h m4 (g := 4) (t := 136) (by kernel_rfl) (by kernel_rfl) Tryd.underlying136
  obtain ⟨a5, u5, c5⟩ := laid_iface h m5 (g := 5) (t := 136) (by kernel_rfl) (by kernel_rfl) Tryd.underlying136
  letI : Sym := symE a4 u4 a5 u5
  have hE : ErrSym := ⟨⟨a4, u4, rfl⟩, ⟨a5, u5, rfl⟩⟩
  obtain ⟨st', hl⟩ := hlaw
  refine law_cS Lk0_ok (conF_ok hE) hf (l := tab0) (nx := 12) hl rfl hargs (fun x hx => ?_) globIn tabLt
  simp only [tab0, List.mem_cons, List.not_mem_nil, or_false] at hx
  rcases hx with rfl | rfl
  · exact table1 (i := 4) c4
  · exact table1 (i := 5) c5
end Go.Proofs.YthngaoncjpgeiaaDoorE
