/- UlexLines. -/
import Derived.Test.YthngaoncjpgeiaaDoorLex9
import Derived.Test.YthngaoncjpgeiaaDoorShF
set_option linter.unusedVariables false
set_option linter.unusedSimpArgs false
namespace Go.Proofs.YthngaoncjpgeiaaDoorE
open Go Go.E Go.Proofs

theorem pieces_no (c : UInt8) (l : List UInt8) : ∀ p ∈ pieces c l, c ∉ p := by
  induction l with
  | nil => simp [pieces]
  | cons b r ih =>
    unfold pieces
    split
    · intro p hp
      simp only [List.mem_cons] at hp
      rcases hp with rfl | hp
      · simp
      · exact ih p hp
    · rename_i hb
      cases hr : pieces c r with
      | nil => exact absurd hr (pieces_ne c r)
      | cons x y =>
        intro p hp
        simp only [List.mem_cons] at hp
        rcases hp with rfl | hp
        · have := ih x (by rw [hr]; simp)
          simp only [List.mem_cons, not_or]
          exact ⟨fun e => hb e.symm, this⟩
        · exact ih p (by rw [hr]; simp [hp])
theorem lexT_piece {l p : List UInt8} (h : p ∈ pieces 10 l) : lexT p = match lineX p with
    | .error c => .error (1, c)
    | .ok ts => .ok (ts.map fun t => (1, t)) := lexT_line (pieces_no 10 l p h)

theorem lines_inner [Sym] (us : List (Nat × Tok)) (ts : List Tok) (i n : Nat) (rest : List (Nat × Tok)) (hus : us.drop n = (ts.map fun t => (i + 1, t)) ++ rest) (hi : i < 1099511627776) (hn : us.length ≤ 1099511627776) (v w a t26 : Value) (t27 t28 : Int) (st0 : SS) (hv : Rd st0 v (rowsL us) 5 us.length) (hw : Rd st0 w (rowsL (ts.map fun t => (1, t))) 5 ts.length) :
    ∀ (k j : Nat) (st : SS), ts.length = k + j → Ext st0 st → st.lim ≤ st.next →
    ∃ st', camshaftlaw15_UlexLines_lf 15 [v, a, .int .i64 0, .int .i64 ((n + j : Nat) : Int), .int .i64 i, t26, .int .i64 t27, .int .i64 t28, w, .int .i64 ts.length, .int .i64 j] st =
      some (0, [v, a, .int .i64 0, .int .i64 ((n + ts.length : Nat) : Int), t26, .int .i64 t27, .int .i64 t28], st') ∧ Ext st0 st' := by
  intro k
  induction k with
  | zero =>
    intro j st hk he hl
    have : j = ts.length := by omega
    subst this
    refine ⟨st, camshaftlaw15_UlexLines_l15_eq v a _ _ _ t26 _ _ w _ _ st ?_, he⟩
    have : ¬ (ts.length : Int) < (ts.length : Int) := by omega
    simp only [camshaftlaw15_UlexLines_l15, decide_eq_false this, cond_false]
  | succ k ih =>
    intro j st hk he hl
    obtain ⟨t, ht⟩ : ∃ t, ts[j]? = some t := ⟨_, List.getElem?_eq_getElem (by omega)⟩
    have hlt : (j : Int) < (ts.length : Int) := by omega
    have hlen : ts.length + rest.length = us.length - n := by
      have := congrArg List.length hus
      simpa using this.symm
    have hu : us[n + j]? = some (i + 1, t) := by
      have := congrArg (·[j]?) hus
      simp only [List.getElem?_drop] at this
      rw [this, List.getElem?_append_left (by simp; omega), List.getElem?_map, ht]
      rfl
    obtain ⟨p, a1, a2, _⟩ := (hw.ext he).load (j := (j : Int)) (by omega) hlt (rowsL_get _ j (1, t) (by rw [List.getElem?_map, ht]; rfl)) rfl
    obtain ⟨st4, e4, t4⟩ := TK.newV (st := st) (r := [.int .i64 0, .string ⟨#[]⟩, .int .i64 0, .int .i64 0, .int .i64 0]) (v := .agg (tokRow (1 : Nat) t).toArray) (n := 5) hl (by rfl) (by rfl) rfl
    have t4' : TK st st4 [.int .i64 t.kd, .string (mkS t.tx), .int .i64 t.nm, .int .i64 (1 : Nat), .int .i64 t.col] := t4
    obtain ⟨st6, e6, t6, _⟩ := t4'.st (k := 3) (vs := [.int .i64 ((i + 1 : Nat) : Int)]) (row' := [.int .i64 t.kd, .string (mkS t.tx), .int .i64 t.nm, .int .i64 ((i + 1 : Nat) : Int), .int .i64 t.col]) hl (by rfl) rfl
    have hnlt : ((n + j : Nat) : Int) < (us.length : Int) := by
      have := (List.getElem?_eq_some_iff.1 hu).1
      omega
    obtain ⟨q, b1, b2, _⟩ := (hv.ext (he.trans t6.ext)).load (j := ((n + j : Nat) : Int)) (by omega) hnlt (rowsL_get us (n + j) (i + 1, t) hu) rfl
    obtain ⟨st', c1, c2⟩ := ih (j + 1) st6 (by omega) (he.trans t6.ext) (by rw [t6.ext.lim]; have := t6.ext.next; omega)
    refine ⟨st', camshaftlaw15_UlexLines_l15_eq v a _ _ _ t26 _ _ w _ _ st ?_, c2⟩
    have hw1 : IntKind.wrap .i64 ((i : Int) + 1) = ((i + 1 : Nat) : Int) := by rw [wrap64 (by omega) (by omega)]; omega
    have hw2 : IntKind.wrap .i64 (((n + j : Nat) : Int) + 1) = ((n + (j + 1) : Nat) : Int) := by rw [wrap64 (by omega) (by omega)]; omega
    have hw3 : IntKind.wrap .i64 ((j : Int) + 1) = ((j + 1 : Nat) : Int) := by rw [wrap64 (by omega) (by omega)]; omega
    have hlv : (lenV v).bind (asI .i64) = some (us.length : Int) := by rw [hv.len]; rfl
    have hnle : ¬ (us.length : Int) ≤ ((n + j : Nat) : Int) := by omega
    have b2' : st6.ldN q.1 q.2 5 = some (.agg #[.int .i64 t.kd, .string (mkS t.tx), .int .i64 t.nm, .int .i64 ((i + 1 : Nat) : Int), .int .i64 t.col]) := b2
    have b3' : st6.ldN st.next 0 5 = some (.agg #[.int .i64 t.kd, .string (mkS t.tx), .int .i64 t.nm, .int .i64 ((i + 1 : Nat) : Int), .int .i64 t.col]) := t6.ldN (n := 5) rfl
    have hq : eqT (mkS t.tx) (mkS t.tx) = true := by rw [eqT_iff']; simp
    simp only [camshaftlaw15_UlexLines_l15, decide_eq_true hlt, cond_true, a1, a2, e4, Option.bind_some, hw1, e6, hlv, decide_eq_false hnle, cond_false, b1, b2', b3', eq_tok, decide_true, hq, Bool.and_true, Bool.not_true, asB_bool, hw2, hw3]
    exact c1
theorem lines_ok [Sym] (us : List (Nat × Tok)) (hn : us.length ≤ 1099511627776) (l : List UInt8) (hall : (pieces 10 l).length ≤ 131073) (hsz : ∀ p ∈ pieces 10 l, p.length ≤ 131072) (v a t26 : Value) (st0 : SS) (hg : Gd st0) (hv : Rd st0 v (rowsL us) 5 us.length) (ht : Rd st0 t26 (strs (pieces 10 l)) 1 (pieces 10 l).length) :
    ∀ (ps : List (List UInt8)) (i n : Nat) (st : SS), (pieces 10 l).drop i = ps → i ≤ (pieces 10 l).length → lexPs i ps = .ok (us.drop n) → n ≤ us.length → Ext st0 st → st.lim ≤ st.next →
    ∃ st', camshaftlaw15_UlexLines_lf 8 [v, a, .int .i64 0, .int .i64 n, t26, .int .i64 (pieces 10 l).length, .int .i64 i] st = some (0, [v, .int .i64 0, .int .i64 us.length], st') ∧ Ext st0 st' := by
  intro ps
  induction ps with
  | nil =>
    intro i n st hp hi hx hnu he hl
    have hil : i = (pieces 10 l).length := by
      rw [List.drop_eq_nil_iff] at hp; omega
    have hnl : n = us.length := by
      have h1 : us.drop n = [] := by
        have h2 : (Except.ok [] : Except (Nat × Nat) (List (Nat × Tok))) = .ok (us.drop n) := hx
        cases h2' : us.drop n with
        | nil => rfl
        | cons x y => rw [h2'] at h2; cases h2
      rw [List.drop_eq_nil_iff] at h1; omega
    subst hil; subst hnl
    refine ⟨st, camshaftlaw15_UlexLines_l8_eq v a _ _ t26 _ _ st ?_, he⟩
    have : ¬ ((pieces 10 l).length : Int) < ((pieces 10 l).length : Int) := by omega
    simp only [camshaftlaw15_UlexLines_l8, decide_eq_false this, cond_false]
  | cons p r ih =>
    intro i n st hp hi hx hnu he hl
    have hgp : (pieces 10 l)[i]? = some p := by
      have := congrArg (·[0]?) hp
      simpa using this
    have hlt : i < (pieces 10 l).length := (List.getElem?_eq_some_iff.1 hgp).1
    have hpm : p ∈ pieces 10 l := List.mem_of_getElem? hgp
    have hpl := hsz p hpm
    have hr : (pieces 10 l).drop (i + 1) = r := by
      have := drop_cons hgp
      rw [hp] at this
      exact (List.cons.inj this).2.symm
    have hlt' : (i : Int) < ((pieces 10 l).length : Int) := by omega
    unfold lexPs at hx
    cases hy : lineX p with
    | error c => rw [hy] at hx; cases hx
    | ok ts =>
      rw [hy] at hx
      cases hz : lexPs (i + 1) r with
      | error e => rw [hz] at hx; cases hx
      | ok vs =>
        rw [hz] at hx
        have hsplit : us.drop n = (ts.map fun t => (i + 1, t)) ++ vs := by
          have hx' : (Except.ok ((ts.map fun t => (i + 1, t)) ++ vs) : Except (Nat × Nat) (List (Nat × Tok))) = .ok (us.drop n) := hx
          exact (Except.ok.inj hx').symm
        have hts : n + ts.length ≤ us.length := by
          have := congrArg List.length hsplit
          simp at this
          omega
        have hvs : us.drop (n + ts.length) = vs := by
          rw [← List.drop_drop, hsplit, List.drop_append_of_le_length (by simp), List.drop_of_length_le (by simp)]
          rfl
        obtain ⟨q, hq1, hq2, hq3⟩ := (ht.ext he).load (j := (i : Int)) (by omega) hlt' (strs_get _ i p hgp) rfl
        have hld : (st.ld q.1 q.2).bind asS = some (mkS p) := by
          have := hq3 0 (by omega)
          rw [Nat.add_zero] at this
          rw [this]; rfl
        have h := lex_ok (hg.ext he) hl (mkS p) (by simpa using hpl)
        rw [bl_mkS, lexT_piece hpm, hy] at h
        obtain ⟨w, st3, a3, e3, o3⟩ := h
        have l3 : st3.lim ≤ st3.next := by rw [e3.lim]; have := e3.next; omega
        obtain ⟨st8, e8, t8⟩ := TK.pair (st := st3) (r := [.int .i64 0, .int .i64 0]) (0, 0) l3 rfl
        have l8 : st8.lim ≤ st8.next := by rw [t8.ext.lim]; have := t8.ext.next; omega
        have he8 : Ext st0 st8 := (he.trans e3).trans t8.ext
        have rw8 : Rd st8 w (rowsL (ts.map fun t => (1, t))) 5 ts.length := by
          have := o3.rd.ext t8.ext
          simpa using this
        obtain ⟨st9, c1, c2⟩ := lines_inner us ts i n vs hsplit (by omega) hn v w a t26 (pieces 10 l).length i st8 (hv.ext he8) rw8 ts.length 0 st8 (by omega) (.refl _) l8
        obtain ⟨st', d1, d2⟩ := ih (i + 1) (n + ts.length) st9 hr (by omega) (by rw [hvs]; exact hz) hts (he8.trans c2) (by rw [c2.lim]; have := c2.next; omega)
        refine ⟨st', camshaftlaw15_UlexLines_l8_eq v a _ _ t26 _ _ st ?_, d2⟩
        have a3' : cc 15 [.string (mkS p)] st = some (.tuple #[w, pairV (0, 0), .int .i64 0], st3) := a3
        have hlw : (lenV w).bind (asI .i64) = some (ts.length : Int) := by rw [rw8.len]; rfl
        have c1' : camshaftlaw15_UlexLines_lf 15 [v, a, .int .i64 0, .int .i64 n, .int .i64 i, t26, .int .i64 (pieces 10 l).length, .int .i64 i, w, .int .i64 ts.length, .int .i64 0] st8 = some (0, [v, a, .int .i64 0, .int .i64 ((n + ts.length : Nat) : Int), t26, .int .i64 (pieces 10 l).length, .int .i64 i], st9) := c1
        have hw : IntKind.wrap .i64 ((i : Int) + 1) = ((i + 1 : Nat) : Int) := by rw [wrap64 (by omega) (by omega)]; omega
        have hb0 : Nat.beq 0 0 = true := rfl
        simp only [camshaftlaw15_UlexLines_l8, decide_eq_true hlt', cond_true, hq1, Option.bind_some, hld, a3', tupG, List.getElem?_toArray, List.getElem?_cons_succ, List.getElem?_cons_zero, asI_int, e8, decide_true, Bool.not_true, cond_false, hlw, c1', hb0, hw]
        exact d1
theorem lines_bad [Sym] (l : List UInt8) (hall : (pieces 10 l).length ≤ 131073) (hsz : ∀ p ∈ pieces 10 l, p.length ≤ 131072) (v t26 : Value) (j n : Nat) (e : Nat × Nat) (st0 : SS) (hg : Gd st0) (hj : st0.mem.get j = some (.cells [.int .i64 e.1, .int .i64 e.2] 0)) (hj2 : j < st0.next) (ht : Rd st0 t26 (strs (pieces 10 l)) 1 (pieces 10 l).length) :
    ∀ (ps : List (List UInt8)) (i : Nat) (st : SS), (pieces 10 l).drop i = ps → i ≤ (pieces 10 l).length → lexPs i ps = .error e → Ext st0 st → st.lim ≤ st.next →
    ∃ st', camshaftlaw15_UlexLines_lf 8 [v, ptr j 0, .int .i64 4, .int .i64 n, t26, .int .i64 (pieces 10 l).length, .int .i64 i] st = some (1, [.bool true], st') := by
  intro ps
  induction ps with
  | nil => intro i st hp hi hx; cases hx
  | cons p r ih =>
    intro i st hp hi hx he hl
    have hgp : (pieces 10 l)[i]? = some p := by
      have := congrArg (·[0]?) hp
      simpa using this
    have hlt : i < (pieces 10 l).length := (List.getElem?_eq_some_iff.1 hgp).1
    have hpm : p ∈ pieces 10 l := List.mem_of_getElem? hgp
    have hpl := hsz p hpm
    have hr : (pieces 10 l).drop (i + 1) = r := by
      have := drop_cons hgp
      rw [hp] at this
      exact (List.cons.inj this).2.symm
    have hlt' : (i : Int) < ((pieces 10 l).length : Int) := by omega
    obtain ⟨q, hq1, hq2, hq3⟩ := (ht.ext he).load (j := (i : Int)) (by omega) hlt' (strs_get _ i p hgp) rfl
    have hld : (st.ld q.1 q.2).bind asS = some (mkS p) := by
      have := hq3 0 (by omega)
      rw [Nat.add_zero] at this
      rw [this]; rfl
    have hw : IntKind.wrap .i64 ((i : Int) + 1) = ((i + 1 : Nat) : Int) := by rw [wrap64 (by omega) (by omega)]; omega
    have h := lex_ok (hg.ext he) hl (mkS p) (by simpa using hpl)
    rw [bl_mkS, lexT_piece hpm] at h
    have h40 : decide ((4 : Int) = 0) = false := rfl
    unfold lexPs at hx
    cases hy : lineX p with
    | error c =>
      rw [hy] at hx h
      have hx' : (Except.error (i + 1, c) : Except (Nat × Nat) (List (Nat × Tok))) = .error e := hx
      have := Except.error.inj hx'
      subst this
      obtain ⟨st3, a3, e3⟩ := h
      have l3 : st3.lim ≤ st3.next := by rw [e3.lim]; have := e3.next; omega
      obtain ⟨st8, e8, t8⟩ := TK.pair (st := st3) (r := [.int .i64 0, .int .i64 0]) (1, c) l3 rfl
      have he8 : Ext st0 st8 := (he.trans e3).trans t8.ext
      have k1 : st8.ldN j 0 2 = some (.agg #[.int .i64 ((i + 1 : Nat) : Int), .int .i64 (c : Int)]) := by rw [SS.ldN_cells (he8.get hj2 hj), cut_all (n := 2) rfl]; rfl
      have k2 : st8.ld st3.next 1 = some (.int .i64 (c : Int)) := t8.ld
      have a3' : cc 15 [.string (mkS p)] st = some (.tuple #[.slice none 0 0, pairV (1, c), .int .i64 4], st3) := a3
      refine ⟨st8, camshaftlaw15_UlexLines_l8_eq v _ _ _ t26 _ _ st ?_⟩
      simp only [camshaftlaw15_UlexLines_l8, decide_eq_true hlt', cond_true, hq1, Option.bind_some, hld, a3', tupG, List.getElem?_toArray, List.getElem?_cons_succ, List.getElem?_cons_zero, asI_int, e8, h40, Bool.not_false, decide_true, addr_ptr, k1, hw, elemA1, k2, eq_pair, Bool.and_true, asB_bool]
    | ok ts =>
      rw [hy] at hx h
      have hz : lexPs (i + 1) r = .error e := by
        cases hz : lexPs (i + 1) r with
        | ok vs => rw [hz] at hx; cases hx
        | error e' => rw [hz] at hx; exact hx
      obtain ⟨w, st3, a3, e3, o3⟩ := h
      have l3 : st3.lim ≤ st3.next := by rw [e3.lim]; have := e3.next; omega
      obtain ⟨st8, e8, t8⟩ := TK.pair (st := st3) (r := [.int .i64 0, .int .i64 0]) (0, 0) l3 rfl
      have l8 : st8.lim ≤ st8.next := by rw [t8.ext.lim]; have := t8.ext.next; omega
      have he8 : Ext st0 st8 := (he.trans e3).trans t8.ext
      obtain ⟨st', d1⟩ := ih (i + 1) st8 hr (by omega) hz he8 l8
      have a3' : cc 15 [.string (mkS p)] st = some (.tuple #[w, pairV (0, 0), .int .i64 0], st3) := a3
      refine ⟨st', camshaftlaw15_UlexLines_l8_eq v _ _ _ t26 _ _ st ?_⟩
      simp only [camshaftlaw15_UlexLines_l8, decide_eq_true hlt', cond_true, hq1, Option.bind_some, hld, a3', tupG, List.getElem?_toArray, List.getElem?_cons_succ, List.getElem?_cons_zero, asI_int, e8, decide_true, Bool.not_true, cond_false, h40, hw]
      exact d1
theorem ulexLines_ok [Sym] {st : SS} (hg : Gd st) (hl : st.lim ≤ st.next) (s : ByteArray) : ∃ st', cc 4 [.string s] st = some (.bool true, st') := by
  obtain ⟨n, hn, ha⟩ := alive_ok hg
  have hg1 : Gd (st.adv n) := hg.ext ((Ext.refl st).adv hn)
  by_cases hs : 2048 < s.size
  · refine ⟨st.adv n, camshaftlaw15_UlexLines_eq s st ?_⟩
    have hs' : (2048 : Int) < (s.size : Int) := by omega
    simp only [camshaftlaw15_UlexLines, ha, Option.bind_some, asB_bool, Bool.not_true, cond_false, decide_eq_true hs', cond_true]
  have hs' : ¬ (2048 : Int) < (s.size : Int) := by omega
  have hplen := pieces_len 10 (bl s)
  rw [bl_length] at hplen
  have hpm := pieces_mem 10 (bl s)
  rw [bl_length] at hpm
  have h1 := lex_ok hg1 (by simp; omega) s (by omega)
  have hb0 : Nat.beq 0 0 = true := rfl
  have hb1 : Nat.beq 1 0 = false := rfl
  cases hx : lexT (bl s) with
  | ok us =>
    have hlen := lexT_len _ _ hx
    rw [bl_length] at hlen
    have hlen2 : (s.size + 1) * (s.size + 1) ≤ 2049 * 2049 := Nat.mul_le_mul (by omega) (by omega)
    rw [hx] at h1
    obtain ⟨v, st3, a3, e3, o3⟩ := h1
    have l3 : st3.lim ≤ st3.next := by rw [e3.lim]; have := e3.next; simp at this ⊢; omega
    obtain ⟨st8, e8, t8⟩ := TK.pair (st := st3) (r := [.int .i64 0, .int .i64 0]) (0, 0) l3 rfl
    have l8 : st8.lim ≤ st8.next := by rw [t8.ext.lim]; have := t8.ext.next; omega
    obtain ⟨w, st9, a9, e9, o9⟩ := cut_ok s 10 (by omega) st8 l8
    have l9 : st9.lim ≤ st9.next := by rw [e9.lim]; have := e9.next; omega
    have hg9 : Gd st9 := ((hg1.ext e3).ext t8.ext).ext e9
    obtain ⟨st11, b1, b2⟩ := lines_ok us (by omega) (bl s) (by omega) (fun p hp => by have := hpm p hp; omega) v (ptr st3.next 0) w st9 hg9 ((o3.rd.ext t8.ext).ext e9) o9.rd (pieces 10 (bl s)) 0 0 st9 rfl (by omega) hx (by omega) (.refl _) l9
    have a3' : cc 15 [.string s] (st.adv n) = some (.tuple #[v, pairV (0, 0), .int .i64 0], st3) := a3
    have a9' : cc 18 [.string s, .int .u8 10] st8 = some (w, st9) := a9
    have hlw : (lenV w).bind (asI .i64) = some ((pieces 10 (bl s)).length : Int) := by rw [o9.rd.len]; rfl
    have hlv : (lenV v).bind (asI .i64) = some (us.length : Int) := by rw [o3.rd.len]; rfl
    have b1' : camshaftlaw15_UlexLines_lf 8 [v, ptr st3.next 0, .int .i64 0, .int .i64 0, w, .int .i64 ((pieces 10 (bl s)).length : Int), .int .i64 0] st9 = some (0, [v, .int .i64 0, .int .i64 us.length], st11) := b1
    refine ⟨st11, camshaftlaw15_UlexLines_eq s st ?_⟩
    simp only [camshaftlaw15_UlexLines, ha, Option.bind_some, asB_bool, Bool.not_true, cond_false, decide_eq_false hs', a3', tupG, List.getElem?_toArray, List.getElem?_cons_succ, List.getElem?_cons_zero, asI_int, e8, a9', hlw, b1', hb0, cond_true, decide_true, hlv]
  | error e =>
    rw [hx] at h1
    obtain ⟨st3, a3, e3⟩ := h1
    have l3 : st3.lim ≤ st3.next := by rw [e3.lim]; have := e3.next; simp at this ⊢; omega
    obtain ⟨st8, e8, t8⟩ := TK.pair (st := st3) (r := [.int .i64 0, .int .i64 0]) e l3 rfl
    have l8 : st8.lim ≤ st8.next := by rw [t8.ext.lim]; have := t8.ext.next; omega
    obtain ⟨w, st9, a9, e9, o9⟩ := cut_ok s 10 (by omega) st8 l8
    have l9 : st9.lim ≤ st9.next := by rw [e9.lim]; have := e9.next; omega
    have hg9 : Gd st9 := ((hg1.ext e3).ext t8.ext).ext e9
    obtain ⟨st11, b1⟩ := lines_bad (bl s) (by omega) (fun p hp => by have := hpm p hp; omega) (.slice none 0 0) w st3.next 0 e st9 hg9 (e9.get t8.lt t8.mem) (Nat.lt_of_lt_of_le t8.lt e9.next) o9.rd (pieces 10 (bl s)) 0 st9 rfl (by omega) hx (.refl _) l9
    have a3' : cc 15 [.string s] (st.adv n) = some (.tuple #[.slice none 0 0, pairV e, .int .i64 4], st3) := a3
    have a9' : cc 18 [.string s, .int .u8 10] st8 = some (w, st9) := a9
    have hlw : (lenV w).bind (asI .i64) = some ((pieces 10 (bl s)).length : Int) := by rw [o9.rd.len]; rfl
    have b1' : camshaftlaw15_UlexLines_lf 8 [.slice none 0 0, ptr st3.next 0, .int .i64 4, .int .i64 0, w, .int .i64 ((pieces 10 (bl s)).length : Int), .int .i64 0] st9 = some (1, [.bool true], st11) := b1
    refine ⟨st11, camshaftlaw15_UlexLines_eq s st ?_⟩
    simp only [camshaftlaw15_UlexLines, ha, Option.bind_some, asB_bool, Bool.not_true, cond_false, decide_eq_false hs', a3', tupG, List.getElem?_toArray, List.getElem?_cons_succ, List.getElem?_cons_zero, asI_int, e8, a9', hlw, b1', hb1]
end Go.Proofs.YthngaoncjpgeiaaDoorE
