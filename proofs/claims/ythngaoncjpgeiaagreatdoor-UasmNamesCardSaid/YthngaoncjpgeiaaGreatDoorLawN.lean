/- UasmNames. -/
import Derived.Test.YthngaoncjpgeiaaGreatDoorUas3
import Derived.Test.YthngaoncjpgeiaaGreatDoorInts
import Derived.Test.YthngaoncjpgeiaaGreatDoorShN
import Derived.Test.YthngaoncjpgeiaaGreatDoorAlive
set_option linter.unusedVariables false
set_option linter.unusedSimpArgs false
set_option maxRecDepth 1000000
namespace Go.Proofs.YthngaoncjpgeiaaGreatDoorE
open Go Go.E Go.Proofs
theorem names_loop [Sym] (l : List (List UInt8)) (hl : l.length ≤ 1099511627776) (x : Int) (p v w : Value) (st : SS) (hv : Rd st v (strs l) 1 l.length) (hw : Rd st w (strs l) 1 l.length) : ∀ (k i : Nat), l.length = k + i →
    camshaftlaw17_UasmNames_lf 9 [.int .i64 x, p, v, w, .int .i64 l.length, .int .i64 i] st = some (0, [.int .i64 x, p], st) := by
  intro k
  induction k with
  | zero =>
    intro i hk
    have h : ¬ (i : Int) < (l.length : Int) := by omega
    refine camshaftlaw17_UasmNames_l9_eq _ _ _ _ _ _ st ?_
    simp only [camshaftlaw17_UasmNames_l9, decide_eq_false h, cond_false]
  | succ k ih =>
    intro i hk
    have h : (i : Int) < (l.length : Int) := by omega
    obtain ⟨q, hq⟩ : ∃ q, l[i]? = some q := ⟨_, List.getElem?_eq_getElem (by omega)⟩
    obtain ⟨p1, a1, _, a3⟩ := hv.load (j := (i : Int)) (by omega) h (strs_get _ i q hq) rfl
    obtain ⟨p2, b1, _, b3⟩ := hw.load (j := (i : Int)) (by omega) h (strs_get _ i q hq) rfl
    have a3' : st.ld p1.1 p1.2 = some (.string (mkS q)) := by simpa using a3 0 (by omega)
    have b3' : st.ld p2.1 p2.2 = some (.string (mkS q)) := by simpa using b3 0 (by omega)
    have he : eqT (mkS q) (mkS q) = true := by rw [eqT_iff']; simp
    have hw1 : IntKind.wrap .i64 ((i : Int) + 1) = ((i + 1 : Nat) : Int) := by rw [wrap64 (by omega) (by omega)]; omega
    refine camshaftlaw17_UasmNames_l9_eq _ _ _ _ _ _ st ?_
    simp only [camshaftlaw17_UasmNames_l9, decide_eq_true h, cond_true, a1, b1, a3', b3', Option.bind_some, asS_string, he, Bool.not_true, cond_false, hw1]
    exact ih (i + 1) (by omega)
theorem reach_loop [Sym] (l : List (Int × Int)) (hl : l.length ≤ 1099511627776) (v w : Value) (st : SS) (hv : Rd st v (rowsF pairI l) 2 l.length) (hw : Rd st w (rowsF pairI l) 2 l.length) : ∀ (k i : Nat), l.length = k + i →
    camshaftlaw17_UasmNames_lf 18 [v, w, .int .i64 l.length, .int .i64 i] st = some (0, [], st) := by
  intro k
  induction k with
  | zero =>
    intro i hk
    have h : ¬ (i : Int) < (l.length : Int) := by omega
    refine camshaftlaw17_UasmNames_l18_eq _ _ _ _ st ?_
    simp only [camshaftlaw17_UasmNames_l18, decide_eq_false h, cond_false]
  | succ k ih =>
    intro i hk
    have h : (i : Int) < (l.length : Int) := by omega
    obtain ⟨q, hq⟩ : ∃ q, l[i]? = some q := ⟨_, List.getElem?_eq_getElem (by omega)⟩
    have hg := rowsF_get (f := pairI) (z := 2) (fun _ => rfl) l i q hq
    obtain ⟨p1, a1, a2, _⟩ := hv.load (j := (i : Int)) (by omega) h (row := pairI q) (by simpa using hg) rfl
    obtain ⟨p2, b1, b2, _⟩ := hw.load (j := (i : Int)) (by omega) h (row := pairI q) (by simpa using hg) rfl
    have he : eqA Tryz.prog Lk0 27 (.agg (pairI q).toArray) (.agg (pairI q).toArray) = some true := by
      have := eq_pair q.1 q.2 q.1 q.2
      simpa [pairI] using this
    have hw1 : IntKind.wrap .i64 ((i : Int) + 1) = ((i + 1 : Nat) : Int) := by rw [wrap64 (by omega) (by omega)]; omega
    refine camshaftlaw17_UasmNames_l18_eq _ _ _ _ st ?_
    simp only [camshaftlaw17_UasmNames_l18, decide_eq_true h, cond_true, a1, b1, a2, b2, Option.bind_some, he, Bool.not_true, asB_bool, cond_false, hw1]
    exact ih (i + 1) (by omega)
theorem uasmNames_ok [Sym] (f : ByteArray) (w : Wd) (hw : w.length = 12) (a : Int) : ∃ st', cc 4 [.string f, wV w, .int .i64 a] st0 = some (.bool true, st') := by
  have hc : (wV w).cells.toList = wRow w := aggC _
  obtain ⟨N, hN, hal⟩ := alive17 (.cells (wRow w) 0)
  have x1 : Ext st0 (st0.new (.cells (wRow w) 0)) := (Ext.refl st0).new _
  have a1 : At (st0.new (.cells (wRow w) 0)) st0.next (wRow w) := At.new (Nat.le_refl _) _
  have x2 : Ext (st0.new (.cells (wRow w) 0)) ((st0.new (.cells (wRow w) 0)).adv N) := (Ext.refl _).adv hN
  by_cases h1 : (256 : Int) < (f.size : Int)
  · refine ⟨_, camshaftlaw17_UasmNames_eq _ _ _ st0 (r := (.bool true, (st0.new (.cells (wRow w) 0)).adv N)) ?_⟩
    simp only [camshaftlaw17_UasmNames, hc, hal, Option.bind_some, asB_bool, Bool.not_true, cond_false, decide_eq_true h1, cond_true]
  by_cases h2 : a < 0
  · refine ⟨_, camshaftlaw17_UasmNames_eq _ _ _ st0 (r := (.bool true, (st0.new (.cells (wRow w) 0)).adv N)) ?_⟩
    simp only [camshaftlaw17_UasmNames, hc, hal, Option.bind_some, asB_bool, Bool.not_true, cond_false, decide_eq_false h1, decide_eq_true h2, cond_true]
  by_cases h3 : 1099511627776 < a
  · refine ⟨_, camshaftlaw17_UasmNames_eq _ _ _ st0 (r := (.bool true, (st0.new (.cells (wRow w) 0)).adv N)) ?_⟩
    simp only [camshaftlaw17_UasmNames, hc, hal, Option.bind_some, asB_bool, Bool.not_true, cond_false, decide_eq_false h1, decide_eq_false h2, decide_eq_true h3, cond_true]
  obtain ⟨v4, s4, c4, x4, o4⟩ := names_ok f ((st0.new (.cells (wRow w) 0)).adv N) (gd0.ext (x1.trans x2)) ((x1.trans x2).ll (Nat.le_refl _))
  obtain ⟨v5, s5, c5, x5, o5⟩ := rnames_ok f s4 ((x1.trans (x2.trans x4)).ll (Nat.le_refl _))
  have xa := x1.trans (x2.trans (x4.trans x5))
  have hnl : (namesT (bl f)).length ≤ 1099511627776 := by
    unfold namesT
    repeat' split
    all_goals decide +kernel
  have e9 := names_loop (namesT (bl f)) hnl a (ptr st0.next 0) v4 v5 s5 ((o4.ext x5).rd) o5.rd (namesT (bl f)).length 0 (by omega)
  have e9' : camshaftlaw17_UasmNames_lf 9 [.int .i64 a, ptr st0.next 0, v4, v5, .int .i64 (namesT (bl f)).length, .int .i64 0] s5 = _ := e9
  have l5 : s5.ldN st0.next 0 12 = some (wV w) := (a1.ext (x2.trans (x4.trans x5))).ldN (by rw [wRow_len, hw])
  obtain ⟨s8, e8⟩ : ∃ x, w[8]? = some x := ⟨_, List.getElem?_eq_getElem (by omega)⟩
  obtain ⟨s10, e10⟩ : ∃ x, w[10]? = some x := ⟨_, List.getElem?_eq_getElem (by omega)⟩
  obtain ⟨v6, s6, c6, x6, o6⟩ := reach_ok w a s8 s10 e8 e10 (by omega) (by omega) (s5.ro s5.next) (Nat.le_refl _)
  have x6' : Ext s5 (s6.ro s5.lim) := ⟨x6.next, rfl, fun j hj => x6.keep j hj⟩
  have l6 : (s6.ro s5.lim).ldN st0.next 0 12 = some (wV w) := (a1.ext (x2.trans (x4.trans (x5.trans x6')))).ldN (by rw [wRow_len, hw])
  obtain ⟨v7, s7, c7, x7, o7⟩ := rreach_ok w a s8 s10 e8 e10 (by omega) (by omega) (s6.ro s5.lim) ((xa.trans x6').ll (Nat.le_refl _))
  have o6' : Own s5.next (s6.ro s5.lim) v6 (rowsF pairI (reachT s8 s10 a)) 2 (reachT s8 s10 a).length := o6
  have hrl : (reachT s8 s10 a).length ≤ 1099511627776 := by
    unfold reachT
    repeat' split
    all_goals simp
  have e18 := reach_loop (reachT s8 s10 a) hrl v6 v7 s7 ((o6'.ext x7).rd) o7.rd (reachT s8 s10 a).length 0 (by omega)
  have e18' : camshaftlaw17_UasmNames_lf 18 [v6, v7, .int .i64 (reachT s8 s10 a).length, .int .i64 0] s7 = _ := e18
  refine ⟨_, camshaftlaw17_UasmNames_eq _ _ _ st0 (r := (.bool true, s7)) ?_⟩
  have b0 : Nat.beq 0 0 = true := rfl
  simp only [camshaftlaw17_UasmNames, hc, hal, Option.bind_some, asB_bool, asI_int, Bool.not_true, cond_false, decide_eq_false h1, decide_eq_false h2, decide_eq_false h3, cond_true, c4, c5, (o4.rd).len, (o5.rd).len, decide_true, e9', List.getElem?_cons_succ, List.getElem?_cons_zero, addr_ptr, l5, b0]
  rw [c6, Option.bind_some, l6, Option.bind_some, c7, Option.bind_some]
  simp only [(o6.rd).len, (o7.rd).len, Option.bind_some, asI_int, decide_true, Bool.not_true, cond_false, e18', b0, cond_true]
end Go.Proofs.YthngaoncjpgeiaaGreatDoorE
