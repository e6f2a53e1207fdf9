/- UlexCovers and UlexBlank. -/
import Derived.Test.YthngaoncjpgeiaaDoorLex12
set_option linter.unusedVariables false
set_option linter.unusedSimpArgs false
namespace Go.Proofs.YthngaoncjpgeiaaDoorE
open Go Go.E Go.Proofs

theorem idx_at {s : ByteArray} {j : Nat} {b : UInt8} (hb : (bl s)[j]? = some b) : (idxS s (j : Int)).bind (asI .u8) = some (b.toNat : Int) := by
  have hj : j < s.size := by have := (List.getElem?_eq_some_iff.1 hb).1; rwa [bl_length] at this
  obtain ⟨b', hb', hidx⟩ := idx_lt (s := s) (i := (j : Int)) (by omega) (by omega)
  rw [Int.toNat_natCast, hb] at hb'
  cases hb'
  rw [hidx]; simp

theorem covers_inner [Sym] (e line t27 t28 nm ln : Int) (kd c m T : Nat) (tx s : ByteArray) (lines t26 : Value) (b : Nat) (st : SS) (hs : s.size ≤ 1099511627776)
    (hm : st.mem.get b = some (.cells [.int .i64 kd, .string tx, .int .i64 nm, .int .i64 ln, .int .i64 ((T + 1 : Nat) : Int)] 0)) (hT : c + m ≤ T) (hT2 : T ≤ s.size)
    (hb : ∀ j x, j < m → (bl s)[c + j]? = some x → blankB x) (he : c + m = T ∨ (kd = 0 ∧ ∃ x, (bl s)[c + m]? = some x ∧ (x.toNat : Int) = 59)) :
    ∀ (k j : Nat), j + k = m → camshaftlaw15_UlexCovers_lf 17 [.int .i64 e, lines, .int .i64 line, ptr b 0, .string s, .int .i64 ((c + j : Nat) : Int), t26, .int .i64 t27, .int .i64 t28] st =
      some (0, [.int .i64 e, lines, .int .i64 line, ptr b 0, t26, .int .i64 t27, .int .i64 t28], st) := by
  have l4 : st.ld b 4 = some (.int .i64 ((T + 1 : Nat) : Int)) := by rw [SS.ld_cells hm]; rfl
  have l0 : st.ld b 0 = some (.int .i64 (kd : Int)) := by rw [SS.ld_cells hm]; rfl
  have hw : IntKind.wrap .i64 (((T + 1 : Nat) : Int) - 1) = (T : Int) := by rw [wrap64 (by omega) (by omega)]; omega
  intro k
  induction k with
  | zero =>
    intro j hj
    have hj' : j = m := by omega
    subst hj'
    refine camshaftlaw15_UlexCovers_l17_eq e lines line _ s _ t26 t27 t28 st ?_
    rcases he with he | ⟨hk, x, hx, hx59⟩
    · have : ¬ ((c + j : Nat) : Int) < (T : Int) := by omega
      simp only [camshaftlaw15_UlexCovers_l17, addr_ptr, Option.bind_some, Nat.zero_add, l4, asI_int, hw, decide_eq_false this, cond_false]
    · by_cases hlt : c + j < T
      · have h1 : ((c + j : Nat) : Int) < (T : Int) := by omega
        have hk0 : (kd : Int) = 0 := by omega
        simp only [camshaftlaw15_UlexCovers_l17, addr_ptr, Option.bind_some, Nat.zero_add, l4, l0, asI_int, hw, decide_eq_true h1, cond_true, idx_at hx, decide_eq_true hx59, decide_eq_true hk0]
      · have : ¬ ((c + j : Nat) : Int) < (T : Int) := by omega
        simp only [camshaftlaw15_UlexCovers_l17, addr_ptr, Option.bind_some, Nat.zero_add, l4, asI_int, hw, decide_eq_false this, cond_false]
  | succ k ih =>
    intro j hj
    have hlt : c + j < s.size := by omega
    obtain ⟨x, hx⟩ : ∃ x, (bl s)[c + j]? = some x := ⟨_, List.getElem?_eq_getElem (by rw [bl_length]; exact hlt)⟩
    have hbl := hb j x (by omega) hx
    have h1 : ((c + j : Nat) : Int) < (T : Int) := by omega
    have hw2 : IntKind.wrap .i64 (((c + j : Nat) : Int) + 1) = ((c + (j + 1) : Nat) : Int) := by rw [wrap64 (by omega) (by omega)]; omega
    have next := ih (j + 1) (by omega)
    refine camshaftlaw15_UlexCovers_l17_eq e lines line _ s _ t26 t27 t28 st ?_
    have h59 : ¬ (x.toNat : Int) = 59 := by rcases hbl with h | h | h <;> omega
    by_cases h32 : (x.toNat : Int) = 32
    · simp only [camshaftlaw15_UlexCovers_l17, addr_ptr, Option.bind_some, Nat.zero_add, l4, asI_int, hw, decide_eq_true h1, cond_true, idx_at hx, decide_eq_false h59, cond_false, decide_eq_true h32, Bool.not_true, hw2]
      exact next
    · by_cases h9 : (x.toNat : Int) = 9
      · simp only [camshaftlaw15_UlexCovers_l17, addr_ptr, Option.bind_some, Nat.zero_add, l4, asI_int, hw, decide_eq_true h1, cond_true, idx_at hx, decide_eq_false h59, cond_false, decide_eq_false h32, Bool.not_false, decide_eq_true h9, Bool.not_true, hw2]
        exact next
      · have h13 : (x.toNat : Int) = 13 := by rcases hbl with h | h | h <;> omega
        simp only [camshaftlaw15_UlexCovers_l17, addr_ptr, Option.bind_some, Nat.zero_add, l4, asI_int, hw, decide_eq_true h1, cond_true, idx_at hx, decide_eq_false h59, cond_false, decide_eq_false h32, Bool.not_false, decide_eq_false h9, decide_eq_true h13, Bool.not_true, hw2]
        exact next

/-- Where the tokens' reading stands. -/
def Pos (l : List UInt8) (us : List (Nat × Tok)) (n i c : Nat) : Prop :=
  ∃ p k ts0 rest, (pieces 10 l)[i]? = some p ∧ c ≤ p.length ∧ (p.drop c).length ≤ k ∧ lexL k c (p.drop c) = .ok ts0 ∧ us.drop n = ((ts0 ++ [endT p]).map fun t => (i + 1, t)) ++ rest ∧ lexPs (i + 1) ((pieces 10 l).drop (i + 1)) = .ok rest
def Fin (l : List UInt8) (us : List (Nat × Tok)) (n i c : Nat) : Prop := n = us.length ∧ i = (pieces 10 l).length ∧ c = 0
theorem pos_next {l : List UInt8} {us : List (Nat × Tok)} {n i : Nat} (hx : lexPs i ((pieces 10 l).drop i) = .ok (us.drop n)) (hi : i ≤ (pieces 10 l).length) (hn : n ≤ us.length) : Pos l us n i 0 ∨ Fin l us n i 0 := by
  cases hp : (pieces 10 l).drop i with
  | nil =>
    rw [hp] at hx
    refine .inr ⟨?_, ?_, rfl⟩
    · have h2 : (Except.ok [] : Except (Nat × Nat) (List (Nat × Tok))) = .ok (us.drop n) := hx
      have h1 : us.drop n = [] := by
        cases h2' : us.drop n with
        | nil => rfl
        | cons x y => rw [h2'] at h2; cases h2
      rw [List.drop_eq_nil_iff] at h1; omega
    · rw [List.drop_eq_nil_iff] at hp; omega
  | cons p r =>
    left
    have hgp : (pieces 10 l)[i]? = some p := by
      have := congrArg (·[0]?) hp
      simpa using this
    have hr : (pieces 10 l).drop (i + 1) = r := by
      have := drop_cons hgp
      rw [hp] at this
      exact (List.cons.inj this).2.symm
    rw [hp] at hx
    unfold lexPs at hx
    cases hy : lineX p with
    | error c => rw [hy] at hx; cases hx
    | ok ts =>
      rw [hy] at hx
      cases hz : lexPs (i + 1) r with
      | error e => rw [hz] at hx; cases hx
      | ok vs =>
        rw [hz] at hx
        have hsplit : us.drop n = (ts.map fun t => (i + 1, t)) ++ vs := by
          have hx' : (Except.ok ((ts.map fun t => (i + 1, t)) ++ vs) : Except (Nat × Nat) (List (Nat × Tok))) = .ok (us.drop n) := hx
          exact (Except.ok.inj hx').symm
        unfold lineX at hy
        cases hu : lexL p.length 0 p with
        | error c => rw [hu] at hy; cases hy
        | ok u =>
          rw [hu] at hy
          have : ts = u ++ [endT p] := (Except.ok.inj hy).symm
          subst this
          exact ⟨p, p.length, u, vs, hgp, by omega, by simp, by simpa using hu, hsplit, by rw [hr]; exact hz⟩

theorem covers_loop [Sym] (us : List (Nat × Tok)) (hus : us.length ≤ 1099511627776) (l : List UInt8) (hall : (pieces 10 l).length ≤ 131073) (hsz : ∀ p ∈ pieces 10 l, p.length ≤ 131072) (v w : Value) (st0 : SS) (hv : Rd st0 v (rowsL us) 5 us.length) (ht : Rd st0 w (strs (pieces 10 l)) 1 (pieces 10 l).length) :
    ∀ (k n i c : Nat) (st : SS), us.length = k + n → Pos l us n i c ∨ Fin l us n i c → Ext st0 st → st.lim ≤ st.next →
    ∃ st', camshaftlaw15_UlexCovers_lf 9 [.int .i64 0, w, .int .i64 ((i + 1 : Nat) : Int), .int .i64 ((c + 1 : Nat) : Int), v, .int .i64 us.length, .int .i64 n] st =
      some (0, [.int .i64 0, w, .int .i64 (((pieces 10 l).length + 1 : Nat) : Int)], st') := by
  intro k
  induction k with
  | zero =>
    intro n i c st hk hp he hl
    have hn : n = us.length := by omega
    rcases hp with ⟨p, k, ts0, rest, _, _, _, _, h5, _⟩ | ⟨_, h2, _⟩
    · exfalso
      have := congrArg List.length h5
      rw [hn] at this
      simp at this
    · subst h2
      refine ⟨st, camshaftlaw15_UlexCovers_l9_eq _ w _ _ v _ _ st ?_⟩
      have : ¬ (n : Int) < (us.length : Int) := by omega
      simp only [camshaftlaw15_UlexCovers_l9, decide_eq_false this, cond_false]
  | succ k ih =>
    intro n i c st hk hp he hl
    rcases hp with ⟨p, kk, ts0, rest, h1, h2, h3, h4, h5, h6⟩ | ⟨h1, _⟩
    case inr => exfalso; omega
    have hplt : i < (pieces 10 l).length := (List.getElem?_eq_some_iff.1 h1).1
    have hpl := hsz p (List.mem_of_getElem? h1)
    -- the token, and where it goes on
    obtain ⟨t, m, T, n', i', c', hu, hcol, hT1, hT2, hbl, hend, htx, hnext, hi', hc'⟩ : ∃ (t : Tok) (m T n' i' c' : Nat), us[n]? = some (i + 1, t) ∧ t.col = T + 1 ∧ c + m ≤ T ∧ T + t.tx.length ≤ p.length ∧
        (∀ j x, j < m → p[c + j]? = some x → blankB x) ∧ (c + m = T ∨ (t.kd = 0 ∧ ∃ x, p[c + m]? = some x ∧ (x.toNat : Int) = 59)) ∧ (p.drop T).take t.tx.length = t.tx ∧
        (Pos l us (n + 1) i' c' ∨ Fin l us (n + 1) i' c') ∧ ((t.kd = 0 ∧ i' = i + 1 ∧ c' = 0) ∨ (t.kd ≠ 0 ∧ i' = i ∧ c' = T + t.tx.length)) ∧ (n' = 0) := by
      have hdrop : ∀ j x, p[c + j]? = some x → (p.drop c)[j]? = some x := fun j x h => by rw [List.getElem?_drop]; exact h
      obtain ⟨m, hm1, hm2⟩ := lexL_view kk c (p.drop c) ts0 h3 h4
      rcases hm2 with ⟨rfl, hm3, hm4⟩ | ⟨n', kd, x, k', ts', g1, g2, g3, g4, g5, g6⟩
      · have hun : us[n]? = some (i + 1, endT p) := by
          have := congrArg (·[0]?) h5
          simpa using this
        have hd1 : us.drop (n + 1) = rest := by
          have := drop_cons hun
          rw [h5] at this
          exact (List.cons.inj this).2.symm
        have hn1 : n + 1 ≤ us.length := (List.getElem?_eq_some_iff.1 hun).1
        rw [List.length_drop] at hm3
        refine ⟨endT p, m, p.length, 0, i + 1, 0, hun, rfl, by omega, by simp [endT], fun j x hj hx => hm1 j x hj (hdrop j x hx), ?_, by simp [endT], pos_next (by rw [hd1]; exact h6) (by omega) hn1, .inl ⟨rfl, rfl, rfl⟩, rfl⟩
        by_cases hcm : c + m = p.length
        · exact .inl hcm
        · obtain ⟨x, hx⟩ : ∃ x, p[c + m]? = some x := ⟨_, List.getElem?_eq_getElem (by omega)⟩
          exact .inr ⟨rfl, x, hx, hm4 x (hdrop m x hx)⟩
      · subst g4
        have hun : us[n]? = some (i + 1, ⟨kd, ((p.drop c).drop m).take n', x, c + m + 1⟩) := by
          have := congrArg (·[0]?) h5
          simpa using this
        have hd1 : us.drop (n + 1) = ((ts' ++ [endT p]).map fun t => (i + 1, t)) ++ rest := by
          have := drop_cons hun
          rw [h5] at this
          exact (List.cons.inj this).2.symm
        rw [List.length_drop] at g1
        have hlen : (((p.drop c).drop m).take n').length = n' := by simp; omega
        refine ⟨⟨kd, ((p.drop c).drop m).take n', x, c + m + 1⟩, m, c + m, 0, i, c + m + n', hun, rfl, by omega, by show c + m + (((p.drop c).drop m).take n').length ≤ _; omega, fun j x hj hx => hm1 j x hj (hdrop j x hx), .inl rfl, ?_, ?_, .inr ⟨by show kd ≠ 0; omega, rfl, ?_⟩, rfl⟩
        · show (p.drop (c + m)).take (((p.drop c).drop m).take n').length = ((p.drop c).drop m).take n'
          rw [hlen, List.drop_drop]
        · refine .inl ⟨p, k', ts', rest, h1, by omega, ?_, ?_, hd1, h6⟩
          · rw [List.drop_drop] at g5; rw [show c + m + n' = c + (m + n') by omega]; exact g5
          · rw [List.drop_drop] at g6; rw [show c + m + n' = c + (m + n') by omega] at g6 ⊢; exact g6
        · show c + m + n' = c + m + (((p.drop c).drop m).take n').length
          omega
    have hlt : (n : Int) < (us.length : Int) := by have := (List.getElem?_eq_some_iff.1 hu).1; omega
    obtain ⟨q, a1, a2, _⟩ := (hv.ext he).load (j := (n : Int)) (by omega) hlt (rowsL_get us n (i + 1, t) hu) rfl
    obtain ⟨st4, e4, t4⟩ := TK.newV (st := st) (r := [.int .i64 0, .string ⟨#[]⟩, .int .i64 0, .int .i64 0, .int .i64 0]) (v := .agg (tokRow ((i + 1 : Nat) : Int) t).toArray) (n := 5) hl (by rfl) (by rfl) rfl
    have t4' : TK st st4 [.int .i64 t.kd, .string (mkS t.tx), .int .i64 t.nm, .int .i64 ((i + 1 : Nat) : Int), .int .i64 ((T + 1 : Nat) : Int)] := by rw [← hcol]; exact t4
    have he4 : Ext st0 st4 := he.trans t4.ext
    have hlt2 : (i : Int) < ((pieces 10 l).length : Int) := by omega
    obtain ⟨q2, b1, _, b3⟩ := (ht.ext he4).load (j := (i : Int)) (by omega) hlt2 (strs_get _ i p h1) rfl
    have hld : (st4.ld q2.1 q2.2).bind asS = some (mkS p) := by
      have := b3 0 (by omega)
      rw [Nat.add_zero] at this
      rw [this]; rfl
    have inner := covers_inner 0 ((i + 1 : Nat) : Int) us.length n t.nm ((i + 1 : Nat) : Int) t.kd c m T (mkS t.tx) (mkS p) w v st.next st4 (by simp; omega) t4'.mem hT1 (by simp; omega) (by simpa using hbl) (by simpa using hend) m 0 (by omega)
    have hw1 : IntKind.wrap .i64 (((i + 1 : Nat) : Int) - 1) = (i : Int) := by rw [wrap64 (by omega) (by omega)]; omega
    have hw2 : IntKind.wrap .i64 (((T + 1 : Nat) : Int) - 1) = (T : Int) := by rw [wrap64 (by omega) (by omega)]; omega
    have hw3 : IntKind.wrap .i64 (((mkS p).size : Int) - ((mkS t.tx).size : Int)) = ((p.length - t.tx.length : Nat) : Int) := by simp only [mkS_size]; rw [wrap64 (by omega) (by omega)]; omega
    have hw4 : IntKind.wrap .i64 ((T : Int) + ((mkS t.tx).size : Int)) = ((T + t.tx.length : Nat) : Int) := by simp only [mkS_size]; rw [wrap64 (by omega) (by omega)]; omega
    have hw5 : IntKind.wrap .i64 (((c + 1 : Nat) : Int) - 1) = ((c + 0 : Nat) : Int) := by rw [wrap64 (by omega) (by omega)]; omega
    have hw6 : IntKind.wrap .i64 (((T + 1 : Nat) : Int) + ((mkS t.tx).size : Int)) = ((T + t.tx.length + 1 : Nat) : Int) := by simp only [mkS_size]; rw [wrap64 (by omega) (by omega)]; omega
    have hw7 : IntKind.wrap .i64 ((n : Int) + 1) = ((n + 1 : Nat) : Int) := by rw [wrap64 (by omega) (by omega)]; omega
    have hw8 : IntKind.wrap .i64 (((i + 1 : Nat) : Int) + 1) = ((i + 1 + 1 : Nat) : Int) := by rw [wrap64 (by omega) (by omega)]; omega
    have hc1 : ¬ ((T + 1 : Nat) : Int) < ((c + 1 : Nat) : Int) := by omega
    have hc2 : ¬ ((p.length - t.tx.length : Nat) : Int) < (T : Int) := by omega
    have hsub : subS (mkS p) (T : Int) ((T + t.tx.length : Nat) : Int) = some (mkS t.tx) := by
      rw [subS_mid (by simp; omega), bl_mkS, htx]
    have hq : eqT (mkS t.tx) (mkS t.tx) = true := by rw [eqT_iff']; simp
    have k0 : st4.ld st.next 0 = some (.int .i64 t.kd) := t4'.ld
    have k1 : st4.ld st.next 1 = some (.string (mkS t.tx)) := t4'.ld
    have k3 : st4.ld st.next 3 = some (.int .i64 ((i + 1 : Nat) : Int)) := t4'.ld
    have k4 : st4.ld st.next 4 = some (.int .i64 ((T + 1 : Nat) : Int)) := t4'.ld
    obtain ⟨st', d1⟩ := ih (n + 1) i' c' st4 (by omega) hnext he4 (by rw [t4.ext.lim]; have := t4.ext.next; omega)
    have hb0 : Nat.beq 0 0 = true := rfl
    refine ⟨st', camshaftlaw15_UlexCovers_l9_eq _ w _ _ v _ _ st ?_⟩
    rcases hi' with ⟨z1, rfl, rfl⟩ | ⟨z1, rfl, rfl⟩
    · have hk0 : (t.kd : Int) = 0 := by omega
      simp only [camshaftlaw15_UlexCovers_l9, decide_eq_true hlt, cond_true, a1, a2, Option.bind_some, e4, k0, k1, k3, k4, asI_int, asS_string, decide_true, Bool.not_true, cond_false, decide_eq_false hc1, hw1, b1, hld, hw2, hw3, decide_eq_false hc2, hw4, hsub, hq, hw5, inner, hb0, List.getElem?_cons_succ, List.getElem?_cons_zero, addr_ptr, Nat.zero_add, decide_eq_true hk0, hw7, hw8]
      exact d1
    · have hk0 : ¬ (t.kd : Int) = 0 := by omega
      simp only [camshaftlaw15_UlexCovers_l9, decide_eq_true hlt, cond_true, a1, a2, Option.bind_some, e4, k0, k1, k3, k4, asI_int, asS_string, decide_true, Bool.not_true, cond_false, decide_eq_false hc1, hw1, b1, hld, hw2, hw3, decide_eq_false hc2, hw4, hsub, hq, hw5, inner, hb0, List.getElem?_cons_succ, List.getElem?_cons_zero, addr_ptr, Nat.zero_add, decide_eq_false hk0, hw6, hw7]
      exact d1
theorem ulexCovers_ok [Sym] {st : SS} (hg : Gd st) (hl : st.lim ≤ st.next) (s : ByteArray) : ∃ st', cc 5 [.string s] st = some (.bool true, st') := by
  obtain ⟨n, hn, ha⟩ := alive_ok hg
  have hg1 : Gd (st.adv n) := hg.ext ((Ext.refl st).adv hn)
  by_cases hs : 2048 < s.size
  · refine ⟨st.adv n, camshaftlaw15_UlexCovers_eq s st ?_⟩
    have hs' : (2048 : Int) < (s.size : Int) := by omega
    simp only [camshaftlaw15_UlexCovers, ha, Option.bind_some, asB_bool, Bool.not_true, cond_false, decide_eq_true hs', cond_true]
  have hs' : ¬ (2048 : Int) < (s.size : Int) := by omega
  have hplen := pieces_len 10 (bl s)
  rw [bl_length] at hplen
  have hpm := pieces_mem 10 (bl s)
  rw [bl_length] at hpm
  have h1 := lex_ok hg1 (by simp; omega) s (by omega)
  have hb0 : Nat.beq 0 0 = true := rfl
  cases hx : lexT (bl s) with
  | ok us =>
    have hlen := lexT_len _ _ hx
    rw [bl_length] at hlen
    have hlen2 : (s.size + 1) * (s.size + 1) ≤ 2049 * 2049 := Nat.mul_le_mul (by omega) (by omega)
    rw [hx] at h1
    obtain ⟨v, st3, a3, e3, o3⟩ := h1
    have l3 : st3.lim ≤ st3.next := by rw [e3.lim]; have := e3.next; simp at this ⊢; omega
    obtain ⟨st8, e8, t8⟩ := TK.pair (st := st3) (r := [.int .i64 0, .int .i64 0]) (0, 0) l3 rfl
    have l8 : st8.lim ≤ st8.next := by rw [t8.ext.lim]; have := t8.ext.next; omega
    obtain ⟨w, st9, a9, e9, o9⟩ := cut_ok s 10 (by omega) st8 l8
    have l9 : st9.lim ≤ st9.next := by rw [e9.lim]; have := e9.next; omega
    obtain ⟨st11, b1⟩ := covers_loop us (by omega) (bl s) (by omega) (fun p hp => by have := hpm p hp; omega) v w st9 ((o3.rd.ext t8.ext).ext e9) o9.rd us.length 0 0 0 st9 (by omega) (pos_next (n := 0) (by simpa [lexT] using hx) (by omega) (by omega)) (.refl _) l9
    have a3' : cc 15 [.string s] (st.adv n) = some (.tuple #[v, pairV (0, 0), .int .i64 0], st3) := a3
    have a9' : cc 18 [.string s, .int .u8 10] st8 = some (w, st9) := a9
    have hlw : (lenV w).bind (asI .i64) = some ((pieces 10 (bl s)).length : Int) := by rw [o9.rd.len]; rfl
    have hlv : (lenV v).bind (asI .i64) = some (us.length : Int) := by rw [o3.rd.len]; rfl
    have b1' : camshaftlaw15_UlexCovers_lf 9 [.int .i64 0, w, .int .i64 1, .int .i64 1, v, .int .i64 us.length, .int .i64 0] st9 = some (0, [.int .i64 0, w, .int .i64 (((pieces 10 (bl s)).length + 1 : Nat) : Int)], st11) := b1
    have hw : IntKind.wrap .i64 (((pieces 10 (bl s)).length : Int) + 1) = (((pieces 10 (bl s)).length + 1 : Nat) : Int) := by rw [wrap64 (by omega) (by omega)]; omega
    refine ⟨st11, camshaftlaw15_UlexCovers_eq s st ?_⟩
    simp only [camshaftlaw15_UlexCovers, ha, Option.bind_some, asB_bool, Bool.not_true, cond_false, decide_eq_false hs', a3', tupG, List.getElem?_toArray, List.getElem?_cons_succ, List.getElem?_cons_zero, asI_int, e8, a9', hlw, hlv, b1', hb0, cond_true, decide_true, hw]
  | error e =>
    rw [hx] at h1
    obtain ⟨st3, a3, e3⟩ := h1
    have l3 : st3.lim ≤ st3.next := by rw [e3.lim]; have := e3.next; simp at this ⊢; omega
    obtain ⟨st8, e8, t8⟩ := TK.pair (st := st3) (r := [.int .i64 0, .int .i64 0]) e l3 rfl
    have l8 : st8.lim ≤ st8.next := by rw [t8.ext.lim]; have := t8.ext.next; omega
    obtain ⟨w, st9, a9, e9, o9⟩ := cut_ok s 10 (by omega) st8 l8
    have a3' : cc 15 [.string s] (st.adv n) = some (.tuple #[.slice none 0 0, pairV e, .int .i64 4], st3) := a3
    have a9' : cc 18 [.string s, .int .u8 10] st8 = some (w, st9) := a9
    have hlv : (lenV (.slice none 0 0)).bind (asI .i64) = some 0 := rfl
    have h40 : decide ((4 : Int) = 0) = false := rfl
    have b1 : camshaftlaw15_UlexCovers_lf 9 [.int .i64 4, w, .int .i64 1, .int .i64 1, .slice none 0 0, .int .i64 0, .int .i64 0] st9 = some (0, [.int .i64 4, w, .int .i64 1], st9) := by
      refine camshaftlaw15_UlexCovers_l9_eq _ w _ _ _ _ _ st9 ?_
      have : ¬ (0 : Int) < 0 := by omega
      simp only [camshaftlaw15_UlexCovers_l9, decide_eq_false this, cond_false]
    refine ⟨st9, camshaftlaw15_UlexCovers_eq s st ?_⟩
    simp only [camshaftlaw15_UlexCovers, ha, Option.bind_some, asB_bool, Bool.not_true, cond_false, decide_eq_false hs', a3', tupG, List.getElem?_toArray, List.getElem?_cons_succ, List.getElem?_cons_zero, asI_int, e8, a9', hlv, b1, hb0, cond_true, h40, Bool.not_false]

/-! ### UlexBlank -/
theorem blank_loop [Sym] (s : ByteArray) (ps : List (List UInt8)) (w : Value) (st : SS) (hn : ps.length ≤ 1099511627776) (hw : Rd st w (strs ps) 1 ps.length) : ∀ (r : List (List UInt8)) (i : Nat) (acc : List UInt8), ps.drop i = r → 0 < i → i ≤ ps.length → (joinT r acc).length ≤ 1099511627776 →
    camshaftlaw15_UlexBlank_lf 7 [.string s, .string (mkS acc), w, .int .i64 ps.length, .int .i64 i] st = some (0, [.string s, .string (mkS (joinT r acc))], st) := by
  intro r
  induction r with
  | nil =>
    intro i acc hd h0 hi hl
    rw [List.drop_eq_nil_iff] at hd
    have : ¬ (i : Int) < (ps.length : Int) := by omega
    refine camshaftlaw15_UlexBlank_l7_eq s _ w _ _ st ?_
    simp only [camshaftlaw15_UlexBlank_l7, decide_eq_false this, cond_false]
    rfl
  | cons p r ih =>
    intro i acc hd h0 hi hl
    have hgp : ps[i]? = some p := by
      have := congrArg (·[0]?) hd
      simpa using this
    have hlt : i < ps.length := (List.getElem?_eq_some_iff.1 hgp).1
    have hr : ps.drop (i + 1) = r := by
      have := drop_cons hgp
      rw [hd] at this
      exact (List.cons.inj this).2.symm
    have hlt' : (i : Int) < (ps.length : Int) := by omega
    obtain ⟨q, b1, _, b3⟩ := hw.load (j := (i : Int)) (by omega) hlt' (strs_get _ i p hgp) rfl
    have hld : (st.ld q.1 q.2).bind asS = some (mkS p) := by
      have := b3 0 (by omega)
      rw [Nat.add_zero] at this
      rw [this]; rfl
    have hlen := joinT_len r (acc ++ 10 :: wrapP p)
    unfold joinT at hl
    simp [wrapP, tailP] at hlen hl
    have c1 : catS (mkS acc) ⟨#[10]⟩ = some (mkS (acc ++ [10])) := cat_ok (b := [10]) (by simp; omega)
    have c2 : catS (mkS (acc ++ [10])) ⟨#[32, 9]⟩ = some (mkS (acc ++ [10] ++ [32, 9])) := cat_ok (b := [32, 9]) (by simp; omega)
    have c3 : catS (mkS (acc ++ [10] ++ [32, 9])) (mkS p) = some (mkS (acc ++ [10] ++ [32, 9] ++ p)) := cat_ok (by simp; omega)
    have c4 : catS (mkS (acc ++ [10] ++ [32, 9] ++ p)) ⟨#[32, 59, 32, 109, 111, 114, 101, 32, 61, 32, 53]⟩ = some (mkS (acc ++ [10] ++ [32, 9] ++ p ++ tailP)) := cat_ok (b := tailP) (by simp [tailP]; omega)
    have e : acc ++ [10] ++ [32, 9] ++ p ++ tailP = acc ++ 10 :: wrapP p := by simp [wrapP]
    rw [e] at c4
    have h0' : (0 : Int) < (i : Int) := by omega
    have hw1 : IntKind.wrap .i64 ((i : Int) + 1) = ((i + 1 : Nat) : Int) := by rw [wrap64 (by omega) (by omega)]; omega
    have next := ih (i + 1) (acc ++ 10 :: wrapP p) hr (by omega) (by omega) (by rw [joinT_len]; simp [wrapP, tailP]; omega)
    refine camshaftlaw15_UlexBlank_l7_eq s _ w _ _ st ?_
    simp only [camshaftlaw15_UlexBlank_l7, decide_eq_true hlt', cond_true, b1, Option.bind_some, hld, decide_eq_true h0', c1, c2, c3, c4, asS_string, hw1]
    exact next
theorem blank_all [Sym] (s : ByteArray) (p : List UInt8) (ps : List (List UInt8)) (w : Value) (st : SS) (hn : (p :: ps).length ≤ 1099511627776) (hw : Rd st w (strs (p :: ps)) 1 (p :: ps).length) (hl : (allT (p :: ps)).length ≤ 1099511627776) :
    camshaftlaw15_UlexBlank_lf 7 [.string s, .string ⟨#[]⟩, w, .int .i64 (p :: ps).length, .int .i64 0] st = some (0, [.string s, .string (mkS (allT (p :: ps)))], st) := by
  have hlt' : (0 : Int) < ((p :: ps).length : Int) := by rw [List.length_cons]; omega
  obtain ⟨q, b1, _, b3⟩ := hw.load (j := (0 : Int)) (by omega) hlt' (strs_get (p :: ps) 0 p rfl) rfl
  have hld : (st.ld q.1 q.2).bind asS = some (mkS p) := by
    have := b3 0 (by omega)
    rw [Nat.add_zero] at this
    rw [this]; rfl
  have hlen := joinT_len ps (wrapP p)
  unfold allT at hl
  simp [wrapP, tailP] at hlen hl
  have c2 : catS (⟨#[]⟩ : ByteArray) ⟨#[32, 9]⟩ = some (mkS [32, 9]) := cat_ok (a := []) (b := [32, 9]) (by simp)
  have c3 : catS (mkS [32, 9]) (mkS p) = some (mkS ([32, 9] ++ p)) := cat_ok (by simp; omega)
  have c4 : catS (mkS ([32, 9] ++ p)) ⟨#[32, 59, 32, 109, 111, 114, 101, 32, 61, 32, 53]⟩ = some (mkS ([32, 9] ++ p ++ tailP)) := cat_ok (b := tailP) (by simp [tailP]; omega)
  have h0' : ¬ (0 : Int) < 0 := by omega
  have hw1 : IntKind.wrap .i64 ((0 : Int) + 1) = ((1 : Nat) : Int) := by rw [wrap64 (by omega) (by omega)]; rfl
  have next := blank_loop s (p :: ps) w st hn hw ps 1 (wrapP p) rfl (by omega) (by simp) (by rw [joinT_len]; simp [wrapP, tailP]; omega)
  refine camshaftlaw15_UlexBlank_l7_eq s _ w _ _ st ?_
  simp only [camshaftlaw15_UlexBlank_l7, decide_eq_true hlt', cond_true, b1, Option.bind_some, hld, decide_eq_false h0', cond_false, c2, c3, c4, asS_string, hw1]
  exact next
theorem blank_same [Sym] (us vs : List (Nat × Tok)) (hk : us.map tkeyL = vs.map tkeyL) (hus : us.length ≤ 1099511627776) (v w : Value) (st : SS) (hv : Rd st v (rowsL us) 5 us.length) (hw : Rd st w (rowsL vs) 5 vs.length) : ∀ (k i : Nat), us.length = k + i →
    camshaftlaw15_UlexBlank_lf 18 [v, w, .int .i64 us.length, .int .i64 i] st = some (0, [], st) := by
  have hlen : us.length = vs.length := by simpa using congrArg List.length hk
  intro k
  induction k with
  | zero =>
    intro i hi
    refine camshaftlaw15_UlexBlank_l18_eq v w _ _ st ?_
    have : ¬ (i : Int) < (us.length : Int) := by omega
    simp only [camshaftlaw15_UlexBlank_l18, decide_eq_false this, cond_false]
  | succ k ih =>
    intro i hi
    obtain ⟨t, ht⟩ : ∃ t, us[i]? = some t := ⟨_, List.getElem?_eq_getElem (by omega)⟩
    obtain ⟨u, hu⟩ : ∃ u, vs[i]? = some u := ⟨_, List.getElem?_eq_getElem (by omega)⟩
    have hkey : tkeyL t = tkeyL u := by
      have := congrArg (·[i]?) hk
      simp only [List.getElem?_map, ht, hu, Option.map_some, Option.some.injEq] at this
      exact this
    simp only [tkeyL, tkey, Prod.mk.injEq] at hkey
    obtain ⟨k1, k2, k3, k4⟩ := hkey
    have hlt : (i : Int) < (us.length : Int) := by omega
    have hlt2 : (i : Int) < (vs.length : Int) := by omega
    obtain ⟨p, a1, _, a3⟩ := hv.load (j := (i : Int)) (by omega) hlt (rowsL_get us i t ht) rfl
    obtain ⟨q, b1, _, b3⟩ := hw.load (j := (i : Int)) (by omega) hlt2 (rowsL_get vs i u hu) rfl
    have p0 : st.ld p.1 p.2 = some (.int .i64 t.2.kd) := a3 0 (by omega)
    have p1 : st.ld p.1 (p.2 + 1) = some (.string (mkS t.2.tx)) := a3 1 (by omega)
    have p2 : st.ld p.1 (p.2 + 2) = some (.int .i64 t.2.nm) := a3 2 (by omega)
    have p3 : st.ld p.1 (p.2 + 3) = some (.int .i64 t.1) := a3 3 (by omega)
    have q0 : st.ld q.1 q.2 = some (.int .i64 t.2.kd) := by rw [k2]; exact b3 0 (by omega)
    have q1 : st.ld q.1 (q.2 + 1) = some (.string (mkS t.2.tx)) := by rw [k3]; exact b3 1 (by omega)
    have q2 : st.ld q.1 (q.2 + 2) = some (.int .i64 t.2.nm) := by rw [k4]; exact b3 2 (by omega)
    have q3 : st.ld q.1 (q.2 + 3) = some (.int .i64 t.1) := by rw [k1]; exact b3 3 (by omega)
    have hq : eqT (mkS t.2.tx) (mkS t.2.tx) = true := by rw [eqT_iff']; simp
    have hw1 : IntKind.wrap .i64 ((i : Int) + 1) = ((i + 1 : Nat) : Int) := by rw [wrap64 (by omega) (by omega)]; omega
    refine camshaftlaw15_UlexBlank_l18_eq v w _ _ st ?_
    simp only [camshaftlaw15_UlexBlank_l18, decide_eq_true hlt, cond_true, a1, b1, Option.bind_some, p0, p1, p2, p3, q0, q1, q2, q3, asI_int, asS_string, decide_true, Bool.not_true, cond_false, hq, hw1]
    exact ih (i + 1) (by omega)
theorem ulexBlank_ok [Sym] {st : SS} (hg : Gd st) (hl : st.lim ≤ st.next) (s : ByteArray) : ∃ st', cc 8 [.string s] st = some (.bool true, st') := by
  obtain ⟨n, hn, ha⟩ := alive_ok hg
  have hg1 : Gd (st.adv n) := hg.ext ((Ext.refl st).adv hn)
  by_cases hs : 1024 < s.size
  · refine ⟨st.adv n, camshaftlaw15_UlexBlank_eq s st ?_⟩
    have hs' : (1024 : Int) < (s.size : Int) := by omega
    simp only [camshaftlaw15_UlexBlank, ha, Option.bind_some, asB_bool, Bool.not_true, cond_false, decide_eq_true hs', cond_true]
  have hs' : ¬ (1024 : Int) < (s.size : Int) := by omega
  have l1 : (st.adv n).lim ≤ (st.adv n).next := by simp; omega
  obtain ⟨w, st3, a3, e3, o3⟩ := cut_ok s 10 (by omega) (st.adv n) l1
  have hg3 : Gd st3 := hg1.ext e3
  have l3 : st3.lim ≤ st3.next := by rw [e3.lim]; have := e3.next; simp at this ⊢; omega
  have hplen := pieces_len 10 (bl s)
  rw [bl_length] at hplen
  have hal := allT_len (bl s)
  rw [bl_length] at hal
  have hlw : (lenV w).bind (asI .i64) = some ((pieces 10 (bl s)).length : Int) := by rw [o3.rd.len]; rfl
  have hloop : camshaftlaw15_UlexBlank_lf 7 [.string s, .string ⟨#[]⟩, w, .int .i64 ((pieces 10 (bl s)).length : Int), .int .i64 0] st3 = some (0, [.string s, .string (mkS (allT (pieces 10 (bl s))))], st3) := by
    have hne := pieces_ne 10 (bl s)
    have hrd := o3.rd
    cases hp : pieces 10 (bl s) with
    | nil => exact absurd hp hne
    | cons p ps =>
      rw [hp] at hplen hal hrd
      exact blank_all s p ps w st3 (by omega) hrd (by omega)
  have a3' : cc 18 [.string s, .int .u8 10] (st.adv n) = some (w, st3) := a3
  have h1 := lex_ok hg3 l3 s (by omega)
  have hrel := lexT_blank (bl s)
  have hb0 : Nat.beq 0 0 = true := rfl
  have hln : (lenV (.slice none 0 0)).bind (asI .i64) = some 0 := rfl
  cases hx : lexT (bl s) with
  | ok us =>
    have hlen := lexT_len _ _ hx
    rw [bl_length] at hlen
    have hlen2 : (s.size + 1) * (s.size + 1) ≤ 2049 * 2049 := Nat.mul_le_mul (by omega) (by omega)
    rw [hx] at h1
    obtain ⟨v, st4, a4, e4, o4⟩ := h1
    have l4 : st4.lim ≤ st4.next := by rw [e4.lim]; have := e4.next; omega
    obtain ⟨st5, e5, t5⟩ := TK.pair (st := st4) (r := [.int .i64 0, .int .i64 0]) (0, 0) l4 rfl
    have l5 : st5.lim ≤ st5.next := by rw [t5.ext.lim]; have := t5.ext.next; omega
    have hg5 : Gd st5 := (hg3.ext e4).ext t5.ext
    have h2 := lex_ok hg5 l5 (mkS (allT (pieces 10 (bl s)))) (by simp; omega)
    rw [bl_mkS] at h2
    cases hy : lexT (allT (pieces 10 (bl s))) with
    | error e => rw [hx, hy] at hrel; exact hrel.elim
    | ok vs =>
      rw [hx, hy] at hrel
      have hkey : us.map tkeyL = vs.map tkeyL := hrel
      rw [hy] at h2
      obtain ⟨u, st6, a6, e6, o6⟩ := h2
      have l6 : st6.lim ≤ st6.next := by rw [e6.lim]; have := e6.next; omega
      obtain ⟨st7, e7, t7⟩ := TK.pair (st := st6) (r := [.int .i64 0, .int .i64 0]) (0, 0) l6 rfl
      have a4' : cc 15 [.string s] st3 = some (.tuple #[v, pairV (0, 0), .int .i64 0], st4) := a4
      have a6' : cc 15 [.string (mkS (allT (pieces 10 (bl s))))] st5 = some (.tuple #[u, pairV (0, 0), .int .i64 0], st6) := a6
      have hlv : (lenV v).bind (asI .i64) = some (us.length : Int) := by rw [o4.rd.len]; rfl
      have hll : us.length = vs.length := by simpa using congrArg List.length hkey
      have hlu : (lenV u).bind (asI .i64) = some (us.length : Int) := by rw [o6.rd.len, hll]; rfl
      have hsame := blank_same us vs hkey (by omega) v u st7 (((o4.rd.ext t5.ext).ext e6).ext t7.ext) (o6.rd.ext t7.ext) us.length 0 (by omega)
      have hsame' : camshaftlaw15_UlexBlank_lf 18 [v, u, .int .i64 us.length, .int .i64 0] st7 = some (0, [], st7) := hsame
      refine ⟨st7, camshaftlaw15_UlexBlank_eq s st ?_⟩
      simp only [camshaftlaw15_UlexBlank, ha, Option.bind_some, asB_bool, Bool.not_true, cond_false, decide_eq_false hs', a3', hlw, hloop, List.getElem?_cons_succ, List.getElem?_cons_zero, asS_string, a4', tupG, List.getElem?_toArray, asI_int, e5, a6', e7, decide_true, hlv, hlu, hsame', hb0, cond_true]
  | error e =>
    rw [hx] at h1
    obtain ⟨st4, a4, e4⟩ := h1
    have l4 : st4.lim ≤ st4.next := by rw [e4.lim]; have := e4.next; omega
    obtain ⟨st5, e5, t5⟩ := TK.pair (st := st4) (r := [.int .i64 0, .int .i64 0]) e l4 rfl
    have l5 : st5.lim ≤ st5.next := by rw [t5.ext.lim]; have := t5.ext.next; omega
    have hg5 : Gd st5 := (hg3.ext e4).ext t5.ext
    have h2 := lex_ok hg5 l5 (mkS (allT (pieces 10 (bl s)))) (by simp; omega)
    rw [bl_mkS] at h2
    cases hy : lexT (allT (pieces 10 (bl s))) with
    | ok vs => rw [hx, hy] at hrel; exact hrel.elim
    | error f =>
      rw [hy] at h2
      obtain ⟨st6, a6, e6⟩ := h2
      have l6 : st6.lim ≤ st6.next := by rw [e6.lim]; have := e6.next; omega
      obtain ⟨st7, e7, t7⟩ := TK.pair (st := st6) (r := [.int .i64 0, .int .i64 0]) f l6 rfl
      have a4' : cc 15 [.string s] st3 = some (.tuple #[.slice none 0 0, pairV e, .int .i64 4], st4) := a4
      have a6' : cc 15 [.string (mkS (allT (pieces 10 (bl s))))] st5 = some (.tuple #[.slice none 0 0, pairV f, .int .i64 4], st6) := a6
      have hsame : camshaftlaw15_UlexBlank_lf 18 [.slice none 0 0, .slice none 0 0, .int .i64 0, .int .i64 0] st7 = some (0, [], st7) := by
        refine camshaftlaw15_UlexBlank_l18_eq _ _ _ _ st7 ?_
        have : ¬ (0 : Int) < 0 := by omega
        simp only [camshaftlaw15_UlexBlank_l18, decide_eq_false this, cond_false]
      refine ⟨st7, camshaftlaw15_UlexBlank_eq s st ?_⟩
      simp only [camshaftlaw15_UlexBlank, ha, Option.bind_some, asB_bool, Bool.not_true, cond_false, decide_eq_false hs', a3', hlw, hloop, List.getElem?_cons_succ, List.getElem?_cons_zero, asS_string, a4', tupG, List.getElem?_toArray, asI_int, e5, a6', e7, decide_true, hln, hsame, hb0, cond_true]
end Go.Proofs.YthngaoncjpgeiaaDoorE
