/- What Lex comes to, the lexer's and the reference's. -/
import Derived.Test.YthngaoncjpgeiaaGreatDoorLex6
set_option linter.unusedVariables false
set_option linter.unusedSimpArgs false
namespace Go.Proofs.YthngaoncjpgeiaaGreatDoorE
open Go Go.E Go.Proofs

def rowsL : List (Nat × Tok) → List Value
  | [] => []
  | t :: r => tokRow t.1 t.2 ++ rowsL r
theorem rowsL_append (a b : List (Nat × Tok)) : rowsL (a ++ b) = rowsL a ++ rowsL b := by
  induction a with
  | nil => rfl
  | cons t r ih => simp [rowsL, ih]
theorem rowsL_map (i : Nat) (ts : List Tok) : rowsL (ts.map fun t => (i, t)) = rowsT i ts := by
  induction ts with
  | nil => rfl
  | cons t r ih => simp [rowsL, rowsT, ih]
theorem rowsL_one (a : List (Nat × Tok)) : (rowsL a).all one = true := by
  induction a with
  | nil => rfl
  | cons t r ih => simp [rowsL, ih, tokRow, one]
theorem rowsL_length (a : List (Nat × Tok)) : (rowsL a).length = a.length * 5 := by
  induction a with
  | nil => rfl
  | cons t r ih => simp [rowsL, ih, tokRow]; omega
def consL (a : List (Nat × Tok)) : Except (Nat × Nat) (List (Nat × Tok)) → Except (Nat × Nat) (List (Nat × Tok))
  | .ok us => .ok (a ++ us)
  | .error e => .error e
def lexPs : Nat → List (List UInt8) → Except (Nat × Nat) (List (Nat × Tok))
  | _, [] => .ok []
  | i, p :: r => match lineX p with
    | .error c => .error (i + 1, c)
    | .ok ts => consL (ts.map fun t => (i + 1, t)) (lexPs (i + 1) r)
/-- The tokens of a text, or its first fault. -/
def lexT (l : List UInt8) : Except (Nat × Nat) (List (Nat × Tok)) := lexPs 0 (pieces 10 l)

theorem pieces_mem (c : UInt8) (l : List UInt8) : ∀ p ∈ pieces c l, p.length ≤ l.length := by
  induction l with
  | nil => simp [pieces]
  | cons b r ih =>
    unfold pieces
    split
    · intro p hp
      simp only [List.mem_cons] at hp
      rcases hp with rfl | hp
      · simp
      · have := ih p hp; simp; omega
    · cases hr : pieces c r with
      | nil => exact absurd hr (pieces_ne c r)
      | cons x y =>
        intro p hp
        simp only [List.mem_cons] at hp
        rcases hp with rfl | hp
        · have := ih x (by rw [hr]; simp); simp; omega
        · have := ih p (by rw [hr]; simp [hp]); simp; omega

/-- What a loop over the lines comes to. -/
def LexP (errv : List Value) (j : Nat) (st0 st1 : SS) (done : List (Nat × Tok)) (r : Option (Nat × List Value × SS)) : Except (Nat × Nat) (List (Nat × Tok)) → Prop
  | .ok us => ∃ v st', r = some (0, [ptr j 0, v], st') ∧ Ext st1 st' ∧ Own st1.next st' v (rowsL (done ++ us)) 5 (done ++ us).length
  | .error e => ∃ st', r = some (1, errv, st') ∧ st'.mem.get j = some (.cells [.int .i64 e.1, .int .i64 e.2] 0) ∧ Ext st0 st'
theorem LexP.to {errv : List Value} {j : Nat} {st0 st1 : SS} {done : List (Nat × Tok)} {r r' : Option (Nat × List Value × SS)} {x : Except (Nat × Nat) (List (Nat × Tok))} (h : LexP errv j st0 st1 done r x) (hr : ∀ y, r = some y → r' = some y) : LexP errv j st0 st1 done r' x := by
  cases x with
  | ok ts => obtain ⟨v, st', a, b⟩ := h; exact ⟨v, st', hr _ a, b⟩
  | error c => obtain ⟨st', a, b⟩ := h; exact ⟨st', hr _ a, b⟩
theorem LexP.cons {errv : List Value} {j : Nat} {st0 st1 : SS} {done a : List (Nat × Tok)} {r : Option (Nat × List Value × SS)} {x : Except (Nat × Nat) (List (Nat × Tok))} (h : LexP errv j st0 st1 (done ++ a) r x) : LexP errv j st0 st1 done r (consL a x) := by
  cases x with
  | ok ts =>
    have e : done ++ a ++ ts = done ++ (a ++ ts) := by simp
    obtain ⟨v, st', p, b, c⟩ := h
    rw [e] at c
    exact ⟨v, st', p, b, c⟩
  | error c => exact h
theorem strs_get (ps : List (List UInt8)) (i : Nat) (p : List UInt8) (h : ps[i]? = some p) : ((strs ps).drop (i * 1)).take 1 = [.string (mkS p)] := by
  rw [Nat.mul_one]
  have : (strs ps)[i]? = some (.string (mkS p)) := by simp [strs, h]
  rw [drop_cons this]
  rfl
/-- A line's tokens are added. -/
theorem LexP.add {errv : List Value} {j : Nat} {st0 st1 st st' : SS} {done : List (Nat × Tok)} {ts : List Tok} {i N : Nat} {out v : Value} {x : Except (Nat × Nat) (List (Nat × Tok))} {r' : Option (Nat × List Value × SS)}
    (hN : N ≤ 131073) (hl1 : st1.lim ≤ st1.next) (hi : i < N) (hd : done.length ≤ i * N) (hts : ts.length ≤ N) (he : Ext st1 st) (ho : Own st1.next st out (rowsL done) 5 done.length) (he2 : Ext st st') (ho2 : Own st.next st' v (rowsT ((i + 1 : Nat) : Int) ts) 5 ts.length)
    (h : ∀ w st'', st'.app 5 48 out v = some (w, st'') → Ext st1 st'' → Own st1.next st'' w (rowsL (done ++ ts.map fun t => (i + 1, t))) 5 (done ++ ts.map fun t => (i + 1, t)).length → (done ++ ts.map fun t => (i + 1, t)).length ≤ (i + 1) * N → LexP errv j st0 st1 (done ++ ts.map fun t => (i + 1, t)) r' x) :
    LexP errv j st0 st1 done r' (consL (ts.map fun t => (i + 1, t)) x) := by
  have hmul : i * N ≤ 131073 * 131073 := Nat.mul_le_mul (by omega) hN
  have e0 : Ext st1 st' := he.trans he2
  have hN2 : (i + 1) * N = i * N + N := by rw [Nat.add_mul, Nat.one_mul]
  have hN3 : i * N + N ≤ 131073 * 131073 := by rw [← hN2]; exact Nat.mul_le_mul (by omega) hN
  obtain ⟨w, st'', g1, g2, g3, g4, g5, g6⟩ := (ho.ext he2).app (ho2.rd) e0.next (by rw [e0.lim]; exact hl1) (by omega) (rowsT_one _ _) (bt := 48) (by omega) (by omega)
  refine (h w st'' g1 (g5 st1 (Nat.le_refl _) e0) ?_ ?_).cons
  · rw [rowsL_append, rowsL_map, List.length_append, List.length_map]
    exact g2
  · rw [List.length_append, List.length_map, hN2]; omega

theorem lex_loop [Sym] (st0 st1 : SS) (hg : Gd st1) (h01 : Ext st0 st1) (hl1 : st1.lim ≤ st1.next) (j : Nat) (hj0 : st0.next ≤ j) (hj1 : j < st1.next) (hjm : ∃ r, st1.mem.get j = some (.cells r 0) ∧ r.length = 2) (hjl : st1.lim ≤ j) (all : List (List UInt8)) (v : Value) (hv : Rd st1 v (strs all) 1 all.length) (N : Nat) (hN : N ≤ 131073) (hall : all.length ≤ N) (hmem : ∀ p ∈ all, p.length + 1 ≤ N) :
    ∀ (ps : List (List UInt8)) (i : Nat) (done : List (Nat × Tok)) (out : Value) (st : SS), all.drop i = ps → i ≤ all.length → done.length ≤ i * N → Ext st1 st → Own st1.next st out (rowsL done) 5 done.length →
    LexP [.slice none 0 0, ptr j 0, .int .i64 4] j st0 st1 done (ulex_Lex_lf 5 [ptr j 0, out, v, .int .i64 all.length, .int .i64 i] st) (lexPs i ps) := by
  intro ps
  induction ps with
  | nil =>
    intro i done out st hp hi hd he ho
    have : i = all.length := by
      rw [List.drop_eq_nil_iff] at hp; omega
    subst this
    refine ⟨out, st, ulex_Lex_l5_eq _ out v _ _ st ?_, he, by simpa using ho⟩
    simp [ulex_Lex_l5]
  | cons p r ih =>
    intro i done out st hp hi hd he ho
    have hgp : all[i]? = some p := by
      have := congrArg (·[0]?) hp
      simpa using this
    have hlt : i < all.length := (List.getElem?_eq_some_iff.1 hgp).1
    have hpm : p ∈ all := List.mem_of_getElem? hgp
    have hpl := hmem p hpm
    have hr : all.drop (i + 1) = r := by
      have := drop_cons hgp
      rw [hp] at this
      exact (List.cons.inj this).2.symm
    have hlt' : (i : Int) < (all.length : Int) := by omega
    have hw : IntKind.wrap .i64 ((i : Int) + 1) = ((i + 1 : Nat) : Int) := by rw [wrap64 (by omega) (by omega)]; omega
    obtain ⟨q, hq1, hq2, hq3⟩ := (hv.ext he).load (j := (i : Int)) (by omega) hlt' (strs_get all i p hgp) rfl
    have hld : (st.ld q.1 q.2).bind asS = some (mkS p) := by
      have := hq3 0 (by omega)
      rw [Nat.add_zero] at this
      rw [this]; rfl
    have hl : st.lim ≤ st.next := by rw [he.lim]; have := he.next; omega
    have h := line_ok (hg.ext he) hl (mkS p) (by simp; omega) ((i + 1 : Nat) : Int)
    rw [bl_mkS] at h
    unfold lexPs
    cases hx : lineX p with
    | error c =>
      rw [hx] at h
      obtain ⟨st', a, b⟩ := h
      obtain ⟨r0, hjm1, hjm2⟩ := hjm
      have e0 := he.trans b
      have hst : st'.st j 0 [.int .i64 ((i + 1 : Nat) : Int), .int .i64 c] = some (st'.set j (some (.cells [.int .i64 ((i + 1 : Nat) : Int), .int .i64 c] 0))) :=
        SS.st_cells (e0.get hj1 hjm1) (by rw [e0.lim]; exact hjl) (by rfl) (by rw [splice_of (by simp [hjm2])]; simp [hjm2])
      refine ⟨st'.set j (some (.cells [.int .i64 ((i + 1 : Nat) : Int), .int .i64 c] 0)), ulex_Lex_l5_eq _ out v _ _ st ?_, by simp, (h01.trans e0).set hj0 _⟩
      simp only [ulex_Lex_l5, decide_eq_true hlt', cond_true, hq1, Option.bind_some, hld, hw, a, tupG, List.getElem?_toArray, List.getElem?_cons_succ, List.getElem?_cons_zero, asI_int, asB_bool, Bool.not_false, addr_ptr, hst]
    | ok ts =>
      rw [hx] at h
      obtain ⟨w, st', a, b, c, d⟩ := h
      refine LexP.add hN hl1 (by omega) hd (by simp at d; omega) he ho b c ?_
      intro u st'' g1 g2 g3 g4
      refine (ih (i + 1) _ u st'' hr (by omega) g4 g2 g3).to ?_
      intro y hy
      refine ulex_Lex_l5_eq _ out v _ _ st ?_
      simp only [ulex_Lex_l5, decide_eq_true hlt', cond_true, hq1, Option.bind_some, hld, hw, a, tupG, List.getElem?_toArray, List.getElem?_cons_succ, List.getElem?_cons_zero, asI_int, asB_bool, Bool.not_true, cond_false, g1]
      exact hy
theorem rlex_loop [Sym] (st0 st1 : SS) (h01 : Ext st0 st1) (hl1 : st1.lim ≤ st1.next) (j : Nat) (hj0 : st0.next ≤ j) (hj1 : j < st1.next) (hjm : ∃ r, st1.mem.get j = some (.cells r 0) ∧ r.length = 2) (hjl : st1.lim ≤ j) (all : List (List UInt8)) (v : Value) (hv : Rd st1 v (strs all) 1 all.length) (N : Nat) (hN : N ≤ 131073) (hall : all.length ≤ N) (hmem : ∀ p ∈ all, p.length + 1 ≤ N) (hcol : ∀ p ∈ all, ∀ c, lineX p = .error c → 0 < c) :
    ∀ (ps : List (List UInt8)) (i : Nat) (done : List (Nat × Tok)) (out : Value) (st : SS), all.drop i = ps → i ≤ all.length → done.length ≤ i * N → Ext st1 st → Own st1.next st out (rowsL done) 5 done.length →
    LexP [.slice none 0 0, ptr j 0] j st0 st1 done (camshaftref15_Lex_lf 3 [ptr j 0, out, v, .int .i64 all.length, .int .i64 i] st) (lexPs i ps) := by
  intro ps
  induction ps with
  | nil =>
    intro i done out st hp hi hd he ho
    have : i = all.length := by
      rw [List.drop_eq_nil_iff] at hp; omega
    subst this
    refine ⟨out, st, camshaftref15_Lex_l3_eq _ out v _ _ st ?_, he, by simpa using ho⟩
    simp [camshaftref15_Lex_l3]
  | cons p r ih =>
    intro i done out st hp hi hd he ho
    have hgp : all[i]? = some p := by
      have := congrArg (·[0]?) hp
      simpa using this
    have hlt : i < all.length := (List.getElem?_eq_some_iff.1 hgp).1
    have hpm : p ∈ all := List.mem_of_getElem? hgp
    have hpl := hmem p hpm
    have hr : all.drop (i + 1) = r := by
      have := drop_cons hgp
      rw [hp] at this
      exact (List.cons.inj this).2.symm
    have hlt' : (i : Int) < (all.length : Int) := by omega
    have hw : IntKind.wrap .i64 ((i : Int) + 1) = ((i + 1 : Nat) : Int) := by rw [wrap64 (by omega) (by omega)]; omega
    obtain ⟨q, hq1, hq2, hq3⟩ := (hv.ext he).load (j := (i : Int)) (by omega) hlt' (strs_get all i p hgp) rfl
    have hld : (st.ld q.1 q.2).bind asS = some (mkS p) := by
      have := hq3 0 (by omega)
      rw [Nat.add_zero] at this
      rw [this]; rfl
    have hl : st.lim ≤ st.next := by rw [he.lim]; have := he.next; omega
    have h := rline_ok hl (mkS p) (by simp; omega) ((i + 1 : Nat) : Int)
    rw [bl_mkS] at h
    unfold lexPs
    cases hx : lineX p with
    | error c =>
      have hc0 := hcol p hpm c hx
      have hc0' : (0 : Int) < (c : Int) := by omega
      rw [hx] at h
      obtain ⟨st', a, b⟩ := h
      obtain ⟨r0, hjm1, hjm2⟩ := hjm
      have e0 := he.trans b
      have hst : st'.st j 0 [.int .i64 ((i + 1 : Nat) : Int), .int .i64 c] = some (st'.set j (some (.cells [.int .i64 ((i + 1 : Nat) : Int), .int .i64 c] 0))) :=
        SS.st_cells (e0.get hj1 hjm1) (by rw [e0.lim]; exact hjl) (by rfl) (by rw [splice_of (by simp [hjm2])]; simp [hjm2])
      refine ⟨st'.set j (some (.cells [.int .i64 ((i + 1 : Nat) : Int), .int .i64 c] 0)), camshaftref15_Lex_l3_eq _ out v _ _ st ?_, by simp, (h01.trans e0).set hj0 _⟩
      simp only [camshaftref15_Lex_l3, decide_eq_true hlt', cond_true, hq1, Option.bind_some, hld, hw, a, tupG, List.getElem?_toArray, List.getElem?_cons_succ, List.getElem?_cons_zero, asI_int, decide_eq_true hc0', addr_ptr, hst]
    | ok ts =>
      rw [hx] at h
      obtain ⟨w, st', a, b, c, d⟩ := h
      refine LexP.add hN hl1 (by omega) hd (by simp at d; omega) he ho b c ?_
      intro u st'' g1 g2 g3 g4
      refine (ih (i + 1) _ u st'' hr (by omega) g4 g2 g3).to ?_
      intro y hy
      refine camshaftref15_Lex_l3_eq _ out v _ _ st ?_
      have h00 : decide ((0 : Int) < 0) = false := rfl
      simp only [camshaftref15_Lex_l3, decide_eq_true hlt', cond_true, hq1, Option.bind_some, hld, hw, a, tupG, List.getElem?_toArray, List.getElem?_cons_succ, List.getElem?_cons_zero, asI_int, h00, cond_false, g1]
      exact hy
theorem lexL_col (k col : Nat) (l : List UInt8) (c : Nat) (h : lexL k col l = .error c) : 0 < c := by
  induction k generalizing col l with
  | zero => cases h
  | succ k ih =>
    unfold lexL at h
    split at h
    · cases h
    · exact ih _ _ h
    · rename_i kd n x _
      cases hx : lexL k (col + n) (l.drop n) with
      | ok ts => rw [hx] at h; cases h
      | error e => rw [hx] at h; cases h; exact ih _ _ hx
    · cases h; omega
theorem lineX_col (p : List UInt8) (c : Nat) (h : lineX p = .error c) : 0 < c := by
  unfold lineX at h
  split at h
  · cases h
  · rename_i c' hc; cases h; exact lexL_col _ _ _ _ hc
/-- What Lex hands back. -/
def LexR (okv : Value → Nat × Nat → List Value) (errv : Nat × Nat → List Value) (st : SS) (r : Option (Value × SS)) : Except (Nat × Nat) (List (Nat × Tok)) → Prop
  | .ok us => ∃ v st', r = some (.tuple (okv v (0, 0)).toArray, st') ∧ Ext st st' ∧ Own st.next st' v (rowsL us) 5 us.length
  | .error e => ∃ st', r = some (.tuple (errv e).toArray, st') ∧ Ext st st'
def pairV (e : Nat × Nat) : Value := .agg #[.int .i64 e.1, .int .i64 e.2]
theorem rdN2 {st : SS} {j : Nat} {a b : Value} {z : Nat} (h : st.mem.get j = some (.cells [a, b] z)) : st.rdN j 0 2 = some (.agg #[a, b]) := by
  rw [SS.rdN_cells h, cut_all (n := 2) rfl]; rfl
theorem lex_ok [Sym] {st : SS} (hg : Gd st) (hl : st.lim ≤ st.next) (s : ByteArray) (hs : s.size ≤ 131072) :
    LexR (fun v e => [v, pairV e, .int .i64 0]) (fun e => [.slice none 0 0, pairV e, .int .i64 4]) st (cc 72 [.string s] st) (lexT (bl s)) := by
  obtain ⟨v, st2, h1, h2, h3⟩ := split_ok s 10 (by omega) (st.new (.cells [.int .i64 0, .int .i64 0] 0)) (by simp; omega)
  have hst1 : (st.new (.cells [.int .i64 0, .int .i64 0] 0)).mem.get st.next = some (.cells [.int .i64 0, .int .i64 0] 0) := by simp
  have e01 : Ext st st2 := ((Ext.refl st).new _).trans h2
  have hm := h2.get (by simp) hst1
  have hj1 : st.next < st2.next := by have := h2.next; simp at this; omega
  have hl2 : st2.lim ≤ st2.next := by rw [e01.lim]; have := e01.next; omega
  have hlen := pieces_len 10 (bl s)
  rw [bl_length] at hlen
  have hmem := pieces_mem 10 (bl s)
  rw [bl_length] at hmem
  have h := lex_loop st st2 (hg.ext e01) e01 hl2 st.next (Nat.le_refl _) hj1 ⟨_, hm, rfl⟩ (by rw [e01.lim]; exact hl) (pieces 10 (bl s)) v h3 (s.size + 1) (by omega) hlen (fun p hp => by have := hmem p hp; omega) (pieces 10 (bl s)) 0 [] (.slice none 0 0) st2 rfl (by omega) (by simp) (.refl _) (Own.nil _ _ _)
  have hbig : ¬ (131072 : Int) < (s.size : Int) := by omega
  have hb0 : Nat.beq 0 0 = true := rfl
  have hb1 : Nat.beq 1 0 = false := rfl
  have hlv : (lenV v).bind (asI .i64) = some ((pieces 10 (bl s)).length : Int) := by rw [h3.len]; rfl
  unfold lexT
  cases hx : lexPs 0 (pieces 10 (bl s)) with
  | ok us =>
    rw [hx] at h
    obtain ⟨w, st3, a, b, c⟩ := h
    have hm3 := b.get hj1 hm
    have hst : st3.st st.next 0 [.int .i64 0, .int .i64 0] = some (st3.set st.next (some (.cells [.int .i64 0, .int .i64 0] 0))) :=
      SS.st_cells hm3 (by rw [b.lim, e01.lim]; exact hl) (by rfl) (by rfl)
    have hlast : Ext st (st3.set st.next (some (.cells [.int .i64 0, .int .i64 0] 0))) := (e01.trans b).set (Nat.le_refl _) _
    refine ⟨w, st3.set st.next (some (.cells [.int .i64 0, .int .i64 0] 0)), ulex_Lex_eq s st ?_, hlast, ?_⟩
    · have a' : ulex_Lex_lf 5 [ptr st.next 0, .slice none 0 0, v, .int .i64 ((pieces 10 (bl s)).length : Int), .int .i64 0] st2 = some (0, [ptr st.next 0, w], st3) := a
      have hr := rdN2 (a := .int .i64 0) (b := .int .i64 0) (z := 0) (st := st3.set st.next (some (.cells [.int .i64 0, .int .i64 0] 0))) (j := st.next) (by simp)
      simp only [ulex_Lex, decide_eq_false hbig, cond_false, h1, Option.bind_some, hlv, a', hb0, cond_true, List.getElem?_cons_succ, List.getElem?_cons_zero, addr_ptr, hst, hr]
      rfl
    · obtain ⟨c1, c2⟩ := c
      refine ⟨c1, c2.imp id ?_⟩
      rintro ⟨i, e, h0, hmi, hbi, hi⟩
      refine ⟨i, e, h0, ?_, by omega, hi⟩
      rw [SS.set_old (by omega)]
      exact hmi
  | error e =>
    rw [hx] at h
    obtain ⟨st3, a, b, c⟩ := h
    refine ⟨st3, ulex_Lex_eq s st ?_, c⟩
    have a' : ulex_Lex_lf 5 [ptr st.next 0, .slice none 0 0, v, .int .i64 ((pieces 10 (bl s)).length : Int), .int .i64 0] st2 = some (1, [.slice none 0 0, ptr st.next 0, .int .i64 4], st3) := a
    simp only [ulex_Lex, decide_eq_false hbig, cond_false, h1, Option.bind_some, hlv, a', hb1, cond_true, List.getElem?_cons_succ, List.getElem?_cons_zero, addr_ptr, asI_int, rdN2 b]
    rfl
theorem lex_long [Sym] {st : SS} (hl : st.lim ≤ st.next) (s : ByteArray) (hs : 131072 < s.size) :
    ∃ st', cc 72 [.string s] st = some (.tuple #[.slice none 0 0, pairV (0, 0), .int .i64 3], st') ∧ Ext st st' := by
  have hbig : (131072 : Int) < (s.size : Int) := by omega
  have hst : (st.new (.cells [.int .i64 0, .int .i64 0] 0)).st st.next 0 [.int .i64 0, .int .i64 0] = some ((st.new (.cells [.int .i64 0, .int .i64 0] 0)).set st.next (some (.cells [.int .i64 0, .int .i64 0] 0))) :=
    SS.st_cells SS.new_get hl (by rfl) (by rfl)
  refine ⟨(st.new (.cells [.int .i64 0, .int .i64 0] 0)).set st.next (some (.cells [.int .i64 0, .int .i64 0] 0)), ulex_Lex_eq s st ?_, ((Ext.refl st).new _).set (Nat.le_refl _) (some (.cells [.int .i64 0, .int .i64 0] 0))⟩
  have hr := rdN2 (a := .int .i64 0) (b := .int .i64 0) (z := 0) (st := (st.new (.cells [.int .i64 0, .int .i64 0] 0)).set st.next (some (.cells [.int .i64 0, .int .i64 0] 0))) (j := st.next) (by simp)
  simp only [ulex_Lex, decide_eq_true hbig, cond_true, hst, Option.bind_some, hr]
  rfl
theorem rlex_ok [Sym] {st : SS} (hl : st.lim ≤ st.next) (s : ByteArray) (hs : s.size ≤ 131072) :
    LexR (fun v e => [v, pairV e]) (fun e => [.slice none 0 0, pairV e]) st (cc 56 [.string s] st) (lexT (bl s)) := by
  obtain ⟨v, st2, h1, h2, h3'⟩ := cut_ok s 10 (by omega) (st.new (.cells [.int .i64 0, .int .i64 0] 0)) (by simp; omega)
  have h3 := h3'.rd
  have hst1 : (st.new (.cells [.int .i64 0, .int .i64 0] 0)).mem.get st.next = some (.cells [.int .i64 0, .int .i64 0] 0) := by simp
  have e01 : Ext st st2 := ((Ext.refl st).new _).trans h2
  have hm := h2.get (by simp) hst1
  have hj1 : st.next < st2.next := by have := h2.next; simp at this; omega
  have hl2 : st2.lim ≤ st2.next := by rw [e01.lim]; have := e01.next; omega
  have hlen := pieces_len 10 (bl s)
  rw [bl_length] at hlen
  have hmem := pieces_mem 10 (bl s)
  rw [bl_length] at hmem
  have h := rlex_loop st st2 e01 hl2 st.next (Nat.le_refl _) hj1 ⟨_, hm, rfl⟩ (by rw [e01.lim]; exact hl) (pieces 10 (bl s)) v h3 (s.size + 1) (by omega) hlen (fun p hp => by have := hmem p hp; omega) (fun p _ c hc => lineX_col p c hc) (pieces 10 (bl s)) 0 [] (.slice none 0 0) st2 rfl (by omega) (by simp) (.refl _) (Own.nil _ _ _)
  have hb0 : Nat.beq 0 0 = true := rfl
  have hb1 : Nat.beq 1 0 = false := rfl
  have hlv : (lenV v).bind (asI .i64) = some ((pieces 10 (bl s)).length : Int) := by rw [h3.len]; rfl
  have h1' : cc 54 [.string s, .int .u8 10] (st.new (.cells [.int .i64 0, .int .i64 0] 0)) = some (v, st2) := h1
  unfold lexT
  cases hx : lexPs 0 (pieces 10 (bl s)) with
  | ok us =>
    rw [hx] at h
    obtain ⟨w, st3, a, b, c⟩ := h
    have hm3 := b.get hj1 hm
    have hst : st3.st st.next 0 [.int .i64 0, .int .i64 0] = some (st3.set st.next (some (.cells [.int .i64 0, .int .i64 0] 0))) :=
      SS.st_cells hm3 (by rw [b.lim, e01.lim]; exact hl) (by rfl) (by rfl)
    have hlast : Ext st (st3.set st.next (some (.cells [.int .i64 0, .int .i64 0] 0))) := (e01.trans b).set (Nat.le_refl _) _
    refine ⟨w, st3.set st.next (some (.cells [.int .i64 0, .int .i64 0] 0)), camshaftref15_Lex_eq s st ?_, hlast, ?_⟩
    · have a' : camshaftref15_Lex_lf 3 [ptr st.next 0, .slice none 0 0, v, .int .i64 ((pieces 10 (bl s)).length : Int), .int .i64 0] st2 = some (0, [ptr st.next 0, w], st3) := a
      have hr := rdN2 (a := .int .i64 0) (b := .int .i64 0) (z := 0) (st := st3.set st.next (some (.cells [.int .i64 0, .int .i64 0] 0))) (j := st.next) (by simp)
      simp only [camshaftref15_Lex, h1', Option.bind_some, hlv, a', hb0, cond_true, List.getElem?_cons_succ, List.getElem?_cons_zero, addr_ptr, hst, hr]
      rfl
    · obtain ⟨c1, c2⟩ := c
      refine ⟨c1, c2.imp id ?_⟩
      rintro ⟨i, e, h0, hmi, hbi, hi⟩
      refine ⟨i, e, h0, ?_, by omega, hi⟩
      rw [SS.set_old (by omega)]
      exact hmi
  | error e =>
    rw [hx] at h
    obtain ⟨st3, a, b, c⟩ := h
    refine ⟨st3, camshaftref15_Lex_eq s st ?_, c⟩
    have a' : camshaftref15_Lex_lf 3 [ptr st.next 0, .slice none 0 0, v, .int .i64 ((pieces 10 (bl s)).length : Int), .int .i64 0] st2 = some (1, [.slice none 0 0, ptr st.next 0], st3) := a
    simp only [camshaftref15_Lex, h1', Option.bind_some, hlv, a', hb1, cond_false, List.getElem?_cons_succ, List.getElem?_cons_zero, addr_ptr, asI_int, rdN2 b]
    rfl
end Go.Proofs.YthngaoncjpgeiaaGreatDoorE
