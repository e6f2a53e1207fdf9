/- The parser's pairs and lines. -/
import Derived.Test.YthngaoncjpgeiaaDoorPar3
set_option linter.unusedVariables false
set_option linter.unusedSimpArgs false
namespace Go.Proofs.YthngaoncjpgeiaaDoorE
open Go Go.E Go.Proofs

theorem PAt.keepB {S : List Nat} {st st' : SS} {b i B : Nat} {v : Value} {us : List (Nat × Tok)} (h : PAt st b v us i) (k : Keep B S st st') (hB : b < B) (hS : ∀ j, j ∈ S → b < j) : PAt st' b v us i := by
  refine ⟨h.blk.keepB k hB (fun hm => by have := hS b hm; omega), ?_, h.vb, h.sz, k.ll h.ll⟩
  obtain ⟨h1, h2⟩ := h.rd
  refine ⟨h1, h2.imp id ?_⟩
  rintro ⟨j, cap, e, ⟨z', hm⟩, hj⟩
  have hjb := h.vb j 0 _ cap e
  exact ⟨j, cap, e, ⟨z', (k.keep j (by omega) (fun hx => by have := hS j hx; omega)).trans hm⟩, Nat.lt_of_lt_of_le hj k.next⟩
/-- What pair comes to. -/
def PairR (B b lb : Nat) (w0 w1 w2 w3 pv v : Value) (us : List (Nat × Tok)) (i : Nat) (ps : List Pr) (st : SS) (r : Option (Value × SS)) : Except Nat (Pr × Nat) → Prop
  | .ok (p, n) => ∃ st' pv', r = some (.bool true, st') ∧ Keep B [b, lb] st st' ∧ PAt st' b v us (i + n) ∧ At st' lb [w0, w1, w2, w3, pv'] ∧ Own B st' pv' (rowsF prRow (ps ++ [p])) 5 (ps ++ [p]).length
  | .error o => ∃ st', r = some (.bool false, st') ∧ Keep B [b, lb] st st' ∧ PAt st' b v us (i + o) ∧ At st' lb [w0, w1, w2, w3, pv] ∧ Own B st' pv (rowsF prRow ps) 5 ps.length
theorem pair_ok [Sym] {st : SS} {b i ln lb B : Nat} {v w0 w1 w2 w3 pv : Value} {us : List (Nat × Tok)} {l : List Tok} {ps : List Pr} (h : PAt st b v us i) (hl : LineAt us i ln l)
    (ha : At st lb [w0, w1, w2, w3, pv]) (hbl : b < lb) (hlB : lb < B) (hB : B ≤ st.next) (hps : ps.length ≤ 1099511627776 / 8) (ho : Own B st pv (rowsF prRow ps) 5 ps.length) :
    PairR B b lb w0 w1 w2 w3 pv v us i ps st (cc 49 [ptr b 0, ptr lb 0] st) (pairT (ps.map (·.fd)) l) := by
  obtain ⟨t, r, rfl⟩ := hl.lin.ne
  have hisz := LineAt.sz h hl
  have hb := h.blk.lt
  have hlim : st.lim ≤ B := by have := ha.2.2; omega
  obtain ⟨n1, hn1, c1⟩ := now_ok h.has hl.head
  obtain ⟨s4, e4, a4, x4, _⟩ := new_ok (st := st.adv n1) (Nat.le_trans h.ll hn1) (r := [.string ⟨#[]⟩, .int .i64 0, .string ⟨#[]⟩, .int .i64 0, .int .i64 0]) (row := prRow ⟨[], t.col, ⟨[], 0, 0⟩⟩) rfl rfl
  have x04 : Ext st s4 := (Ext.advR st hn1).trans x4
  obtain ⟨n2, hn2, c2⟩ := now_ok (h.ext x04).has hl.head
  obtain ⟨s8, e8, a8, x8, _⟩ := new_ok (st := s4.adv n2) (Nat.le_trans (x04.ll h.ll) hn2) (r := [.string ⟨#[]⟩]) (row := [.string (mkS t.tx)]) rfl rfl
  have x08 : Ext st s8 := x04.trans ((Ext.advR s4 hn2).trans x8)
  have a48 := (a4.adv hn2).ext x8
  obtain ⟨n3, hn3, c3⟩ := now_ok (h.ext x08).has hl.head
  have x03 : Ext st (s8.adv n3) := x08.trans (.advR s8 hn3)
  have p3 := h.ext x03
  have la := ha.ext x03
  have l4 : (s8.adv n3).ld lb 4 = some pv := la.ld
  have k0 := (tok_fld (ln := ln) (t := t)).1
  have k1 := (tok_fld (ln := ln) (t := t)).2.1
  have k4 := (tok_fld (ln := ln) (t := t)).2.2.2
  have e4' : ((st.adv n1).new (.cells [.string ⟨#[]⟩, .int .i64 0, .string ⟨#[]⟩, .int .i64 0, .int .i64 0] 0)).st (st.adv n1).next 0 [.string ⟨#[]⟩, .int .i64 t.col, .string ⟨#[]⟩, .int .i64 0, .int .i64 0] = some s4 := e4
  rw [pairT_cons]
  by_cases h1 : t.kd = 1
  case neg =>
    have h1' : ¬ (t.kd : Int) = 1 := by omega
    rw [if_neg (fun x => h1 x.1)]
    refine ⟨s8.adv n3, uparse_parser_pair_eq _ _ st ?_, x03.keepB hB, p3, la, ho.ext x03⟩
    simp only [uparse_parser_pair, c1, Option.bind_some, k4, e4', c2, k1, e8, c3, k0, decide_eq_false h1', Bool.not_false, cond_true]
  have h1' : (t.kd : Int) = 1 := by omega
  obtain ⟨m, hm, c5⟩ := cont_ok ps (by omega) t.tx (s4.adv n2).next pv (s8.adv n3) (ho.ext x03).rd (a8.adv hn3).mem (a8.adv hn3).lt
  have x05 : Ext st ((s8.adv n3).adv m) := x03.trans (.advR _ hm)
  by_cases hk : t.tx ∈ ps.map (·.fd)
  · rw [if_neg (fun x => x.2 hk)]
    rw [decide_eq_true hk] at c5
    refine ⟨(s8.adv n3).adv m, uparse_parser_pair_eq _ _ st ?_, x05.keepB hB, h.ext x05, ha.ext x05, ho.ext x05⟩
    simp only [uparse_parser_pair, c1, Option.bind_some, k4, e4', c2, k1, e8, c3, k0, decide_eq_true h1', Bool.not_true, cond_false, nilC_ptr, addr_ptr, Nat.zero_add, l4, c5, asB_bool, cond_true]
  rw [if_pos ⟨h1, hk⟩]
  rw [decide_eq_false hk] at c5
  have hl1 := hl.tail (by omega)
  obtain ⟨e, u, rfl⟩ := hl1.lin.ne
  have q8 := (a8.adv hn3).adv hm
  have l16 : ((s8.adv n3).adv m).ld (s4.adv n2).next 0 = some (.string (mkS t.tx)) := q8.ld
  obtain ⟨s17, e17, a17, m17, _⟩ := ((a48.adv hn3).adv hm).sto (k := 0) (vs := [.string (mkS t.tx)]) (row' := prRow ⟨t.tx, t.col, ⟨[], 0, 0⟩⟩) rfl rfl
  have hj1 : B ≤ (st.adv n1).next := Nat.le_trans hB hn1
  have p17 := (h.ext x05).modI m17 (by omega)
  have la17 := (ha.ext x05).mod m17 (by simp; omega)
  have o17 := (ho.ext x05)
  have K17 : Keep B [b, lb] st s17 := (x05.keepB hB).thenI m17 (Nat.le_trans hB x05.next) (.inl hj1)
  have o17 : Own B s17 pv (rowsF prRow ps) 5 ps.length := by
    refine (ho.ext x05).mod m17 (fun j k l' q hv hm' => ?_)
    have hj : j = (st.adv n1).next := by simpa using hm'
    obtain ⟨_, ⟨ev, _⟩ | ⟨i', ev, _, _, _, hi'⟩⟩ := ho
    · rw [ev] at hv; cases hv
    · rw [ev] at hv; cases hv
      have : st.next ≤ (st.adv n1).next := hn1
      omega
  have l17 : s17.ld b 1 = some (.int .i64 i) := p17.blk.ld
  obtain ⟨s24, e24, p24, m24, _⟩ := p17.move (i + 1)
  have la24 := la17.mod m24 (by simp; omega)
  have a24 := a17.mod m24 (by simp; omega)
  have nx17 : B ≤ s17.next := Nat.le_trans hB K17.next
  have K24 := K17.thenI m24 nx17 (.inr (by simp))
  have o24 := o17.modLt m24 (by simp; omega)
  have hw := wrapI1 hisz
  obtain ⟨s25, c25, m25, p25⟩ := takes_ok p24 hl1.head [61]
  have c25' : cc 46 [ptr b 0, .string ⟨#[61]⟩] s24 = some (.bool (isSign e [61]), s25) := c25
  have la25 := la24.mod m25 (by simp; omega)
  have a25 := a24.mod m25 (by simp; omega)
  have nx24 : B ≤ s24.next := Nat.le_trans hB K24.next
  have K25 := K24.thenI m25 nx24 (.inr (by simp))
  have o25 := o24.modLt m25 (by simp; omega)
  simp only
  by_cases he : isSign e [61] = true
  case neg =>
    have he' : isSign e [61] = false := Bool.eq_false_iff.2 he
    rw [he'] at c25'
    rw [if_neg he] at p25
    rw [if_neg he]
    refine ⟨s25, uparse_parser_pair_eq _ _ st ?_, K25, p25, la25, o25⟩
    simp only [uparse_parser_pair, c1, Option.bind_some, k4, e4', c2, k1, e8, c3, k0, decide_eq_true h1', Bool.not_true, cond_false, nilC_ptr, addr_ptr, Nat.zero_add, l4, c5, asB_bool, l16, asS_string, e17, l17, asI_int, hw, e24, c25', Bool.not_false, cond_true]
  rw [he] at c25'
  rw [if_pos he] at p25
  rw [if_pos he]
  have hl2 := hl1.tail (by have := isSign_kd he; omega)
  have nx25 : B ≤ s25.next := Nat.le_trans hB K25.next
  have hval := value_ok p25 hl2
  cases hx : takeT u with
  | error o =>
    rw [hx] at hval
    obtain ⟨w, s27, c27, m27, p27⟩ := hval
    have la27 := la25.mod m27 (by simp; omega)
    have a27 := a25.mod m27 (by simp; omega)
    have K27 := K25.thenI m27 nx25 (.inr (by simp))
    have o27 := o25.modLt m27 (by simp; omega)
    obtain ⟨s30, e30, a30, m30, _⟩ := a27.stV (k := 2) (n := 3) (aggC (valRow w)) rfl rfl (row' := prRow ⟨t.tx, t.col, w⟩) rfl
    have la30 := la27.mod m30 (by simp; omega)
    have nx27 : B ≤ s27.next := Nat.le_trans hB K27.next
    have K30 := K27.thenI m30 nx27 (.inl hj1)
    have p30 := p27.modI m30 (by omega)
    have o30 : Own B s30 pv (rowsF prRow ps) 5 ps.length := by
      refine o27.mod m30 (fun j k l' q hv hm' => ?_)
      have hj : j = (st.adv n1).next := by simpa using hm'
      obtain ⟨_, ⟨ev, _⟩ | ⟨i', ev, _, _, _, hi'⟩⟩ := ho
      · rw [ev] at hv; cases hv
      · rw [ev] at hv; cases hv
        have : st.next ≤ (st.adv n1).next := hn1
        omega
    refine ⟨s30, uparse_parser_pair_eq _ _ st ?_, K30, by have e' : i + 1 + 1 + o = i + (2 + o) := by omega
                                                          rw [← e']; exact p30, la30, o30⟩
    simp only [uparse_parser_pair, c1, Option.bind_some, k4, e4', c2, k1, e8, c3, k0, decide_eq_true h1', Bool.not_true, cond_false, nilC_ptr, addr_ptr, Nat.zero_add, l4, c5, asB_bool, l16, asS_string, e17, l17, asI_int, hw, e24, c25', c27, tupG, List.getElem?_toArray, List.getElem?_cons_succ, List.getElem?_cons_zero, e30, Bool.not_false, cond_true]
  | ok y =>
    obtain ⟨x, n⟩ := y
    rw [hx] at hval
    obtain ⟨s27, c27, m27, p27⟩ := hval
    have la27 := la25.mod m27 (by simp; omega)
    have a27 := a25.mod m27 (by simp; omega)
    have K27 := K25.thenI m27 nx25 (.inr (by simp))
    have o27 := o25.modLt m27 (by simp; omega)
    obtain ⟨s30, e30, a30, m30, _⟩ := a27.stV (k := 2) (n := 3) (aggC (valRow x)) rfl rfl (row' := prRow ⟨t.tx, t.col, x⟩) rfl
    have la30 := la27.mod m30 (by simp; omega)
    have nx27 : B ≤ s27.next := Nat.le_trans hB K27.next
    have K30 := K27.thenI m30 nx27 (.inl hj1)
    have p30 := p27.modI m30 (by omega)
    have o30 : Own B s30 pv (rowsF prRow ps) 5 ps.length := by
      refine o27.mod m30 (fun j k l' q hv hm' => ?_)
      have hj : j = (st.adv n1).next := by simpa using hm'
      obtain ⟨_, ⟨ev, _⟩ | ⟨i', ev, _, _, _, hi'⟩⟩ := ho
      · rw [ev] at hv; cases hv
      · rw [ev] at hv; cases hv
        have : st.next ≤ (st.adv n1).next := hn1
        omega
    have l33 : s30.ld lb 4 = some pv := la30.ld
    have l34 : s30.ldN (st.adv n1).next 0 5 = some (.agg (prRow ⟨t.tx, t.col, x⟩).toArray) := a30.ldN rfl
    have hc35 : cellsN (.agg (prRow ⟨t.tx, t.col, x⟩).toArray) 5 = some (prRow ⟨t.tx, t.col, x⟩) := cellsN_agg rfl
    have nx30 : B ≤ s30.next := Nat.le_trans hB K30.next
    obtain ⟨pv', s37, g1, g2, g3⟩ := o30.pushK nx30 (by rw [K30.lim]; exact hlim) (row := prRow ⟨t.tx, t.col, x⟩) rfl (by omega) rfl (bt := 56) (by omega) (by omega)
    have la37 := la30.keepB (g3 []) hlB (by simp)
    have p37 := p30.keepB (g3 []) (by omega) (by simp)
    have K37 := K30.then (g3 _)
    obtain ⟨s40, e40, a40, m40, _⟩ := la37.stV (k := 4) (n := 1) g2.cell.1 rfl (by simp [g2.cell.2]) (row' := [w0, w1, w2, w3, pv']) rfl
    have nx37 : B ≤ s37.next := Nat.le_trans hB K37.next
    have K40 := K37.thenI m40 nx37 (.inr (by simp))
    have p40 := p37.modI m40 hbl
    have o40 := g2.modLt m40 (by simp; omega)
    refine ⟨s40, pv', uparse_parser_pair_eq _ _ st ?_, K40, by have e' : i + 1 + 1 + n = i + (2 + n) := by omega
                                                               rw [← e']; exact p40, a40, ?_⟩
    · simp only [uparse_parser_pair, c1, Option.bind_some, k4, e4', c2, k1, e8, c3, k0, decide_eq_true h1', Bool.not_true, cond_false, nilC_ptr, addr_ptr, Nat.zero_add, l4, c5, asB_bool, l16, asS_string, e17, l17, asI_int, hw, e24, c25', c27, tupG, List.getElem?_toArray, List.getElem?_cons_succ, List.getElem?_cons_zero, e30, l33, l34, hc35, List.append_nil, g1, e40]
    · rw [rowsF_append, rowsF_one, List.length_append]; exact o40
end Go.Proofs.YthngaoncjpgeiaaDoorE
