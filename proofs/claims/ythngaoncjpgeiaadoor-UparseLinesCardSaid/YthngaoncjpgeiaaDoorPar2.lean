/- The parser's small functions. -/
import Derived.Test.YthngaoncjpgeiaaDoorPar1
import Derived.Test.YthngaoncjpgeiaaDoorT1
import Derived.Test.YthngaoncjpgeiaaDoorShP
set_option linter.unusedVariables false
set_option linter.unusedSimpArgs false
namespace Go.Proofs.YthngaoncjpgeiaaDoorE
open Go Go.E Go.Proofs

theorem nilC_ptr (b k : Nat) : nilC (ptr b k) = some (ptr b k) := rfl
/-- A parser, that is read. -/
structure PHas (st : SS) (b : Nat) (v : Value) (us : List (Nat × Tok)) (i : Nat) : Prop where
  mem : st.mem.get b = some (.cells [v, .int .i64 i] 0)
  lt : b < st.next
  rd : Rd st v (rowsL us) 5 us.length
  sz : us.length ≤ 1099511627776
theorem PHas.ext {st st' : SS} {b i : Nat} {v : Value} {us : List (Nat × Tok)} (h : PHas st b v us i) (x : Ext st st') : PHas st' b v us i :=
  ⟨x.get h.lt h.mem, Nat.lt_of_lt_of_le h.lt x.next, h.rd.ext x, h.sz⟩
theorem PHas.ro {st : SS} {b i n : Nat} {v : Value} {us : List (Nat × Tok)} (h : PHas st b v us i) : PHas (st.ro n) b v us i := ⟨h.mem, h.lt, h.rd, h.sz⟩
/-- A parser. -/
structure PAt (st : SS) (b : Nat) (v : Value) (us : List (Nat × Tok)) (i : Nat) : Prop where
  blk : At st b [v, .int .i64 i]
  rd : Rd st v (rowsL us) 5 us.length
  vb : ∀ j k l q, v = .slice (some ⟨j, k, none⟩) l q → j < b
  sz : us.length ≤ 1099511627776
  ll : st.lim ≤ st.next
section
variable {S : List Nat} {st st' : SS} {b i : Nat} {v : Value} {us : List (Nat × Tok)}
theorem PAt.has (h : PAt st b v us i) : PHas st b v us i := ⟨h.blk.mem, h.blk.lt, h.rd, h.sz⟩
theorem PAt.mod (h : PAt st b v us i) (m : Mod S st st') (hS : ∀ j, j ∈ S → b < j) : PAt st' b v us i :=
  ⟨h.blk.mod m (fun hm => by have := hS b hm; omega), h.rd.mod m (fun j k l q e hm => by have := hS j hm; have := h.vb j k l q e; omega), h.vb, h.sz, m.ll h.ll⟩
theorem PAt.ext (h : PAt st b v us i) (x : Ext st st') : PAt st' b v us i := h.mod (S := []) (.ofExt x) (fun _ hj => by cases hj)
theorem PAt.modI {j : Nat} (h : PAt st b v us i) (m : Mod [j] st st') (hj : b < j) : PAt st' b v us i := h.mod m fun k hk => (show k = j by simpa using hk) ▸ hj
theorem PAt.move (h : PAt st b v us i) (i' : Nat) : ∃ st', st.st b 1 [.int .i64 i'] = some st' ∧ PAt st' b v us i' ∧ Mod [b] st st' ∧ st'.next = st.next := by
  obtain ⟨st', e, a, m, n⟩ := h.blk.sto (k := 1) (vs := [.int .i64 i']) (row' := [v, .int .i64 i']) rfl rfl
  exact ⟨st', e, ⟨a, h.rd.mod m (fun j k l q e hm => by have : j = b := by simpa using hm
                                                        have := h.vb j k l q e; omega), h.vb, h.sz, m.ll h.ll⟩, m, n⟩
end
abbrev Z5 : List Value := [.int .i64 0, .string ⟨#[]⟩, .int .i64 0, .int .i64 0, .int .i64 0]
theorem now_ok [Sym] {st : SS} {b i : Nat} {v : Value} {us : List (Nat × Tok)} (h : PHas st b v us i) {t : Nat × Tok} (ht : us[i]? = some t) :
    ∃ n, st.next ≤ n ∧ cc 31 [ptr b 0] st = some (.agg (tokRow t.1 t.2).toArray, st.adv n) := by
  obtain ⟨st10, e10, a10, x10, _⟩ := newV_ok (st := st.ro st.next) (Nat.le_refl _) (r := Z5) (aggC (tokRow t.1 t.2)) (n := 5) rfl rfl rfl
  have h1 := (h.ro (n := st.next)).ext ((Ext.refl (st.ro st.next)).new (.cells Z5 0))
  have hlt : (i : Int) < (us.length : Int) := by have := (List.getElem?_eq_some_iff.1 ht).1; omega
  obtain ⟨q, b1, b2, _⟩ := h1.rd.load (j := (i : Int)) (by omega) hlt (rowsL_get us i t ht) rfl
  have l0 : ((st.ro st.next).new (.cells Z5 0)).ld b 0 = some v := by rw [SS.ld_cells h1.mem]; rfl
  have l1 : ((st.ro st.next).new (.cells Z5 0)).ld b 1 = some (.int .i64 i) := by rw [SS.ld_cells h1.mem]; rfl
  have hr : st10.rdN (st.ro st.next).next 0 5 = some (.agg (tokRow t.1 t.2).toArray) := a10.rdN rfl
  refine ⟨st10.next, x10.next, uparse_parser_now_eq _ st ?_⟩
  have e10' : ((st.ro st.next).new (.cells Z5 0)).stV st.next 0 5 (.agg (tokRow t.1 t.2).toArray) = some st10 := e10
  have hr' : st10.rdN st.next 0 5 = some (.agg (tokRow t.1 t.2).toArray) := hr
  simp only [uparse_parser_now, SS.ro_next, nilC_ptr, Option.bind_some, addr_ptr, l0, Nat.zero_add, l1, asI_int, b1, b2, e10', hr']
  rfl
theorem tok_fld {ln : Nat} {t : Tok} : (fldG Lk0 36 0 (.agg (tokRow ln t).toArray)).bind (asI .i64) = some (t.kd : Int) ∧ (fldG Lk0 36 1 (.agg (tokRow ln t).toArray)).bind asS = some (mkS t.tx) ∧
    (fldG Lk0 36 3 (.agg (tokRow ln t).toArray)).bind (asI .i64) = some (ln : Int) ∧ (fldG Lk0 36 4 (.agg (tokRow ln t).toArray)).bind (asI .i64) = some (t.col : Int) := ⟨by kernel_rfl, by kernel_rfl, by kernel_rfl, by kernel_rfl⟩
theorem next_ok [Sym] {st : SS} {b i : Nat} {v : Value} {us : List (Nat × Tok)} (h : PHas st b v us i) {t u : Nat × Tok} (ht : us[i]? = some t) (hu : us[if t.2.kd = 0 then i else i + 1]? = some u) :
    ∃ n, st.next ≤ n ∧ cc 45 [ptr b 0] st = some (.agg (tokRow u.1 u.2).toArray, st.adv n) := by
  have h1 := (h.ro (n := st.next)).ext ((Ext.refl (st.ro st.next)).new (.cells Z5 0))
  obtain ⟨n, hn, c1⟩ := now_ok h1 ht
  have a0 : At ((st.ro st.next).new (.cells Z5 0)) st.next Z5 := At.new (st := st.ro st.next) (Nat.le_refl _) Z5
  have h2 := h1.ext (Ext.advR _ hn)
  have a2 := a0.adv hn
  by_cases hk : t.2.kd = 0
  · rw [if_pos hk, ht] at hu
    cases hu
    obtain ⟨m, hm, c2⟩ := now_ok h2 ht
    have a3 := a2.adv hm
    obtain ⟨st5, e5, a5, m5, n5⟩ := a3.stV (k := 0) (aggC (tokRow t.1 t.2)) (n := 5) rfl rfl (row' := tokRow t.1 t.2) rfl
    have hr : st5.rdN st.next 0 5 = some (.agg (tokRow t.1 t.2).toArray) := a5.rdN rfl
    have hk' : (t.2.kd : Int) = 0 := by omega
    have hle : st.next ≤ st5.next := by rw [n5]; simp at hn hm ⊢; omega
    refine ⟨st5.next, hle, uparse_parser_next_eq _ st ?_⟩
    simp only [uparse_parser_next, SS.ro_next, c1, c2, Option.bind_some, tok_fld.1, decide_eq_true hk', cond_true, e5, hr]
    rfl
  · rw [if_neg hk] at hu
    have hlt : ((i + 1 : Nat) : Int) < (us.length : Int) := by have := (List.getElem?_eq_some_iff.1 hu).1; omega
    obtain ⟨q, b1, b2, _⟩ := h2.rd.load (j := ((i + 1 : Nat) : Int)) (by omega) hlt (rowsL_get us (i + 1) u hu) rfl
    have hk' : ¬ (t.2.kd : Int) = 0 := by omega
    obtain ⟨st5, e5, a5, m5, n5⟩ := a2.stV (k := 0) (aggC (tokRow u.1 u.2)) (n := 5) rfl rfl (row' := tokRow u.1 u.2) rfl
    have hr : st5.rdN st.next 0 5 = some (.agg (tokRow u.1 u.2).toArray) := a5.rdN rfl
    have l0 : (((st.ro st.next).new (.cells Z5 0)).adv n).ld b 0 = some v := by rw [SS.ld_cells h2.mem]; rfl
    have l1 : (((st.ro st.next).new (.cells Z5 0)).adv n).ld b 1 = some (.int .i64 i) := by rw [SS.ld_cells h2.mem]; rfl
    have hw : IntKind.wrap .i64 ((i : Int) + 1) = ((i + 1 : Nat) : Int) := by have := h.sz; rw [wrap64 (by omega) (by omega)]; omega
    have hle : st.next ≤ st5.next := by rw [n5]; simp at hn ⊢; omega
    refine ⟨st5.next, hle, uparse_parser_next_eq _ st ?_⟩
    simp only [uparse_parser_next, SS.ro_next, c1, Option.bind_some, tok_fld.1, decide_eq_false hk', cond_false, nilC_ptr, addr_ptr, l0, Nat.zero_add, l1, asI_int, hw, b1, b2, e5, hr]
    rfl

/-- A token is laid into a block of its own. -/
theorem tok_new {st : SS} {n : Nat} (hl : st.lim ≤ n) (t : Nat × Tok) : ∃ st', ((st.adv n).new (.cells Z5 0)).stV n 0 5 (.agg (tokRow t.1 t.2).toArray) = some st' ∧ At st' n (tokRow t.1 t.2) ∧ Ext (st.adv n) st' := by
  obtain ⟨st', a, b, c, _⟩ := newV_ok (st := st.adv n) hl (r := Z5) (aggC (tokRow t.1 t.2)) (n := 5) rfl rfl rfl
  exact ⟨st', a, b, c⟩
theorem wrapI {i k : Nat} (h : i ≤ 1099511627776) (hk : k ≤ 1099511627776) : IntKind.wrap .i64 ((i : Int) + (k : Int)) = ((i + k : Nat) : Int) := by rw [wrap64 (by omega) (by omega)]; omega
theorem wrapI1 {i : Nat} (h : i ≤ 1099511627776) : IntKind.wrap .i64 ((i : Int) + 1) = ((i + 1 : Nat) : Int) := wrapI h (k := 1) (by omega)
theorem eqT_dec (a b : List UInt8) : eqT (mkS a) (mkS b) = decide (a = b) := by rw [eqT_iff', bl_mkS, bl_mkS]

theorem takes_ok [Sym] {st : SS} {b i : Nat} {v : Value} {us : List (Nat × Tok)} (h : PAt st b v us i) {t : Nat × Tok} (ht : us[i]? = some t) (sg : List UInt8) :
    ∃ st', cc 46 [ptr b 0, .string (mkS sg)] st = some (.bool (isSign t.2 sg), st') ∧ Mod [b] st st' ∧ PAt st' b v us (if isSign t.2 sg = true then i + 1 else i) := by
  obtain ⟨n, hn, h1⟩ := now_ok h.has ht
  obtain ⟨st3, e3, a3, x3⟩ := tok_new (st := st) (n := n) (Nat.le_trans h.ll hn) t
  have x : Ext st st3 := (Ext.advR st hn).trans x3
  have hp := h.ext x
  have k0 : st3.ld n 0 = some (.int .i64 t.2.kd) := a3.ld
  have k1 : st3.ld n 1 = some (.string (mkS t.2.tx)) := a3.ld
  have hi := (List.getElem?_eq_some_iff.1 ht).1
  have hsz := h.sz
  by_cases hk : t.2.kd = 3
  · have hk' : (t.2.kd : Int) = 3 := by omega
    by_cases hx : t.2.tx = sg
    · have hs : isSign t.2 sg = true := by simp [isSign, hk, hx]
      obtain ⟨st4, e4, p4, m4, _⟩ := hp.move (i + 1)
      have hl1 : st3.ld b 1 = some (.int .i64 i) := hp.blk.ld
      rw [hs]
      refine ⟨st4, uparse_parser_takes_eq _ _ st ?_, (Mod.ofExt x).then m4, p4⟩
      simp only [uparse_parser_takes, h1, Option.bind_some, SS.adv_next, e3, k0, k1, asI_int, asS_string, decide_eq_true hk', Bool.not_true, cond_false, eqT_dec, decide_eq_true hx, nilC_ptr, addr_ptr, Nat.zero_add, hl1, wrapI1 (show i ≤ 1099511627776 by omega), e4]
    · have hs : isSign t.2 sg = false := by simp [isSign, hk, hx]
      rw [hs]
      refine ⟨st3, uparse_parser_takes_eq _ _ st ?_, .ofExt x, hp⟩
      simp only [uparse_parser_takes, h1, Option.bind_some, SS.adv_next, e3, k0, k1, asI_int, asS_string, decide_eq_true hk', Bool.not_true, cond_false, eqT_dec, decide_eq_false hx, Bool.not_false, cond_true]
  · have hk' : ¬ (t.2.kd : Int) = 3 := by omega
    have hs : isSign t.2 sg = false := by simp [isSign, hk]
    rw [hs]
    refine ⟨st3, uparse_parser_takes_eq _ _ st ?_, .ofExt x, hp⟩
    simp only [uparse_parser_takes, h1, Option.bind_some, SS.adv_next, e3, k0, asI_int, decide_eq_false hk', Bool.not_false, cond_true]
theorem name_ok [Sym] {st : SS} {b i : Nat} {v : Value} {us : List (Nat × Tok)} (h : PAt st b v us i) {t : Nat × Tok} (ht : us[i]? = some t) :
    ∃ st', cc 47 [ptr b 0] st = some (.tuple #[.string (mkS (if t.2.kd = 1 then t.2.tx else [])), .bool (decide (t.2.kd = 1))], st') ∧ Mod [b] st st' ∧ PAt st' b v us (if t.2.kd = 1 then i + 1 else i) := by
  obtain ⟨n, hn, h1⟩ := now_ok h.has ht
  obtain ⟨st3, e3, a3, x3⟩ := tok_new (st := st) (n := n) (Nat.le_trans h.ll hn) t
  have x : Ext st st3 := (Ext.advR st hn).trans x3
  have hp := h.ext x
  have k0 : st3.ld n 0 = some (.int .i64 t.2.kd) := a3.ld
  have hi := (List.getElem?_eq_some_iff.1 ht).1
  have hsz := h.sz
  by_cases hk : t.2.kd = 1
  · have hk' : (t.2.kd : Int) = 1 := by omega
    obtain ⟨st4, e4, p4, m4, _⟩ := hp.move (i + 1)
    have hl1 : st3.ld b 1 = some (.int .i64 i) := hp.blk.ld
    have hne : n ≠ b := by have := h.blk.lt; omega
    have k1 : st4.ld n 1 = some (.string (mkS t.2.tx)) := (a3.mod m4 (by simpa using hne)).ld
    rw [if_pos hk, if_pos hk, decide_eq_true hk]
    refine ⟨st4, uparse_parser_name_eq _ st ?_, (Mod.ofExt x).then m4, p4⟩
    simp only [uparse_parser_name, h1, Option.bind_some, SS.adv_next, e3, k0, asI_int, decide_eq_true hk', Bool.not_true, cond_false, nilC_ptr, addr_ptr, Nat.zero_add, hl1, wrapI1 (show i ≤ 1099511627776 by omega), e4, k1, asS_string]
  · have hk' : ¬ (t.2.kd : Int) = 1 := by omega
    rw [if_neg hk, if_neg hk, decide_eq_false hk]
    refine ⟨st3, uparse_parser_name_eq _ st ?_, .ofExt x, hp⟩
    simp only [uparse_parser_name, h1, Option.bind_some, SS.adv_next, e3, k0, asI_int, decide_eq_false hk', Bool.not_false, cond_true]
    rfl
theorem pnumber_ok [Sym] {st : SS} {b i : Nat} {v : Value} {us : List (Nat × Tok)} (h : PAt st b v us i) {t : Nat × Tok} (ht : us[i]? = some t) :
    ∃ st', cc 64 [ptr b 0] st = some (.tuple #[.int .i64 (if t.2.kd = 2 then t.2.nm else 0), .bool (decide (t.2.kd = 2))], st') ∧ Mod [b] st st' ∧ PAt st' b v us (if t.2.kd = 2 then i + 1 else i) := by
  obtain ⟨n, hn, h1⟩ := now_ok h.has ht
  obtain ⟨st3, e3, a3, x3⟩ := tok_new (st := st) (n := n) (Nat.le_trans h.ll hn) t
  have x : Ext st st3 := (Ext.advR st hn).trans x3
  have hp := h.ext x
  have k0 : st3.ld n 0 = some (.int .i64 t.2.kd) := a3.ld
  have hi := (List.getElem?_eq_some_iff.1 ht).1
  have hsz := h.sz
  by_cases hk : t.2.kd = 2
  · have hk' : (t.2.kd : Int) = 2 := by omega
    obtain ⟨st4, e4, p4, m4, _⟩ := hp.move (i + 1)
    have hl1 : st3.ld b 1 = some (.int .i64 i) := hp.blk.ld
    have hne : n ≠ b := by have := h.blk.lt; omega
    have k1 : st4.ld n 2 = some (.int .i64 t.2.nm) := (a3.mod m4 (by simpa using hne)).ld
    rw [if_pos hk, if_pos hk, decide_eq_true hk]
    refine ⟨st4, uparse_parser_number_eq _ st ?_, (Mod.ofExt x).then m4, p4⟩
    simp only [uparse_parser_number, h1, Option.bind_some, SS.adv_next, e3, k0, asI_int, decide_eq_true hk', Bool.not_true, cond_false, nilC_ptr, addr_ptr, Nat.zero_add, hl1, wrapI1 (show i ≤ 1099511627776 by omega), e4, k1]
  · have hk' : ¬ (t.2.kd : Int) = 2 := by omega
    rw [if_neg hk, if_neg hk, decide_eq_false hk]
    refine ⟨st3, uparse_parser_number_eq _ st ?_, .ofExt x, hp⟩
    simp only [uparse_parser_number, h1, Option.bind_some, SS.adv_next, e3, k0, asI_int, decide_eq_false hk', Bool.not_false, cond_true]

/-- Where a line's tokens go on. -/
structure LineAt (us : List (Nat × Tok)) (i ln : Nat) (l : List Tok) : Prop where
  drop : ∃ rest, us.drop i = (l.map fun t => (ln, t)) ++ rest
  lin : Lin l
  ok : ∀ t ∈ l, TokOk t
theorem LineAt.head {us : List (Nat × Tok)} {i ln : Nat} {t : Tok} {r : List Tok} (h : LineAt us i ln (t :: r)) : us[i]? = some (ln, t) := by
  obtain ⟨rest, hr⟩ := h.drop
  have := congrArg (·[0]?) hr
  simpa using this
theorem LineAt.tail {us : List (Nat × Tok)} {i ln : Nat} {t : Tok} {r : List Tok} (h : LineAt us i ln (t :: r)) (hk : t.kd ≠ 0) : LineAt us (i + 1) ln r := by
  refine ⟨?_, h.lin.tail hk, fun u hu => h.ok u (List.mem_cons_of_mem _ hu)⟩
  obtain ⟨rest, hr⟩ := h.drop
  refine ⟨rest, ?_⟩
  have := drop_cons h.head
  rw [hr] at this
  exact (List.cons.inj this).2.symm
theorem LineAt.tok {us : List (Nat × Tok)} {i ln : Nat} {t : Tok} {r : List Tok} (h : LineAt us i ln (t :: r)) : TokOk t := h.ok t (List.mem_cons_self ..)
end Go.Proofs.YthngaoncjpgeiaaDoorE
