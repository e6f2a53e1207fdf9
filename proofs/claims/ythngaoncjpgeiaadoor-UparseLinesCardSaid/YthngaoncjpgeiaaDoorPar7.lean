/- What Parse comes to. -/
import Derived.Test.YthngaoncjpgeiaaDoorPar6
set_option linter.unusedVariables false
set_option linter.unusedSimpArgs false
namespace Go.Proofs.YthngaoncjpgeiaaDoorE
open Go Go.E Go.Proofs

/-- A list that may be read, in a block between two bounds. -/
def RdB (st : SS) (lo hi : Nat) (v : Value) (c : List Value) (z n : Nat) : Prop := Rd st v c z n ∧ ∀ j k l q, v = .slice (some ⟨j, k, none⟩) l q → lo < j ∧ j < hi
theorem Own.rdB {B lo hi : Nat} {st : SS} {v : Value} {c : List Value} {z n : Nat} (h : Own B st v c z n) (hlo : lo < B) (hhi : st.next ≤ hi) : RdB st lo hi v c z n := by
  refine ⟨h.rd, fun j k l q hv => ?_⟩
  obtain ⟨_, ⟨ev, _⟩ | ⟨i', ev, _, _, hbi, hi'⟩⟩ := h
  · rw [ev] at hv; cases hv
  · rw [ev] at hv; cases hv; omega
theorem RdB.go {st st' : SS} {lo hi hi' : Nat} {v : Value} {c : List Value} {z n : Nat} (h : RdB st lo hi v c z n) (hh : hi ≤ hi') (hn : st.next ≤ st'.next) (hk : ∀ j, j < st.next → lo < j → j < hi → st'.mem.get j = st.mem.get j) : RdB st' lo hi' v c z n := by
  obtain ⟨⟨h1, h2⟩, h3⟩ := h
  refine ⟨⟨h1, h2.imp id ?_⟩, fun j k l q hv => by have := h3 j k l q hv; omega⟩
  rintro ⟨i, cap, e, ⟨z', hm⟩, hi⟩
  have := h3 i 0 n cap e
  exact ⟨i, cap, e, ⟨z', (hk i hi this.1 this.2).trans hm⟩, Nat.lt_of_lt_of_le hi hn⟩
abbrev Item := PLine × Value × Value
def lnRow (x : Item) : List Value := [.int .i64 x.1.ln, .string (mkS x.1.lab), .string (mkS x.1.dir), x.2.1, x.2.2]
theorem lnRow_len (x : Item) : (lnRow x).length = 5 := rfl
def ItB (st : SS) (lo hi : Nat) (x : Item) : Prop := RdB st lo hi x.2.1 (rowsF valRow x.1.args) 3 x.1.args.length ∧ RdB st lo hi x.2.2 (rowsF prRow x.1.prs) 5 x.1.prs.length
/-- Lines that are collected. -/
structure Coll (st : SS) (lo m B : Nat) (v : Value) (its : List Item) : Prop where
  own : Own B st v (rowsF lnRow its) 5 its.length
  blk : ∀ j k l q, v = .slice (some ⟨j, k, none⟩) l q → m ≤ j
  it : ∀ x ∈ its, ItB st lo m x
  lo : lo < B
  le : m ≤ st.next
/-- Lines that may be read. -/
def LinesR (st : SS) (v : Value) (xs : List PLine) : Prop := ∃ its : List Item, its.map (·.1) = xs ∧ Rd st v (rowsF lnRow its) 5 its.length ∧
  ∀ x ∈ its, Rd st x.2.1 (rowsF valRow x.1.args) 3 x.1.args.length ∧ Rd st x.2.2 (rowsF prRow x.1.prs) 5 x.1.prs.length
theorem LinesR.ext {st st' : SS} {v : Value} {xs : List PLine} (h : LinesR st v xs) (x : Ext st st') : LinesR st' v xs := by
  obtain ⟨its, a, b, c⟩ := h
  exact ⟨its, a, b.ext x, fun y hy => ⟨(c y hy).1.ext x, (c y hy).2.ext x⟩⟩
theorem Coll.lines {st : SS} {lo m B : Nat} {v : Value} {its : List Item} (h : Coll st lo m B v its) : LinesR st v (its.map (·.1)) := ⟨its, rfl, h.own.rd, fun x hx => ⟨(h.it x hx).1.1, (h.it x hx).2.1⟩⟩
/-- Only a low block has changed. -/
theorem Coll.keep {st st' : SS} {lo m B : Nat} {v : Value} {its : List Item} (h : Coll st lo m B v its) (k : Keep st.next [lo] st st') : Coll st' lo m B v its := by
  refine ⟨?_, h.blk, fun x hx => ?_, h.lo, Nat.le_trans h.le k.next⟩
  · obtain ⟨h1, h2⟩ := h.own
    refine ⟨h1, h2.imp id ?_⟩
    rintro ⟨i, e, h0, hm, hb, hi⟩
    exact ⟨i, e, h0, (k.keep i hi (by have := h.lo; simp; omega)).trans hm, hb, Nat.lt_of_lt_of_le hi k.next⟩
  · obtain ⟨h1, h2⟩ := h.it x hx
    exact ⟨h1.go (Nat.le_refl _) k.next fun j hj h1 h2 => k.keep j hj (by simp; omega), h2.go (Nat.le_refl _) k.next fun j hj h1 h2 => k.keep j hj (by simp; omega)⟩
theorem Coll.ext {st st' : SS} {lo m B : Nat} {v : Value} {its : List Item} (h : Coll st lo m B v its) (x : Ext st st') : Coll st' lo m B v its := h.keep (x.keepB (Nat.le_refl _))
/-- One line more. -/
theorem Coll.push {st : SS} {lo m B : Nat} {v : Value} {its : List Item} (h : Coll st lo m B v its) (x : Item) (hB : B ≤ st.next) (hl : st.lim ≤ B) (hn : its.length ≤ 1099511627776 / 8)
    (ho1 : one x.2.1 = true) (ho2 : one x.2.2 = true) (h1 : RdB st lo st.next x.2.1 (rowsF valRow x.1.args) 3 x.1.args.length) (h2 : RdB st lo st.next x.2.2 (rowsF prRow x.1.prs) 5 x.1.prs.length)
    (hne1 : ∀ j k l q k' l' q', v = .slice (some ⟨j, k, none⟩) l q → x.2.1 ≠ .slice (some ⟨j, k', none⟩) l' q') (hne2 : ∀ j k l q k' l' q', v = .slice (some ⟨j, k, none⟩) l q → x.2.2 ≠ .slice (some ⟨j, k', none⟩) l' q') :
    ∃ v' st', (st.new (.cells (lnRow x) 5)).app 5 88 v (.slice (some ⟨st.next, 0, none⟩) 1 1) = some (v', st') ∧ Coll st' lo st.next B v' (its ++ [x]) ∧ ∀ S, Keep B S st st' := by
  obtain ⟨k, st', g1, gk, g2, g3, g4, g5⟩ := h.own.pushN hB hl (lnRow_len x) (by omega) (by simp only [lnRow, List.all_cons, List.all_nil, ho1, ho2]; rfl) (bt := 88) (by omega) (by omega)
  have kept : ∀ j, j < st.next → (∀ k l q, v ≠ .slice (some ⟨j, k, none⟩) l q) → st'.mem.get j = st.mem.get j := fun j hj hv => g5 j hj fun q => hv 0 q q
  refine ⟨_, st', g1, ⟨?_, ?_, ?_, h.lo, g4⟩, fun S => ⟨g4, g3, fun j hj _ => kept j (by omega) fun k l q hv => ?_⟩⟩
  · rw [rowsF_append, rowsF_one, List.length_append]; exact g2
  · intro j k' l q hv; cases hv; exact gk
  · intro y hy
    rcases List.mem_append.1 hy with hy | hy
    · obtain ⟨i1, i2⟩ := h.it y hy
      exact ⟨i1.go h.le g4 fun j hj _ hjm => kept j hj fun k l q hv => by have := h.blk j k l q hv; omega, i2.go h.le g4 fun j hj _ hjm => kept j hj fun k l q hv => by have := h.blk j k l q hv; omega⟩
    · have : y = x := by simpa using hy
      subst this
      refine ⟨?_, ?_⟩
      · obtain ⟨⟨c1, c2⟩, c3⟩ := h1
        refine ⟨⟨c1, c2.imp id ?_⟩, c3⟩
        rintro ⟨i, cap, e, ⟨z', hm⟩, hi⟩
        exact ⟨i, cap, e, ⟨z', (kept i hi fun k l q hv => hne1 i k l q 0 _ cap hv e).trans hm⟩, Nat.lt_of_lt_of_le hi g4⟩
      · obtain ⟨⟨c1, c2⟩, c3⟩ := h2
        refine ⟨⟨c1, c2.imp id ?_⟩, c3⟩
        rintro ⟨i, cap, e, ⟨z', hm⟩, hi⟩
        exact ⟨i, cap, e, ⟨z', (kept i hi fun k l q hv => hne2 i k l q 0 _ cap hv e).trans hm⟩, Nat.lt_of_lt_of_le hi g4⟩
  · obtain ⟨_, ⟨ev, _⟩ | ⟨i', ev, _, _, hbi, hi'⟩⟩ := h.own
    · rw [ev] at hv; cases hv
    · rw [ev] at hv; cases hv; omega

theorem flat_cons (k : Nat) (ts : List Tok) (r : List (List Tok)) : flat k (ts :: r) = ts.map (fun t => (k + 1, t)) ++ flat (k + 1) r := rfl
theorem flat_drop {us : List (Nat × Tok)} {i k : Nat} {ts : List Tok} {r : List (List Tok)} (h : us.drop i = flat k (ts :: r)) : us.drop (i + ts.length) = flat (k + 1) r := by
  rw [← List.drop_drop, h, flat_cons]
  rw [List.drop_append_of_le_length (by simp), List.drop_of_length_le (by simp), List.nil_append]
/-- What the loop over lines comes to. -/
def ParseR (B lo b0 : Nat) (st : SS) (its : List Item) (r : Option (Nat × List Value × SS)) : Except (Nat × Nat) (List PLine) → Prop
  | .ok xs => ∃ v st' m its', r = some (0, [ptr b0 0, v], st') ∧ Keep B [lo] st st' ∧ its'.map (·.1) = its.map (·.1) ++ xs ∧ Coll st' lo m B v its'
  | .error e => ∃ st', r = some (1, [.slice none 0 0, ptr b0 0, .int .i64 4], st') ∧ Keep B [lo, b0] st st' ∧ At st' b0 [.int .i64 e.1, .int .i64 e.2]
theorem ParseR.to {B lo b0 : Nat} {st s : SS} {its its' : List Item} {x : PLine} {c : Bool} {r r' : Option (Nat × List Value × SS)} {y : Except (Nat × Nat) (List PLine)} (h : ParseR B lo b0 s its' r y) (K : Keep B [lo] st s) (hr : ∀ z, r = some z → r' = some z) (hi : its'.map (·.1) = its.map (·.1) ++ (if c = true then [x] else [])) :
    ParseR B lo b0 st its r' (match y with
      | .error e => .error e
      | .ok xs => .ok (if c = true then x :: xs else xs)) := by
  cases y with
  | error e =>
    obtain ⟨st', a, k, d⟩ := h
    exact ⟨st', hr _ a, (K.mono (Nat.le_refl _) (fun j hj _ => by simp at hj ⊢; omega)).then k, d⟩
  | ok xs =>
    obtain ⟨v, st', m, its2, a, k, d, e⟩ := h
    refine ⟨v, st', m, its2, hr _ a, K.then k, ?_, e⟩
    rw [d, hi]
    cases c <;> simp
theorem parse_loop [Sym] {lo b0 B : Nat} {v : Value} {us : List (Nat × Tok)} (hb0 : b0 < lo) (hloB : lo < B) (hus : us.length ≤ 1099511627776 / 64) : ∀ (tss : List (List Tok)) (i k m : Nat) (out : Value) (its : List Item) (st : SS), us.drop i = flat k tss → i ≤ us.length → (∀ ts ∈ tss, Lin ts ∧ ∀ t ∈ ts, TokOk t) →
    PAt st lo v us i → Coll st lo m B out its → (∃ r, At st b0 r ∧ r.length = 2) → B ≤ st.next → its.length ≤ i →
    ParseR B lo b0 st its (uparse_Parse_lf 6 [ptr b0 0, v, ptr lo 0, out] st) (parseLs k tss) := by
  intro tss
  induction tss with
  | nil =>
    intro i k m out its st hd hi hok h hc ha hB hn
    have hil : i = us.length := by
      have : us.drop i = [] := hd
      rw [List.drop_eq_nil_iff] at this; omega
    have hlv : (lenV v).bind (asI .i64) = some (us.length : Int) := by rw [h.rd.len]; rfl
    have l1 : st.ld lo 1 = some (.int .i64 i) := h.blk.ld
    have hlt : ¬ (i : Int) < (us.length : Int) := by omega
    refine ⟨out, st, m, its, uparse_Parse_l6_eq _ v _ out st ?_, .refl _, by simp, hc⟩
    simp only [uparse_Parse_l6, nilC_ptr, addr_ptr, Option.bind_some, Nat.zero_add, l1, asI_int, hlv, decide_eq_false hlt, cond_false]
  | cons ts r ih =>
    intro i k m out its st hd hi hok h hc ha hB hn
    obtain ⟨hlin, htok⟩ := hok ts (List.mem_cons_self ..)
    have hl : LineAt us i (k + 1) ts := ⟨⟨flat (k + 1) r, hd⟩, hlin, htok⟩
    have hlen : i + ts.length ≤ us.length := by
      have := congrArg List.length hd
      unfold flat at this
      simp at this
      omega
    have hpos : 0 < ts.length := by obtain ⟨t, u, rfl⟩ := hlin.ne; simp
    have hlt : (i : Int) < (us.length : Int) := by omega
    have hlv : (lenV v).bind (asI .i64) = some (us.length : Int) := by rw [h.rd.len]; rfl
    have l1 : st.ld lo 1 = some (.int .i64 i) := h.blk.ld
    have hline := pline_ok (by omega) h hl
    have hlim : st.lim ≤ B := by have := h.blk.2.2; omega
    unfold parseLs
    cases hx : readT ts with
    | error o =>
      rw [hx] at hline
      obtain ⟨s5, row, c5, K5, p5, hrow, hrow1⟩ := hline
      have hoff := readT_err ts hlin o hx
      obtain ⟨t, ht⟩ : ∃ t, ts[o]? = some t := ⟨_, List.getElem?_eq_getElem hoff⟩
      have hu : us[i + o]? = some (k + 1, t) := by
        obtain ⟨rest, hr⟩ := hl.drop
        have := congrArg (·[o]?) hr
        simp only [List.getElem?_drop] at this
        rw [this, List.getElem?_append_left (by simp; omega), List.getElem?_map, ht]
        rfl
      obtain ⟨s9, e9, a9, x9, _⟩ := newV_ok (st := s5) p5.ll (r := L5) (aggC row) (n := 5) hrow hrow1 rfl
      have p9 := p5.ext x9
      obtain ⟨n1, hn1, c1⟩ := now_ok p9.has hu
      have x1 : Ext s9 (s9.adv n1) := .advR _ hn1
      obtain ⟨n2, hn2, c2⟩ := now_ok (p9.ext x1).has hu
      have x2 : Ext s9 ((s9.adv n1).adv n2) := x1.trans (.advR _ hn2)
      obtain ⟨ra, aa, hra⟩ := ha
      have aa2 := ((aa.keepB K5 aa.lt (by simp; omega)).ext x9).ext x2
      obtain ⟨s15, e15, a15, m15, _⟩ := aa2.sto (k := 0) (vs := [.int .i64 ((k + 1 : Nat) : Int), .int .i64 t.col]) (row' := [.int .i64 ((k + 1 : Nat) : Int), .int .i64 t.col]) rfl (by rw [splice_of (by simp; omega)]; simp [hra])
      have k3 := (tok_fld (ln := k + 1) (t := t)).2.2.1
      have k4 := (tok_fld (ln := k + 1) (t := t)).2.2.2
      have hcol : colAt ts o = t.col := by unfold colAt; rw [ht]; rfl
      have K5' : Keep B [lo, b0] st s5 := K5.mono hB (fun j hj _ => by simp at hj ⊢; omega)
      have nx5 : B ≤ s5.next := Nat.le_trans hB K5'.next
      have nx9 : B ≤ s9.next := Nat.le_trans nx5 x9.next
      refine ⟨s15, uparse_Parse_l6_eq _ v _ out st ?_, ((K5'.thenX x9 nx5).thenX x2 nx9).thenI m15 (Nat.le_trans nx9 x2.next) (.inr (by simp)), by rw [hcol]; exact a15⟩
      simp only [uparse_Parse_l6, nilC_ptr, addr_ptr, Option.bind_some, Nat.zero_add, l1, asI_int, hlv, decide_eq_true hlt, cond_true, c5, tupG, List.getElem?_toArray, List.getElem?_cons_succ, List.getElem?_cons_zero, asB_bool, e9, Bool.not_false, c1, k3, c2, k4, e15]
    | ok x =>
      rw [hx] at hline
      obtain ⟨s5, av, pv, c5, K5, p5, o1, o2⟩ := hline
      have hkept := read_kept hlin htok hx
      obtain ⟨s9, e9, a9, x9, _⟩ := newV_ok (st := s5) p5.ll (r := L5) (aggC [.int .i64 ((k + 1 : Nat) : Int), .string (mkS x.lab), .string (mkS x.dir), av, pv]) (n := 5) rfl (by simp only [List.all_cons, List.all_nil, o1.cell.2, o2.cell.2]; rfl) rfl
      have e9' : (s5.new (.cells L5 0)).stV s5.next 0 5 (lineVal (k + 1) x av pv) = some s9 := e9
      have p9 := p5.ext x9
      have hend : i + (ts.length - 1) + 1 = i + ts.length := by omega
      have l18 : s9.ld lo 1 = some (.int .i64 ((i + (ts.length - 1) : Nat) : Int)) := p9.blk.ld
      have hw : IntKind.wrap .i64 (((i + (ts.length - 1) : Nat) : Int) + 1) = ((i + ts.length : Nat) : Int) := by rw [wrapI1 (by omega), hend]
      obtain ⟨s22, e22, p22, m22, n22⟩ := p9.move (i + ts.length)
      have hlo5 : lo < s5.next := p5.blk.lt
      have a22 := a9.mod m22 (by simp; omega)
      have K9 : Keep st.next [lo] st s9 := K5.thenX x9 K5.next
      have K22 : Keep st.next [lo] st s22 := K9.thenI m22 (Nat.le_trans K5.next x9.next) (.inr (by simp))
      have hc22 := hc.keep K22
      have nx22 : B ≤ s22.next := Nat.le_trans hB K22.next
      have ha22 : ∃ r, At s22 b0 r ∧ r.length = 2 := by
        obtain ⟨ra, aa, hra⟩ := ha
        exact ⟨ra, aa.keepB K22 aa.lt (by simp; omega), hra⟩
      have hd' := flat_drop hd
      have hok' : ∀ ts ∈ r, Lin ts ∧ ∀ t ∈ ts, TokOk t := fun q hq => hok q (List.mem_cons_of_mem _ hq)
      have l23 : s22.ld s5.next 1 = some (.string (mkS x.lab)) := a22.ld
      have l28 : s22.ld s5.next 2 = some (.string (mkS x.dir)) := a22.ld
      have l33 : s22.ld s5.next 4 = some pv := a22.ld
      have hq1 : eqT (mkS x.lab) ⟨#[]⟩ = decide (x.lab = []) := eqT_nil _
      have hq2 : eqT (mkS x.dir) ⟨#[]⟩ = decide (x.dir = []) := eqT_nil _
      have hlp : (lenV pv).bind (asI .i64) = some (x.prs.length : Int) := by rw [o2.len]; rfl
      by_cases hkp : 1 < ts.length
      · -- the line is kept
        have w1 : RdB s22 lo s22.next av (rowsF valRow x.args) 3 x.args.length := by
          refine (Own.rdB o1 (lo := lo) (hi := s5.next) h.blk.lt (Nat.le_refl _)).go (by have := x9.next; omega) (by have := x9.next; omega) fun j hj h1 _ => ?_
          rw [m22.keep j (by have := x9.next; omega) (by simp; omega), x9.keep j hj]
        have w2 : RdB s22 lo s22.next pv (rowsF prRow x.prs) 5 x.prs.length := by
          refine (Own.rdB o2 (lo := lo) (hi := s5.next) h.blk.lt (Nat.le_refl _)).go (by have := x9.next; omega) (by have := x9.next; omega) fun j hj h1 _ => ?_
          rw [m22.keep j (by have := x9.next; omega) (by simp; omega), x9.keep j hj]
        have hnew : ∀ w : Value, (∀ j k l q, w = .slice (some ⟨j, k, none⟩) l q → st.next ≤ j) → ∀ j k l q k' l' q', out = .slice (some ⟨j, k, none⟩) l q → w ≠ .slice (some ⟨j, k', none⟩) l' q' := by
          intro w hw j k l q k' l' q' ho he
          have h1 := hw j k' l' q' he
          obtain ⟨_, ⟨ev, _⟩ | ⟨i', ev, _, _, hbi, hi'⟩⟩ := hc.own
          · rw [ev] at ho; cases ho
          · rw [ev] at ho; cases ho; omega
        have hown : ∀ {w : Value} {c : List Value} {z n : Nat}, Own st.next s5 w c z n → ∀ j k l q, w = .slice (some ⟨j, k, none⟩) l q → st.next ≤ j := by
          intro w c z n ho j k l q hv
          obtain ⟨_, ⟨ev, _⟩ | ⟨i', ev, _, _, hbi, hi'⟩⟩ := ho
          · rw [ev] at hv; cases hv
          · rw [ev] at hv; cases hv; exact hbi
        obtain ⟨out', s27, g1, g2, g3⟩ := hc22.push ({ x with ln := k + 1 }, av, pv) nx22 (by rw [K22.lim]; exact hlim) (by omega) o1.cell.2 o2.cell.2 w1 w2 (hnew av (hown o1)) (hnew pv (hown o2))
        have g1' : (s22.new (.cells ([.int .i64 ((k + 1 : Nat) : Int), .string (mkS x.lab), .string (mkS x.dir), av, pv] ++ []) 5)).app 5 88 out (.slice (some ⟨s22.next, 0, none⟩) 1 1) = some (out', s27) := g1
        have K27 : Keep B [lo] st s27 := (K22.mono hB (fun _ hj _ => hj)).then (g3 _)
        have ha27 : ∃ r, At s27 b0 r ∧ r.length = 2 := by
          obtain ⟨ra, aa, hra⟩ := ha22
          exact ⟨ra, aa.keepB (g3 []) (by omega) (by simp), hra⟩
        have next := ih (i + ts.length) (k + 1) s22.next out' (its ++ [({ x with ln := k + 1 }, av, pv)]) s27 hd' (by omega) hok' (p22.keepB (g3 []) hloB (by simp)) g2 ha27 (Nat.le_trans hB K27.next) (by simp; omega)
        have l24 : s22.ldN s5.next 0 5 = some (.agg [.int .i64 ((k + 1 : Nat) : Int), .string (mkS x.lab), .string (mkS x.dir), av, pv].toArray) := a22.ldN rfl
        have hc25 : cellsN (.agg [.int .i64 ((k + 1 : Nat) : Int), .string (mkS x.lab), .string (mkS x.dir), av, pv].toArray) 5 = some [.int .i64 ((k + 1 : Nat) : Int), .string (mkS x.lab), .string (mkS x.dir), av, pv] := cells5 _ _ _ _ _
        have step : ∀ z, uparse_Parse_lf 6 [ptr b0 0, v, ptr lo 0, out'] s27 = some z → uparse_Parse_lf 6 [ptr b0 0, v, ptr lo 0, out] st = some z := fun z hz => by
          refine uparse_Parse_l6_eq _ v _ out st ?_
          by_cases h1 : x.lab = []
          · by_cases h2 : x.dir = []
            · have h3 : x.prs ≠ [] := by
                rcases hkept.2 hkp with h | h | h
                · exact absurd h1 h
                · exact absurd h2 h
                · exact h
              have h4 : (0 : Int) < (x.prs.length : Int) := by
                have := List.length_pos_iff.2 h3
                omega
              simp only [uparse_Parse_l6, nilC_ptr, addr_ptr, Option.bind_some, Nat.zero_add, l1, asI_int, hlv, decide_eq_true hlt, cond_true, c5, tupG, List.getElem?_toArray, List.getElem?_cons_succ, List.getElem?_cons_zero, asB_bool, e9', Bool.not_true, cond_false, l18, hw, e22, l23, asS_string, hq1, decide_eq_true h1, l28, hq2, decide_eq_true h2, l33, hlp, decide_eq_true h4, l24, hc25, g1']
              exact hz
            · simp only [uparse_Parse_l6, nilC_ptr, addr_ptr, Option.bind_some, Nat.zero_add, l1, asI_int, hlv, decide_eq_true hlt, cond_true, c5, tupG, List.getElem?_toArray, List.getElem?_cons_succ, List.getElem?_cons_zero, asB_bool, e9', Bool.not_true, cond_false, l18, hw, e22, l23, asS_string, hq1, decide_eq_true h1, l28, hq2, decide_eq_false h2, Bool.not_false, l24, hc25, g1']
              exact hz
          · simp only [uparse_Parse_l6, nilC_ptr, addr_ptr, Option.bind_some, Nat.zero_add, l1, asI_int, hlv, decide_eq_true hlt, cond_true, c5, tupG, List.getElem?_toArray, List.getElem?_cons_succ, List.getElem?_cons_zero, asB_bool, e9', Bool.not_true, cond_false, l18, hw, e22, l23, asS_string, hq1, decide_eq_false h1, Bool.not_false, l24, hc25, g1']
            exact hz
        simp only
        cases hy : parseLs (k + 1) r with
        | error e =>
          rw [hy] at next
          obtain ⟨st', a, k', d⟩ := next
          exact ⟨st', step _ a, (K27.mono (Nat.le_refl _) (fun j hj _ => by simp at hj ⊢; omega)).then k', d⟩
        | ok xs =>
          rw [hy] at next
          obtain ⟨v2, st', m', its2, a, k', d, e⟩ := next
          refine ⟨v2, st', m', its2, step _ a, K27.then k', ?_, e⟩
          rw [d]; simp [hkp]
      · have hnone : ¬ (x.lab ≠ [] ∨ x.dir ≠ [] ∨ x.prs ≠ []) := fun hh => hkp (hkept.1 hh)
        have h1 : x.lab = [] := Classical.byContradiction fun hh => hnone (.inl hh)
        have h2 : x.dir = [] := Classical.byContradiction fun hh => hnone (.inr (.inl hh))
        have h3 : x.prs = [] := Classical.byContradiction fun hh => hnone (.inr (.inr hh))
        have h4 : ¬ (0 : Int) < (x.prs.length : Int) := by rw [h3]; simp
        have K22' : Keep B [lo] st s22 := K22.mono hB (fun _ hj _ => hj)
        have next := ih (i + ts.length) (k + 1) m out its s22 hd' (by omega) hok' p22 hc22 ha22 nx22 (by omega)
        have step : ∀ z, uparse_Parse_lf 6 [ptr b0 0, v, ptr lo 0, out] s22 = some z → uparse_Parse_lf 6 [ptr b0 0, v, ptr lo 0, out] st = some z := fun z hz => by
          refine uparse_Parse_l6_eq _ v _ out st ?_
          simp only [uparse_Parse_l6, nilC_ptr, addr_ptr, Option.bind_some, Nat.zero_add, l1, asI_int, hlv, decide_eq_true hlt, cond_true, c5, tupG, List.getElem?_toArray, List.getElem?_cons_succ, List.getElem?_cons_zero, asB_bool, e9', Bool.not_true, cond_false, l18, hw, e22, l23, asS_string, hq1, decide_eq_true h1, l28, hq2, decide_eq_true h2, l33, hlp, decide_eq_false h4]
          exact hz
        simp only
        cases hy : parseLs (k + 1) r with
        | error e =>
          rw [hy] at next
          obtain ⟨st', a, k', d⟩ := next
          exact ⟨st', step _ a, (K22'.mono (Nat.le_refl _) (fun j hj _ => by simp at hj ⊢; omega)).then k', d⟩
        | ok xs =>
          rw [hy] at next
          obtain ⟨v2, st', m', its2, a, k', d, e⟩ := next
          refine ⟨v2, st', m', its2, step _ a, K22'.then k', ?_, e⟩
          rw [d]; simp [hkp]

theorem lexLs_len (ps : List (List UInt8)) (i : Nat) (tss : List (List Tok)) (h : lexLs i ps = .ok tss) : tss.length = ps.length := by
  induction ps generalizing i tss with
  | nil => cases h; rfl
  | cons p r ih =>
    unfold lexLs at h
    cases hx : lineX p with
    | error c => rw [hx] at h; cases h
    | ok ts =>
      rw [hx] at h
      cases hy : lexLs (i + 1) r with
      | error e => rw [hy] at h; cases h
      | ok us => rw [hy] at h; cases h; simp [ih _ _ hy]
/-- What Parse hands back. -/
def ParR (st : SS) (r : Option (Value × SS)) : Except (Nat × Nat) (List PLine) → Prop
  | .ok xs => ∃ v st', r = some (.tuple #[v, pairV (0, 0), .int .i64 0], st') ∧ Ext st st' ∧ LinesR st' v xs
  | .error e => ∃ st', r = some (.tuple #[.slice none 0 0, pairV e, .int .i64 4], st') ∧ Ext st st'
theorem parse_ok [Sym] {st : SS} (hg : Gd st) (hl : st.lim ≤ st.next) (s : ByteArray) (hs : s.size ≤ 65536) : ParR st (cc 20 [.string s] st) (parsT (bl s)) := by
  have a1 : At (st.new (.cells [.int .i64 0, .int .i64 0] 0)) st.next [.int .i64 0, .int .i64 0] := At.new hl _
  have x1 : Ext st (st.new (.cells [.int .i64 0, .int .i64 0] 0)) := (Ext.refl st).new _
  have hlex := lex_ok (hg.ext x1) (x1.ll hl) s (by omega)
  have hlx : lexT (bl s) = match lexLs 0 (pieces 10 (bl s)) with
    | .error e => .error e
    | .ok tss => .ok (flat 0 tss) := lexPs_flat _ _
  unfold parsT
  have hb0 : Nat.beq 0 0 = true := rfl
  have hb1 : Nat.beq 1 0 = false := rfl
  cases hy : lexLs 0 (pieces 10 (bl s)) with
  | error e =>
    rw [hy] at hlx
    rw [hlx] at hlex
    obtain ⟨s2, c2, x2⟩ := hlex
    have c2' : cc 15 [.string s] (st.new (.cells [.int .i64 0, .int .i64 0] 0)) = some (.tuple #[.slice none 0 0, pairV e, .int .i64 4], s2) := c2
    obtain ⟨s7, e7, a7, x7, _⟩ := newV_ok (st := s2) ((x1.trans x2).ll hl) (r := [.int .i64 0, .int .i64 0]) (v := pairV e) (row := [.int .i64 e.1, .int .i64 e.2]) (n := 2) rfl rfl rfl rfl
    have a17 := (a1.ext x2).ext x7
    obtain ⟨s9, f1, f2, f3, f4, f5⟩ := fin_ok (n := 2) a17 rfl a7 rfl rfl
    have h40 : decide ((4 : Int) = 0) = false := rfl
    refine ⟨s9, uparse_Parse_eq s st ?_, ((Mod.ofExt (S := [st.next]) ((x1.trans x2).trans x7)).then f4).fresh (by simp)⟩
    simp only [uparse_Parse, c2', Option.bind_some, tupG, List.getElem?_toArray, List.getElem?_cons_succ, List.getElem?_cons_zero, asI_int, e7, h40, Bool.not_false, cond_true, f1, f2, f3]
    rfl
  | ok tss =>
    rw [hy] at hlx
    have hlen := lexT_len _ _ hlx
    rw [bl_length] at hlen
    have hlen2 : (s.size + 1) * (s.size + 1) ≤ 65537 * 65537 := Nat.mul_le_mul (by omega) (by omega)
    rw [hlx] at hlex
    obtain ⟨v, s2, c2, x2, o2⟩ := hlex
    have c2' : cc 15 [.string s] (st.new (.cells [.int .i64 0, .int .i64 0] 0)) = some (.tuple #[v, pairV (0, 0), .int .i64 0], s2) := c2
    obtain ⟨s7, e7, a7, x7, _⟩ := newV_ok (st := s2) ((x1.trans x2).ll hl) (r := [.int .i64 0, .int .i64 0]) (v := pairV (0, 0)) (row := [.int .i64 0, .int .i64 0]) (n := 2) rfl rfl rfl rfl
    have x07 := (x1.trans x2).trans x7
    have hc11 : cellsN v 1 = some [v] := by unfold cellsN; obtain ⟨_, ⟨rfl, _⟩ | ⟨i, rfl, _⟩⟩ := o2 <;> rfl
    have hrow : (Value.agg ⟨spl [.slice none 0 0, .int .i64 0] 0 [v]⟩ : Value).cells.toList = [v, .int .i64 0] := by simp [spl, Value.cells]
    have ab : At (s7.new (.cells [v, .int .i64 0] 0)) s7.next [v, .int .i64 0] := At.new (x07.ll hl) _
    have x12 : Ext s7 (s7.new (.cells [v, .int .i64 0] 0)) := (Ext.refl s7).new _
    have hsn : st.next < s7.next := by have := x2.next; have := x7.next; simp at *; omega
    have hp : PAt (s7.new (.cells [v, .int .i64 0] 0)) s7.next v (flat 0 tss) 0 := by
      refine ⟨ab, ((o2.rd.ext x7).ext x12), fun j k l q hv => ?_, by omega, (x07.trans x12).ll hl⟩
      obtain ⟨_, ⟨ev, _⟩ | ⟨i', ev, _, _, hbi, hi'⟩⟩ := o2
      · rw [ev] at hv; cases hv
      · rw [ev] at hv; cases hv
        have := x7.next
        omega
    have hloop := parse_loop (lo := s7.next) (b0 := st.next) (B := s7.next + 1) hsn (by omega) (by omega) tss 0 0 s7.next (.slice none 0 0) [] (s7.new (.cells [v, .int .i64 0] 0)) (by simp) (by omega) (lexLs_ok _ _ _ hy) hp
      ⟨Own.nil _ _ _, fun j k l q hv => (by cases hv), fun x hx => (by cases hx), by omega, by simp⟩ ⟨_, (((a1.ext x2).ext x7).ext x12), rfl⟩ (by simp) (by simp)
    show ParR st _ (parseLs 0 tss)
    cases hz : parseLs 0 tss with
    | error e =>
      rw [hz] at hloop
      obtain ⟨s13, d1, d2, d3⟩ := hloop
      have hr := d3.rdN (n := 2) rfl
      have x13 : Ext st s13 := ((Mod.ofExt (S := [s7.next, st.next]) (x07.trans x12)).then (d2.mod (by simp))).fresh (by simp; omega)
      refine ⟨s13, uparse_Parse_eq s st ?_, x13⟩
      simp only [uparse_Parse, c2', Option.bind_some, tupG, List.getElem?_toArray, List.getElem?_cons_succ, List.getElem?_cons_zero, asI_int, e7, decide_true, Bool.not_true, cond_false, hc11, hrow, d1, hb1, addr_ptr, hr]
      rfl
    | ok xs =>
      rw [hz] at hloop
      obtain ⟨w, s13, m, its, d1, d2, d3, d4⟩ := hloop
      have a13 := (((a1.ext x2).ext x7).ext x12).keepB d2 (by omega) (by simp; omega)
      obtain ⟨s17, e17, a17, m17, n17⟩ := a13.sto (k := 0) (vs := [.int .i64 0, .int .i64 0]) (row' := [.int .i64 0, .int .i64 0]) rfl rfl
      have hr := a17.rdN (n := 2) rfl
      have d4' : Coll s17 s7.next m (s7.next + 1) w its := by
        refine ⟨own_ne' (S := []) d4.own m17 (.inl (by omega)), d4.blk, fun x hx => ?_, d4.lo, by rw [n17]; exact d4.le⟩
        obtain ⟨i1, i2⟩ := d4.it x hx
        exact ⟨i1.go (Nat.le_refl _) m17.next fun j hj h1 h2 => m17.keep j hj (by simp; omega), i2.go (Nat.le_refl _) m17.next fun j hj h1 h2 => m17.keep j hj (by simp; omega)⟩
      have x17 : Ext st s17 := (((Mod.ofExt (S := [s7.next, st.next]) (x07.trans x12)).then ((d2.mod (by simp)).mono (by simp))).thenI m17 (.inr (by simp))).fresh (by simp; omega)
      refine ⟨w, s17, uparse_Parse_eq s st ?_, x17, ?_⟩
      · simp only [uparse_Parse, c2', Option.bind_some, tupG, List.getElem?_toArray, List.getElem?_cons_succ, List.getElem?_cons_zero, asI_int, e7, decide_true, Bool.not_true, cond_false, hc11, hrow, d1, hb0, cond_true, addr_ptr, e17, hr]
        rfl
      · have := d4'.lines
        rw [d3] at this
        simpa using this
end Go.Proofs.YthngaoncjpgeiaaDoorE
