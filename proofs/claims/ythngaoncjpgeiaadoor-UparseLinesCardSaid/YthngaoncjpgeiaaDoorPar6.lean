/- What line and Parse come to. -/
import Derived.Test.YthngaoncjpgeiaaDoorPar5
set_option linter.unusedVariables false
set_option linter.unusedSimpArgs false
namespace Go.Proofs.YthngaoncjpgeiaaDoorE
open Go Go.E Go.Proofs

theorem LinR.to {B b i e ln : Nat} {v : Value} {us : List (Nat × Tok)} {st s : SS} {r r' : Option (Value × SS)} {x : Except Nat PLine} (h : LinR B b v us i e ln s r x) (K : Keep B [b] st s) (hr : ∀ y, r = some y → r' = some y) : LinR B b v us i e ln st r' x := by
  cases x with
  | ok x => obtain ⟨st', av, pv, a, k, c⟩ := h; exact ⟨st', av, pv, hr _ a, K.then k, c⟩
  | error o => obtain ⟨st', row, a, k, c⟩ := h; exact ⟨st', row, hr _ a, K.then k, c⟩
def offE (d : Nat) : Except Nat PLine → Except Nat PLine
  | .error o => .error (d + o)
  | .ok x => .ok x
theorem LinR.off {B b i d e ln : Nat} {v : Value} {us : List (Nat × Tok)} {s : SS} {r : Option (Value × SS)} {x : Except Nat PLine} (h : LinR B b v us (i + d) e ln s r x) : LinR B b v us i e ln s r (offE d x) := by
  cases x with
  | ok x => exact h
  | error o => obtain ⟨st', row, a, k, c, dd⟩ := h; exact ⟨st', row, a, k, by rw [← Nat.add_assoc]; exact c, dd⟩
abbrev L5 : List Value := [.int .i64 0, .string ⟨#[]⟩, .string ⟨#[]⟩, .slice none 0 0, .slice none 0 0]
theorem isSign_colon (t : Tok) : isSign t [58] = (decide ((t.kd : Int) = 3) && decide (t.tx = [58])) := by
  unfold isSign
  congr 1
  by_cases h : t.kd = 3
  · have : (t.kd : Int) = 3 := by omega
    rw [decide_eq_true h, decide_eq_true this]
  · have : ¬ (t.kd : Int) = 3 := by omega
    rw [decide_eq_false h, decide_eq_false this]
theorem pline_ok [Sym] {st : SS} {ln b i : Nat} {v : Value} {us : List (Nat × Tok)} {l : List Tok} (hsz : l.length ≤ 1099511627776 / 8) (h : PAt st b v us i) (hl : LineAt us i ln l) :
    LinR st.next b v us i (i + (l.length - 1)) ln st (cc 30 [ptr b 0] st) (readT l) := by
  obtain ⟨t, r, rfl⟩ := hl.lin.ne
  have hisz := LineAt.sz h hl
  have hb := h.blk.lt
  have a1 : At (st.new (.cells L5 0)) st.next L5 := At.new h.ll L5
  have x1 : Ext st (st.new (.cells L5 0)) := (Ext.refl st).new _
  obtain ⟨n1, hn1, c1⟩ := now_ok (h.ext x1).has hl.head
  have hn1' : st.next + 1 ≤ n1 := hn1
  obtain ⟨s5, e5, a5, x5, _⟩ := new_ok (st := (st.new (.cells L5 0)).adv n1) (Nat.le_trans h.ll (by simp; omega)) (r := L5) (row := [.int .i64 ln, .string (mkS []), .string ⟨#[]⟩, .slice none 0 0, .slice none 0 0]) rfl rfl
  have e5' : (((st.new (.cells L5 0)).adv n1).new (.cells L5 0)).st ((st.new (.cells L5 0)).adv n1).next 0 [.int .i64 ln, .string ⟨#[]⟩, .string ⟨#[]⟩, .slice none 0 0, .slice none 0 0] = some s5 := e5
  have x05 : Ext st s5 := x1.trans ((Ext.advR _ hn1).trans x5)
  have b5 := (a1.adv hn1).ext x5
  have p5 := h.ext x05
  have k3 := (tok_fld (ln := ln) (t := t)).2.2.1
  have k0 := (tok_fld (ln := ln) (t := t)).1
  have k1 := (tok_fld (ln := ln) (t := t)).2.1
  -- the token behind it
  obtain ⟨u, hu, hread⟩ : ∃ u, us[if t.kd = 0 then i else i + 1]? = some (ln, u) ∧ ((t.kd = 1 ∧ isSign u [58] = true ∧ ∃ r', r = u :: r') ∨ (¬ (t.kd = 1 ∧ isSign u [58] = true) ∧ readT (t :: r) = restT [] (t :: r))) := by
    by_cases h0 : t.kd = 0
    · have hr := hl.lin.last h0
      subst hr
      exact ⟨t, by rw [if_pos h0]; exact hl.head, .inr ⟨fun x => by omega, rfl⟩⟩
    · have hl1 := hl.tail h0
      obtain ⟨u, r', rfl⟩ := hl1.lin.ne
      refine ⟨u, by rw [if_neg h0]; exact hl1.head, ?_⟩
      by_cases hc : t.kd = 1 ∧ isSign u [58] = true
      · exact .inl ⟨hc.1, hc.2, r', rfl⟩
      · exact .inr ⟨hc, by rw [readT_two, if_neg hc]⟩
  obtain ⟨n2, hn2, c2⟩ := next_ok p5.has hl.head hu
  obtain ⟨s8, e8, a8, x8, _⟩ := newV_ok (st := s5.adv n2) (Nat.le_trans (x05.ll h.ll) hn2) (r := Z5) (aggC (tokRow ln u)) (n := 5) rfl rfl rfl
  have x08 : Ext st s8 := x05.trans ((Ext.advR _ hn2).trans x8)
  obtain ⟨n3, hn3, c3⟩ := now_ok (h.ext x08).has hl.head
  have x58 : Ext s5 (s8.adv n3) := ((Ext.advR _ hn2).trans x8).trans (.advR _ hn3)
  have x09 : Ext st (s8.adv n3) := x05.trans x58
  have p9 := h.ext x09
  have a9 := a5.ext x58
  have b9 := b5.ext x58
  have q9 := a8.ext (Ext.advR _ hn3)
  have l0 : (s8.adv n3).ld (s5.adv n2).next 0 = some (.int .i64 u.kd) := q9.ld
  have l1 : (s8.adv n3).ld (s5.adv n2).next 1 = some (.string (mkS u.tx)) := q9.ld
  have hlb : st.next < ((st.new (.cells L5 0)).adv n1).next := by simp; omega
  rcases hread with ⟨hk, hc, r', rfl⟩ | ⟨hc, hread⟩
  · -- a label
    have hoff : readT (t :: u :: r') = offE 2 (restT t.tx r') := by
      rw [readT_two, if_pos ⟨hk, hc⟩]
      cases restT t.tx r' <;> rfl
    rw [hoff]
    rw [isSign_colon, Bool.and_eq_true, decide_eq_true_eq, decide_eq_true_eq] at hc
    have hk' : (t.kd : Int) = 1 := by omega
    have hl2 := (hl.tail (by omega)).tail (by omega)
    obtain ⟨n4, hn4, c4⟩ := now_ok p9.has hl.head
    have x010 : Ext st ((s8.adv n3).adv n4) := x09.trans (.advR _ hn4)
    obtain ⟨s15, e15, a15, m15, _⟩ := (a9.adv hn4).sto (k := 1) (vs := [.string (mkS t.tx)]) (row' := [.int .i64 ln, .string (mkS t.tx), .string ⟨#[]⟩, .slice none 0 0, .slice none 0 0]) rfl rfl
    have p15 := (h.ext x010).modI m15 (by omega)
    have b15 := (b9.adv hn4).mod m15 (by simp; omega)
    have M15 : Mod [b] st s15 := (Mod.ofExt x010).thenI m15 (.inl (by omega))
    have l18 : s15.ld b 1 = some (.int .i64 i) := p15.blk.ld
    have hw : IntKind.wrap .i64 ((i : Int) + 2) = ((i + 2 : Nat) : Int) := wrapI hisz (k := 2) (by omega)
    obtain ⟨s22, e22, p22, m22, n22⟩ := p15.move (i + 2)
    have a22 := a15.mod m22 (by simp; omega)
    have b22 := b15.mod m22 (by simp; omega)
    have M22 := M15.then m22
    have ht := tail_ok (B := st.next) (Nat.le_refl _) hb hlb a22.lt (by simp at hsz ⊢; omega) p22 hl2 a22 ⟨_, b22, rfl⟩
    have hend : i + 2 + (r'.length - 1) = i + ((t :: u :: r').length - 1) := by
      obtain ⟨z1, z2, rfl⟩ := hl2.lin.ne
      simp; omega
    rw [hend] at ht
    refine LinR.to (LinR.off (d := 2) ht) (M22.keepB (Nat.le_refl _)) fun y hy => ?_
    refine uparse_parser_line_eq _ st ?_
    have hq : eqT (mkS u.tx) ⟨#[58]⟩ = true := by
      have : eqT (mkS u.tx) (mkS [58]) = decide (u.tx = [58]) := eqT_dec _ _
      rw [decide_eq_true hc.2] at this; exact this
    simp only [uparse_parser_line, c1, Option.bind_some, k3, e5', c2, e8, c3, k0, decide_eq_true hk', cond_true, l0, l1, asI_int, asS_string, decide_eq_true hc.1, hq, c4, k1, e15, nilC_ptr, addr_ptr, Nat.zero_add, l18, hw, e22]
    exact hy
  · rw [hread]
    have ht := tail_ok (B := st.next) (s := s8.adv n3) (Nat.le_refl _) hb hlb a9.lt hsz p9 hl a9 ⟨_, b9, rfl⟩
    refine LinR.to ht (x09.keepB (Nat.le_refl _)) fun y hy => ?_
    refine uparse_parser_line_eq _ st ?_
    by_cases hk : t.kd = 1
    · have hk' : (t.kd : Int) = 1 := by omega
      by_cases h3 : (u.kd : Int) = 3
      · have hx : ¬ u.tx = [58] := fun e => hc ⟨hk, by rw [isSign_colon, decide_eq_true h3, decide_eq_true e]; rfl⟩
        have hq : eqT (mkS u.tx) ⟨#[58]⟩ = false := by
          have : eqT (mkS u.tx) (mkS [58]) = decide (u.tx = [58]) := eqT_dec _ _
          rw [decide_eq_false hx] at this; exact this
        simp only [uparse_parser_line, c1, Option.bind_some, k3, e5', c2, e8, c3, k0, decide_eq_true hk', cond_true, l0, l1, asI_int, asS_string, decide_eq_true h3, hq, cond_false]
        exact hy
      · simp only [uparse_parser_line, c1, Option.bind_some, k3, e5', c2, e8, c3, k0, decide_eq_true hk', cond_true, l0, asI_int, decide_eq_false h3, cond_false]
        exact hy
    · have hk' : ¬ (t.kd : Int) = 1 := by omega
      simp only [uparse_parser_line, c1, Option.bind_some, k3, e5', c2, e8, c3, k0, decide_eq_false hk', cond_false]
      exact hy

/-! ### Which lines are kept -/
theorem restT_lab {lab : List UInt8} {l : List Tok} {x : PLine} (h : restT lab l = .ok x) : x.lab = lab := by
  cases l with
  | nil => cases h
  | cons t r =>
    rw [restT_cons] at h
    repeat' (split at h)
    all_goals first
      | (cases h; done)
      | (cases h; rfl)
theorem pairs_ne {k : Nat} {seen : List (List UInt8)} {t : Tok} {r : List Tok} {ps : List Pr} (hk : t.kd ≠ 0) (h : pairsT (k + 1) seen (t :: r) = .ok ps) : ps ≠ [] := by
  unfold pairsT at h
  rw [if_neg hk] at h
  cases hx : pairT seen (t :: r) with
  | error o => rw [hx] at h; cases h
  | ok y =>
    obtain ⟨p, n⟩ := y
    rw [hx] at h
    simp only at h
    cases hz : pairsT k (seen ++ [p.fd]) ((t :: r).drop n) with
    | error o => rw [hz] at h; cases h
    | ok qs => rw [hz] at h; cases h; simp
theorem read_kept {l : List Tok} {x : PLine} (hl : Lin l) (hok : ∀ t ∈ l, TokOk t) (h : readT l = .ok x) : (x.lab ≠ [] ∨ x.dir ≠ [] ∨ x.prs ≠ []) ↔ 1 < l.length := by
  obtain ⟨t, r, rfl⟩ := hl.ne
  cases r with
  | nil =>
    have h0 : t.kd = 0 := by
      rcases hl with h | h
      · exact h.1
      · exact h.2.elim
    have hs : isSign t [46] = false := by simp [isSign, h0]
    have h' : restT [] [t] = .ok x := h
    rw [restT_cons, hs] at h'
    have e : pairsT [t].length [] [t] = .ok [] := by
      show pairsT 1 [] [t] = _
      unfold pairsT
      rw [if_pos h0]
    rw [e] at h'
    cases h'
    simp
  | cons s r =>
    have hk : t.kd ≠ 0 := by
      rcases hl with h | h
      · exact absurd h.2 (by simp)
      · exact h.1
    refine ⟨fun _ => by simp, fun _ => ?_⟩
    rw [readT_two] at h
    split at h
    · rename_i hc
      cases hx : restT t.tx r with
      | error o => rw [hx] at h; cases h
      | ok y =>
        rw [hx] at h; cases h
        left
        rw [restT_lab hx]
        exact (hok t (List.mem_cons_self ..)).tx hc.1
    · rw [restT_cons] at h
      split at h
      · rename_i hs
        have hl1 := hl.tail hk
        simp only at h
        split at h
        · rename_i hd
          split at h
          · cases h
          · cases h
            exact .inr (.inl ((hok s (by simp)).tx hd))
        · cases h
      · split at h
        · cases h
        · rename_i ps hp
          cases h
          exact .inr (.inr (pairs_ne hk hp))
end Go.Proofs.YthngaoncjpgeiaaDoorE
