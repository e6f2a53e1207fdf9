/- What a line's reading comes to: the lexer's. -/
import Derived.Test.YthngaoncjpgeiaaGreatDoorLex3
set_option linter.unusedVariables false
set_option linter.unusedSimpArgs false
namespace Go.Proofs.YthngaoncjpgeiaaGreatDoorE
open Go Go.E Go.Proofs

/-! ### Tokens -/
structure Tok where
  kd : Nat
  tx : List UInt8
  nm : Int
  col : Nat
def tokRow (at' : Int) (t : Tok) : List Value := [.int .i64 t.kd, .string (mkS t.tx), .int .i64 t.nm, .int .i64 at', .int .i64 t.col]
def rowsT (at' : Int) : List Tok → List Value
  | [] => []
  | t :: r => tokRow at' t ++ rowsT at' r
theorem rowsT_append (at' : Int) (a b : List Tok) : rowsT at' (a ++ b) = rowsT at' a ++ rowsT at' b := by
  induction a with
  | nil => rfl
  | cons t r ih => simp [rowsT, ih]
theorem rowsT_length (at' : Int) (a : List Tok) : (rowsT at' a).length = a.length * 5 := by
  induction a with
  | nil => rfl
  | cons t r ih => simp [rowsT, ih, tokRow]; omega
theorem rowsT_one (at' : Int) (a : List Tok) : (rowsT at' a).all one = true := by
  induction a with
  | nil => rfl
  | cons t r ih => simp [rowsT, ih, tokRow, one]
inductive Stp where
  | stop | blank | bad
  | tok (kd n : Nat) (x : Int)
def numO (x : Option (Option Nat)) : Option Nat := x.getD none
def signB (c : UInt8) : Bool := decide (0 ≤ Lib.indexByte [58, 61, 46, 43, 45] c)
def stepT : List UInt8 → Stp
  | [] => .stop
  | c :: r => if (c.toNat : Int) = 59 then .stop
    else if (c.toNat : Int) = 32 ∨ (c.toNat : Int) = 9 ∨ (c.toNat : Int) = 13 then .blank
    else if letterI c.toNat = true then (if 24 < runL (c :: r) then .bad else .tok 1 (runL (c :: r)) 0)
    else if digitI c.toNat = true then (match numO (numL ((c :: r).take (runL (c :: r)))) with
      | some m => .tok 2 (runL (c :: r)) m
      | none => .bad)
    else if signB c = true then .tok 3 1 0 else .bad
def consE (t : Tok) : Except Nat (List Tok) → Except Nat (List Tok)
  | .ok ts => .ok (t :: ts)
  | .error e => .error e
def lexL : Nat → Nat → List UInt8 → Except Nat (List Tok)
  | 0, _, _ => .ok []
  | k + 1, col, l => match stepT l with
    | .stop => .ok []
    | .blank => lexL k (col + 1) (l.drop 1)
    | .tok kd n x => consE ⟨kd, l.take n, x, col + 1⟩ (lexL k (col + n) (l.drop n))
    | .bad => .error (col + 1)

/-! ### A token's block -/
structure TK (st stX : SS) (row : List Value) : Prop where
  mem : stX.mem.get st.next = some (.cells row 0)
  ext : Ext st stX
  lt : st.next < stX.next
theorem TK.new {st : SS} {r row : List Value} (hl : st.lim ≤ st.next) (h1 : row.all one = true) (hr : r.length = row.length) : ∃ stX, (st.new (.cells r 0)).st st.next 0 row = some stX ∧ TK st stX row := by
  refine ⟨_, SS.st_cells SS.new_get hl h1 (c' := row) ?_, ?_, ?_, ?_⟩
  · rw [splice_of (by omega)]
    simp [hr]
  · simp
  · exact ((Ext.refl st).new _).set (Nat.le_refl _) _
  · simp
theorem TK.st {st stX : SS} {row row' vs : List Value} {k : Nat} (h : TK st stX row) (hl : st.lim ≤ st.next) (h1 : vs.all one = true) (hs : spliceE row k vs = some row') : ∃ stY, stX.st st.next k vs = some stY ∧ TK st stY row' ∧ stY.next = stX.next :=
  ⟨_, SS.st_cells h.mem (by rw [h.ext.lim]; exact hl) h1 hs, ⟨by simp, h.ext.set (Nat.le_refl _) _, h.lt⟩, rfl⟩
theorem TK.adv {st stX : SS} {row : List Value} {n : Nat} (h : TK st stX row) (hn : stX.next ≤ n) : TK st (stX.adv n) row :=
  ⟨h.mem, h.ext.adv hn, Nat.lt_of_lt_of_le h.lt hn⟩
theorem TK.ld {st stX : SS} {row : List Value} {k : Nat} (h : TK st stX row) : stX.ld st.next k = row[k]? := SS.ld_cells h.mem
theorem TK.ldN {st stX : SS} {row : List Value} {n : Nat} (h : TK st stX row) (hn : row.length = n) : stX.ldN st.next 0 n = some (.agg row.toArray) := by
  rw [SS.ldN_cells h.mem, cut_all hn]; rfl
theorem cellsN_agg {row : List Value} {n : Nat} (hn : row.length = n) : cellsN (.agg row.toArray) n = some row := by
  unfold cellsN
  have : (Value.agg row.toArray).cells = row.toArray := rfl
  rw [this]
  simp [hn]
theorem cells5 (a b c d e : Value) : cellsN (.agg [a, b, c, d, e].toArray) 5 = some [a, b, c, d, e] := rfl
theorem own_ne {b : Nat} {st : SS} {v : Value} {c : List Value} {z n j : Nat} (h : Own b st v c z n) (hj : st.next ≤ j) : ∀ q, v ≠ .slice (some ⟨j, 0, none⟩) q q := by
  obtain ⟨_, ⟨rfl, _⟩ | ⟨i, rfl, _, _, _, hi⟩⟩ := h
  · intro q h; cases h
  · intro q h; cases h; omega
theorem TK.app {st0 st stX : SS} {row c : List Value} {out : Value} {n z bt : Nat} (h : TK st stX row) (he : Ext st0 st) (ho : Own st0.next st out c z n) (hr : row.length = z) (hz : 0 < z) (hl : st0.lim ≤ st0.next) (h1 : row.all one = true) (hs : (n + 2) * bt ≤ 2 ^ 44) (hn : n + 1 ≤ 2 ^ 44) :
    ∃ v st', (stX.new (.cells row z)).app z bt out (.slice (some ⟨stX.next, 0, none⟩) 1 1) = some (v, st') ∧ Ext st0 st' ∧ Own st0.next st' v (c ++ row) z (n + 1) ∧ st'.mem.get st.next = some (.cells row 0) := by
  have e1 : Ext st (stX.new (.cells row z)) := h.ext.new _
  have e0 : Ext st0 (stX.new (.cells row z)) := he.trans e1
  obtain ⟨v, st', g1, g2, g3, g4, g5, g6⟩ := (ho.ext e1).app (Rd.new1 (st := stX) hr) e0.next (by rw [e0.lim]; exact hl) hz h1 (bt := bt) (by simpa [Nat.add_assoc] using hs) hn
  refine ⟨v, st', g1, g5 st0 (Nat.le_refl _) e0, g2, ?_⟩
  rw [g6 st.next (by simp; have := h.lt; omega) (own_ne ho (Nat.le_refl _)), SS.new_old (by have := h.lt; omega)]
  exact h.mem

theorem runL_le (l : List UInt8) : runL l ≤ l.length := by
  unfold runL
  exact (List.takeWhile_sublist _).length_le
theorem runL_pos {c : UInt8} {r : List UInt8} (h : nameB c = true) : 0 < runL (c :: r) := by rw [runL_cons, if_pos h]; omega

theorem subS_mid {s : ByteArray} {col n : Nat} (h : col + n ≤ s.size) : subS s (col : Int) ((col + n : Nat) : Int) = some (mkS (((bl s).drop col).take n)) := by
  rw [sub_ok (by omega) (by omega) (by omega), extract_mkS]
  simp only [Int.toNat_natCast]
  rw [List.drop_take, Nat.add_sub_cancel_left]
theorem subS_tail {s : ByteArray} {col : Nat} (h : col ≤ s.size) : subS s (col : Int) (s.size : Int) = some (mkS ((bl s).drop col)) := by
  rw [sub_ok (by omega) (by omega) (by omega), extract_mkS]
  simp only [Int.toNat_natCast]
  rw [List.take_of_length_le (by simp)]

/-- What a line's loop comes to. -/
def LineP (errv : Nat → List Value) (s : ByteArray) (at' : Int) (st0 : SS) (done : List Tok) (r : Option (Nat × List Value × SS)) : Except Nat (List Tok) → Prop
  | .ok ts => ∃ v st', r = some (0, [.string s, .int .i64 at', v], st') ∧ Ext st0 st' ∧ Own st0.next st' v (rowsT at' (done ++ ts)) 5 (done ++ ts).length ∧ (done ++ ts).length ≤ s.size
  | .error c => ∃ st', r = some (1, errv c, st') ∧ Ext st0 st'
theorem LineP.to {errv : Nat → List Value} {s : ByteArray} {at' : Int} {st0 : SS} {done : List Tok} {r r' : Option (Nat × List Value × SS)} {x : Except Nat (List Tok)} (h : LineP errv s at' st0 done r x) (hr : ∀ y, r = some y → r' = some y) : LineP errv s at' st0 done r' x := by
  cases x with
  | ok ts => obtain ⟨v, st', a, b⟩ := h; exact ⟨v, st', hr _ a, b⟩
  | error c => obtain ⟨st', a, b⟩ := h; exact ⟨st', hr _ a, b⟩
theorem LineP.cons {errv : Nat → List Value} {s : ByteArray} {at' : Int} {st0 : SS} {done : List Tok} {t : Tok} {r : Option (Nat × List Value × SS)} {x : Except Nat (List Tok)} (h : LineP errv s at' st0 (done ++ [t]) r x) : LineP errv s at' st0 done r (consE t x) := by
  cases x with
  | ok ts =>
    have e : done ++ [t] ++ ts = done ++ t :: ts := by simp
    obtain ⟨v, st', a, b, c, d⟩ := h
    rw [e] at c d
    exact ⟨v, st', a, b, c, d⟩
  | error c => exact h
theorem LineP.tok {errv : Nat → List Value} {s : ByteArray} {at' : Int} {st0 st stY : SS} {done : List Tok} {out : Value} {kd n col k : Nat} {x : Int} {lf : LoopS} (hs : s.size ≤ 4294967296) (hl0 : st0.lim ≤ st0.next) (hd : done.length ≤ col) (he : Ext st0 st) (ho : Own st0.next st out (rowsT at' done) 5 done.length) (hn0 : 0 < n) (hn : col + n ≤ s.size)
    (tk : TK st stY [.int .i64 kd, .string (mkS (((bl s).drop col).take n)), .int .i64 x, .int .i64 at', .int .i64 ((col + 1 : Nat) : Int)])
    (ih : ∀ (done : List Tok) (out : Value) (st : SS), done.length ≤ col + n → Ext st0 st → Own st0.next st out (rowsT at' done) 5 done.length → LineP errv s at' st0 done (lf 3 [.string s, .int .i64 at', out, .int .i64 ((col + n : Nat) : Int)] st) (lexL k (col + n) ((bl s).drop (col + n))))
    (step : ∀ v stZ, (stY.new (.cells [.int .i64 kd, .string (mkS (((bl s).drop col).take n)), .int .i64 x, .int .i64 at', .int .i64 ((col + 1 : Nat) : Int)] 5)).app 5 48 out (.slice (some ⟨stY.next, 0, none⟩) 1 1) = some (v, stZ) → stZ.mem.get st.next = some (.cells [.int .i64 kd, .string (mkS (((bl s).drop col).take n)), .int .i64 x, .int .i64 at', .int .i64 ((col + 1 : Nat) : Int)] 0) →
                ∀ y, lf 3 [.string s, .int .i64 at', v, .int .i64 ((col + n : Nat) : Int)] stZ = some y → lf 3 [.string s, .int .i64 at', out, .int .i64 col] st = some y) :
    LineP errv s at' st0 done (lf 3 [.string s, .int .i64 at', out, .int .i64 col] st) (consE ⟨kd, ((bl s).drop col).take n, x, col + 1⟩ (lexL k (col + n) (((bl s).drop col).drop n))) := by
  obtain ⟨v, stZ, b1, b2, b3, b4⟩ := tk.app he ho rfl (by omega) hl0 (by rfl) (bt := 48) (by omega) (by omega)
  have hrow : rowsT at' done ++ [.int .i64 kd, .string (mkS (((bl s).drop col).take n)), .int .i64 x, .int .i64 at', .int .i64 ((col + 1 : Nat) : Int)] = rowsT at' (done ++ [⟨kd, ((bl s).drop col).take n, x, col + 1⟩]) := by
    rw [rowsT_append]; rfl
  have hlen : done.length + 1 = (done ++ [(⟨kd, ((bl s).drop col).take n, x, col + 1⟩ : Tok)]).length := by simp
  rw [hrow, hlen] at b3
  rw [List.drop_drop]
  exact ((ih _ v stZ (by simp; omega) b2 b3).cons).to (step v stZ b1 b4)

theorem stepT_eq {L r : List UInt8} {c : UInt8} (h : L = c :: r) : stepT L = if (c.toNat : Int) = 59 then .stop
    else if (c.toNat : Int) = 32 ∨ (c.toNat : Int) = 9 ∨ (c.toNat : Int) = 13 then .blank
    else if letterI c.toNat = true then (if 24 < runL L then .bad else .tok 1 (runL L) 0)
    else if digitI c.toNat = true then (match numO (numL (L.take (runL L))) with
      | some m => .tok 2 (runL L) m
      | none => .bad)
    else if signB c = true then .tok 3 1 0 else .bad := by subst h; rfl

/-- The lexer's loop over a line. -/
theorem line_loop [Sym] (s : ByteArray) (at' : Int) (hs : s.size ≤ 4294967296) (st0 : SS) (hg : Gd st0) (hl0 : st0.lim ≤ st0.next) : ∀ (k col : Nat) (done : List Tok) (out : Value) (st : SS), s.size ≤ k + col → col ≤ s.size → done.length ≤ col → Ext st0 st → Own st0.next st out (rowsT at' done) 5 done.length →
    LineP (fun c => [.slice none 0 0, .int .i64 c, .bool false]) s at' st0 done (ulex_line_lf 3 [.string s, .int .i64 at', out, .int .i64 col] st) (lexL k col ((bl s).drop col)) := by
  intro k
  induction k with
  | zero =>
    intro col done out st hk hc hd he ho
    have : col = s.size := by omega
    subst this
    refine ⟨out, st, ulex_line_l3_eq s _ out _ st ?_, he, by simpa using ho, by simpa using hd⟩
    simp [ulex_line_l3]
  | succ k ih =>
    intro col done out st hk hc hd he ho
    have hfin : ∀ (stX : SS), ulex_line_lf 3 [.string s, .int .i64 at', out, .int .i64 s.size] stX = some (0, [.string s, .int .i64 at', out], stX) := by
      intro stX
      refine ulex_line_l3_eq s _ out _ stX ?_
      simp [ulex_line_l3]
    by_cases hlt : col < s.size
    · obtain ⟨c, hb⟩ : ∃ c, (bl s)[col]? = some c := ⟨_, List.getElem?_eq_getElem (by rw [bl_length]; exact hlt)⟩
      have hdc := drop_cons hb
      have hix : (idxS s (col : Int)).bind (asI .u8) = some (c.toNat : Int) := by
        obtain ⟨b', hb', hidx⟩ := idx_lt (s := s) (i := (col : Int)) (by omega) (by omega)
        have : b' = c := by simp at hb'; rw [hb] at hb'; cases hb'; rfl
        subst this
        rw [hidx]; simp
      have hlt' : (col : Int) < (s.size : Int) := by omega
      have hw1 : IntKind.wrap .i64 ((col : Int) + 1) = ((col + 1 : Nat) : Int) := by rw [wrap64 (by omega) (by omega)]; omega
      have hl : st.lim ≤ st.next := by rw [he.lim]; have := he.next; omega
      obtain ⟨st3, e3, t3⟩ := TK.new (st := st) (r := [.int .i64 0, .string ⟨#[]⟩, .int .i64 0, .int .i64 0, .int .i64 0]) (row := [.int .i64 0, .string ⟨#[]⟩, .int .i64 0, .int .i64 at', .int .i64 ((col + 1 : Nat) : Int)]) hl (by rfl) rfl
      have he3 : Ext st0 st3 := he.trans t3.ext
      have ho3 := ho.ext t3.ext
      have hL := stepT_eq hdc
      have hrl : runL ((bl s).drop col) ≤ s.size - col := by
        have := runL_le ((bl s).drop col)
        simpa using this
      unfold lexL
      rw [hL]
      by_cases h59 : (c.toNat : Int) = 59
      · rw [if_pos h59]
        refine ⟨out, st3, ulex_line_l3_eq s _ out _ st ?_, he3, by simpa using ho3, by simp; omega⟩
        simp only [ulex_line_l3, decide_eq_true hlt', cond_true, hw1, e3, Option.bind_some, hix, decide_eq_true h59]
        exact hfin st3
      rw [if_neg h59]
      by_cases hbk : (c.toNat : Int) = 32 ∨ (c.toNat : Int) = 9 ∨ (c.toNat : Int) = 13
      · rw [if_pos hbk]
        simp only [List.drop_drop]
        refine (ih (col + 1) done out st3 (by omega) (by omega) (by omega) he3 ho3).to ?_
        intro r hr
        refine ulex_line_l3_eq s _ out _ st ?_
        simp only [ulex_line_l3, decide_eq_true hlt', cond_true, hw1, e3, Option.bind_some, hix, decide_eq_false h59, cond_false]
        rcases hbk with h | h | h
        · simp only [decide_eq_true h, cond_true, hr]
        · have h' : ¬ (c.toNat : Int) = 32 := by omega
          simp only [decide_eq_true h, cond_true, hr, decide_eq_false h', cond_false]
        · have h' : ¬ (c.toNat : Int) = 32 := by omega
          have h'' : ¬ (c.toNat : Int) = 9 := by omega
          simp only [decide_eq_true h, cond_true, hr, decide_eq_false h', decide_eq_false h'', cond_false]
      rw [if_neg hbk]
      have h32 : ¬ (c.toNat : Int) = 32 := fun h => hbk (.inl h)
      have h9 : ¬ (c.toNat : Int) = 9 := fun h => hbk (.inr (.inl h))
      have h13 : ¬ (c.toNat : Int) = 13 := fun h => hbk (.inr (.inr h))
      have hsub := subS_tail (s := s) (col := col) (by omega)
      have hlet := letter_ok (c.toNat : Int)
      have hdig := digit_ok (c.toNat : Int)
      by_cases hlt1 : letterI c.toNat = true
      · rw [if_pos hlt1]
        have hpos : 0 < runL ((bl s).drop col) := by rw [hdc]; exact runL_pos (by unfold nameB; rw [hlt1]; rfl)
        obtain ⟨m, hm, hrun⟩ := run_ok (mkS ((bl s).drop col)) st3
        rw [bl_mkS] at hrun
        have t4 := t3.adv hm
        obtain ⟨st5, e5, t5, n5⟩ := t4.st (k := 0) (vs := [.int .i64 1]) (row' := [.int .i64 1, .string ⟨#[]⟩, .int .i64 0, .int .i64 at', .int .i64 ((col + 1 : Nat) : Int)]) hl (by rfl) rfl
        obtain ⟨st6, e6, t6, n6⟩ := t5.st (k := 1) (vs := [.string (mkS (((bl s).drop col).take (runL ((bl s).drop col))))]) (row' := [.int .i64 1, .string (mkS (((bl s).drop col).take (runL ((bl s).drop col)))), .int .i64 0, .int .i64 at', .int .i64 ((col + 1 : Nat) : Int)]) hl (by rfl) rfl
        have hw2 : IntKind.wrap .i64 ((col : Int) + (runL ((bl s).drop col) : Nat)) = ((col + runL ((bl s).drop col) : Nat) : Int) := by rw [wrap64 (by omega) (by omega)]; omega
        have hmid := subS_mid (s := s) (col := col) (n := runL ((bl s).drop col)) (by omega)
        have hsz : (mkS (((bl s).drop col).take (runL ((bl s).drop col)))).size = runL ((bl s).drop col) := by simp; omega
        have common : ulex_line_l3 cc ulex_line_lf s at' out col st = cond (decide ((24 : Int) < (runL ((bl s).drop col) : Nat))) (some (1, [.slice none 0 0, .int .i64 ((col + 1 : Nat) : Int), .bool false], st6))
            ((((st6.new (.cells [.int .i64 1, .string (mkS (((bl s).drop col).take (runL ((bl s).drop col)))), .int .i64 0, .int .i64 at', .int .i64 ((col + 1 : Nat) : Int)] 5)).app 5 48 out (.slice (some ⟨st6.next, 0, none⟩) 1 1))).bind fun r24 => ulex_line_lf 3 [.string s, .int .i64 at', r24.1, .int .i64 ((col + runL ((bl s).drop col) : Nat) : Int)] r24.2) := by
          simp only [ulex_line_l3, decide_eq_true hlt', cond_true, hw1, e3, Option.bind_some, hix, decide_eq_false h59, cond_false, decide_eq_false h32, decide_eq_false h9, decide_eq_false h13, hlet, hlt1, asB_bool, hsub, hrun, asI_int, hw2, hmid, e5, e6, t6.ld, t6.ldN (n := 5) rfl, List.getElem?_cons_succ, List.getElem?_cons_zero, asS_string, hsz, cells5, List.append_nil]
        by_cases h24 : 24 < runL ((bl s).drop col)
        · rw [if_pos h24]
          refine ⟨st6, ulex_line_l3_eq s _ out _ st ?_, he.trans t6.ext⟩
          rw [common, decide_eq_true (by omega)]
          rfl
        · rw [if_neg h24]
          refine LineP.tok hs hl0 hd he ho hpos (by omega) t6 (fun done out st hd he ho => ih _ done out st (by omega) (by omega) hd he ho) ?_
          intro v stZ hv _ y hy
          refine ulex_line_l3_eq s _ out _ st ?_
          rw [common, decide_eq_false (by omega), cond_false]
          have hv' : ((st6.new (.cells [.int .i64 1, .string (mkS (((bl s).drop col).take (runL ((bl s).drop col)))), .int .i64 0, .int .i64 at', .int .i64 ((col + 1 : Nat) : Int)] 5)).app 5 48 out (.slice (some ⟨st6.next, 0, none⟩) 1 1)) = some (v, stZ) := hv
          rw [hv']
          exact hy
      rw [if_neg hlt1]
      have hlt1' : letterI c.toNat = false := Bool.eq_false_iff.2 hlt1
      by_cases hd1 : digitI c.toNat = true
      · rw [if_pos hd1]
        have hpos : 0 < runL ((bl s).drop col) := by rw [hdc]; exact runL_pos (by unfold nameB; rw [hd1]; simp)
        obtain ⟨m, hm, hrun⟩ := run_ok (mkS ((bl s).drop col)) st3
        rw [bl_mkS] at hrun
        have t4 := t3.adv hm
        obtain ⟨st5, e5, t5, n5⟩ := t4.st (k := 0) (vs := [.int .i64 2]) (row' := [.int .i64 2, .string ⟨#[]⟩, .int .i64 0, .int .i64 at', .int .i64 ((col + 1 : Nat) : Int)]) hl (by rfl) rfl
        obtain ⟨st6, e6, t6, n6⟩ := t5.st (k := 1) (vs := [.string (mkS (((bl s).drop col).take (runL ((bl s).drop col))))]) (row' := [.int .i64 2, .string (mkS (((bl s).drop col).take (runL ((bl s).drop col)))), .int .i64 0, .int .i64 at', .int .i64 ((col + 1 : Nat) : Int)]) hl (by rfl) rfl
        obtain ⟨m2, hm2, hnum⟩ := number_ok (hg.ext (he.trans t6.ext)) (mkS (((bl s).drop col).take (runL ((bl s).drop col)))) (by simp; omega)
        rw [bl_mkS] at hnum
        have t7 := t6.adv hm2
        obtain ⟨st8, e8, t8, n8⟩ := t7.st (k := 2) (vs := [.int .i64 (numV (numL (((bl s).drop col).take (runL ((bl s).drop col))))).1]) (row' := [.int .i64 2, .string (mkS (((bl s).drop col).take (runL ((bl s).drop col)))), .int .i64 (numV (numL (((bl s).drop col).take (runL ((bl s).drop col))))).1, .int .i64 at', .int .i64 ((col + 1 : Nat) : Int)]) hl (by rfl) rfl
        have hw2 : IntKind.wrap .i64 ((col : Int) + (runL ((bl s).drop col) : Nat)) = ((col + runL ((bl s).drop col) : Nat) : Int) := by rw [wrap64 (by omega) (by omega)]; omega
        have hmid := subS_mid (s := s) (col := col) (n := runL ((bl s).drop col)) (by omega)
        have hsz : (mkS (((bl s).drop col).take (runL ((bl s).drop col)))).size = runL ((bl s).drop col) := by simp; omega
        have common : ulex_line_l3 cc ulex_line_lf s at' out col st = cond (!(numV (numL (((bl s).drop col).take (runL ((bl s).drop col))))).2) (some (1, [.slice none 0 0, .int .i64 ((col + 1 : Nat) : Int), .bool false], st8))
            ((((st8.new (.cells [.int .i64 2, .string (mkS (((bl s).drop col).take (runL ((bl s).drop col)))), .int .i64 (numV (numL (((bl s).drop col).take (runL ((bl s).drop col))))).1, .int .i64 at', .int .i64 ((col + 1 : Nat) : Int)] 5)).app 5 48 out (.slice (some ⟨st8.next, 0, none⟩) 1 1))).bind fun r24 => ulex_line_lf 3 [.string s, .int .i64 at', r24.1, .int .i64 ((col + runL ((bl s).drop col) : Nat) : Int)] r24.2) := by
          simp only [ulex_line_l3, decide_eq_true hlt', cond_true, hw1, e3, Option.bind_some, hix, decide_eq_false h59, cond_false, decide_eq_false h32, decide_eq_false h9, decide_eq_false h13, hlet, hlt1', hdig, hd1, asB_bool, hsub, hrun, asI_int, hw2, hmid, e5, e6, t6.ld, hnum, tupG, e8, t8.ld, t8.ldN (n := 5) rfl, List.getElem?_cons_succ, List.getElem?_cons_zero, asS_string, hsz, cells5, List.append_nil, List.getElem?_toArray]
        cases hx : numL (((bl s).drop col).take (runL ((bl s).drop col))) with
        | some y => cases y with
          | some w =>
            have hx2 : numV (numL (((bl s).drop col).take (runL ((bl s).drop col)))) = ((w : Int), true) := by rw [hx]; rfl
            rw [hx2] at common t8
            simp only [numO, Option.getD_some]
            refine LineP.tok hs hl0 hd he ho hpos (by omega) t8 (fun done out st hd he ho => ih _ done out st (by omega) (by omega) hd he ho) ?_
            intro v stZ hv _ y hy
            refine ulex_line_l3_eq s _ out _ st ?_
            rw [common, Bool.not_true, cond_false]
            have hv' : ((st8.new (.cells [.int .i64 2, .string (mkS (((bl s).drop col).take (runL ((bl s).drop col)))), .int .i64 (w : Int), .int .i64 at', .int .i64 ((col + 1 : Nat) : Int)] 5)).app 5 48 out (.slice (some ⟨st8.next, 0, none⟩) 1 1)) = some (v, stZ) := hv
            rw [hv']
            exact hy
          | none =>
            have hx2 : (numV (numL (((bl s).drop col).take (runL ((bl s).drop col))))).2 = false := by rw [hx]; rfl
            rw [hx2] at common
            refine ⟨st8, ulex_line_l3_eq s _ out _ st ?_, he.trans t8.ext⟩
            rw [common]
            rfl
        | none =>
          have hx2 : (numV (numL (((bl s).drop col).take (runL ((bl s).drop col))))).2 = false := by rw [hx]; rfl
          rw [hx2] at common
          refine ⟨st8, ulex_line_l3_eq s _ out _ st ?_, he.trans t8.ext⟩
          rw [common]
          rfl
      rw [if_neg hd1]
      have hd1' : digitI c.toNat = false := Bool.eq_false_iff.2 hd1
      have hsg := indexByte_ok c ⟨#[58, 61, 46, 43, 45]⟩ st3
      by_cases hs1 : signB c = true
      · rw [if_pos hs1]
        have hs1' : (0 : Int) ≤ Lib.indexByte (bl ⟨#[58, 61, 46, 43, 45]⟩) c := of_decide_eq_true hs1
        obtain ⟨st5, e5, t5, n5⟩ := t3.st (k := 0) (vs := [.int .i64 3]) (row' := [.int .i64 3, .string ⟨#[]⟩, .int .i64 0, .int .i64 at', .int .i64 ((col + 1 : Nat) : Int)]) hl (by rfl) rfl
        obtain ⟨st6, e6, t6, n6⟩ := t5.st (k := 1) (vs := [.string (mkS (((bl s).drop col).take 1))]) (row' := [.int .i64 3, .string (mkS (((bl s).drop col).take 1)), .int .i64 0, .int .i64 at', .int .i64 ((col + 1 : Nat) : Int)]) hl (by rfl) rfl
        have hmid := subS_mid (s := s) (col := col) (n := 1) (by omega)
        have hsz : (mkS (((bl s).drop col).take 1)).size = 1 := by simp; omega
        have hw2 : IntKind.wrap .i64 ((col : Int) + ((1 : Nat) : Int)) = ((col + 1 : Nat) : Int) := hw1
        refine LineP.tok hs hl0 hd he ho (by omega) (by omega) t6 (fun done out st hd he ho => ih _ done out st (by omega) (by omega) hd he ho) ?_
        intro v stZ hv _ y hy
        refine ulex_line_l3_eq s _ out _ st ?_
        have hv' : ((st6.new (.cells [.int .i64 3, .string (mkS (((bl s).drop col).take 1)), .int .i64 0, .int .i64 at', .int .i64 ((col + 1 : Nat) : Int)] 5)).app 5 48 out (.slice (some ⟨st6.next, 0, none⟩) 1 1)) = some (v, stZ) := hv
        simp only [ulex_line_l3, decide_eq_true hlt', cond_true, hw1, e3, Option.bind_some, hix, decide_eq_false h59, cond_false, decide_eq_false h32, decide_eq_false h9, decide_eq_false h13, hlet, hlt1', hdig, hd1', asB_bool, hsg, asI_int, decide_eq_true hs1', hmid, e5, e6, t6.ld, t6.ldN (n := 5) rfl, List.getElem?_cons_succ, List.getElem?_cons_zero, asS_string, hsz, hw2, cells5, List.append_nil, hv']
        exact hy
      · rw [if_neg hs1]
        have hs1' : ¬ (0 : Int) ≤ Lib.indexByte (bl ⟨#[58, 61, 46, 43, 45]⟩) c := fun h => hs1 (decide_eq_true h)
        refine ⟨st3, ulex_line_l3_eq s _ out _ st ?_, he3⟩
        simp only [ulex_line_l3, decide_eq_true hlt', cond_true, hw1, e3, Option.bind_some, hix, decide_eq_false h59, cond_false, decide_eq_false h32, decide_eq_false h9, decide_eq_false h13, hlet, hlt1', hdig, hd1', asB_bool, hsg, asI_int, decide_eq_false hs1', t3.ld, List.getElem?_cons_succ, List.getElem?_cons_zero]
    · have : col = s.size := by omega
      subst this
      have hnil : (bl s).drop s.size = [] := bl_drop_nil s
      rw [hnil]
      exact ⟨out, st, hfin st, he, by simpa [stepT] using ho, by simpa using hd⟩
end Go.Proofs.YthngaoncjpgeiaaGreatDoorE
