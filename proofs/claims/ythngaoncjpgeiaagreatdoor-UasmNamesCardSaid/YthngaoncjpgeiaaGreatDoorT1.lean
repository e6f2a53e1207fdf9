/- Tools for proofs over the shallow texts: blocks that are written to. -/
import Derived.Test.YthngaoncjpgeiaaGreatDoorXF
set_option linter.unusedVariables false
set_option linter.unusedSimpArgs false
namespace Go.E
open Go

/-- A state comes from another one: of what was there only some blocks have changed. -/
structure Mod (S : List Nat) (a b : SS) : Prop where
  next : a.next ≤ b.next
  lim : b.lim = a.lim
  keep : ∀ j, j < a.next → j ∉ S → b.mem.get j = a.mem.get j
section
variable {S T : List Nat} {a b c : SS} {i n : Nat}
theorem Mod.refl (a : SS) : Mod S a a := ⟨Nat.le_refl _, rfl, fun _ _ _ => rfl⟩
theorem Mod.ofExt (h : Ext a b) : Mod S a b := ⟨h.next, h.lim, fun j hj _ => h.keep j hj⟩
theorem Mod.toExt (h : Mod [] a b) : Ext a b := ⟨h.next, h.lim, fun j hj => h.keep j hj (by simp)⟩
theorem Mod.trans (h : Mod S a b) (k : Mod T b c) (hT : ∀ j, j ∈ T → j < a.next → j ∈ S) : Mod S a c :=
  ⟨Nat.le_trans h.next k.next, k.lim.trans h.lim, fun j hj hS => (k.keep j (Nat.lt_of_lt_of_le hj h.next) (fun hm => hS (hT j hm hj))).trans (h.keep j hj hS)⟩
theorem Mod.then (h : Mod S a b) (k : Mod S b c) : Mod S a c := h.trans k fun _ hj _ => hj
theorem Mod.thenE (h : Mod S a b) (k : Mod [] b c) : Mod S a c := h.trans k fun _ hj _ => by cases hj
theorem Mod.thenX (h : Mod S a b) (k : Ext b c) : Mod S a c := h.thenE (.ofExt k)
/-- Then a block is written that is new since, or one of those. -/
theorem Mod.thenI (h : Mod S a b) (k : Mod [i] b c) (hi : a.next ≤ i ∨ i ∈ S) : Mod S a c := h.trans k fun j hj hlt => by
  have : j = i := by simpa using hj
  subst this
  rcases hi with hi | hi
  · omega
  · exact hi
theorem Mod.mono (h : Mod S a b) (hS : ∀ j, j ∈ S → j ∈ T) : Mod T a b := ⟨h.next, h.lim, fun j hj hT => h.keep j hj fun hm => hT (hS j hm)⟩
/-- What is changed is new. -/
theorem Mod.fresh (h : Mod S a b) (hS : ∀ j, j ∈ S → a.next ≤ j) : Ext a b := ⟨h.next, h.lim, fun j hj => h.keep j hj fun hm => by have := hS j hm; omega⟩
theorem Mod.ll (h : Mod S a b) (hl : a.lim ≤ a.next) : b.lim ≤ b.next := by rw [h.lim]; exact Nat.le_trans hl h.next
theorem Ext.ll (h : Ext a b) (hl : a.lim ≤ a.next) : b.lim ≤ b.next := by rw [h.lim]; exact Nat.le_trans hl h.next
theorem Ext.advR (a : SS) (hn : a.next ≤ n) : Ext a (a.adv n) := (Ext.refl a).adv hn
theorem Mod.get {x : Option AObj} (h : Mod S a b) (hi : i < a.next) (hS : i ∉ S) (hx : a.mem.get i = x) : b.mem.get i = x := (h.keep i hi hS).trans hx
theorem Rd.mod {v : Value} {c : List Value} {z n : Nat} (h : Rd a v c z n) (m : Mod S a b) (hv : ∀ j k l q, v = .slice (some ⟨j, k, none⟩) l q → j ∉ S) : Rd b v c z n := by
  obtain ⟨h1, h2⟩ := h
  refine ⟨h1, h2.imp id ?_⟩
  rintro ⟨i, cap, e, ⟨z', hm⟩, hi⟩
  exact ⟨i, cap, e, ⟨z', m.get hi (hv i 0 n cap e) hm⟩, Nat.lt_of_lt_of_le hi m.next⟩
theorem Own.mod {B : Nat} {v : Value} {c : List Value} {z n : Nat} (h : Own B a v c z n) (m : Mod S a b) (hv : ∀ j k l q, v = .slice (some ⟨j, k, none⟩) l q → j ∉ S) : Own B b v c z n := by
  obtain ⟨h1, h2⟩ := h
  refine ⟨h1, h2.imp id ?_⟩
  rintro ⟨i, e, h0, hm, hb, hi⟩
  exact ⟨i, e, h0, m.get hi (hv i 0 n n e) hm, hb, Nat.lt_of_lt_of_le hi m.next⟩
end

/-- A block with a row, that may be written to. -/
def At (st : SS) (i : Nat) (row : List Value) : Prop := st.mem.get i = some (.cells row 0) ∧ i < st.next ∧ st.lim ≤ i
section
variable {S : List Nat} {st st' : SS} {i k n : Nat} {row row' vs : List Value}
theorem At.mem (h : At st i row) : st.mem.get i = some (.cells row 0) := h.1
theorem At.lt (h : At st i row) : i < st.next := h.2.1
theorem At.mod (h : At st i row) (m : Mod S st st') (hi : i ∉ S) : At st' i row := ⟨m.get h.lt hi h.1, Nat.lt_of_lt_of_le h.lt m.next, by rw [m.lim]; exact h.2.2⟩
theorem At.ext (h : At st i row) (m : Ext st st') : At st' i row := h.mod (S := []) (.ofExt m) (by simp)
theorem At.adv (h : At st i row) (hn : st.next ≤ n) : At (st.adv n) i row := h.ext (.advR st hn)
theorem At.ld (h : At st i row) : st.ld i k = row[k]? := SS.ld_cells h.1
theorem At.rd (h : At st i row) : st.rd i k = row[k]? := SS.rd_cells h.1
theorem At.ldN (h : At st i row) (hn : row.length = n) : st.ldN i 0 n = some (.agg row.toArray) := by rw [SS.ldN_cells h.1, cut_all hn]; rfl
theorem At.rdN (h : At st i row) (hn : row.length = n) : st.rdN i 0 n = some (.agg row.toArray) := by rw [SS.rdN_cells h.1, cut_all hn]; rfl
theorem At.ldC (h : At st i row) {d : List Value} (hd : cut row k n = some d) : st.ldN i k n = some (.agg d.toArray) := by rw [SS.ldN_cells h.1, hd]; rfl
theorem At.sto (h : At st i row) (h1 : vs.all one = true) (hs : spliceE row k vs = some row') : ∃ st', st.st i k vs = some st' ∧ At st' i row' ∧ Mod [i] st st' ∧ st'.next = st.next :=
  ⟨_, SS.st_cells h.1 h.2.2 h1 hs, ⟨by simp, h.2.1, h.2.2⟩, ⟨Nat.le_refl _, rfl, fun j hj hS => SS.set_old (by simpa using hS)⟩, rfl⟩
theorem At.stV (h : At st i row) {v : Value} (hv : v.cells.toList = vs) (hn : vs.length = n) (h1 : vs.all one = true) (hs : spliceE row k vs = some row') : ∃ st', st.stV i k n v = some st' ∧ At st' i row' ∧ Mod [i] st st' ∧ st'.next = st.next := by
  obtain ⟨st', a, b, c, d⟩ := h.sto h1 hs
  refine ⟨st', ?_, b, c, d⟩
  unfold SS.stV
  have e : v.cells.size = n := by rw [← hn, ← hv]; simp
  rw [e, hv, a]
  simp
theorem At.new (hl : st.lim ≤ st.next) (row : List Value) : At (st.new (.cells row 0)) st.next row := ⟨by simp, by simp, hl⟩
theorem Mod.new (ob : AObj) : Mod [] st (st.new ob) := .ofExt ((Ext.refl st).new ob)
/-- A new block, and its row. -/
theorem newV_ok (hl : st.lim ≤ st.next) {r : List Value} {v : Value} (hv : v.cells.toList = row) (hn : row.length = n) (h1 : row.all one = true) (hr : r.length = n) : ∃ st', (st.new (.cells r 0)).stV st.next 0 n v = some st' ∧ At st' st.next row ∧ Ext st st' ∧ st'.next = st.next + 1 := by
  obtain ⟨st', a, b, c, d⟩ := (At.new hl r).stV (k := 0) hv hn h1 (row' := row) (by rw [splice_of (by omega)]; simp [hn, hr])
  refine ⟨st', a, b, ?_, d⟩
  exact (((Mod.new (.cells r 0)).mono (T := [st.next]) (by simp)).then c).fresh (by simp)
theorem new_ok (hl : st.lim ≤ st.next) {r : List Value} (h1 : row.all one = true) (hr : r.length = row.length) : ∃ st', (st.new (.cells r 0)).st st.next 0 row = some st' ∧ At st' st.next row ∧ Ext st st' ∧ st'.next = st.next + 1 := by
  obtain ⟨st', a, b, c, d⟩ := (At.new hl r).sto (k := 0) (vs := row) (row' := row) h1 (by rw [splice_of (by omega)]; simp [hr])
  exact ⟨st', a, b, (((Mod.new (.cells r 0)).mono (T := [st.next]) (by simp)).then c).fresh (by simp), d⟩
end
theorem aggC (row : List Value) : (Value.agg row.toArray).cells.toList = row := by simp [Value.cells]

theorem Own.modLt {S : List Nat} {a b : SS} {B : Nat} {v : Value} {c : List Value} {z n : Nat} (h : Own B a v c z n) (m : Mod S a b) (hS : ∀ j, j ∈ S → j < B) : Own B b v c z n := by
  obtain ⟨h1, h2⟩ := h
  refine ⟨h1, h2.imp id ?_⟩
  rintro ⟨i, e, h0, hm, hb, hi⟩
  exact ⟨i, e, h0, m.get hi (fun hx => by have := hS i hx; omega) hm, hb, Nat.lt_of_lt_of_le hi m.next⟩
theorem Rd.row1 {st : SS} {row : List Value} {z : Nat} (h : row.length = z) : Rd (st.new (.cells row z)) (.slice (some ⟨st.next, 0, none⟩) 1 1) row z 1 :=
  ⟨by rw [h, Nat.one_mul], .inr ⟨st.next, 1, rfl, ⟨z, SS.new_get⟩, by simp⟩⟩
/-- A list grows by one row that is laid for it. -/
theorem Own.push {b : Nat} {st : SS} {v : Value} {c row : List Value} {z n bt : Nat} (h : Own b st v c z n) (hb : b ≤ st.next) (hl : st.lim ≤ b) (hr : row.length = z) (hz : 0 < z) (h1 : row.all one = true) (hs : (n + 2) * bt ≤ 2 ^ 44) (hn : n + 1 ≤ 2 ^ 44) :
    ∃ v' st', (st.new (.cells row z)).app z bt v (.slice (some ⟨st.next, 0, none⟩) 1 1) = some (v', st') ∧ Own b st' v' (c ++ row) z (n + 1) ∧ (∀ st0, st0.next ≤ b → Ext st0 st → Ext st0 st') ∧ st'.lim = st.lim ∧ st.next ≤ st'.next ∧
      ∀ j, j < st.next → (∀ q, v ≠ .slice (some ⟨j, 0, none⟩) q q) → st'.mem.get j = st.mem.get j := by
  obtain ⟨v', st', g1, g2, g3, g4, g5, g6⟩ := (h.ext ((Ext.refl st).new (.cells row z))).app (Rd.row1 (st := st) hr) (Nat.le_trans hb (Nat.le_succ _)) hl hz h1 (bt := bt) (by simpa [Nat.add_assoc] using hs) hn
  exact ⟨v', st', g1, g2, fun st0 h0 he => g5 st0 h0 (he.new _), g3, Nat.le_trans (Nat.le_succ _) g4, fun j hj hv => by rw [g6 j (by simp; omega) hv, SS.new_old (by omega)]⟩
/-- Likewise, and what lies below the list's own blocks stays. -/
theorem Own.pushM {b : Nat} {st : SS} {v : Value} {c row : List Value} {z n bt : Nat} (h : Own b st v c z n) (hb : b ≤ st.next) (hl : st.lim ≤ b) (hr : row.length = z) (hz : 0 < z) (h1 : row.all one = true) (hs : (n + 2) * bt ≤ 2 ^ 44) (hn : n + 1 ≤ 2 ^ 44) :
    ∃ v' st', (st.new (.cells row z)).app z bt v (.slice (some ⟨st.next, 0, none⟩) 1 1) = some (v', st') ∧ Own b st' v' (c ++ row) z (n + 1) ∧ st'.lim = st.lim ∧ st.next ≤ st'.next ∧ (∀ j, j < b → st'.mem.get j = st.mem.get j) := by
  obtain ⟨v', st', g1, g2, g3, g4, g5, g6⟩ := h.push hb hl hr hz h1 hs hn
  refine ⟨v', st', g1, g2, g4, g5, fun j hj => g6 j (by omega) fun q e => ?_⟩
  obtain ⟨_, ⟨rfl, _⟩ | ⟨i, rfl, _, _, hbi, _⟩⟩ := h
  · cases e
  · cases e; omega

/-- Of what lies below a bound only some blocks have changed. -/
structure Keep (B : Nat) (S : List Nat) (a b : SS) : Prop where
  next : a.next ≤ b.next
  lim : b.lim = a.lim
  keep : ∀ j, j < B → j ∉ S → b.mem.get j = a.mem.get j
section
variable {S : List Nat} {a b c : SS} {B i : Nat}
theorem Keep.refl (a : SS) : Keep B S a a := ⟨Nat.le_refl _, rfl, fun _ _ _ => rfl⟩
theorem Keep.then (h : Keep B S a b) (k : Keep B S b c) : Keep B S a c := ⟨Nat.le_trans h.next k.next, k.lim.trans h.lim, fun j hj hS => (k.keep j hj hS).trans (h.keep j hj hS)⟩
theorem Mod.keepB (h : Mod S a b) (hB : B ≤ a.next) : Keep B S a b := ⟨h.next, h.lim, fun j hj hS => h.keep j (by omega) hS⟩
theorem Ext.keepB (h : Ext a b) (hB : B ≤ a.next) : Keep B S a b := ⟨h.next, h.lim, fun j hj _ => h.keep j (by omega)⟩
theorem Keep.mod (h : Keep B S a b) (hB : a.next ≤ B) : Mod S a b := ⟨h.next, h.lim, fun j hj hS => h.keep j (by omega) hS⟩
theorem Keep.mono {B' : Nat} {T : List Nat} (h : Keep B S a b) (hB : B' ≤ B) (hS : ∀ j, j ∈ S → j < B' → j ∈ T) : Keep B' T a b := ⟨h.next, h.lim, fun j hj hT => h.keep j (by omega) fun hm => hT (hS j hm hj)⟩
theorem Keep.thenX (h : Keep B S a b) (k : Ext b c) (hB : B ≤ b.next) : Keep B S a c := h.then (k.keepB hB)
theorem Keep.thenM (h : Keep B S a b) (k : Mod S b c) (hB : B ≤ b.next) : Keep B S a c := h.then (k.keepB hB)
theorem Keep.thenI (h : Keep B S a b) (k : Mod [i] b c) (hB : B ≤ b.next) (hi : B ≤ i ∨ i ∈ S) : Keep B S a c := h.then ⟨k.next, k.lim, fun j hj hS => k.keep j (by omega) fun hm => by
  have : j = i := by simpa using hm
  subst this
  rcases hi with hi | hi
  · omega
  · exact hS hi⟩
theorem Keep.ll (h : Keep B S a b) (hl : a.lim ≤ a.next) : b.lim ≤ b.next := by rw [h.lim]; exact Nat.le_trans hl h.next
theorem At.keepB {row : List Value} (h : At a i row) (k : Keep B S a b) (hB : i < B) (hi : i ∉ S) : At b i row := ⟨(k.keep i hB hi).trans h.1, Nat.lt_of_lt_of_le h.2.1 k.next, by rw [k.lim]; exact h.2.2⟩
theorem Own.cell {v : Value} {c : List Value} {z n : Nat} (h : Own B a v c z n) : v.cells.toList = [v] ∧ one v = true := by
  obtain ⟨_, ⟨rfl, _⟩ | ⟨i, rfl, _⟩⟩ := h <;> exact ⟨rfl, rfl⟩
/-- A list grows by one row: what lies below the list's own blocks stays. -/
theorem Own.pushK {b : Nat} {st : SS} {v : Value} {c row : List Value} {z n bt : Nat} (h : Own b st v c z n) (hb : b ≤ st.next) (hl : st.lim ≤ b) (hr : row.length = z) (hz : 0 < z) (h1 : row.all one = true) (hs : (n + 2) * bt ≤ 2 ^ 44) (hn : n + 1 ≤ 2 ^ 44) :
    ∃ v' st', (st.new (.cells row z)).app z bt v (.slice (some ⟨st.next, 0, none⟩) 1 1) = some (v', st') ∧ Own b st' v' (c ++ row) z (n + 1) ∧ ∀ S, Keep b S st st' := by
  obtain ⟨v', st', g1, g2, g3, g4, g5⟩ := h.pushM hb hl hr hz h1 hs hn
  exact ⟨v', st', g1, g2, fun S => ⟨g4, g3, fun j hj _ => g5 j hj⟩⟩
end
/-- A list grows by one row: its new block is the newest. -/
theorem Own.pushN {b : Nat} {st : SS} {v : Value} {c row : List Value} {z n bt : Nat} (h : Own b st v c z n) (hb : b ≤ st.next) (hl : st.lim ≤ b) (hr : row.length = z) (hz : 0 < z) (h1 : row.all one = true) (hs : (n + 2) * bt ≤ 2 ^ 44) (hn : n + 1 ≤ 2 ^ 44) :
    ∃ k st', (st.new (.cells row z)).app z bt v (.slice (some ⟨st.next, 0, none⟩) 1 1) = some (.slice (some ⟨k, 0, none⟩) (n + 1) (n + 1), st') ∧ st.next ≤ k ∧ Own b st' (.slice (some ⟨k, 0, none⟩) (n + 1) (n + 1)) (c ++ row) z (n + 1) ∧ st'.lim = st.lim ∧ st.next ≤ st'.next ∧
      ∀ j, j < st.next → (∀ q, v ≠ .slice (some ⟨j, 0, none⟩) q q) → st'.mem.get j = st.mem.get j := by
  obtain ⟨v', st', g1, g2, g3, g4, g5, g6⟩ := h.push hb hl hr hz h1 hs hn
  have key : ∃ k, v' = .slice (some ⟨k, 0, none⟩) (n + 1) (n + 1) ∧ st.next ≤ k := by
    have hx := Rd.row1 (st := st) hr
    obtain ⟨e1, e2⟩ := hx.first
    unfold SS.app at g1
    rw [e1] at g1
    simp only [Option.bind_some] at g1
    have hm0 : Nat.beq 1 0 = false := rfl
    obtain ⟨h2, h3⟩ := h
    rcases h3 with ⟨rfl, rfl⟩ | ⟨i, rfl, h0, hmem, hbi, hi⟩
    · have q : (Nat.ble ((1 + 1) * bt) (2 ^ 44) && Nat.ble 1 (2 ^ 44)) = true := by
        simp only [Bool.and_eq_true, Nat.ble_eq]
        simp only [Nat.zero_add] at hs
        exact ⟨hs, by omega⟩
      simp only [hm0, cond_false, q, cond_true, e2, Option.bind_some] at g1
      cases g1
      exact ⟨_, rfl, by simp⟩
    · have q : (Nat.ble ((n + 1 + 1) * bt) (2 ^ 44) && Nat.ble (n + 1) (2 ^ 44) && Nat.ble (st.new (.cells row z)).lim i) = true := by
        simp only [Bool.and_eq_true, Nat.ble_eq]
        exact ⟨⟨hs, hn⟩, by simp; omega⟩
      have q2 : (Nat.beq z z && (Nat.blt n (n + 1) || Nat.ble (0 + n * z) c.length)) = true := by
        have a : Nat.beq z z = true := by rw [beq_dec]; simp
        have b' : Nat.blt n (n + 1) = true := by rw [Nat.blt_eq]; omega
        rw [a, b']; rfl
      have hmem' : (st.new (.cells row z)).mem.get i = some (.cells c z) := by rw [SS.new_old (by omega)]; exact hmem
      simp only [hm0, cond_false, q, cond_true, hmem', Option.bind_some, q2, cut_all h2, e2, h1] at g1
      cases g1
      exact ⟨_, rfl, by simp⟩
  obtain ⟨k, rfl, hk⟩ := key
  exact ⟨k, st', g1, hk, g2, g4, g5, g6⟩
/-- A value is laid over another one, and handed back. -/
theorem fin_ok {s : SS} {j0 j1 n : Nat} {row0 row1 : List Value} (h0 : At s j0 row0) (l0 : row0.length = n) (h1 : At s j1 row1) (l1 : row1.length = n) (ho : row1.all one = true) :
    ∃ s', s.ldN j1 0 n = some (.agg row1.toArray) ∧ s.stV j0 0 n (.agg row1.toArray) = some s' ∧ s'.rdN j0 0 n = some (.agg row1.toArray) ∧ Mod [j0] s s' ∧ At s' j0 row1 := by
  obtain ⟨s', e, a, m, _⟩ := h0.stV (k := 0) (aggC row1) l1 ho (row' := row1) (by rw [splice_of (by omega)]; simp [l0, l1])
  exact ⟨s', h1.ldN l1, e, a.rdN l1, m, a⟩

/-! ### Rows of many -/
def rowsF {α : Type} (f : α → List Value) (l : List α) : List Value := l.flatMap f
section
variable {α : Type} {f : α → List Value} {z : Nat}
theorem rowsF_append (a b : List α) : rowsF f (a ++ b) = rowsF f a ++ rowsF f b := by simp [rowsF]
theorem rowsF_cons (a : α) (b : List α) : rowsF f (a :: b) = f a ++ rowsF f b := by simp [rowsF]
theorem rowsF_one (a : α) : rowsF f [a] = f a := by simp [rowsF]
theorem rowsF_len (hz : ∀ x, (f x).length = z) (l : List α) : (rowsF f l).length = l.length * z := by
  induction l with
  | nil => simp [rowsF]
  | cons a l ih => rw [rowsF_cons, List.length_append, ih, hz, List.length_cons, Nat.add_mul]; omega
theorem rowsF_get (hz : ∀ x, (f x).length = z) (l : List α) (i : Nat) (x : α) (h : l[i]? = some x) : ((rowsF f l).drop (i * z)).take z = f x := by
  induction l generalizing i with
  | nil => cases h
  | cons a l ih =>
    rw [rowsF_cons]
    cases i with
    | zero =>
      have : a = x := by simpa using h
      subst this
      rw [Nat.zero_mul, List.drop_zero, List.take_append_of_le_length (by rw [hz]; omega), List.take_of_length_le (by rw [hz]; omega)]
    | succ i =>
      have e : (i + 1) * z = (f a).length + i * z := by rw [hz, Nat.add_mul]; omega
      rw [e, List.drop_append, List.drop_of_length_le (by omega), List.nil_append, Nat.add_sub_cancel_left]
      exact ih i (by simpa using h)
theorem rowsF_all (h1 : ∀ x, (f x).all one = true) (l : List α) : (rowsF f l).all one = true := by
  induction l with
  | nil => rfl
  | cons a l ih => rw [rowsF_cons, List.all_append, h1, ih]; rfl
end
theorem wrapI {i k : Nat} (h : i ≤ 1099511627776) (hk : k ≤ 1099511627776) : IntKind.wrap .i64 ((i : Int) + (k : Int)) = ((i + k : Nat) : Int) := by rw [wrap64 (by omega) (by omega)]; omega
theorem wrapI1 {i : Nat} (h : i ≤ 1099511627776) : IntKind.wrap .i64 ((i : Int) + 1) = ((i + 1 : Nat) : Int) := wrapI h (k := 1) (by omega)
end Go.E
