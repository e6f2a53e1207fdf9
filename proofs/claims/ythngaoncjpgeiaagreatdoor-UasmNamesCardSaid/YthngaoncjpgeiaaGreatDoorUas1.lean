/- The words of a text. -/
import Derived.Test.YthngaoncjpgeiaaGreatDoorLex11
import Derived.Test.YthngaoncjpgeiaaGreatDoorT1
import Derived.Test.YthngaoncjpgeiaaGreatDoorShU
set_option linter.unusedVariables false
set_option linter.unusedSimpArgs false
namespace Go.Proofs.YthngaoncjpgeiaaGreatDoorE
open Go Go.E Go.Proofs

/-- Words with single blanks between. -/
def Simple (l : List UInt8) : Bool := l.all (fun b => decide (b.toNat < 128) && (!Lib.isSp b || decide (b = 32)) && (Lib.isSp b || decide (b ≠ 32))) && (pieces 32 l).all (fun p => !p.isEmpty)
theorem Simple.byte {l : List UInt8} (h : Simple l = true) {b : UInt8} (hb : b ∈ l) : b.toNat < 128 ∧ Lib.isSp b = decide (b = 32) := by
  unfold Simple at h
  rw [Bool.and_eq_true] at h
  have := List.all_eq_true.1 h.1 b hb
  simp only [Bool.and_eq_true, decide_eq_true_eq, Bool.or_eq_true, Bool.not_eq_true'] at this
  refine ⟨this.1.1, ?_⟩
  rcases this.1.2 with h1 | h1
  · rw [h1]
    rcases this.2 with h2 | h2
    · rw [h1] at h2; cases h2
    · rw [decide_eq_false h2]
  · rw [decide_eq_true h1]
    rcases this.2 with h2 | h2
    · exact h2
    · exact absurd h1 h2
theorem Simple.piece {l : List UInt8} (h : Simple l = true) {p : List UInt8} (hp : p ∈ pieces 32 l) : p ≠ [] := by
  unfold Simple at h
  rw [Bool.and_eq_true] at h
  have := List.all_eq_true.1 h.2 p hp
  intro e
  subst e
  cases this
def cntW : Bool → List UInt8 → Nat
  | _, [] => 0
  | ws, b :: r => (if ws = true ∧ b ≠ 32 then 1 else 0) + cntW (decide (b = 32)) r
theorem cntW_pieces (l : List UInt8) (h : ∀ p ∈ (pieces 32 l).tail, p ≠ []) : cntW false l + 1 = (pieces 32 l).length ∧ ((pieces 32 l).head? ≠ some [] → cntW true l = (pieces 32 l).length) := by
  induction l with
  | nil => exact ⟨rfl, fun h => absurd rfl h⟩
  | cons b r ih =>
    rw [pieces_cons'] at h ⊢
    by_cases hb : b = 32
    · subst hb
      rw [if_pos rfl] at h ⊢
      have h2 : ∀ p ∈ pieces 32 r, p ≠ [] := h
      have hne := pieces_ne 32 r
      have ih' := ih fun p hp => h2 p (List.mem_of_mem_tail hp)
      have hh : (pieces 32 r).head? ≠ some [] := by
        cases hp : pieces 32 r with
        | nil => exact absurd hp hne
        | cons x y => rw [hp] at h2; intro e; simp at e; exact h2 x (by simp) e
      refine ⟨?_, fun hc => absurd rfl hc⟩
      show (if _ then _ else _) + cntW (decide ((32 : UInt8) = 32)) r + 1 = _
      rw [decide_eq_true rfl, ih'.2 hh]
      simp
    · rw [if_neg hb] at h ⊢
      cases hp : pieces 32 r with
      | nil => exact absurd hp (pieces_ne 32 r)
      | cons x y =>
        rw [hp] at h ih
        have ih' := ih h
        have e : decide (b = 32) = false := decide_eq_false hb
        refine ⟨?_, fun _ => ?_⟩
        · show (if _ then _ else _) + cntW (decide (b = 32)) r + 1 = _
          rw [e]
          simp at ih' ⊢
          omega
        · show (if _ then _ else _) + cntW (decide (b = 32)) r = _
          rw [e, if_pos ⟨rfl, hb⟩]
          simp at ih' ⊢
          omega
theorem elemA_ok {i k len z n : Nat} (h : n < len) : elemA (ptr i k) len (n : Int) z = some (i, k + n * z) := by
  have h1 : (0 : Int) ≤ (n : Int) := by omega
  have h2 : (n : Int) < (len : Int) := by omega
  unfold ptr elemA
  simp only [decide_eq_true h1, decide_eq_true h2, Bool.and_self, cond_true, Int.toNat_natCast]
theorem ascii_ld {st : SS} (hg : Gd st) {b : UInt8} : st.ld 1 (0 + b.toNat * 1) = some (.int .u8 (if Lib.isSp b = true then 1 else 0)) := by
  rw [SS.ld_table hg.gS]
  have hb := b.toNat_lt
  have e : 0 + b.toNat * 1 = b.toNat := by omega
  unfold asciiC Lib.asciiSpaceTab
  rw [e, List.getElem?_map, List.getElem?_map, List.getElem?_range hb]
  simp
theorem orU8_lt {a b : Nat} (ha : a < 128) (hb : b < 128) : ∃ c : Nat, orI .u8 (a : Int) (b : Int) = (c : Int) ∧ c < 128 := by
  refine ⟨a ||| b, ?_, Nat.or_lt_two_pow (n := 7) ha hb⟩
  have h : a ||| b < 128 := Nat.or_lt_two_pow (n := 7) ha hb
  unfold orI
  have e : ((BitVec.ofInt 8 (a : Int) ||| BitVec.ofInt 8 (b : Int)).toNat : Nat) = a ||| b := by
    rw [BitVec.toNat_or, BitVec.toNat_ofInt, BitVec.toNat_ofInt]
    congr 1 <;> omega
  show IntKind.wrap .u8 (((BitVec.ofInt 8 (a : Int) ||| BitVec.ofInt 8 (b : Int)).toNat : Nat) : Int) = _
  rw [e, wrapU8 (by omega) (by omega)]
theorem flip_and (w x : Bool) : andI .i64 (if w = true then 1 else 0) (xorI .i64 (-1) (if x = true then 1 else 0)) = if w = true ∧ x = false then 1 else 0 := by
  cases w <;> cases x <;> decide

theorem fcount_loop [Sym] (s : ByteArray) (hs : s.size ≤ 4294967296) (hsim : Simple (bl s) = true) (st : SS) (hg : Gd st) : ∀ (k i n sb : Nat) (ws : Bool), s.size = k + i → sb < 128 → n ≤ i →
    ∃ sb', sb' < 128 ∧ strings_Fields_lf 5 [.string s, .int .i64 n, .int .i64 (if ws = true then 1 else 0), .int .u8 sb, .int .i64 i] st = some (0, [.string s, .int .i64 ((n + cntW ws ((bl s).drop i) : Nat) : Int), .int .u8 ((sb' : Nat) : Int)], st) := by
  intro k
  induction k with
  | zero =>
    intro i n sb ws hk hsb hn
    have hlt : ¬ (i : Int) < (s.size : Int) := by omega
    refine ⟨sb, hsb, strings_Fields_l5_eq s _ _ _ _ st ?_⟩
    rw [List.drop_of_length_le (by rw [bl_length]; omega)]
    simp only [strings_Fields_l5, decide_eq_false hlt, cond_false]
    rfl
  | succ k ih =>
    intro i n sb ws hk hsb hn
    obtain ⟨b, hb⟩ : ∃ b, (bl s)[i]? = some b := ⟨_, List.getElem?_eq_getElem (by rw [bl_length]; omega)⟩
    have hlt : (i : Int) < (s.size : Int) := by omega
    obtain ⟨b128, bsp⟩ := Simple.byte hsim (List.mem_of_getElem? hb)
    obtain ⟨c, hc1, hc2⟩ := orU8_lt hsb b128
    have he : elemA (ptr 1 0) 256 (b.toNat : Int) 1 = some (1, 0 + b.toNat * 1) := elemA_ok (by have := b.toNat_lt; omega)
    have hl := ascii_ld hg (b := b)
    rw [bsp] at hl
    have hw : IntKind.wrap .i64 (if decide (b = 32) = true then (1 : Int) else 0) = (if decide (b = 32) = true then 1 else 0) := by cases decide (b = 32) <;> decide
    have hn1 : IntKind.wrap .i64 ((n : Int) + (if ws = true ∧ decide (b = 32) = false then 1 else 0)) = ((n + (if ws = true ∧ b ≠ 32 then 1 else 0) : Nat) : Int) := by
      have e : (ws = true ∧ decide (b = 32) = false) ↔ (ws = true ∧ b ≠ 32) := by simp
      by_cases h : ws = true ∧ b ≠ 32
      · rw [if_pos (e.2 h), if_pos h, wrap64 (by omega) (by omega)]; omega
      · rw [if_neg (fun x => h (e.1 x)), if_neg h, wrap64 (by omega) (by omega)]; omega
    obtain ⟨sb', h1, h2⟩ := ih (i + 1) (n + (if ws = true ∧ b ≠ 32 then 1 else 0)) c (decide (b = 32)) (by omega) hc2 (by split <;> omega)
    refine ⟨sb', h1, strings_Fields_l5_eq s _ _ _ _ st ?_⟩
    have hd := drop_cons hb
    have hcnt : n + cntW ws ((bl s).drop i) = n + (if ws = true ∧ b ≠ 32 then 1 else 0) + cntW (decide (b = 32)) ((bl s).drop (i + 1)) := by
      rw [hd]
      show n + ((if ws = true ∧ b ≠ 32 then 1 else 0) + _) = _
      omega
    rw [hcnt]
    simp only [strings_Fields_l5, decide_eq_true hlt, cond_true, idx_at' hb, Option.bind_some, hc1, he, hl, asI_int, flip_and, hw, hn1, wrapI1 (show i ≤ 1099511627776 by omega)]
    exact h2
/-- At a word's first sign nothing is skipped. -/
theorem fskip18 [Sym] (s : ByteArray) (hs : s.size ≤ 4294967296) (hsim : Simple (bl s) = true) (st : SS) (hg : Gd st) (a : Value) (na : Int) (i : Nat) (h : ∀ b, (bl s)[i]? = some b → b ≠ 32) :
    strings_Fields_lf 18 [.string s, a, .int .i64 na, .int .i64 i] st = some (0, [.string s, a, .int .i64 na, .int .i64 i], st) := by
  refine strings_Fields_l18_eq s a _ _ st ?_
  by_cases hlt : (i : Int) < (s.size : Int)
  · obtain ⟨b, hb⟩ : ∃ b, (bl s)[i]? = some b := ⟨_, List.getElem?_eq_getElem (by rw [bl_length]; omega)⟩
    obtain ⟨b128, bsp⟩ := Simple.byte hsim (List.mem_of_getElem? hb)
    have he : elemA (ptr 1 0) 256 (b.toNat : Int) 1 = some (1, 0 + b.toNat * 1) := elemA_ok (by have := b.toNat_lt; omega)
    have hl := ascii_ld hg (b := b)
    rw [bsp, decide_eq_false (h b hb), if_neg (by decide)] at hl
    simp only [strings_Fields_l18, decide_eq_true hlt, cond_true, idx_at' hb, Option.bind_some, he, hl, asI_int, decide_true, Bool.not_true, cond_false]
  · simp only [strings_Fields_l18, decide_eq_false hlt, cond_false]
theorem fskip27 [Sym] (s : ByteArray) (hs : s.size ≤ 4294967296) (hsim : Simple (bl s) = true) (st : SS) (hg : Gd st) (a : Value) (na : Int) (i : Nat) (h : ∀ b, (bl s)[i]? = some b → b ≠ 32) :
    strings_Fields_lf 27 [.string s, a, .int .i64 na, .int .i64 i] st = some (0, [.string s, a, .int .i64 na, .int .i64 i], st) := by
  refine strings_Fields_l27_eq s a _ _ st ?_
  by_cases hlt : (i : Int) < (s.size : Int)
  · obtain ⟨b, hb⟩ : ∃ b, (bl s)[i]? = some b := ⟨_, List.getElem?_eq_getElem (by rw [bl_length]; omega)⟩
    obtain ⟨b128, bsp⟩ := Simple.byte hsim (List.mem_of_getElem? hb)
    have he : elemA (ptr 1 0) 256 (b.toNat : Int) 1 = some (1, 0 + b.toNat * 1) := elemA_ok (by have := b.toNat_lt; omega)
    have hl := ascii_ld hg (b := b)
    rw [bsp, decide_eq_false (h b hb), if_neg (by decide)] at hl
    simp only [strings_Fields_l27, decide_eq_true hlt, cond_true, idx_at' hb, Option.bind_some, he, hl, asI_int, decide_true, Bool.not_true, cond_false]
  · simp only [strings_Fields_l27, decide_eq_false hlt, cond_false]
theorem fmain_loop [Sym] (s : ByteArray) (hs : s.size ≤ 4294967296) (hsim : Simple (bl s) = true) (N j : Nat) (hN : N = (pieces 32 (bl s)).length) (st0 : SS) (hg : Gd st0) (hj0 : st0.next ≤ j) : ∀ (k i f : Nat) (done : List (List UInt8)) (st : SS), s.size = k + i → f ≤ i →
    done ++ addHead (((bl s).drop f).take (i - f)) (pieces 32 ((bl s).drop i)) = pieces 32 (bl s) → Ext st0 st → j < st.next → st.lim ≤ j → st.mem.get j = some (.cells (strs done ++ List.replicate (N - done.length) (Value.string ⟨#[]⟩)) 1) →
    ∃ f' done' st', strings_Fields_lf 21 [.string s, .slice (some ⟨j, 0, none⟩) N N, .int .i64 done.length, .int .i64 f, .int .i64 i] st = some (0, [.string s, .slice (some ⟨j, 0, none⟩) N N, .int .i64 ((done'.length : Nat) : Int), .int .i64 ((f' : Nat) : Int)], st') ∧
      Ext st0 st' ∧ st'.next = st.next ∧ st'.lim = st.lim ∧ done' ++ [(bl s).drop f'] = pieces 32 (bl s) ∧ f' ≤ s.size ∧ st'.mem.get j = some (.cells (strs done' ++ List.replicate (N - done'.length) (Value.string ⟨#[]⟩)) 1) := by
  have hplen := pieces_len 32 (bl s)
  rw [bl_length] at hplen
  intro k
  induction k with
  | zero =>
    intro i f done st hk hf hp he hj hlim hm
    have hlt : ¬ (i : Int) < (s.size : Int) := by omega
    refine ⟨f, done, st, strings_Fields_l21_eq s _ _ _ _ st ?_, he, rfl, rfl, ?_, by omega, hm⟩
    · simp only [strings_Fields_l21, decide_eq_false hlt, cond_false]
    · rw [← hp, List.drop_of_length_le (i := i) (by rw [bl_length]; omega)]
      show done ++ [_] = done ++ [_ ++ []]
      rw [List.append_nil, List.take_of_length_le (by rw [List.length_drop, bl_length]; omega)]
  | succ k ih =>
    intro i f done st hk hf hp he hj hlim hm
    obtain ⟨b, hb⟩ : ∃ b, (bl s)[i]? = some b := ⟨_, List.getElem?_eq_getElem (by rw [bl_length]; omega)⟩
    have hlt : (i : Int) < (s.size : Int) := by omega
    obtain ⟨b128, bsp⟩ := Simple.byte hsim (List.mem_of_getElem? hb)
    have hea : elemA (ptr 1 0) 256 (b.toNat : Int) 1 = some (1, 0 + b.toNat * 1) := elemA_ok (by have := b.toNat_lt; omega)
    have hl := ascii_ld (hg.ext he) (b := b)
    rw [bsp] at hl
    have hd := drop_cons hb
    have hw := wrapI1 (show i ≤ 1099511627776 by omega)
    by_cases h32 : b = 32
    · rw [decide_eq_true h32, if_pos rfl] at hl
      rw [hd, pieces_cons', if_pos h32] at hp
      have hp' : done ++ ((((bl s).drop f).take (i - f)) ++ []) :: pieces 32 ((bl s).drop (i + 1)) = pieces 32 (bl s) := hp
      rw [List.append_nil] at hp'
      have hdl : done.length < N := by
        have := congrArg List.length hp'
        simp at this
        omega
      have hsub : subS s (f : Int) (i : Int) = some (mkS (((bl s).drop f).take (i - f))) := by
        have := subS_mid (s := s) (col := f) (n := i - f) (by omega)
        rw [show f + (i - f) = i by omega] at this
        exact this
      have hel : elemS (.slice (some ⟨j, 0, none⟩) N N) (done.length : Int) 1 = some (j, 0 + done.length * 1) := by
        unfold elemS
        have h1 : (0 : Int) ≤ (done.length : Int) := by omega
        have h2 : (done.length : Int) < (N : Int) := by omega
        simp only [decide_eq_true h1, decide_eq_true h2, Bool.and_self, cond_true, Int.toNat_natCast]
      have hst : st.st j (0 + done.length * 1) [.string (mkS (((bl s).drop f).take (i - f)))] = some (st.set j (some (.cells (strs (done ++ [((bl s).drop f).take (i - f)]) ++ List.replicate (N - (done.length + 1)) (Value.string ⟨#[]⟩)) 1))) := by
        refine SS.st_cells hm hlim rfl ?_
        obtain ⟨q, hq⟩ : ∃ q, N - done.length = q + 1 := ⟨N - done.length - 1, by omega⟩
        have hq2 : N - (done.length + 1) = q := by omega
        rw [hq, hq2, splice_of (by simp [strs])]
        have := strs_rep done q (((bl s).drop f).take (i - f))
        rw [show 0 + done.length * 1 = done.length by omega]
        exact congrArg some this
      have hx : Ext st0 (st.set j (some (.cells (strs (done ++ [((bl s).drop f).take (i - f)]) ++ List.replicate (N - (done.length + 1)) (Value.string ⟨#[]⟩)) 1))) := he.set hj0 _
      have hnext : ∀ b', (bl s)[i + 1]? = some b' → b' ≠ 32 := by
        intro b' hb' e
        have hd' := drop_cons hb'
        rw [hd', e, pieces_cons', if_pos rfl] at hp'
        exact Simple.piece hsim (p := []) (by rw [← hp']; simp) rfl
      have hsk := fskip27 s hs hsim _ (hg.ext hx) (.slice (some ⟨j, 0, none⟩) N N) ((done.length + 1 : Nat) : Int) (i + 1) hnext
      obtain ⟨f', done', st', d1, d2, d3, d4, d5, d6, d7⟩ := ih (i + 1) (i + 1) (done ++ [((bl s).drop f).take (i - f)]) (st.set j (some (.cells (strs (done ++ [((bl s).drop f).take (i - f)]) ++ List.replicate (N - (done.length + 1)) (Value.string ⟨#[]⟩)) 1))) (by omega) (Nat.le_refl _) (by
          rw [Nat.sub_self, List.take_zero, addHead_nil (pieces_ne _ _), List.append_assoc]; exact hp') hx hj hlim (by simp)
      have hdw := wrapI1 (show done.length ≤ 1099511627776 by omega)
      have h10 : ¬ (1 : Int) = 0 := by omega
      refine ⟨f', done', st', strings_Fields_l21_eq s _ _ _ _ st ?_, d2, d3, d4, d5, d6, d7⟩
      simp only [strings_Fields_l21, decide_eq_true hlt, cond_true, idx_at' hb, Option.bind_some, hea, hl, asI_int, decide_eq_false h10, cond_false, hsub, hel, hst, hdw, hw]
      rw [hsk, Option.bind_some]
      simp only [List.getElem?_cons_succ, List.getElem?_cons_zero, Option.bind_some, asS_string, asI_int]
      simpa using d1
    · rw [decide_eq_false h32, if_neg (by decide)] at hl
      have hcur : ((bl s).drop f).take (i + 1 - f) = ((bl s).drop f).take (i - f) ++ [b] := by
        rw [show i + 1 - f = (i - f) + 1 by omega]
        refine take_succ'' ?_
        rw [List.getElem?_drop, show f + (i - f) = i by omega]; exact hb
      obtain ⟨f', done', st', d1, d2, d3, d4, d5, d6, d7⟩ := ih (i + 1) f done st (by omega) (by omega) (by
          rw [hcur, ← addHead_snoc _ _ _ _ h32, ← hd]; exact hp) he hj hlim hm
      refine ⟨f', done', st', strings_Fields_l21_eq s _ _ _ _ st ?_, d2, d3, d4, d5, d6, d7⟩
      simp only [strings_Fields_l21, decide_eq_true hlt, cond_true, idx_at' hb, Option.bind_some, hea, hl, asI_int, decide_true, hw]
      exact d1
theorem fields_ok [Sym] (s : ByteArray) (hs : s.size ≤ 4294967296) (hsim : Simple (bl s) = true) (st : SS) (hg : Gd st) (hll : st.lim ≤ st.next) :
    ∃ v st', cc 82 [.string s] st = some (v, st') ∧ Ext st st' ∧ Own st.next st' v (strs (pieces 32 (bl s))) 1 (pieces 32 (bl s)).length := by
  have hplen := pieces_len 32 (bl s)
  rw [bl_length] at hplen
  have hall : ∀ p ∈ pieces 32 (bl s), p ≠ [] := fun p hp => Simple.piece hsim hp
  have hne := pieces_ne 32 (bl s)
  have hhd : (pieces 32 (bl s)).head? ≠ some [] := by
    cases hp : pieces 32 (bl s) with
    | nil => exact absurd hp hne
    | cons x y => rw [hp] at hall; intro e; simp at e; exact hall x (by simp) e
  obtain ⟨sb, hsb, c1⟩ := fcount_loop s hs hsim st hg s.size 0 0 0 true (by omega) (by omega) (by omega)
  have hcnt := (cntW_pieces (bl s) (fun p hp => hall p (List.mem_of_mem_tail hp))).2 hhd
  rw [List.drop_zero, Nat.zero_add, hcnt] at c1
  have c1' : strings_Fields_lf 5 [.string s, .int .i64 0, .int .i64 1, .int .u8 0, .int .i64 0] st = some (0, [.string s, .int .i64 ((pieces 32 (bl s)).length : Int), .int .u8 (sb : Int)], st) := c1
  have h128 : ¬ (128 : Int) ≤ (sb : Int) := by omega
  have hmk : mkLen ((pieces 32 (bl s)).length : Int) ((pieces 32 (bl s)).length : Int) 16 = some () := mkLen_ok (by omega) (by omega) (by omega)
  have hz : zerosS [Value.string ⟨#[]⟩] ((pieces 32 (bl s)).length : Int) = List.replicate (pieces 32 (bl s)).length (Value.string ⟨#[]⟩) := zerosS_one _ _
  have x1 : Ext st (st.new (.cells (List.replicate (pieces 32 (bl s)).length (Value.string ⟨#[]⟩)) 1)) := (Ext.refl st).new _
  have hfirst : ∀ b, (bl s)[0]? = some b → b ≠ 32 := by
    intro b hb e
    have hd := drop_cons hb
    rw [List.drop_zero] at hd
    rw [hd, e, pieces_cons', if_pos rfl] at hhd
    exact hhd rfl
  have hsk := fskip18 s hs hsim _ (hg.ext x1) (.slice (some ⟨st.next, 0, none⟩) (pieces 32 (bl s)).length (pieces 32 (bl s)).length) 0 0 hfirst
  obtain ⟨f', done', st', d1, d2, d3, d4, d5, d6, d7⟩ := fmain_loop s hs hsim (pieces 32 (bl s)).length st.next rfl st hg (Nat.le_refl _) s.size 0 0 [] (st.new (.cells (List.replicate (pieces 32 (bl s)).length (Value.string ⟨#[]⟩)) 1)) (by omega) (by omega) (by
      rw [List.drop_zero]; show addHead (List.take (0 - 0) (bl s)) _ = _; rw [Nat.sub_self, List.take_zero, addHead_nil hne]) x1 (by simp) hll (by simp [strs])
  have d1' : strings_Fields_lf 21 [.string s, .slice (some ⟨st.next, 0, none⟩) (pieces 32 (bl s)).length (pieces 32 (bl s)).length, .int .i64 0, .int .i64 0, .int .i64 0] (st.new (.cells (List.replicate (pieces 32 (bl s)).length (Value.string ⟨#[]⟩)) 1)) = some (0, [.string s, .slice (some ⟨st.next, 0, none⟩) (pieces 32 (bl s)).length (pieces 32 (bl s)).length, .int .i64 ((done'.length : Nat) : Int), .int .i64 ((f' : Nat) : Int)], st') := d1
  have hlen : (pieces 32 (bl s)).length = done'.length + 1 := by rw [← d5]; simp
  have hlast : (bl s).drop f' ≠ [] := hall _ (by rw [← d5]; simp)
  have hf' : f' < s.size := by
    have : ((bl s).drop f').length ≠ 0 := fun e => hlast (List.length_eq_zero_iff.1 e)
    rw [List.length_drop, bl_length] at this
    omega
  have hlt : (f' : Int) < (s.size : Int) := by omega
  have hsub : subS s (f' : Int) (s.size : Int) = some (mkS ((bl s).drop f')) := subS_tail (by omega)
  have hel : elemS (.slice (some ⟨st.next, 0, none⟩) (pieces 32 (bl s)).length (pieces 32 (bl s)).length) (done'.length : Int) 1 = some (st.next, 0 + done'.length * 1) := by
    unfold elemS
    have h1 : (0 : Int) ≤ (done'.length : Int) := by omega
    have h2 : (done'.length : Int) < ((pieces 32 (bl s)).length : Int) := by omega
    simp only [decide_eq_true h1, decide_eq_true h2, Bool.and_self, cond_true, Int.toNat_natCast]
  have hst : st'.st st.next (0 + done'.length * 1) [.string (mkS ((bl s).drop f'))] = some (st'.set st.next (some (.cells (strs (pieces 32 (bl s))) 1))) := by
    refine SS.st_cells d7 (by rw [d4]; exact hll) rfl ?_
    have hq : (pieces 32 (bl s)).length - done'.length = 0 + 1 := by omega
    rw [hq, splice_of (by simp [strs])]
    have := strs_rep done' 0 ((bl s).drop f')
    rw [show 0 + done'.length * 1 = done'.length by omega]
    exact congrArg some (this.trans (by rw [d5]; simp))
  refine ⟨.slice (some ⟨st.next, 0, none⟩) (pieces 32 (bl s)).length (pieces 32 (bl s)).length, st'.set st.next (some (.cells (strs (pieces 32 (bl s))) 1)), strings_Fields_eq s st ?_, d2.set (Nat.le_refl _) _, by simp, .inr ⟨st.next, rfl, by omega, by simp, Nat.le_refl _, by simp [d3]⟩⟩
  simp only [strings_Fields]
  rw [c1', Option.bind_some]
  simp only [List.getElem?_cons_succ, List.getElem?_cons_zero, Option.bind_some, asS_string, asI_int, decide_eq_false h128, cond_false, hmk, hz, Int.toNat_natCast]
  have hsk' : strings_Fields_lf 18 [.string s, .slice (some ⟨st.next, 0, none⟩) (pieces 32 (bl s)).length (pieces 32 (bl s)).length, .int .i64 0, .int .i64 0] (st.new (.cells (List.replicate (pieces 32 (bl s)).length (Value.string ⟨#[]⟩)) 1)) = some (0, [.string s, .slice (some ⟨st.next, 0, none⟩) (pieces 32 (bl s)).length (pieces 32 (bl s)).length, .int .i64 0, .int .i64 0], st.new (.cells (List.replicate (pieces 32 (bl s)).length (Value.string ⟨#[]⟩)) 1)) := hsk
  rw [hsk', Option.bind_some]
  simp only [List.getElem?_cons_succ, List.getElem?_cons_zero, Option.bind_some, asS_string, asI_int]
  have d1'' : strings_Fields_lf 21 [.string s, .slice (some ⟨st.next, 0, none⟩) (pieces 32 (bl s)).length (pieces 32 (bl s)).length, .int .i64 0, .int .i64 0, .int .i64 0] (st.new (.cells (List.replicate (pieces 32 (bl s)).length (Value.string ⟨#[]⟩)) 1)) = _ := d1'
  rw [d1'', Option.bind_some]
  simp only [List.getElem?_cons_succ, List.getElem?_cons_zero, Option.bind_some, asS_string, asI_int, decide_eq_true hlt, cond_true, hsub, hel, hst]
theorem row_ok [Sym] (s : ByteArray) (hs : s.size ≤ 4294967296) (hsim : Simple (bl s) = true) (st : SS) (hg : Gd st) (hll : st.lim ≤ st.next) :
    ∃ v st', cc 53 [.string s] st = some (v, st') ∧ Ext st st' ∧ Own st.next st' v (strs (pieces 32 (bl s))) 1 (pieces 32 (bl s)).length := by
  obtain ⟨v, st', c, x, o⟩ := fields_ok s hs hsim st hg hll
  refine ⟨v, st', uasm_row_eq s st ?_, x, o⟩
  simp only [uasm_row, c, Option.bind_some]
end Go.Proofs.YthngaoncjpgeiaaGreatDoorE
