/- What the lexer's small functions come to. -/
import Derived.Test.YthngaoncjpgeiaaGreatDoorShA
set_option linter.unusedVariables false
set_option linter.unusedSimpArgs false
namespace Go.Proofs.YthngaoncjpgeiaaGreatDoorE
open Go Go.E Go.Proofs

/-! ### Signs -/
def letterI (c : Int) : Bool := (decide (97 ≤ c) && decide (c ≤ 122)) || (decide (65 ≤ c) && decide (c ≤ 90)) || decide (c = 95)
def digitI (c : Int) : Bool := decide (48 ≤ c) && decide (c ≤ 57)
theorem letter_ok [Sym] (c : Int) (st : SS) : cc 114 [.int .u8 c] st = some (.bool (letterI c), st) := by
  refine ulex_letter_eq c st ?_
  unfold ulex_letter letterI
  cases decide (97 ≤ c) <;> cases decide (c ≤ 122) <;> cases decide (65 ≤ c) <;> cases decide (c ≤ 90) <;> simp
theorem digit_ok [Sym] (c : Int) (st : SS) : cc 116 [.int .u8 c] st = some (.bool (digitI c), st) := by
  refine ulex_digit_eq c st ?_
  unfold ulex_digit digitI
  cases decide (48 ≤ c) <;> cases decide (c ≤ 57) <;> simp
/-- Of a name, or a number. -/
def nameB (b : UInt8) : Bool := letterI b.toNat || digitI b.toNat
theorem nameB_lt {b : UInt8} (h : nameB b = true) : b.toNat < 128 := by
  unfold nameB letterI digitI at h
  simp only [Bool.or_eq_true, Bool.and_eq_true, decide_eq_true_eq] at h
  omega
def runL (l : List UInt8) : Nat := (l.takeWhile nameB).length

theorem get!_of {s : ByteArray} {i : Nat} {b : UInt8} (h : (bl s)[i]? = some b) : s.get! i = b := by
  unfold bl at h
  rw [Array.getElem?_toList] at h
  show s.data[i]! = b
  rw [getElem!_def, h]
/-- A rune that is told of a byte. -/
theorem decode_small {s : ByteArray} {i : Nat} {b : UInt8} (h : (bl s)[i]? = some b) (hb : b.toNat < 128) : Utf8.decode s i = (b.toNat, 1) := by
  unfold Utf8.decode
  simp only [Nat.add_zero, get!_of h, if_pos hb]
theorem decode_big {s : ByteArray} {i : Nat} {b : UInt8} (h : (bl s)[i]? = some b) (hb : 128 ≤ b.toNat) : 128 ≤ (Utf8.decode s i).1 := by
  unfold Utf8.decode
  simp only [Nat.add_zero, get!_of h, if_neg (Nat.not_lt.2 hb)]
  repeat' split
  all_goals simp_all [Utf8.runeError]
  all_goals omega

theorem drop_cons {α : Type} {l : List α} {i : Nat} {b : α} (h : l[i]? = some b) : l.drop i = b :: l.drop (i + 1) := by
  obtain ⟨h1, h2⟩ := List.getElem?_eq_some_iff.1 h
  rw [List.drop_eq_getElem_cons h1, h2]

theorem runL_cons {b : UInt8} {l : List UInt8} : runL (b :: l) = if nameB b then 1 + runL l else 0 := by
  unfold runL
  simp only [List.takeWhile_cons]
  split <;> simp; omega
theorem bl_drop_nil (s : ByteArray) : (bl s).drop s.size = [] := by
  rw [List.drop_eq_nil_iff]; simp

/-- The loop: over what is left. -/
theorem run_loop [Sym] (s : ByteArray) (i : Nat) : ∀ (k p : Nat) (st : SS), k + p = s.size → st.mem.get i = some (.iter s p) → st.lim ≤ i →
    ∃ idx vs st', ulex_run_lf 2 [.string s, ptr i 0] st = some (idx, vs, st') ∧ st'.next = st.next ∧
      ((idx = 0 ∧ vs = [.string s] ∧ p + runL ((bl s).drop p) = s.size) ∨ (idx = 1 ∧ vs = [.int .i64 ((p + runL ((bl s).drop p) : Nat) : Int)])) := by
  intro k
  induction k with
  | zero =>
    intro p st hk hm hl
    have hp : p = s.size := by omega
    subst hp
    refine ⟨0, [.string s], st, ulex_run_l2_eq s _ st ?_, rfl, .inl ⟨rfl, rfl, by rw [bl_drop_nil]; rfl⟩⟩
    simp [ulex_run_l2, addr?, ptr, SS.iterG_get hm, hl]
  | succ k ih =>
    intro p st hk hm hl
    have hlt : p < s.size := by omega
    have hb : ∃ b, (bl s)[p]? = some b := ⟨_, List.getElem?_eq_getElem (by rw [bl_length]; exact hlt)⟩
    obtain ⟨b, hb⟩ := hb
    have hd := drop_cons hb
    by_cases hbig : 128 ≤ b.toNat
    · have hdec := decode_big hb hbig
      have hn : nameB b = false := by
        cases h : nameB b with
        | false => rfl
        | true => have := nameB_lt h; omega
      refine ⟨1, [.int .i64 (p : Int)], st.set i (some (.iter s (p + (Utf8.decode s p).2))), ulex_run_l2_eq s _ st ?_, rfl, .inr ⟨rfl, by rw [hd, runL_cons, hn]; simp⟩⟩
      have h128 : (128 : Int) ≤ ((Utf8.decode s p).1 : Int) := by omega
      simp [ulex_run_l2, addr?, ptr, SS.iterG_get hm, hl, hlt, h128]
    · have hdec := decode_small hb (by omega)
      have h128 : ¬ (128 : Int) ≤ (b.toNat : Int) := by omega
      have hw : IntKind.wrap .u8 (b.toNat : Int) = b.toNat := wrapU8 (by omega) (u8_lt b)
      cases hn : nameB b with
      | false =>
        unfold nameB at hn
        simp only [Bool.or_eq_false_iff] at hn
        refine ⟨1, [.int .i64 (p : Int)], st.set i (some (.iter s (p + 1))), ulex_run_l2_eq s _ st ?_, rfl, .inr ⟨rfl, by rw [hd, runL_cons, nameB, hn.1, hn.2]; simp⟩⟩
        simp [ulex_run_l2, addr?, ptr, SS.iterG_get hm, hl, hlt, hdec, h128, hw, letter_ok, digit_ok, hn.1, hn.2]
      | true =>
        obtain ⟨idx, vs, st', h1, h2, h3⟩ := ih (p + 1) (st.set i (some (.iter s (p + 1)))) (by omega) (by simp) hl
        refine ⟨idx, vs, st', ulex_run_l2_eq s _ st ?_, h2, ?_⟩
        · have hn' := hn
          unfold nameB at hn'
          cases hl1 : letterI b.toNat with
          | true => simpa [ulex_run_l2, addr?, ptr, SS.iterG_get hm, hl, hlt, hdec, h128, hw, letter_ok, hl1] using h1
          | false =>
            rw [hl1, Bool.false_or] at hn'
            simpa [ulex_run_l2, addr?, ptr, SS.iterG_get hm, hl, hlt, hdec, h128, hw, letter_ok, digit_ok, hl1, hn'] using h1
        · rw [hd, runL_cons, hn, if_pos rfl]
          rcases h3 with ⟨a, b', c⟩ | ⟨a, b'⟩
          · exact .inl ⟨a, b', by omega⟩
          · exact .inr ⟨a, by rw [b']; congr 2; omega⟩
theorem run_ok [Sym] (s : ByteArray) (st : SS) : ∃ n, st.next ≤ n ∧ cc 115 [.string s] st = some (.int .i64 (runL (bl s) : Nat), st.adv n) := by
  obtain ⟨idx, vs, st', h1, h2, h3⟩ := run_loop s st.next s.size 0 ((st.ro st.next).new (.iter s 0)) (by omega) (SS.new_get (st := st.ro st.next)) (Nat.le_refl _)
  refine ⟨st'.next, by rw [h2]; simp, ulex_run_eq s st ?_⟩
  rcases h3 with ⟨rfl, rfl, h⟩ | ⟨rfl, rfl⟩
  · simp only [List.drop_zero, Nat.zero_add] at h
    simp [ulex_run, h1, h]
  · simp [ulex_run, h1]

/-! ### Texts as lists -/
def mkS (l : List UInt8) : ByteArray := ⟨⟨l⟩⟩
@[simp] theorem bl_mkS (l : List UInt8) : bl (mkS l) = l := rfl
@[simp] theorem mkS_bl (s : ByteArray) : mkS (bl s) = s := by cases s with | mk d => cases d; rfl
theorem mkS_inj {a b : List UInt8} (h : mkS a = mkS b) : a = b := by have := congrArg bl h; simpa using this
@[simp] theorem mkS_size (l : List UInt8) : (mkS l).size = l.length := rfl
theorem extract_mkS (s : ByteArray) (l h : Nat) : s.extract l h = mkS (((bl s).take h).drop l) := by
  rw [← bl_extract, mkS_bl]
theorem bl_inj {a b : ByteArray} (h : bl a = bl b) : a = b := by rw [← mkS_bl a, h, mkS_bl]
theorem eqT_iff' (a b : ByteArray) : eqT a b = decide (bl a = bl b) := rfl

/-- The pieces of a text between signs. -/
def pieces (c : UInt8) : List UInt8 → List (List UInt8)
  | [] => [[]]
  | b :: r => if b = c then [] :: pieces c r else match pieces c r with
    | [] => [[b]]
    | x :: y => (b :: x) :: y
def addHead (cur : List UInt8) : List (List UInt8) → List (List UInt8)
  | [] => [cur]
  | x :: y => (cur ++ x) :: y
theorem pieces_ne (c : UInt8) (l : List UInt8) : pieces c l ≠ [] := by
  cases l with
  | nil => simp [pieces]
  | cons b r =>
    unfold pieces
    split
    · simp
    · split <;> simp
theorem addHead_nil {p : List (List UInt8)} (h : p ≠ []) : addHead [] p = p := by cases p with | nil => exact absurd rfl h | cons x y => rfl
theorem addHead_snoc (cur : List UInt8) (b c : UInt8) (r : List UInt8) (h : b ≠ c) : addHead cur (pieces c (b :: r)) = addHead (cur ++ [b]) (pieces c r) := by
  show addHead cur (if b = c then [] :: pieces c r else match pieces c r with
    | [] => [[b]]
    | x :: y => (b :: x) :: y) = _
  rw [if_neg h]
  have := pieces_ne c r
  cases hp : pieces c r with
  | nil => exact absurd hp this
  | cons x y => simp [addHead]
theorem pieces_len (c : UInt8) (l : List UInt8) : (pieces c l).length ≤ l.length + 1 := by
  induction l with
  | nil => simp [pieces]
  | cons b r ih =>
    unfold pieces
    split
    · simp; omega
    · split <;> rename_i h <;> rw [h] at ih <;> simp at ih ⊢ <;> omega
def strs (l : List (List UInt8)) : List Value := l.map fun x => .string (mkS x)
@[simp] theorem strs_length (l : List (List UInt8)) : (strs l).length = l.length := by simp [strs]
theorem strs_append (a b : List (List UInt8)) : strs (a ++ b) = strs a ++ strs b := by simp [strs]
theorem strs_one (l : List (List UInt8)) : (strs l).all one = true := by simp [strs, one]

/-- A new block with one row, that is read. -/
theorem Rd.new1 {st : SS} {row : List Value} {z : Nat} (h : row.length = z) : Rd (st.new (.cells row z)) (.slice (some ⟨st.next, 0, none⟩) 1 1) row z 1 :=
  ⟨by rw [h, Nat.one_mul], .inr ⟨st.next, 1, rfl, ⟨z, SS.new_get⟩, by simp⟩⟩

theorem cut_loop [Sym] (s : ByteArray) (c : UInt8) (hs : s.size ≤ 4294967296) (st0 : SS) (hl : st0.lim ≤ st0.next) : ∀ (k i from' : Nat) (done : List (List UInt8)) (out : Value) (st : SS), k + i = s.size → from' ≤ i → done.length ≤ i → Ext st0 st → Own st0.next st out (strs done) 1 done.length →
    ∃ v st', camshaftref10_Cut_lf 4 [.string s, .int .u8 c.toNat, out, .int .i64 from', .int .i64 i] st = some (0, [v], st') ∧ Ext st0 st' ∧
      Own st0.next st' v (strs (done ++ addHead (((bl s).take i).drop from') (pieces c ((bl s).drop i)))) 1 (done ++ addHead (((bl s).take i).drop from') (pieces c ((bl s).drop i))).length := by
  -- the end
  have fin : ∀ (j f : Nat) (out : Value) (st : SS), s.size < j → camshaftref10_Cut_lf 4 [.string s, .int .u8 c.toNat, out, .int .i64 f, .int .i64 j] st = some (0, [out], st) := fun j f out st hj => by
    refine camshaftref10_Cut_l4_eq s _ out _ _ st ?_
    have : ¬ (j : Int) ≤ (s.size : Int) := by omega
    simp [camshaftref10_Cut_l4, this]
  -- a piece is added
  have add : ∀ (i from' : Nat) (done : List (List UInt8)) (out : Value) (st : SS), i ≤ s.size → from' ≤ i → done.length ≤ i → Ext st0 st → Own st0.next st out (strs done) 1 done.length →
      ∃ v st', (st.new (.cells ([.string (mkS (((bl s).take i).drop from'))]) 1)).app 1 16 out (.slice (some ⟨st.next, 0, none⟩) 1 1) = some (v, st') ∧ Ext st0 st' ∧ Own st0.next st' v (strs (done ++ [((bl s).take i).drop from'])) 1 (done ++ [((bl s).take i).drop from']).length := fun i from' done out st hi hf hd he ho => by
    obtain ⟨v, st', h1, h2, _, _, h5, _⟩ := (ho.ext (.new (.refl st) (.cells [.string (mkS (((bl s).take i).drop from'))] 1))).app (Rd.new1 (by rfl)) (by have := he.next; simp; omega) (by rw [SS.new_lim, he.lim]; exact hl) (by omega) (by rfl) (bt := 16) (by omega) (by omega)
    refine ⟨v, st', h1, h5 st0 (Nat.le_refl _) (he.new _), ?_⟩
    rw [strs_append, List.length_append]
    exact h2
  intro k
  induction k with
  | zero =>
    intro i from' done out st hk hf hd he ho
    have hi : i = s.size := by omega
    subst hi
    obtain ⟨v, st', h1, h2, h3⟩ := add s.size from' done out st (Nat.le_refl _) hf hd he ho
    refine ⟨v, st', camshaftref10_Cut_l4_eq s _ out _ _ st ?_, h2, ?_⟩
    · have hw : IntKind.wrap .i64 ((s.size : Int) + 1) = ((s.size + 1 : Nat) : Int) := by rw [wrap64 (by omega) (by omega)]; omega
      simp [camshaftref10_Cut_l4, sub_ok (s := s) (l := from') (h := s.size) (by omega) (by omega) (by omega), extract_mkS, h1, hw]
      simpa using fin (s.size + 1) (s.size + 1) v st' (by omega)
    · rw [bl_drop_nil]
      simpa [pieces, addHead] using h3
  | succ k ih =>
    intro i from' done out st hk hf hd he ho
    have hlt : i < s.size := by omega
    obtain ⟨b, hb⟩ : ∃ b, (bl s)[i]? = some b := ⟨_, List.getElem?_eq_getElem (by rw [bl_length]; exact hlt)⟩
    obtain ⟨b', hb', hidx⟩ := idx_lt (s := s) (i := (i : Int)) (by omega) (by omega)
    have : b' = b := by simp at hb'; rw [hb] at hb'; cases hb'; rfl
    subst this
    have h1 : (i : Int) ≤ (s.size : Int) := by omega
    have h2 : ¬ (i : Int) = (s.size : Int) := by omega
    have hw : IntKind.wrap .i64 ((i : Int) + 1) = ((i + 1 : Nat) : Int) := by rw [wrap64 (by omega) (by omega)]; omega
    by_cases hc : b' = c
    · subst hc
      obtain ⟨v, st', g1, g2, g3⟩ := add i from' done out st (by omega) hf hd he ho
      obtain ⟨w, st'', f1, f2, f3⟩ := ih (i + 1) (i + 1) (done ++ [((bl s).take i).drop from']) v st' (by omega) (by omega) (by simp; omega) g2 g3
      refine ⟨w, st'', camshaftref10_Cut_l4_eq s _ out _ _ st ?_, f2, ?_⟩
      · simp [camshaftref10_Cut_l4, h1, h2, hidx, sub_ok (s := s) (l := from') (h := i) (by omega) (by omega) (by omega), extract_mkS, g1, hw]
        simpa using f1
      · have e : ((bl s).take (i + 1)).drop (i + 1) = [] := by rw [List.drop_eq_nil_iff]; simp; omega
        rw [e, addHead_nil (pieces_ne _ _)] at f3
        have e2 : addHead (((bl s).take i).drop from') (pieces b' ((bl s).drop i)) = ((bl s).take i).drop from' :: pieces b' ((bl s).drop (i + 1)) := by
          rw [drop_cons hb]
          simp [pieces, addHead]
        rw [e2]
        simpa using f3
    · obtain ⟨w, st'', f1, f2, f3⟩ := ih (i + 1) from' done out st (by omega) (by omega) (by omega) he ho
      have hne : ¬ (b'.toNat : Int) = (c.toNat : Int) := fun h => hc (UInt8.toNat_inj.1 (by omega))
      refine ⟨w, st'', camshaftref10_Cut_l4_eq s _ out _ _ st ?_, f2, ?_⟩
      · simp [camshaftref10_Cut_l4, h1, h2, hidx, hne, hw]
        simpa using f1
      · have e : addHead (((bl s).take i).drop from') (pieces c ((bl s).drop i)) = addHead (((bl s).take (i + 1)).drop from') (pieces c ((bl s).drop (i + 1))) := by
          rw [drop_cons hb, addHead_snoc _ _ _ _ hc, List.take_add_one, hb]
          congr 1
          have hlen : from' ≤ ((bl s).take i).length := by simp; omega
          rw [List.drop_append_of_le_length hlen]
          rfl
        rw [e]; exact f3
theorem cut_ok [Sym] (s : ByteArray) (c : UInt8) (hs : s.size ≤ 4294967296) (st : SS) (hl : st.lim ≤ st.next) : ∃ v st', cc 54 [.string s, .int .u8 c.toNat] st = some (v, st') ∧ Ext st st' ∧
    Own st.next st' v (strs (pieces c (bl s))) 1 (pieces c (bl s)).length := by
  obtain ⟨v, st', h1, h2, h3⟩ := cut_loop s c hs st hl s.size 0 0 [] (.slice none 0 0) st (by omega) (by omega) (by simp) (.refl _) (Own.nil _ _ _)
  refine ⟨v, st', camshaftref10_Cut_eq s _ st ?_, h2, ?_⟩
  · have h1' : camshaftref10_Cut_lf 4 [.string s, .int .u8 c.toNat, .slice none 0 0, .int .i64 0, .int .i64 0] st = some (0, [v], st') := by simpa using h1
    simp [camshaftref10_Cut, h1']
  · simpa [addHead_nil (pieces_ne _ _)] using h3
end Go.Proofs.YthngaoncjpgeiaaGreatDoorE
