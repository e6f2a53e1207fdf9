/- What a line's reading comes to, the reference's small functions. -/
import Derived.Test.YthngaoncjpgeiaaGreatDoorLex4
set_option linter.unusedVariables false
set_option linter.unusedSimpArgs false
namespace Go.Proofs.YthngaoncjpgeiaaGreatDoorE
open Go Go.E Go.Proofs

def endT (l : List UInt8) : Tok := ⟨0, [], 0, l.length + 1⟩
def lineX (l : List UInt8) : Except Nat (List Tok) := match lexL l.length 0 l with
  | .ok ts => .ok (ts ++ [endT l])
  | .error c => .error c
/-- What a line comes to, as a call's result. -/
def LineR (okv : Value → List Value) (errv : Nat → List Value) (s : ByteArray) (at' : Int) (st : SS) (r : Option (Value × SS)) : Except Nat (List Tok) → Prop
  | .ok ts => ∃ v st', r = some (.tuple (okv v).toArray, st') ∧ Ext st st' ∧ Own st.next st' v (rowsT at' ts) 5 ts.length ∧ ts.length ≤ s.size + 1
  | .error c => ∃ st', r = some (.tuple (errv c).toArray, st') ∧ Ext st st'
theorem end_app {st st' : SS} {v : Value} {at' : Int} {ts : List Tok} (s : ByteArray) (hs : s.size ≤ 4294967296) (hl : st.lim ≤ st.next) (he : Ext st st') (ho : Own st.next st' v (rowsT at' ts) 5 ts.length) (hn : ts.length ≤ s.size) :
    ∃ w st'', (st'.new (.cells [.int .i64 0, .string ⟨#[]⟩, .int .i64 0, .int .i64 at', .int .i64 ((s.size + 1 : Nat) : Int)] 5)).app 5 48 v (.slice (some ⟨st'.next, 0, none⟩) 1 1) = some (w, st'') ∧ Ext st st'' ∧
      Own st.next st'' w (rowsT at' (ts ++ [endT (bl s)])) 5 (ts ++ [endT (bl s)]).length ∧ (ts ++ [endT (bl s)]).length ≤ s.size + 1 := by
  have e0 : Ext st (st'.new (.cells [.int .i64 0, .string ⟨#[]⟩, .int .i64 0, .int .i64 at', .int .i64 ((s.size + 1 : Nat) : Int)] 5)) := he.new _
  obtain ⟨w, st'', g1, g2, g3, g4, g5, g6⟩ := (ho.ext ((Ext.refl st').new (.cells [.int .i64 0, .string ⟨#[]⟩, .int .i64 0, .int .i64 at', .int .i64 ((s.size + 1 : Nat) : Int)] 5))).app (Rd.new1 (st := st') rfl) e0.next (by rw [e0.lim]; exact hl) (by omega) (by rfl) (bt := 48) (by omega) (by omega)
  refine ⟨w, st'', g1, g5 st (Nat.le_refl _) e0, ?_, by simp; omega⟩
  have e1 : rowsT at' (ts ++ [endT (bl s)]) = rowsT at' ts ++ [.int .i64 0, .string ⟨#[]⟩, .int .i64 0, .int .i64 at', .int .i64 ((s.size + 1 : Nat) : Int)] := by
    rw [rowsT_append]
    show _ ++ (tokRow at' (endT (bl s)) ++ []) = _
    simp [tokRow, endT, mkS]
  rw [e1, List.length_append]
  exact g2
theorem line_ok [Sym] {st : SS} (hg : Gd st) (hl : st.lim ≤ st.next) (s : ByteArray) (hs : s.size ≤ 4294967296) (at' : Int) :
    LineR (fun v => [v, .int .i64 0, .bool true]) (fun c => [.slice none 0 0, .int .i64 c, .bool false]) s at' st (cc 96 [.string s, .int .i64 at'] st) (lineX (bl s)) := by
  have h := line_loop s at' hs st hg hl s.size 0 [] (.slice none 0 0) st (by omega) (by omega) (by simp) (.refl _) (Own.nil _ _ _)
  simp only [List.drop_zero] at h
  have hw : IntKind.wrap .i64 ((s.size : Int) + 1) = ((s.size + 1 : Nat) : Int) := by rw [wrap64 (by omega) (by omega)]; omega
  unfold lineX
  rw [bl_length]
  cases hx : lexL s.size 0 (bl s) with
  | ok ts =>
    rw [hx] at h
    obtain ⟨v, st', a, b, c, d⟩ := h
    obtain ⟨w, st'', e1, e2, e3, e4⟩ := end_app s hs hl b c d
    refine ⟨w, st'', ulex_line_eq s at' st ?_, e2, e3, e4⟩
    have a' : ulex_line_lf 3 [.string s, .int .i64 at', .slice none 0 0, .int .i64 0] st = some (0, [.string s, .int .i64 at', v], st') := a
    have hb0 : Nat.beq 0 0 = true := rfl
    simp only [ulex_line, a', Option.bind_some, hb0, cond_true, List.getElem?_cons_succ, List.getElem?_cons_zero, asS_string, asI_int, hw, e1]
  | error c =>
    rw [hx] at h
    obtain ⟨st', a, b⟩ := h
    refine ⟨st', ulex_line_eq s at' st ?_, b⟩
    have a' : ulex_line_lf 3 [.string s, .int .i64 at', .slice none 0 0, .int .i64 0] st = some (1, [.slice none 0 0, .int .i64 c, .bool false], st') := a
    have hb0 : Nat.beq 1 0 = false := rfl
    simp only [ulex_line, a', Option.bind_some, hb0, cond_false, List.getElem?_cons_succ, List.getElem?_cons_zero, asB_bool, asI_int]

/-! ### The reference's small functions -/
theorem rletter_ok [Sym] (c : Int) (st : SS) : cc 84 [.int .u8 c] st = some (.bool (letterI c), st) := by
  refine camshaftref15_letter_eq c st ?_
  unfold camshaftref15_letter letterI
  cases decide (97 ≤ c) <;> cases decide (c ≤ 122) <;> cases decide (65 ≤ c) <;> cases decide (c ≤ 90) <;> simp
def refN (b : Nat) : Int := if 48 ≤ b ∧ b ≤ 57 then (b : Int) - 48 else if 97 ≤ b ∧ b ≤ 102 then (b : Int) - 87 else if 65 ≤ b ∧ b ≤ 70 then (b : Int) - 55 else -1
theorem rdigit_ok [Sym] (b : UInt8) (base : Int) (st : SS) : cc 85 [.int .u8 b.toNat, .int .i64 base] st = some (.int .i64 (if base ≤ refN b.toNat then -1 else refN b.toNat), st) := by
  refine camshaftref15_digit_eq _ base st ?_
  have hb := b.toNat_lt
  generalize b.toNat = n at *
  by_cases hA : 48 ≤ n ∧ n ≤ 57
  · have e : refN n = (n : Int) - 48 := by unfold refN; rw [if_pos hA]
    have h1 : (48 : Int) ≤ (n : Int) := by omega
    have h2 : (n : Int) ≤ 57 := by omega
    have h3 : ¬ (97 : Int) ≤ (n : Int) := by omega
    have h4 : ¬ (65 : Int) ≤ (n : Int) := by omega
    have hw1 : IntKind.wrap .u8 ((n : Int) - 48) = (n : Int) - 48 := wrapU8 (by omega) (by omega)
    have hw2 : IntKind.wrap .i64 ((n : Int) - 48) = (n : Int) - 48 := wrap64 (by omega) (by omega)
    simp only [camshaftref15_digit, decide_eq_true h1, decide_eq_true h2, decide_eq_false h3, decide_eq_false h4, cond_true, cond_false, hw1, hw2, e]
    by_cases hbase : base ≤ (n : Int) - 48
    · rw [decide_eq_true hbase, if_pos hbase]; rfl
    · rw [decide_eq_false hbase, if_neg hbase]; rfl
  · by_cases hB : 97 ≤ n ∧ n ≤ 102
    · have e : refN n = (n : Int) - 87 := by unfold refN; rw [if_neg hA, if_pos hB]
      have h1 : (48 : Int) ≤ (n : Int) := by omega
      have h2 : ¬ (n : Int) ≤ 57 := by omega
      have h3 : (97 : Int) ≤ (n : Int) := by omega
      have h3' : (n : Int) ≤ 102 := by omega
      have h4 : (65 : Int) ≤ (n : Int) := by omega
      have h5 : ¬ (n : Int) ≤ 70 := by omega
      have hw1 : IntKind.wrap .u8 ((n : Int) - 97) = (n : Int) - 97 := wrapU8 (by omega) (by omega)
      have hw2 : IntKind.wrap .i64 ((n : Int) - 97) = (n : Int) - 97 := wrap64 (by omega) (by omega)
      have hw3 : IntKind.wrap .i64 ((n : Int) - 97 + 10) = (n : Int) - 87 := by rw [wrap64 (by omega) (by omega)]; omega
      simp only [camshaftref15_digit, decide_eq_true h1, decide_eq_false h2, decide_eq_true h3, decide_eq_true h3', decide_eq_true h4, decide_eq_false h5, cond_true, cond_false, hw1, hw2, hw3, e]
      by_cases hbase : base ≤ (n : Int) - 87
      · rw [decide_eq_true hbase, if_pos hbase]; rfl
      · rw [decide_eq_false hbase, if_neg hbase]; rfl
    · by_cases hC : 65 ≤ n ∧ n ≤ 70
      · have e : refN n = (n : Int) - 55 := by unfold refN; rw [if_neg hA, if_neg hB, if_pos hC]
        have h1 : (48 : Int) ≤ (n : Int) := by omega
        have h2 : ¬ (n : Int) ≤ 57 := by omega
        have h3 : ¬ (97 : Int) ≤ (n : Int) := by omega
        have h4 : (65 : Int) ≤ (n : Int) := by omega
        have h5 : (n : Int) ≤ 70 := by omega
        have hw1 : IntKind.wrap .u8 ((n : Int) - 65) = (n : Int) - 65 := wrapU8 (by omega) (by omega)
        have hw2 : IntKind.wrap .i64 ((n : Int) - 65) = (n : Int) - 65 := wrap64 (by omega) (by omega)
        have hw3 : IntKind.wrap .i64 ((n : Int) - 65 + 10) = (n : Int) - 55 := by rw [wrap64 (by omega) (by omega)]; omega
        simp only [camshaftref15_digit, decide_eq_true h1, decide_eq_false h2, decide_eq_false h3, decide_eq_true h4, decide_eq_true h5, cond_true, cond_false, hw1, hw2, hw3, e]
        by_cases hbase : base ≤ (n : Int) - 55
        · rw [decide_eq_true hbase, if_pos hbase]; rfl
        · rw [decide_eq_false hbase, if_neg hbase]; rfl
      · have e : refN n = -1 := by unfold refN; rw [if_neg hA, if_neg hB, if_neg hC]
        rw [e]
        have r : (if base ≤ (-1 : Int) then (-1 : Int) else -1) = -1 := by split <;> rfl
        rw [r]
        have q : ∀ st : SS, cond (decide (base ≤ (-1 : Int))) (some (Value.int .i64 (-1), st)) (some (.int .i64 (-1), st)) = some (.int .i64 (-1), st) := fun st => by cases decide (base ≤ (-1 : Int)) <;> rfl
        unfold camshaftref15_digit
        have hA' : (decide ((48 : Int) ≤ n) = false) ∨ (decide ((48 : Int) ≤ n) = true ∧ decide ((n : Int) ≤ 57) = false) := by
          by_cases h : (48 : Int) ≤ n
          · exact .inr ⟨decide_eq_true h, decide_eq_false (by omega)⟩
          · exact .inl (decide_eq_false h)
        have hB' : (decide ((97 : Int) ≤ n) = false) ∨ (decide ((97 : Int) ≤ n) = true ∧ decide ((n : Int) ≤ 102) = false) := by
          by_cases h : (97 : Int) ≤ n
          · exact .inr ⟨decide_eq_true h, decide_eq_false (by omega)⟩
          · exact .inl (decide_eq_false h)
        have hC' : (decide ((65 : Int) ≤ n) = false) ∨ (decide ((65 : Int) ≤ n) = true ∧ decide ((n : Int) ≤ 70) = false) := by
          by_cases h : (65 : Int) ≤ n
          · exact .inr ⟨decide_eq_true h, decide_eq_false (by omega)⟩
          · exact .inl (decide_eq_false h)
        rcases hA' with h1 | ⟨h1, h2⟩ <;> rcases hB' with h3 | ⟨h3, h4⟩ <;> rcases hC' with h5 | ⟨h5, h6⟩ <;> simp only [*, cond_true, cond_false]
/-- A digit's worth in the two bases. -/
theorem ref_dig (b : UInt8) (B : Nat) (hB : B = 10 ∨ B = 16) : (if (B : Int) ≤ refN b.toNat then (-1 : Int) else refN b.toNat) = match digV b with
    | some d => if B ≤ d then -1 else (d : Int)
    | none => -1 := by
  have hall : ∀ n : Fin 256, (∀ B : Fin 2, (if ((if B = 0 then 10 else 16 : Nat) : Int) ≤ refN (UInt8.ofNat n.val).toNat then (-1 : Int) else refN (UInt8.ofNat n.val).toNat) = match digV (UInt8.ofNat n.val) with
    | some d => if (if B = 0 then 10 else 16) ≤ d then -1 else (d : Int)
    | none => -1) := by decide +kernel
  have h := hall ⟨b.toNat, b.toNat_lt⟩ (if B = 10 then 0 else 1)
  have hb : UInt8.ofNat b.toNat = b := by simp
  simp only [hb] at h
  rcases hB with rfl | rfl
  · simpa using h
  · simpa using h
theorem digit10 (b : UInt8) : decide ((0 : Int) ≤ (if (10 : Int) ≤ refN b.toNat then -1 else refN b.toNat)) = digitI b.toNat := by
  have hall : ∀ n : Fin 256, decide ((0 : Int) ≤ (if (10 : Int) ≤ refN n.val then -1 else refN n.val)) = digitI n.val := by decide +kernel
  exact hall ⟨b.toNat, b.toNat_lt⟩
theorem sign5 (b : UInt8) : signB b = (decide ((b.toNat : Int) = 58) || decide ((b.toNat : Int) = 61) || decide ((b.toNat : Int) = 46) || decide ((b.toNat : Int) = 43) || decide ((b.toNat : Int) = 45)) := by
  have hall : ∀ n : Fin 256, signB (UInt8.ofNat n.val) = (decide ((n.val : Int) = 58) || decide ((n.val : Int) = 61) || decide ((n.val : Int) = 46) || decide ((n.val : Int) = 43) || decide ((n.val : Int) = 45)) := by decide +kernel
  have h := hall ⟨b.toNat, b.toNat_lt⟩
  have hb : UInt8.ofNat b.toNat = b := by simp
  simp only [hb] at h
  exact h

/-- What Number's loop comes to. -/
def numE (x : Option (Option Nat)) : Int := match numO x with
  | some m => m
  | none => -1
theorem rnum_loop [Sym] (s : ByteArray) (B : Nat) (hB : B = 10 ∨ B = 16) (st : SS) (hs : s.size ≤ 4294967296) : ∀ (l : List UInt8) (p n : Nat), (bl s).drop p = l → p ≤ s.size → n ≤ 2147483647 →
    (∃ m : Nat, camshaftref15_Number_lf 7 [.string s, .int .i64 B, .int .i64 n, .int .i64 p] st = some (0, [.string s, .int .i64 m], st) ∧ m < 4294967296 ∧ (if 2147483647 < m then -1 else (m : Int)) = numE (parseG B n l)) ∨
    (camshaftref15_Number_lf 7 [.string s, .int .i64 B, .int .i64 n, .int .i64 p] st = some (1, [.int .i64 (-1)], st) ∧ -1 = numE (parseG B n l)) := by
  have hq : (aI .quo .i64 2147483647 (B : Int)).bind (asI .i64) = some ((2147483647 / B : Nat) : Int) := by
    rcases hB with rfl | rfl <;> rfl
  have hB0 : 0 < B := by omega
  intro l
  induction l with
  | nil =>
    intro p n hp hle hn
    have hps : p = s.size := by
      rw [List.drop_eq_nil_iff, bl_length] at hp
      omega
    subst hps
    refine .inl ⟨n, camshaftref15_Number_l7_eq s _ _ _ st ?_, by omega, ?_⟩
    · simp [camshaftref15_Number_l7]
    · rw [if_neg (by omega)]; rfl
  | cons b r ih =>
    intro p n hp hle hn
    have hb : (bl s)[p]? = some b := by
      have := congrArg (·[0]?) hp
      simpa using this
    have hlt : p < s.size := by
      obtain ⟨h, _⟩ := List.getElem?_eq_some_iff.1 hb
      simpa using h
    have hr : (bl s).drop (p + 1) = r := by
      have := drop_cons hb
      rw [hp] at this
      exact (List.cons.inj this).2.symm
    have hix : ∀ (q : Nat) (x : UInt8), (bl s)[q]? = some x → (idxS s (q : Int)).bind (asI .u8) = some (x.toNat : Int) := by
      intro q x hx
      have hq' : q < s.size := by
        obtain ⟨h, _⟩ := List.getElem?_eq_some_iff.1 hx
        simpa using h
      obtain ⟨b', hb', hidx⟩ := idx_lt (s := s) (i := (q : Int)) (by omega) (by omega)
      have : b' = x := by simp at hb'; rw [hx] at hb'; cases hb'; rfl
      subst this
      rw [hidx]; simp
    have hlt' : (p : Int) < (s.size : Int) := by omega
    have hwp : IntKind.wrap .i64 ((p : Int) + 1) = ((p + 1 : Nat) : Int) := by rw [wrap64 (by omega) (by omega)]; omega
    have hd := rdigit_ok b (B : Int) st
    rw [ref_dig b B hB] at hd
    cases hv : digV b with
    | none =>
      rw [hv] at hd
      have hpg : parseG B n (b :: r) = none := by unfold parseG; rw [hv]
      refine .inr ⟨camshaftref15_Number_l7_eq s _ _ _ st ?_, by rw [hpg]; rfl⟩
      simp [camshaftref15_Number_l7, hlt', hix p b hb, hd]
    | some d =>
      rw [hv] at hd
      by_cases h1 : B ≤ d
      · simp only [if_pos h1] at hd
        have hpg : parseG B n (b :: r) = none := by unfold parseG; rw [hv]; simp [h1]
        refine .inr ⟨camshaftref15_Number_l7_eq s _ _ _ st ?_, by rw [hpg]; rfl⟩
        simp [camshaftref15_Number_l7, hlt', hix p b hb, hd]
      · simp only [if_neg h1] at hd
        have hd0 : ¬ (d : Int) < 0 := by omega
        by_cases h2 : 2147483647 / B < n
        · have hbig : 2147483647 < n * B := (Nat.div_lt_iff_lt_mul hB0).1 h2
          have hpg : parseG B n (b :: r) = some none := by unfold parseG; rw [hv]; simp only [if_neg h1]; rw [if_pos (by omega)]
          refine .inr ⟨camshaftref15_Number_l7_eq s _ _ _ st ?_, by rw [hpg]; rfl⟩
          have h2' : ((2147483647 / B : Nat) : Int) < (n : Int) := by omega
          simp only [camshaftref15_Number_l7, decide_eq_true hlt', cond_true, hix p b hb, Option.bind_some, hd, asI_int, decide_eq_false hd0, cond_false, hq, decide_eq_true h2']
        · have h2' : ¬ ((2147483647 / B : Nat) : Int) < (n : Int) := by omega
          have hsm : n * B ≤ 2147483647 := by
            have := (Nat.le_div_iff_mul_le hB0).1 (Nat.le_of_not_lt h2)
            exact this
          have hw1 : IntKind.wrap .i64 ((n : Int) * (B : Int)) = ((n * B : Nat) : Int) := by
            rw [← Int.natCast_mul]
            exact wrap64 (by omega) (by omega)
          have hw2 : IntKind.wrap .i64 (((n * B : Nat) : Int) + (d : Int)) = ((n * B + d : Nat) : Int) := by
            rw [← Int.natCast_add]
            exact wrap64 (by omega) (by omega)
          have step : ∀ y, camshaftref15_Number_lf 7 [.string s, .int .i64 B, .int .i64 ((n * B + d : Nat) : Int), .int .i64 ((p + 1 : Nat) : Int)] st = some y → camshaftref15_Number_lf 7 [.string s, .int .i64 B, .int .i64 n, .int .i64 p] st = some y := by
            intro y hy
            refine camshaftref15_Number_l7_eq s _ _ _ st ?_
            simp only [camshaftref15_Number_l7, decide_eq_true hlt', cond_true, hix p b hb, Option.bind_some, hd, asI_int, decide_eq_false hd0, cond_false, hq, decide_eq_false h2', hw1, hw2, hwp]
            exact hy
          by_cases h3 : 2147483647 < n * B + d
          · have hpg : parseG B n (b :: r) = some none := by unfold parseG; rw [hv]; simp only [if_neg h1]; rw [if_pos h3]
            -- one sign more, or the end
            cases hr' : r with
            | nil =>
              rw [hr'] at hr
              have hps : p + 1 = s.size := by
                rw [List.drop_eq_nil_iff, bl_length] at hr
                omega
              refine .inl ⟨n * B + d, step _ (camshaftref15_Number_l7_eq s _ _ _ st ?_), by omega, ?_⟩
              · have : ¬ ((p + 1 : Nat) : Int) < (s.size : Int) := by omega
                simp only [camshaftref15_Number_l7, decide_eq_false this, cond_false]
              · rw [← hr', hpg, if_pos h3]; rfl
            | cons b2 r2 =>
              rw [hr'] at hr
              have hb2 : (bl s)[p + 1]? = some b2 := by
                have := congrArg (·[0]?) hr
                simpa using this
              have hlt2 : p + 1 < s.size := by
                obtain ⟨h, _⟩ := List.getElem?_eq_some_iff.1 hb2
                simpa using h
              have hlt2' : ((p + 1 : Nat) : Int) < (s.size : Int) := by omega
              refine .inr ⟨step _ (camshaftref15_Number_l7_eq s _ _ _ st ?_), by rw [← hr', hpg]; rfl⟩
              have hd2 := rdigit_ok b2 (B : Int) st
              generalize (if (B : Int) ≤ refN b2.toNat then (-1 : Int) else refN b2.toNat) = d2 at hd2
              have hbig : ((2147483647 / B : Nat) : Int) < ((n * B + d : Nat) : Int) := by
                have : 2147483647 / B ≤ 2147483647 := Nat.div_le_self _ _
                omega
              simp only [camshaftref15_Number_l7, decide_eq_true hlt2', cond_true, hix (p + 1) b2 hb2, Option.bind_some, hd2, asI_int, hq, decide_eq_true hbig]
              cases decide (d2 < 0) <;> rfl
          · have hpg : parseG B n (b :: r) = parseG B (n * B + d) r := by
              show (match digV b with
                | none => none
                | some d => if B ≤ d then none else if 2147483647 < n * B + d then some none else parseG B (n * B + d) r) = _
              rw [hv]
              simp only [if_neg h1, if_neg h3]
            rw [hpg]
            rcases ih (p + 1) (n * B + d) hr (by omega) (by omega) with ⟨m, a, b', c⟩ | ⟨a, b'⟩
            · exact .inl ⟨m, step _ a, b', c⟩
            · exact .inr ⟨step _ a, b'⟩
theorem rnum_top [Sym] (s : ByteArray) (B : Nat) (hB : B = 10 ∨ B = 16) (st : SS) (hs : s.size ≤ 4294967296) :
    ((camshaftref15_Number_lf 7 [.string s, .int .i64 B, .int .i64 0, .int .i64 0] st).bind fun r3 =>
    cond (Nat.beq r3.1 0) (
     ((r3.2.1[0]?).bind asS).bind fun s4 =>
     ((r3.2.1[1]?).bind (asI .i64)).bind fun n5 =>
     cond (eqT s4 ⟨#[]⟩) (
      some (Value.int .i64 (-1), r3.2.2)) (
      cond (decide (2147483647 < n5)) (
       some (.int .i64 (-1), r3.2.2)) (
       some (.int .i64 n5, r3.2.2)))) (
     ((r3.2.1[0]?).bind (asI .i64)).bind fun n6 =>
     some (.int .i64 n6, r3.2.2))) = some (.int .i64 (numE (parseT B (bl s))), st) := by
  have hb0 : Nat.beq 0 0 = true := rfl
  have hb1 : Nat.beq 1 0 = false := rfl
  rcases rnum_loop s B hB st hs (bl s) 0 0 rfl (by omega) (by omega) with ⟨m, a, b, c⟩ | ⟨a, b⟩
  · have a' : camshaftref15_Number_lf 7 [.string s, .int .i64 B, .int .i64 0, .int .i64 0] st = some (0, [.string s, .int .i64 m], st) := a
    rw [a']
    simp only [Option.bind_some, hb0, cond_true, List.getElem?_cons_succ, List.getElem?_cons_zero, asS_string, asI_int, eqT_empty]
    unfold parseT
    by_cases h0 : bl s = []
    · rw [decide_eq_true h0, if_pos h0]; rfl
    · rw [decide_eq_false h0, if_neg h0, ← c, cond_false]
      by_cases hm : 2147483647 < m
      · rw [decide_eq_true (by omega), if_pos hm]; rfl
      · rw [decide_eq_false (by omega), if_neg hm]; rfl
  · have a' : camshaftref15_Number_lf 7 [.string s, .int .i64 B, .int .i64 0, .int .i64 0] st = some (1, [.int .i64 (-1)], st) := a
    rw [a']
    simp only [Option.bind_some, hb1, cond_false, List.getElem?_cons_zero, asI_int]
    unfold parseT
    by_cases h0 : bl s = []
    · rw [h0] at b; exact absurd b (by simp [parseG, numE, numO])
    · rw [if_neg h0, ← b]
theorem rnumber_ok [Sym] (s : ByteArray) (hs : s.size ≤ 4294967296) (st : SS) : cc 86 [.string s] st = some (.int .i64 (numE (numL (bl s))), st) := by
  refine camshaftref15_Number_eq s st ?_
  unfold camshaftref15_Number numL
  have h10 := rnum_top s 10 (.inl rfl) st hs
  by_cases h2 : 2 ≤ s.size
  · have h2' : (2 : Int) ≤ (s.size : Int) := by omega
    have hsub : subS s 0 2 = some (mkS ((bl s).take 2)) := by rw [sub_ok (by omega) (by omega) (by omega), extract_mkS]; rfl
    have htl : subS s 2 (s.size : Int) = some (mkS ((bl s).drop 2)) := subS_tail (s := s) (col := 2) h2
    have heq : eqT (mkS ((bl s).take 2)) ⟨#[48, 120]⟩ = hexP (bl s) := by
      rw [eqT_iff', bl_mkS]
      unfold hexP
      rw [Bool.eq_iff_iff, decide_eq_true_eq]
      exact take_eq_iff [48, 120] (bl s)
    have h16 := rnum_top (mkS ((bl s).drop 2)) 16 (.inr rfl) st (by simp; omega)
    simp only [decide_eq_true h2', cond_true, hsub, Option.bind_some, heq, htl]
    cases hh : hexP (bl s) with
    | true => simp only [cond_true, if_true]; exact h16
    | false => simp only [cond_false]; exact h10
  · have h2' : ¬ (2 : Int) ≤ (s.size : Int) := by omega
    have hh : hexP (bl s) = false := by
      unfold hexP
      rw [Bool.eq_false_iff]
      intro hp
      rw [List.isPrefixOf_iff_prefix] at hp
      have := hp.length_le
      simp at this
      omega
    simp only [decide_eq_false h2', cond_false, hh]
    exact h10
end Go.Proofs.YthngaoncjpgeiaaGreatDoorE
