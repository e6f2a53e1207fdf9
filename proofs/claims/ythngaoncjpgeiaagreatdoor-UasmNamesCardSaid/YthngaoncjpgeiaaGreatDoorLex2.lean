/- What strings.Split and its kin come to. -/
import Derived.Test.YthngaoncjpgeiaaGreatDoorLex1
import Derived.Test.YthngaoncjpgeiaaGreatDoorShB
set_option linter.unusedVariables false
set_option linter.unusedSimpArgs false
namespace Go.Proofs.YthngaoncjpgeiaaGreatDoorE
open Go Go.E Go.Proofs

/-! ### Signs found -/
theorem idx_cases (c : UInt8) (l : List UInt8) : (Lib.indexByte l c = -1 ∧ pieces c l = [l] ∧ l.count c = 0) ∨
    ∃ m : Nat, Lib.indexByte l c = m ∧ m < l.length ∧ pieces c l = l.take m :: pieces c (l.drop (m + 1)) ∧ l.count c = (l.drop (m + 1)).count c + 1 := by
  induction l with
  | nil => exact .inl ⟨rfl, rfl, rfl⟩
  | cons b r ih =>
    by_cases hb : b = c
    · subst hb
      refine .inr ⟨0, ?_, by simp, ?_, ?_⟩
      · simp [Lib.indexByte]
      · simp [pieces]
      · simp
    · rcases ih with ⟨h1, h2, h3⟩ | ⟨m, h1, h2, h3, h4⟩
      · refine .inl ⟨?_, ?_, ?_⟩
        · simp [Lib.indexByte, hb, h1]
        · simp [pieces, hb, h2]
        · simp [List.count_cons, hb, h3]
      · refine .inr ⟨m + 1, ?_, by simp; omega, ?_, ?_⟩
        · have : ¬ ((m : Int) = -1) := by omega
          simp [Lib.indexByte, hb, h1, this]
        · simp [pieces, hb, h3]
        · simp [List.count_cons, hb, h4]
theorem mkLen_ok {n : Int} {z : Nat} (h0 : 0 ≤ n) (h1 : n ≤ 1099511627776) (h2 : n * z ≤ 70368744177664) : mkLen n n z = some () := by
  unfold mkLen
  simp [h0, h1, h2]
theorem zerosS_one (v : Value) (n : Nat) : zerosS [v] (n : Int) = List.replicate n v := by
  unfold zerosS
  apply List.ext_getElem
  · simp
  · intro i h1 h2
    simp
    have : i % 1 = 0 := Nat.mod_one i
    simp [this]
theorem strs_rep (done : List (List UInt8)) (k : Nat) (x : List UInt8) : (strs done ++ List.replicate (k + 1) (Value.string ⟨#[]⟩)).take done.length ++ ([.string (mkS x)] ++ (strs done ++ List.replicate (k + 1) (Value.string ⟨#[]⟩)).drop (done.length + 1)) = strs (done ++ [x]) ++ List.replicate k (Value.string ⟨#[]⟩) := by
  rw [strs_append, List.take_append_of_le_length (by simp), List.take_of_length_le (by simp), List.drop_append]
  have h1 : (strs done).drop (done.length + 1) = [] := by rw [List.drop_eq_nil_iff]; simp
  rw [h1]
  simp [strs]
theorem count_le (c : UInt8) (l : List UInt8) : l.count c ≤ l.length := List.count_le_length

theorem one_sep (c : UInt8) (s : ByteArray) (st : SS) [Sym] : cc 140 [.string s, .string ⟨#[c]⟩] st = some (.int .i64 (Lib.indexByte (bl s) c), st) :=
  ext_sound (by rfl) st
theorem count_ok (c : UInt8) (s : ByteArray) (st : SS) [Sym] : cc 139 [.string s, .string ⟨#[c]⟩] st = some (.int .i64 ((bl s).count c : Nat), st) :=
  ext_sound (by rfl) st
theorem indexByte_ok (c : UInt8) (s : ByteArray) (st : SS) [Sym] : cc 118 [.string s, .int .u8 c.toNat] st = some (.int .i64 (Lib.indexByte (bl s) c), st) := by
  refine ext_sound ?_ st
  show some (Value.int .i64 (Lib.indexByte s.data.toList (c.toNat : Int).toNat.toUInt8)) = _
  have : ((c.toNat : Int).toNat).toUInt8 = c := by simp
  rw [this]; rfl

theorem split_loop [Sym] (c : UInt8) (N b : Nat) (st0 : SS) (hN : N ≤ 4294967296) : ∀ (k : Nat) (rest : ByteArray) (done : List (List UInt8)) (st : SS), k = (bl rest).count c → done.length + k = N → rest.size ≤ 4294967296 →
    st.mem.get b = some (.cells (strs done ++ List.replicate (k + 1) (.string ⟨#[]⟩)) 1) → st.lim ≤ b → st0.next ≤ b → b < st.next → Ext st0 st →
    ∃ (rest' : ByteArray) (front : List (List UInt8)) (st' : SS), strings_genSplit_lf 11 [.string rest, .string ⟨#[c]⟩, .int .i64 0, .int .i64 N, .slice (some ⟨b, 0, none⟩) (N + 1) (N + 1), .int .i64 done.length] st = some (0, [.string rest', .slice (some ⟨b, 0, none⟩) (N + 1) (N + 1), .int .i64 N], st') ∧
      st'.mem.get b = some (.cells (strs (done ++ front) ++ [.string ⟨#[]⟩]) 1) ∧ front ++ [bl rest'] = pieces c (bl rest) ∧ (done ++ front).length = N ∧ st'.lim ≤ b ∧ b < st'.next ∧ Ext st0 st' := by
  intro k
  induction k with
  | zero =>
    intro rest done st hk hd hs hm hl hb0 hb he
    rcases idx_cases c (bl rest) with ⟨h1, h2, h3⟩ | ⟨m, h1, h2, h3, h4⟩
    · refine ⟨rest, [], st, strings_genSplit_l11_eq rest _ 0 _ _ _ st ?_, by simpa using hm, by simp [h2], by simp; omega, hl, hb, he⟩
      have : ¬ ((done.length : Int) < (N : Int)) := by omega
      simp [strings_genSplit_l11, this]
      omega
    · omega
  | succ k ih =>
    intro rest done st hk hd hs hm hl hb0 hb he
    rcases idx_cases c (bl rest) with ⟨h1, h2, h3⟩ | ⟨m, h1, h2, h3, h4⟩
    · omega
    · rw [bl_length] at h2
      have hlt : (done.length : Int) < (N : Int) := by omega
      have hm0 : ¬ ((m : Int) < 0) := by omega
      have hw : IntKind.wrap .i64 (m : Int) = m := wrap64 (by omega) (by omega)
      have hw1 : IntKind.wrap .i64 ((m : Int) + 1) = ((m + 1 : Nat) : Int) := by rw [wrap64 (by omega) (by omega)]; omega
      have hwd : IntKind.wrap .i64 ((done.length : Int) + 1) = (((done ++ [(bl rest).take m]).length : Nat) : Int) := by rw [wrap64 (by omega) (by omega)]; simp
      have hb1 : bl (rest.extract (m + 1) rest.size) = (bl rest).drop (m + 1) := by
        rw [bl_extract, List.take_of_length_le (by simp)]
      have hst : st.st b done.length [.string (mkS ((bl rest).take m))] = some (st.set b (some (.cells (strs (done ++ [(bl rest).take m]) ++ List.replicate (k + 1) (.string ⟨#[]⟩)) 1))) :=
        SS.st_cells hm hl (by rfl) (by
          rw [splice_of (by simp), ← strs_rep]
          rfl)
      obtain ⟨rest', front, st', e1, e2, e3, e4, e5, e6, e7⟩ := ih (rest.extract (m + 1) rest.size) (done ++ [(bl rest).take m]) (st.set b (some (.cells (strs (done ++ [(bl rest).take m]) ++ List.replicate (k + 1) (.string ⟨#[]⟩)) 1)))
        (by rw [hb1]; omega) (by simp; omega) (by simp; omega) (by simp) hl hb0 hb (he.set hb0 _)
      refine ⟨rest', (bl rest).take m :: front, st', strings_genSplit_l11_eq rest _ 0 _ _ _ st ?_, by simpa using e2, by rw [h3, ← hb1, ← e3]; rfl, by simpa using e4, e5, e6, e7⟩
      have hel : elemS (.slice (some ⟨b, 0, none⟩) (N + 1) (N + 1)) (done.length : Int) 1 = some (b, done.length) := by
        unfold elemS
        have : (done.length : Int) < ((N + 1 : Nat) : Int) := by omega
        simp only [decide_eq_true this]
        simp
      have hs1 : subS rest 0 (m : Int) = some (mkS ((bl rest).take m)) := by rw [sub_ok (by omega) (by omega) (by omega), extract_mkS]; simp
      have hs2 : subS rest ((m + 1 : Nat) : Int) (rest.size : Int) = some (rest.extract (m + 1) rest.size) := by rw [sub_ok (by omega) (by omega) (by omega)]; simp
      have hsz : (((⟨#[c]⟩ : ByteArray).size : Nat) : Int) = 1 := rfl
      simp only [strings_genSplit_l11, decide_eq_true hlt, cond_true, one_sep, Option.bind_some, asI_int, h1, decide_eq_false hm0, cond_false, Int.add_zero, hw, hs1, hel, hst, hsz, hw1, hs2, hwd]
      exact e1
theorem split_ok [Sym] (s : ByteArray) (c : UInt8) (hs : s.size ≤ 4294967296) (st : SS) (hl : st.lim ≤ st.next) : ∃ v st', cc 95 [.string s, .string ⟨#[c]⟩] st = some (v, st') ∧ Ext st st' ∧
    Rd st' v (strs (pieces c (bl s))) 1 (pieces c (bl s)).length := by
  have hc := count_le c (bl s)
  rw [bl_length] at hc
  obtain ⟨rest', front, st', e1, e2, e3, e4, e5, e6, e7⟩ := split_loop c ((bl s).count c) st.next st (by omega) _ s [] (st.new (.cells (List.replicate ((bl s).count c + 1) (.string ⟨#[]⟩)) 1)) rfl (by simp) hs (by simp [strs]) hl (Nat.le_refl _) (by simp) ((Ext.refl st).new _)
  simp only [List.nil_append] at e2 e4
  have hlen : (pieces c (bl s)).length = (bl s).count c + 1 := by rw [← e3]; simp [e4]
  have hst : st'.st st.next ((bl s).count c) [.string rest'] = some (st'.set st.next (some (.cells (strs (pieces c (bl s))) 1))) :=
    SS.st_cells e2 e5 (by rfl) (by
      rw [← e4, splice_of (by simp), ← e3]
      rw [List.take_append_of_le_length (by simp), List.take_of_length_le (by simp), strs_append]
      congr 2
      simp [strs])
  have hw1 : IntKind.wrap .i64 (((bl s).count c : Nat) + 1 : Int) = (((bl s).count c + 1 : Nat) : Int) := by rw [wrap64 (by omega) (by omega)]; omega
  have hw2 : IntKind.wrap .i64 ((s.size : Int) + 1) = ((s.size + 1 : Nat) : Int) := by rw [wrap64 (by omega) (by omega)]; omega
  have hw3 : IntKind.wrap .i64 ((((bl s).count c + 1 : Nat) : Int) - 1) = (((bl s).count c : Nat) : Int) := by rw [wrap64 (by omega) (by omega)]; omega
  have hmin : (if ((s.size + 1 : Nat) : Int) < (((bl s).count c + 1 : Nat) : Int) then ((s.size + 1 : Nat) : Int) else (((bl s).count c + 1 : Nat) : Int)) = (((bl s).count c + 1 : Nat) : Int) := by split <;> omega
  have hmk : mkLen (((bl s).count c + 1 : Nat) : Int) (((bl s).count c + 1 : Nat) : Int) 16 = some () := mkLen_ok (by omega) (by omega) (by omega)
  have hel : elemS (.slice (some ⟨st.next, 0, none⟩) ((bl s).count c + 1) ((bl s).count c + 1)) (((bl s).count c : Nat) : Int) 1 = some (st.next, (bl s).count c) := by
    unfold elemS
    have : (((bl s).count c : Nat) : Int) < (((bl s).count c + 1 : Nat) : Int) := by omega
    simp only [decide_eq_true this]
    simp
  have hre : (st'.set st.next (some (.cells (strs (pieces c (bl s))) 1))).resl (.slice (some ⟨st.next, 0, none⟩) ((bl s).count c + 1) ((bl s).count c + 1)) 1 0 (((bl s).count c + 1 : Nat) : Int) = some (.slice (some ⟨st.next, 0, none⟩) ((bl s).count c + 1) ((bl s).count c + 1)) := by
    unfold SS.resl
    simp
    rfl
  refine ⟨.slice (some ⟨st.next, 0, none⟩) ((bl s).count c + 1) ((bl s).count c + 1), st'.set st.next (some (.cells (strs (pieces c (bl s))) 1)), strings_Split_eq s _ st ?_, e7.set (Nat.le_refl _) _, by simp, .inr ⟨st.next, (bl s).count c + 1, by rw [hlen], ⟨1, by simp⟩, e6⟩⟩
  have hgen : cc 113 [.string s, .string ⟨#[c]⟩, .int .i64 0, .int .i64 (-1)] st = some (.slice (some ⟨st.next, 0, none⟩) ((bl s).count c + 1) ((bl s).count c + 1), st'.set st.next (some (.cells (strs (pieces c (bl s))) 1))) := by
    refine strings_genSplit_eq s _ 0 (-1) st ?_
    have h0 : eqT (⟨#[c]⟩ : ByteArray) ⟨#[]⟩ = false := by rfl
    have hm1 : decide ((-1 : Int) = 0) = false := rfl
    have hm2 : decide ((-1 : Int) < 0) = true := rfl
    simp only [strings_genSplit, hm1, cond_false, h0, hm2, cond_true, count_ok, Option.bind_some, asI_int, hw1, hw2, hmin, hmk, zerosS_one, hw3]
    have e1' : strings_genSplit_lf 11 [.string s, .string ⟨#[c]⟩, .int .i64 0, .int .i64 (((bl s).count c : Nat) : Int), .slice (some ⟨st.next, 0, none⟩) (Int.toNat (((bl s).count c + 1 : Nat) : Int)) (Int.toNat (((bl s).count c + 1 : Nat) : Int)), .int .i64 0] (st.new (.cells (List.replicate ((bl s).count c + 1) (.string ⟨#[]⟩)) 1)) = some (0, [.string rest', .slice (some ⟨st.next, 0, none⟩) ((bl s).count c + 1) ((bl s).count c + 1), .int .i64 (((bl s).count c : Nat) : Int)], st') := e1
    rw [e1']
    simp only [Option.bind_some, List.getElem?_cons_zero, List.getElem?_cons_succ, asS_string, asI_int, hel, hst, hw1, hre]
  simp only [strings_Split, hgen, Option.bind_some]
end Go.Proofs.YthngaoncjpgeiaaGreatDoorE
