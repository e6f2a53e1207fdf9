/- Rows of tokens, and how great they are. -/
import Derived.Test.YthngaoncjpgeiaaGreatDoorLex7
set_option linter.unusedVariables false
set_option linter.unusedSimpArgs false
namespace Go.Proofs.YthngaoncjpgeiaaGreatDoorE
open Go Go.E Go.Proofs

theorem eq_pair (a b c d : Int) : eqA Tryz.prog Lk0 27 (.agg #[.int .i64 a, .int .i64 b]) (.agg #[.int .i64 c, .int .i64 d]) = some (decide (a = c) && (decide (b = d) && true)) := by kernel_rfl
theorem eq_tok (a b c d a' b' c' d' : Int) (s s' : ByteArray) : eqA Tryz.prog Lk0 154 (.agg #[.int .i64 a, .string s, .int .i64 b, .int .i64 c, .int .i64 d]) (.agg #[.int .i64 a', .string s', .int .i64 b', .int .i64 c', .int .i64 d']) = some (decide (a = a') && (eqT s s' && (decide (b = b') && (decide (c = c') && (decide (d = d') && true))))) := by kernel_rfl
theorem eq_rtok (a b c d a' b' c' d' : Int) (s s' : ByteArray) : eqA Tryz.prog Lk0 125 (.agg #[.int .i64 a, .string s, .int .i64 b, .int .i64 c, .int .i64 d]) (.agg #[.int .i64 a', .string s', .int .i64 b', .int .i64 c', .int .i64 d']) = some (decide (a = a') && (eqT s s' && (decide (b = b') && (decide (c = c') && (decide (d = d') && true))))) := by kernel_rfl

theorem TK.newV {st : SS} {r : List Value} {v : Value} {n : Nat} (hl : st.lim ≤ st.next) (h1 : v.cells.toList.all one = true) (hn : v.cells.size = n) (hr : r.length = n) : ∃ stX, (st.new (.cells r 0)).stV st.next 0 n v = some stX ∧ TK st stX v.cells.toList := by
  obtain ⟨stX, h, t⟩ := TK.new (st := st) (r := r) (row := v.cells.toList) hl h1 (by simp [hr, hn])
  refine ⟨stX, ?_, t⟩
  unfold SS.stV
  have : Nat.beq v.cells.size n = true := by rw [beq_dec, hn]; simp
  rw [this]
  exact h
theorem TK.pair {st : SS} {r : List Value} (e : Nat × Nat) (hl : st.lim ≤ st.next) (hr : r.length = 2) : ∃ stX, (st.new (.cells r 0)).stV st.next 0 2 (pairV e) = some stX ∧ TK st stX [.int .i64 e.1, .int .i64 e.2] := TK.newV (v := pairV e) hl (by rfl) rfl hr
theorem rowsL_get (us : List (Nat × Tok)) (i : Nat) (t : Nat × Tok) (h : us[i]? = some t) : ((rowsL us).drop (i * 5)).take 5 = tokRow t.1 t.2 := by
  induction us generalizing i with
  | nil => simp at h
  | cons a r ih =>
    cases i with
    | zero =>
      simp at h
      subst h
      show ((tokRow a.1 a.2 ++ rowsL r).drop (0 * 5)).take 5 = _
      rfl
    | succ i =>
      have := ih i (by simpa using h)
      show ((tokRow a.1 a.2 ++ rowsL r).drop ((i + 1) * 5)).take 5 = _
      have e : (i + 1) * 5 = (tokRow a.1 a.2).length + i * 5 := by simp [tokRow]; omega
      rw [e, ← List.drop_drop, List.drop_left]
      exact this
theorem tokRow_len (a : Int) (t : Tok) : (tokRow a t).length = 5 := rfl
theorem tokRow_one (a : Int) (t : Tok) : (tokRow a t).all one = true := rfl
theorem elemA0 (i : Nat) : elemA (ptr i 0) 2 0 1 = some (i, 0) := rfl
theorem elemA1 (i : Nat) : elemA (ptr i 0) 2 1 1 = some (i, 1) := rfl
theorem lexPs_len (ps : List (List UInt8)) (i N : Nat) (us : List (Nat × Tok)) (h : lexPs i ps = .ok us) (hN : ∀ p ∈ ps, ∀ ts, lineX p = .ok ts → ts.length ≤ N) : us.length ≤ ps.length * N := by
  induction ps generalizing i us with
  | nil => cases h; simp
  | cons p r ih =>
    unfold lexPs at h
    cases hx : lineX p with
    | error c => rw [hx] at h; cases h
    | ok ts =>
      rw [hx] at h
      cases hy : lexPs (i + 1) r with
      | error e => rw [hy] at h; cases h
      | ok vs =>
        rw [hy] at h
        cases h
        have h1 := ih (i + 1) vs hy (fun q hq => hN q (List.mem_cons_of_mem _ hq))
        have h2 := hN p (List.mem_cons_self ..) ts hx
        rw [List.length_append, List.length_map, List.length_cons, Nat.add_mul]
        omega
theorem lexL_len (k col : Nat) (l : List UInt8) (ts : List Tok) (h : lexL k col l = .ok ts) : ts.length ≤ k := by
  induction k generalizing col l ts with
  | zero => cases h; simp
  | succ k ih =>
    unfold lexL at h
    split at h
    · cases h; simp
    · have := ih _ _ _ h; omega
    · rename_i kd n x _
      cases hx : lexL k (col + n) (l.drop n) with
      | error e => rw [hx] at h; cases h
      | ok us => rw [hx] at h; cases h; have := ih _ _ _ hx; simp; omega
    · cases h
theorem lineX_len (p : List UInt8) (ts : List Tok) (h : lineX p = .ok ts) : ts.length ≤ p.length + 1 := by
  unfold lineX at h
  split at h
  · rename_i us hu; cases h; have := lexL_len _ _ _ _ hu; simp; omega
  · cases h
theorem lexT_len (l : List UInt8) (us : List (Nat × Tok)) (h : lexT l = .ok us) : us.length ≤ (l.length + 1) * (l.length + 1) := by
  have h1 := lexPs_len (pieces 10 l) 0 (l.length + 1) us h (fun p hp ts hts => by have := pieces_mem 10 l p hp; have := lineX_len p ts hts; omega)
  exact Nat.le_trans h1 (Nat.mul_le_mul_right _ (pieces_len 10 l))
theorem lexPs_pos (ps : List (List UInt8)) (i : Nat) (e : Nat × Nat) (h : lexPs i ps = .error e) : 0 < e.1 := by
  induction ps generalizing i with
  | nil => cases h
  | cons p r ih =>
    unfold lexPs at h
    cases hx : lineX p with
    | error c => rw [hx] at h; cases h; simp
    | ok ts =>
      rw [hx] at h
      cases hy : lexPs (i + 1) r with
      | error e => rw [hy] at h; cases h; exact ih _ hy
      | ok vs => rw [hy] at h; cases h
theorem bytes_cells {st : SS} {b z n cap : Nat} {c : List Value} {l : List UInt8} (h : st.mem.get b = some (.cells c z)) (hn : c.length = n) (hc : bytesE c = some l) : st.bytes (.slice (some ⟨b, 0, none⟩) n cap) = some (mkS l) := by
  unfold SS.bytes
  simp only [h, Option.bind_some, cut_all hn, hc, Option.map_some]
  rfl
theorem cat_ok {a b : List UInt8} (h : a.length + b.length ≤ 9223372036854775807) : catS (mkS a) (mkS b) = some (mkS (a ++ b)) := by
  unfold catS
  have : Nat.ble ((mkS a).size + (mkS b).size) 9223372036854775807 = true := by rw [Nat.ble_eq]; simpa using h
  rw [this, cond_true]
  congr 1
theorem tmod_nat (k B : Nat) : Int.tmod (k : Int) (B : Int) = ((k % B : Nat) : Int) := by
  rw [Int.tmod_eq_emod_of_nonneg (by omega)]; simp
theorem tdiv_nat (k B : Nat) : Int.tdiv (k : Int) (B : Int) = ((k / B : Nat) : Int) := by
  rw [Int.tdiv_eq_ediv_of_nonneg (by omega)]; simp
theorem eqT_nil (l : List UInt8) : eqT (mkS l) ⟨#[]⟩ = decide (l = []) := rfl
theorem idx_at' {s : ByteArray} {j : Nat} {b : UInt8} (hb : (bl s)[j]? = some b) : (idxS s (j : Int)).bind (asI .u8) = some (b.toNat : Int) := by
  have hj : j < s.size := by have := (List.getElem?_eq_some_iff.1 hb).1; rwa [bl_length] at this
  obtain ⟨b', hb', hidx⟩ := idx_lt (s := s) (i := (j : Int)) (by omega) (by omega)
  rw [Int.toNat_natCast, hb] at hb'
  cases hb'
  rw [hidx]; simp
theorem pieces_cons' (c x : UInt8) (l : List UInt8) : pieces c (x :: l) = if x = c then [] :: pieces c l else match pieces c l with
    | [] => [[x]]
    | y :: z => (x :: y) :: z := rfl
theorem take_succ'' {α : Type} {l : List α} {j : Nat} {x : α} (h : l[j]? = some x) : l.take (j + 1) = l.take j ++ [x] := by
  rw [List.take_add_one, h]; rfl
end Go.Proofs.YthngaoncjpgeiaaGreatDoorE
