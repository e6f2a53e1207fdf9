/- UlexLong and UlexNumbers. -/
import Derived.Test.YthngaoncjpgeiaaDoorLex8
import Derived.Test.YthngaoncjpgeiaaDoorShE
set_option linter.unusedVariables false
set_option linter.unusedSimpArgs false
namespace Go.Proofs.YthngaoncjpgeiaaDoorE
open Go Go.E Go.Proofs

theorem lexT_line {l : List UInt8} (h : (10 : UInt8) ∉ l) : lexT l = match lineX l with
    | .error c => .error (1, c)
    | .ok ts => .ok (ts.map fun t => (1, t)) := by
  have hp : ∀ l : List UInt8, (10 : UInt8) ∉ l → pieces 10 l = [l] := by
    intro l
    induction l with
    | nil => intro _; rfl
    | cons b r ih =>
      intro h
      simp only [List.mem_cons, not_or] at h
      have hb : b ≠ 10 := fun e => h.1 e.symm
      unfold pieces
      rw [if_neg hb, ih h.2]
  unfold lexT
  rw [hp l h]
  unfold lexPs
  cases lineX l with
  | error c => rfl
  | ok ts => simp [lexPs, consL]

/-! ### UlexLong -/
theorem lineX_semi (n : Nat) : lineX (List.replicate n 59) = .ok [endT (List.replicate n 59)] := by
  unfold lineX
  cases n with
  | zero => rfl
  | succ n =>
    have : lexL (List.replicate (n + 1) (59 : UInt8)).length 0 (List.replicate (n + 1) 59) = .ok [] := by
      rw [List.length_replicate, List.replicate_succ]
      unfold lexL
      rw [stepT_eq rfl, if_pos (by rfl)]
    rw [this]; rfl
theorem fill_loop [Sym] (more : Int) (n b : Nat) (hn : n ≤ 131074) (st0 : SS) : ∀ (k i : Nat) (st : SS), n = k + i → st.mem.get b = some (.cells (List.replicate i (.int .u8 59) ++ List.replicate k (.int .u8 0)) 1) → st.lim ≤ b → st0.next ≤ b → b < st.next → Ext st0 st →
    ∃ st', camshaftlaw15_UlexLong_lf 7 [.int .i64 more, .slice (some ⟨b, 0, none⟩) n n, .int .i64 n, .int .i64 i] st = some (0, [.int .i64 more, .slice (some ⟨b, 0, none⟩) n n], st') ∧ st'.mem.get b = some (.cells (List.replicate n (.int .u8 59)) 1) ∧ Ext st0 st' := by
  intro k
  induction k with
  | zero =>
    intro i st hk hm hl h0 hb he
    have : n = i := by omega
    subst this
    refine ⟨st, camshaftlaw15_UlexLong_l7_eq more _ _ _ st ?_, by simpa using hm, he⟩
    have : ¬ (n : Int) < (n : Int) := by omega
    simp only [camshaftlaw15_UlexLong_l7, decide_eq_false this, cond_false]
  | succ k ih =>
    intro i st hk hm hl h0 hb he
    have hlt : (i : Int) < (n : Int) := by omega
    have hst : st.st b i [.int .u8 59] = some (st.set b (some (.cells (List.replicate (i + 1) (.int .u8 59) ++ List.replicate k (.int .u8 0)) 1))) :=
      SS.st_cells hm hl (by rfl) (by
        rw [splice_of (by simp)]
        congr 1
        rw [List.take_append_of_le_length (by simp), List.take_of_length_le (by simp), List.drop_append]
        have h1 : (List.replicate i (Value.int .u8 59)).drop (i + 1) = [] := by rw [List.drop_eq_nil_iff]; simp
        simp only [List.length_cons, List.length_nil, Nat.zero_add, h1, List.length_replicate, List.nil_append]
        have e : i + 1 - i = 1 := by omega
        rw [e, List.replicate_succ' (n := i), List.append_assoc]
        rfl)
    have hel : elemS (.slice (some ⟨b, 0, none⟩) n n) (i : Int) 1 = some (b, i) := by
      unfold elemS
      simp only [decide_eq_true hlt]
      simp
    have hw : IntKind.wrap .i64 ((i : Int) + 1) = ((i + 1 : Nat) : Int) := by rw [wrap64 (by omega) (by omega)]; omega
    obtain ⟨st', a1, a2, a3⟩ := ih (i + 1) (st.set b (some (.cells (List.replicate (i + 1) (.int .u8 59) ++ List.replicate k (.int .u8 0)) 1))) (by omega) (by simp) hl h0 hb (he.set h0 _)
    refine ⟨st', camshaftlaw15_UlexLong_l7_eq more _ _ _ st ?_, a2, a3⟩
    simp only [camshaftlaw15_UlexLong_l7, decide_eq_true hlt, cond_true, hel, Option.bind_some, hst, hw]
    exact a1
theorem bytesE_semi (n : Nat) : bytesE (List.replicate n (.int .u8 59)) = some (List.replicate n 59) := by
  induction n with
  | zero => rfl
  | succ n ih =>
    rw [List.replicate_succ, List.replicate_succ]
    simp only [bytesE, ih]
    rfl
theorem bytes_cells {st : SS} {b z n cap : Nat} {c : List Value} {l : List UInt8} (h : st.mem.get b = some (.cells c z)) (hn : c.length = n) (hc : bytesE c = some l) : st.bytes (.slice (some ⟨b, 0, none⟩) n cap) = some (mkS l) := by
  unfold SS.bytes
  simp only [h, Option.bind_some, cut_all hn, hc, Option.map_some]
  rfl
theorem ulexLong_ok [Sym] {st : SS} (hg : Gd st) (hl : st.lim ≤ st.next) (more : Int) : ∃ st', cc 6 [.int .i64 more] st = some (.bool true, st') := by
  obtain ⟨n, hn, ha⟩ := alive_ok hg
  by_cases h1 : more < -2
  · exact ⟨st.adv n, camshaftlaw15_UlexLong_eq more st (by simp only [camshaftlaw15_UlexLong, ha, Option.bind_some, asB_bool, Bool.not_true, cond_false, decide_eq_true h1, cond_true])⟩
  by_cases h2 : 2 < more
  · exact ⟨st.adv n, camshaftlaw15_UlexLong_eq more st (by simp only [camshaftlaw15_UlexLong, ha, Option.bind_some, asB_bool, Bool.not_true, cond_false, decide_eq_false h1, decide_eq_true h2, cond_true])⟩
  obtain ⟨N, hN⟩ : ∃ N : Nat, (N : Int) = 131072 + more := ⟨(131072 + more).toNat, by omega⟩
  have hw : IntKind.wrap .i64 (131072 + more) = (N : Int) := by rw [wrap64 (by omega) (by omega)]; omega
  have hmk : mkLen (N : Int) (N : Int) 1 = some () := mkLen_ok (by omega) (by omega) (by omega)
  have e0 : Ext st (st.adv n) := (Ext.refl st).adv hn
  have hg1 : Gd (st.adv n) := hg.ext e0
  obtain ⟨st5, a5, m5, e5⟩ := fill_loop more N n (by omega) (st.adv n) N 0 ((st.adv n).new (.cells (List.replicate N (.int .u8 0)) 1)) (by omega) (by simp [SS.new]) (by simp; omega) (Nat.le_refl _) (by simp) ((Ext.refl _).new _)
  have hby : st5.bytes (.slice (some ⟨n, 0, none⟩) N N) = some (mkS (List.replicate N 59)) := bytes_cells m5 (by simp) (bytesE_semi N)
  have hz : zerosS [.int .u8 0] (N : Int) = List.replicate N (.int .u8 0) := zerosS_one _ _
  have a5' : camshaftlaw15_UlexLong_lf 7 [.int .i64 more, .slice (some ⟨n, 0, none⟩) N N, .int .i64 N, .int .i64 0] ((st.adv n).new (.cells (List.replicate N (.int .u8 0)) 1)) = some (0, [.int .i64 more, .slice (some ⟨n, 0, none⟩) N N], st5) := a5
  have l5 : st5.lim ≤ st5.next := by rw [e5.lim]; have := e5.next; simp at this ⊢; omega
  by_cases h3 : 0 < more
  · obtain ⟨st9, a9, e9⟩ := lex_long l5 (mkS (List.replicate N 59)) (by simp; omega)
    have l9 : st9.lim ≤ st9.next := by rw [e9.lim]; have := e9.next; omega
    obtain ⟨st14, e14, t14⟩ := TK.pair (st := st9) (r := [.int .i64 0, .int .i64 0]) (0, 0) l9 rfl
    have k1 : st14.ldN st9.next 0 2 = some (.agg #[.int .i64 0, .int .i64 0]) := t14.ldN (n := 2) rfl
    refine ⟨st14, camshaftlaw15_UlexLong_eq more st ?_⟩
    have hlv : (lenV (.slice none 0 0)).bind (asI .i64) = some 0 := rfl
    simp only [camshaftlaw15_UlexLong, ha, Option.bind_some, asB_bool, Bool.not_true, cond_false, decide_eq_false h1, decide_eq_false h2, hw, hmk, hz, Int.toNat_natCast, SS.adv_next, a5', List.getElem?_cons_succ, List.getElem?_cons_zero, asI_int, hby, a9, tupG, List.getElem?_toArray, e14, decide_eq_true h3, cond_true, decide_true, hlv, k1, eq_pair, Bool.and_true]
  · have h := lex_ok (hg1.ext e5) l5 (mkS (List.replicate N 59)) (by simp; omega)
    have hx : lexT (bl (mkS (List.replicate N 59))) = .ok [(1, endT (List.replicate N 59))] := by
      rw [bl_mkS, lexT_line (by simp), lineX_semi]; rfl
    rw [hx] at h
    obtain ⟨v, st9, a9, e9, o9⟩ := h
    have a9' : cc 15 [.string (mkS (List.replicate N 59))] st5 = some (.tuple #[v, pairV (0, 0), .int .i64 0], st9) := a9
    have l9 : st9.lim ≤ st9.next := by rw [e9.lim]; have := e9.next; omega
    obtain ⟨st14, e14, t14⟩ := TK.pair (st := st9) (r := [.int .i64 0, .int .i64 0]) (0, 0) l9 rfl
    refine ⟨st14, camshaftlaw15_UlexLong_eq more st ?_⟩
    have hlv : (lenV v).bind (asI .i64) = some 1 := by rw [o9.len]; rfl
    simp only [camshaftlaw15_UlexLong, ha, Option.bind_some, asB_bool, Bool.not_true, cond_false, decide_eq_false h1, decide_eq_false h2, hw, hmk, hz, Int.toNat_natCast, SS.adv_next, a5', List.getElem?_cons_succ, List.getElem?_cons_zero, asI_int, hby, a9', tupG, List.getElem?_toArray, e14, decide_eq_false h3, cond_true, decide_true, hlv]

/-! ### UlexNumbers -/
/-- A numeral's signs. -/
def digs (B : Nat) (C : Nat → UInt8) : Nat → Nat → List UInt8 → List UInt8
  | 0, _, acc => acc
  | f + 1, k, acc => if k = 0 ∧ acc ≠ [] then acc else digs B C f (k / B) (C (k % B) :: acc)
theorem digs_parse (B : Nat) (C : Nat → UInt8) (hB : 2 ≤ B) (hC : ∀ d, d < B → digV (C d) = some d) : ∀ (f k : Nat) (acc : List UInt8), k < f → k ≠ 0 → (∀ n, n ≤ 2147483647 → ∀ x, x ∈ acc → True) →
    parseG B 0 (digs B C f k acc) = if k ≤ 2147483647 then parseG B k acc else some none := by
  intro f
  induction f with
  | zero => intro k acc hk; omega
  | succ f ih =>
    intro k acc hk h0 _
    have hd : k % B < B := Nat.mod_lt _ (by omega)
    have hkB : k / B * B + k % B = k := by rw [Nat.mul_comm]; exact Nat.div_add_mod k B
    have hlt : k / B < k := Nat.div_lt_self (by omega) hB
    have step : ∀ n, parseG B n (C (k % B) :: acc) = if 2147483647 < n * B + k % B then some none else parseG B (n * B + k % B) acc := by
      intro n
      show (match digV (C (k % B)) with
        | none => none
        | some d => if B ≤ d then none else if 2147483647 < n * B + d then some none else parseG B (n * B + d) acc) = _
      rw [hC _ hd]
      simp only [if_neg (Nat.not_le.2 hd)]
    unfold digs
    rw [if_neg (fun h => h0 h.1)]
    by_cases hz : k / B = 0
    · rw [hz]
      have e : digs B C f 0 (C (k % B) :: acc) = C (k % B) :: acc := by
        cases f with
        | zero => rfl
        | succ f => unfold digs; rw [if_pos ⟨rfl, by simp⟩]
      rw [e, step 0]
      have : 0 * B + k % B = k := by rw [← hz]; exact hkB
      rw [this]
      by_cases hk2 : k ≤ 2147483647
      · rw [if_neg (by omega), if_pos hk2]
      · rw [if_pos (by omega), if_neg hk2]
    · rw [ih (k / B) _ (by omega) hz (fun _ _ _ _ => trivial), step, hkB]
      by_cases hk2 : k ≤ 2147483647
      · rw [if_pos (by omega), if_neg (by omega), if_pos hk2]
      · rw [if_neg hk2]
        split
        · rw [if_pos (by omega)]
        · rfl
theorem digs_all (B : Nat) (C : Nat → UInt8) (p : UInt8 → Prop) (hB : 0 < B) (hC : ∀ d, d < B → p (C d)) : ∀ (f k : Nat) (acc : List UInt8), (∀ x ∈ acc, p x) → ∀ x ∈ digs B C f k acc, p x := by
  intro f
  induction f with
  | zero => intro k acc h; exact h
  | succ f ih =>
    intro k acc h
    unfold digs
    split
    · exact h
    · refine ih _ _ ?_
      intro x hx
      rcases List.mem_cons.1 hx with rfl | hx
      · exact hC _ (Nat.mod_lt _ hB)
      · exact h x hx
theorem digs_ne (B : Nat) (C : Nat → UInt8) : ∀ (f k : Nat) (acc : List UInt8), acc ≠ [] → digs B C f k acc ≠ [] := by
  intro f
  induction f with
  | zero => intro k acc h; exact h
  | succ f ih =>
    intro k acc h
    unfold digs
    split
    · exact h
    · exact ih _ _ (by simp)
/-- A numeral. -/
def numS (B : Nat) (C : Nat → UInt8) (k : Nat) : List UInt8 := digs B C (k + 2) k []
theorem numS_ne (B : Nat) (C : Nat → UInt8) (k : Nat) : numS B C k ≠ [] := by
  unfold numS digs
  rw [if_neg (fun h => h.2 rfl)]
  exact digs_ne _ _ _ _ _ (by simp)
theorem numS_parse (B : Nat) (C : Nat → UInt8) (hB : 2 ≤ B) (hC : ∀ d, d < B → digV (C d) = some d) (k : Nat) : parseT B (numS B C k) = if k ≤ 2147483647 then some (some k) else some none := by
  unfold parseT
  rw [if_neg (numS_ne B C k)]
  by_cases h0 : k = 0
  · subst h0
    have : numS B C 0 = [C 0] := by
      unfold numS digs
      rw [if_neg (fun h => h.2 rfl)]
      simp [digs]
    rw [this, if_pos (by omega)]
    show (match digV (C 0) with
        | none => none
        | some d => if B ≤ d then none else if 2147483647 < 0 * B + d then some none else parseG B (0 * B + d) []) = _
    rw [hC 0 (by omega)]
    simp only [if_neg (show ¬ B ≤ 0 by omega)]
    simp [parseG]
  · unfold numS
    rw [digs_parse B C hB hC (k + 2) k [] (by omega) h0 (fun _ _ _ _ => trivial)]
    rfl
def decC (d : Nat) : UInt8 := UInt8.ofNat (48 + d)
def hexC (d : Nat) : UInt8 := ([48, 49, 50, 51, 52, 53, 54, 55, 56, 57, 97, 98, 99, 100, 101, 102] : List UInt8)[d]?.getD 0
theorem decC_dig : ∀ d, d < 10 → digV (decC d) = some d := by decide
theorem hexC_dig : ∀ d, d < 16 → digV (hexC d) = some d := by decide
theorem decC_name : ∀ d, d < 10 → digitI (decC d).toNat = true ∧ letterI (decC d).toNat = false := by decide
theorem hexC_name : ∀ d, d < 16 → nameB (hexC d) = true := by decide
theorem runL_all {l : List UInt8} (h : ∀ x ∈ l, nameB x = true) : runL l = l.length := by
  induction l with
  | nil => rfl
  | cons b r ih =>
    rw [runL_cons, if_pos (h b (List.mem_cons_self ..)), ih (fun x hx => h x (List.mem_cons_of_mem _ hx)), List.length_cons]
    omega
/-- A line that is a numeral. -/
theorem lineX_num {c : UInt8} {r : List UInt8} (hc : digitI c.toNat = true) (hl : letterI c.toNat = false) (hall : ∀ x ∈ c :: r, nameB x = true) : lineX (c :: r) = match numO (numL (c :: r)) with
    | some m => .ok [⟨2, c :: r, m, 1⟩, endT (c :: r)]
    | none => .error 1 := by
  have h59 : ¬ (c.toNat : Int) = 59 := by
    unfold digitI at hc; simp only [Bool.and_eq_true, decide_eq_true_eq] at hc; omega
  have hbk : ¬ ((c.toNat : Int) = 32 ∨ (c.toNat : Int) = 9 ∨ (c.toNat : Int) = 13) := by
    unfold digitI at hc; simp only [Bool.and_eq_true, decide_eq_true_eq] at hc; omega
  have hrun := runL_all hall
  unfold lineX
  have : lexL (c :: r).length 0 (c :: r) = match numO (numL (c :: r)) with
    | some m => .ok [⟨2, c :: r, m, 1⟩]
    | none => .error 1 := by
    rw [List.length_cons]
    unfold lexL
    rw [stepT_eq rfl, if_neg h59, if_neg hbk, hl, if_neg (by simp), if_pos hc, hrun, List.take_of_length_le (Nat.le_refl _)]
    cases numO (numL (c :: r)) with
    | none => rfl
    | some m =>
      simp only [List.drop_of_length_le (Nat.le_refl _), List.take_of_length_le (Nat.le_refl _)]
      cases r.length with
      | zero => rfl
      | succ k => rfl
  rw [this]
  cases numO (numL (c :: r)) with
  | none => rfl
  | some m => rfl
theorem not_nl {l : List UInt8} (h : ∀ x ∈ l, nameB x = true) : (10 : UInt8) ∉ l := fun hm => by
  have := h _ hm
  exact absurd this (by decide)
theorem lexT_dec (k : Nat) : lexT (numS 10 decC k) = if k ≤ 2147483647 then .ok [(1, ⟨2, numS 10 decC k, k, 1⟩), (1, endT (numS 10 decC k))] else .error (1, 1) := by
  have hall := digs_all 10 decC (fun x => digitI x.toNat = true ∧ letterI x.toNat = false) (by omega) decC_name (k + 2) k [] (by simp)
  have hall : ∀ x ∈ numS 10 decC k, digitI x.toNat = true ∧ letterI x.toNat = false := hall
  have hname : ∀ x ∈ numS 10 decC k, nameB x = true := fun x hx => by unfold nameB; rw [(hall x hx).1]; simp
  have hhex : hexP (numS 10 decC k) = false := by
    unfold hexP
    rw [Bool.eq_false_iff]
    intro hp
    rw [List.isPrefixOf_iff_prefix] at hp
    have : (120 : UInt8) ∈ numS 10 decC k := hp.subset (by simp)
    exact absurd (hall _ this).1 (by decide)
  have hnum : numL (numS 10 decC k) = if k ≤ 2147483647 then some (some k) else some none := by
    unfold numL
    rw [hhex, if_neg (by simp)]
    exact numS_parse 10 decC (by omega) decC_dig k
  rw [lexT_line (not_nl hname)]
  cases hc : numS 10 decC k with
  | nil => exact absurd hc (numS_ne _ _ _)
  | cons c r =>
    rw [hc] at hall hname hnum
    have h1 := hall c (List.mem_cons_self ..)
    rw [lineX_num h1.1 h1.2 hname, hnum]
    by_cases hk : k ≤ 2147483647
    · simp only [if_pos hk]; rfl
    · simp only [if_neg hk]; rfl
theorem lexT_hex (k : Nat) : lexT ([48, 120] ++ numS 16 hexC k) = if k ≤ 2147483647 then .ok [(1, ⟨2, [48, 120] ++ numS 16 hexC k, k, 1⟩), (1, endT ([48, 120] ++ numS 16 hexC k))] else .error (1, 1) := by
  have hall : ∀ x ∈ numS 16 hexC k, nameB x = true := digs_all 16 hexC (fun x => nameB x = true) (by omega) hexC_name (k + 2) k [] (by simp)
  have hname : ∀ x ∈ (48 : UInt8) :: 120 :: numS 16 hexC k, nameB x = true := by
    intro x hx
    simp only [List.mem_cons] at hx
    rcases hx with rfl | rfl | hx
    · decide
    · decide
    · exact hall x hx
  have hnum : numL (48 :: 120 :: numS 16 hexC k) = if k ≤ 2147483647 then some (some k) else some none := by
    unfold numL
    have : hexP (48 :: 120 :: numS 16 hexC k) = true := by simp [hexP, List.isPrefixOf]
    rw [this, if_pos rfl]
    exact numS_parse 16 hexC (by omega) hexC_dig k
  show lexT (48 :: 120 :: numS 16 hexC k) = _
  rw [lexT_line (not_nl hname), lineX_num (by decide) (by decide) hname, hnum]
  by_cases hk : k ≤ 2147483647
  · simp only [if_pos hk]; rfl
  · simp only [if_neg hk]; rfl

theorem cat_ok {a b : List UInt8} (h : a.length + b.length ≤ 9223372036854775807) : catS (mkS a) (mkS b) = some (mkS (a ++ b)) := by
  unfold catS
  have : Nat.ble ((mkS a).size + (mkS b).size) 9223372036854775807 = true := by rw [Nat.ble_eq]; simpa using h
  rw [this, cond_true]
  congr 1
theorem tmod_nat (k B : Nat) : Int.tmod (k : Int) (B : Int) = ((k % B : Nat) : Int) := by
  rw [Int.tmod_eq_emod_of_nonneg (by omega)]; simp
theorem tdiv_nat (k B : Nat) : Int.tdiv (k : Int) (B : Int) = ((k / B : Nat) : Int) := by
  rw [Int.tdiv_eq_ediv_of_nonneg (by omega)]; simp
theorem eqT_nil (l : List UInt8) : eqT (mkS l) ⟨#[]⟩ = decide (l = []) := rfl
theorem dec_loop [Sym] (n : Int) (t : ByteArray) (st0 : SS) : ∀ (f k : Nat) (acc : List UInt8) (st : SS), (k + 2 ≤ f ∨ (k = 0 ∧ acc ≠ [] ∧ 1 ≤ f)) → k ≤ 8589934592 → acc.length + f ≤ 1099511627776 → Ext st0 st →
    ∃ st', camshaftlaw15_UlexNumbers_lf 7 [.int .i64 n, .string (mkS acc), .string t, .int .i64 k] st = some (0, [.int .i64 n, .string (mkS (digs 10 decC f k acc)), .string t], st') ∧ Ext st0 st' := by
  intro f
  induction f with
  | zero => intro k acc st hk; omega
  | succ f ih =>
    intro k acc st hk hk2 hlen he
    unfold digs
    by_cases hend : k = 0 ∧ acc ≠ []
    · rw [if_pos hend]
      refine ⟨st, camshaftlaw15_UlexNumbers_l7_eq n _ t _ st ?_, he⟩
      have h0 : ¬ (0 : Int) < (k : Int) := by omega
      simp only [camshaftlaw15_UlexNumbers_l7, decide_eq_false h0, cond_false, eqT_nil, decide_eq_false hend.2]
    · rw [if_neg hend]
      have hm : Int.tmod (k : Int) 10 = ((k % 10 : Nat) : Int) := tmod_nat k 10
      have hdv : Int.tdiv (k : Int) 10 = ((k / 10 : Nat) : Int) := tdiv_nat k 10
      have hlt : k % 10 < 10 := Nat.mod_lt _ (by omega)
      have hw1 : IntKind.wrap .i64 (48 + ((k % 10 : Nat) : Int)) = ((48 + k % 10 : Nat) : Int) := by rw [wrap64 (by omega) (by omega)]; omega
      have hw2 : IntKind.wrap .u8 ((48 + k % 10 : Nat) : Int) = ((48 + k % 10 : Nat) : Int) := wrapU8 (by omega) (by omega)
      have hw3 : IntKind.wrap .i64 ((k / 10 : Nat) : Int) = ((k / 10 : Nat) : Int) := wrap64 (by omega) (by omega)
      have hby : (st.new (.cells ([.int .u8 ((48 + k % 10 : Nat) : Int)]) 1)).bytes (.slice (some ⟨st.next, 0, none⟩) 1 1) = some (mkS [decC (k % 10)]) := bytes_cells SS.new_get rfl (by rfl)
      have hcat : catS (mkS [decC (k % 10)]) (mkS acc) = some (mkS (decC (k % 10) :: acc)) := cat_ok (by simp; omega)
      obtain ⟨st', a1, a2⟩ := ih (k / 10) (decC (k % 10) :: acc) (st.new (.cells ([.int .u8 ((48 + k % 10 : Nat) : Int)]) 1)) (by
        have hk' : k + 2 ≤ f + 1 := hk.elim id fun h => absurd ⟨h.1, h.2.1⟩ hend
        by_cases hz : k / 10 = 0
        · exact .inr ⟨hz, by simp, by omega⟩
        · have : k / 10 < k := Nat.div_lt_self (by omega) (by omega)
          omega) (by omega) (by simp; omega) (he.new _)
      refine ⟨st', camshaftlaw15_UlexNumbers_l7_eq n _ t _ st ?_, a2⟩
      by_cases h0 : (0 : Int) < (k : Int)
      · simp only [camshaftlaw15_UlexNumbers_l7, decide_eq_true h0, cond_true, hm, hw1, hw2, hby, Option.bind_some, hcat, asS_string, hdv, hw3]
        exact a1
      · have hk0 : k = 0 := by omega
        have hnil : acc = [] := Classical.byContradiction fun h => hend ⟨hk0, h⟩
        simp only [camshaftlaw15_UlexNumbers_l7, decide_eq_false h0, cond_false, eqT_nil, decide_eq_true hnil, cond_true, hm, hw1, hw2, hby, Option.bind_some, hcat, asS_string, hdv, hw3]
        exact a1
theorem hex_loop [Sym] (n : Int) (s : ByteArray) (st0 : SS) : ∀ (f k : Nat) (acc : List UInt8) (st : SS), (k + 2 ≤ f ∨ (k = 0 ∧ acc ≠ [] ∧ 1 ≤ f)) → k ≤ 8589934592 → acc.length + f ≤ 1099511627776 → Ext st0 st →
    ∃ st', camshaftlaw15_UlexNumbers_lf 11 [.int .i64 n, .string s, .string (mkS acc), .int .i64 k] st = some (0, [.int .i64 n, .string s, .string (mkS (digs 16 hexC f k acc))], st') ∧ Ext st0 st' := by
  intro f
  induction f with
  | zero => intro k acc st hk; omega
  | succ f ih =>
    intro k acc st hk hk2 hlen he
    unfold digs
    by_cases hend : k = 0 ∧ acc ≠ []
    · rw [if_pos hend]
      refine ⟨st, camshaftlaw15_UlexNumbers_l11_eq n s _ _ st ?_, he⟩
      have h0 : ¬ (0 : Int) < (k : Int) := by omega
      simp only [camshaftlaw15_UlexNumbers_l11, decide_eq_false h0, cond_false, eqT_nil, decide_eq_false hend.2]
    · rw [if_neg hend]
      have hm : Int.tmod (k : Int) 16 = ((k % 16 : Nat) : Int) := tmod_nat k 16
      have hdv : Int.tdiv (k : Int) 16 = ((k / 16 : Nat) : Int) := tdiv_nat k 16
      have hlt : k % 16 < 16 := Nat.mod_lt _ (by omega)
      have hw1 : IntKind.wrap .i64 (((k % 16 : Nat) : Int) + 1) = ((k % 16 + 1 : Nat) : Int) := by rw [wrap64 (by omega) (by omega)]; omega
      have hw3 : IntKind.wrap .i64 ((k / 16 : Nat) : Int) = ((k / 16 : Nat) : Int) := wrap64 (by omega) (by omega)
      have hsub : subS ⟨#[48, 49, 50, 51, 52, 53, 54, 55, 56, 57, 97, 98, 99, 100, 101, 102]⟩ ((k % 16 : Nat) : Int) ((k % 16 + 1 : Nat) : Int) = some (mkS [hexC (k % 16)]) := by
        have h := subS_mid (s := ⟨#[48, 49, 50, 51, 52, 53, 54, 55, 56, 57, 97, 98, 99, 100, 101, 102]⟩) (col := k % 16) (n := 1) (by show k % 16 + 1 ≤ 16; omega)
        rw [h]
        congr 2
        have : ∀ d, d < 16 → ((bl ⟨#[48, 49, 50, 51, 52, 53, 54, 55, 56, 57, 97, 98, 99, 100, 101, 102]⟩).drop d).take 1 = [hexC d] := by decide
        exact this _ hlt
      have hcat : catS (mkS [hexC (k % 16)]) (mkS acc) = some (mkS (hexC (k % 16) :: acc)) := cat_ok (by simp; omega)
      obtain ⟨st', a1, a2⟩ := ih (k / 16) (hexC (k % 16) :: acc) st (by
        have hk' : k + 2 ≤ f + 1 := hk.elim id fun h => absurd ⟨h.1, h.2.1⟩ hend
        by_cases hz : k / 16 = 0
        · exact .inr ⟨hz, by simp, by omega⟩
        · have : k / 16 < k := Nat.div_lt_self (by omega) (by omega)
          omega) (by omega) (by simp; omega) he
      refine ⟨st', camshaftlaw15_UlexNumbers_l11_eq n s _ _ st ?_, a2⟩
      by_cases h0 : (0 : Int) < (k : Int)
      · simp only [camshaftlaw15_UlexNumbers_l11, decide_eq_true h0, cond_true, hm, hw1, hsub, Option.bind_some, hcat, asS_string, hdv, hw3]
        exact a1
      · have hk0 : k = 0 := by omega
        have hnil : acc = [] := Classical.byContradiction fun h => hend ⟨hk0, h⟩
        simp only [camshaftlaw15_UlexNumbers_l11, decide_eq_false h0, cond_false, eqT_nil, decide_eq_true hnil, cond_true, hm, hw1, hsub, Option.bind_some, hcat, asS_string, hdv, hw3]
        exact a1
theorem digs_len (B : Nat) (C : Nat → UInt8) : ∀ (f k : Nat) (acc : List UInt8) (m : Nat), k < B ^ m → 2 ≤ B → (digs B C f k acc).length ≤ acc.length + m + 1 := by
  intro f
  induction f with
  | zero => intro k acc m _ _; unfold digs; omega
  | succ f ih =>
    intro k acc m hk hB
    unfold digs
    split
    · omega
    · rename_i hne
      cases m with
      | zero =>
        have hk0 : k = 0 := by simpa using hk
        subst hk0
        have : digs B C f (0 / B) (C (0 % B) :: acc) = C (0 % B) :: acc := by
          cases f with
          | zero => rfl
          | succ f => unfold digs; rw [if_pos ⟨by simp, by simp⟩]
        rw [this]; simp
      | succ m =>
        have := ih (k / B) (C (k % B) :: acc) m (by rw [Nat.div_lt_iff_lt_mul (by omega)]; rw [Nat.pow_succ] at hk; exact hk) hB
        simp only [List.length_cons] at this
        omega
theorem numS_len (B : Nat) (C : Nat → UInt8) (k : Nat) (hk : k < 10000000000) (hB : 10 ≤ B) : (numS B C k).length ≤ 12 := by
  have h1 : 10 ^ 10 ≤ B ^ 10 := Nat.pow_le_pow_left hB 10
  have := digs_len B C (k + 2) k [] 10 (by omega) (by omega)
  simp only [List.length_nil] at this
  unfold numS
  omega
theorem ulexNumbers_ok [Sym] {st : SS} (hg : Gd st) (hl : st.lim ≤ st.next) (n : Int) : ∃ st', cc 7 [.int .i64 n] st = some (.bool true, st') := by
  obtain ⟨m, hm, ha⟩ := alive_ok hg
  by_cases h1 : n < 0
  · exact ⟨st.adv m, camshaftlaw15_UlexNumbers_eq n st (by simp only [camshaftlaw15_UlexNumbers, ha, Option.bind_some, asB_bool, Bool.not_true, cond_false, decide_eq_true h1, cond_true])⟩
  by_cases h2 : 8589934592 < n
  · exact ⟨st.adv m, camshaftlaw15_UlexNumbers_eq n st (by simp only [camshaftlaw15_UlexNumbers, ha, Option.bind_some, asB_bool, Bool.not_true, cond_false, decide_eq_false h1, decide_eq_true h2, cond_true])⟩
  obtain ⟨k, rfl⟩ : ∃ k : Nat, n = (k : Int) := ⟨n.toNat, by omega⟩
  have e0 : Ext st (st.adv m) := (Ext.refl st).adv hm
  obtain ⟨st3, a3, e3⟩ := dec_loop (k : Int) ⟨#[]⟩ st (k + 2) k [] (st.adv m) (.inl (Nat.le_refl _)) (by omega) (by simp; omega) e0
  obtain ⟨st7, a7, e7⟩ := hex_loop (k : Int) (mkS (numS 10 decC k)) st (k + 2) k [] st3 (.inl (Nat.le_refl _)) (by omega) (by simp; omega) e3
  have a3' : camshaftlaw15_UlexNumbers_lf 7 [.int .i64 (k : Int), .string ⟨#[]⟩, .string ⟨#[]⟩, .int .i64 (k : Int)] (st.adv m) = some (0, [.int .i64 (k : Int), .string (mkS (numS 10 decC k)), .string ⟨#[]⟩], st3) := a3
  have a7' : camshaftlaw15_UlexNumbers_lf 11 [.int .i64 (k : Int), .string (mkS (numS 10 decC k)), .string ⟨#[]⟩, .int .i64 (k : Int)] st3 = some (0, [.int .i64 (k : Int), .string (mkS (numS 10 decC k)), .string (mkS (numS 16 hexC k))], st7) := a7
  have l7 : st7.lim ≤ st7.next := by rw [e7.lim]; have := e7.next; omega
  have len10 : (numS 10 decC k).length ≤ 12 := numS_len 10 decC k (by omega) (by omega)
  have len16 : (numS 16 hexC k).length ≤ 12 := numS_len 16 hexC k (by omega) (by omega)
  have hx1 := lex_ok (hg.ext e7) l7 (mkS (numS 10 decC k)) (by simp; omega)
  rw [bl_mkS, lexT_dec] at hx1
  have hcat : catS ⟨#[48, 120]⟩ (mkS (numS 16 hexC k)) = some (mkS ([48, 120] ++ numS 16 hexC k)) := cat_ok (a := [48, 120]) (by simp; omega)
  by_cases hk : k ≤ 2147483647
  · rw [if_pos hk] at hx1
    obtain ⟨v, st11, a11, e11, o11⟩ := hx1
    have l11 : st11.lim ≤ st11.next := by rw [e11.lim]; have := e11.next; omega
    obtain ⟨st16, e16, t16⟩ := TK.pair (st := st11) (r := [.int .i64 0, .int .i64 0]) (0, 0) l11 rfl
    have l16 : st16.lim ≤ st16.next := by rw [t16.ext.lim]; have := t16.ext.next; omega
    have hx2 := lex_ok (((hg.ext e7).ext e11).ext t16.ext) l16 (mkS ([48, 120] ++ numS 16 hexC k)) (by simp; omega)
    rw [bl_mkS, lexT_hex, if_pos hk] at hx2
    obtain ⟨w, st18, a18, e18, o18⟩ := hx2
    have l18 : st18.lim ≤ st18.next := by rw [e18.lim]; have := e18.next; omega
    obtain ⟨st23, e23, t23⟩ := TK.pair (st := st18) (r := [.int .i64 0, .int .i64 0]) (0, 0) l18 rfl
    have a11' : cc 15 [.string (mkS (numS 10 decC k))] st7 = some (.tuple #[v, pairV (0, 0), .int .i64 0], st11) := a11
    have a18' : cc 15 [.string (mkS ([48, 120] ++ numS 16 hexC k))] st16 = some (.tuple #[w, pairV (0, 0), .int .i64 0], st18) := a18
    have rv := ((o11.rd.ext t16.ext).ext e18).ext t23.ext
    have rw' := o18.rd.ext t23.ext
    have lv : (lenV v).bind (asI .i64) = some 2 := by rw [rv.len]; rfl
    have lw : (lenV w).bind (asI .i64) = some 2 := by rw [rw'.len]; rfl
    obtain ⟨p, b1, _, b2⟩ := rv.load (j := 0) (by omega) (by simp) (rowsL_get _ 0 (1, ⟨2, numS 10 decC k, k, 1⟩) rfl) rfl
    obtain ⟨q, c1, _, c2⟩ := rw'.load (j := 0) (by omega) (by simp) (rowsL_get _ 0 (1, ⟨2, [48, 120] ++ numS 16 hexC k, k, 1⟩) rfl) rfl
    have p0 : st23.ld p.1 p.2 = some (.int .i64 2) := b2 0 (by omega)
    have p1 : st23.ld p.1 (p.2 + 1) = some (.string (mkS (numS 10 decC k))) := b2 1 (by omega)
    have p2 : st23.ld p.1 (p.2 + 2) = some (.int .i64 k) := b2 2 (by omega)
    have q1 : st23.ld q.1 (q.2 + 1) = some (.string (mkS ([48, 120] ++ numS 16 hexC k))) := c2 1 (by omega)
    have q2 : st23.ld q.1 (q.2 + 2) = some (.int .i64 k) := c2 2 (by omega)
    have hbig : ¬ (2147483648 : Int) ≤ (k : Int) := by omega
    have s1 : ∀ l : List UInt8, eqT (mkS l) (mkS l) = true := fun l => by rw [eqT_iff']; simp
    refine ⟨st23, camshaftlaw15_UlexNumbers_eq _ st ?_⟩
    clear a3 a7 a11 a18 o11 o18 rv rw' b2 c2 len10 len16
    generalize numS 10 decC k = S10 at *
    generalize numS 16 hexC k = S16 at *
    simp only [camshaftlaw15_UlexNumbers, ha, Option.bind_some, asB_bool, Bool.not_true, cond_false, decide_eq_false h1, decide_eq_false h2, a3', a7', List.getElem?_cons_succ, List.getElem?_cons_zero, asI_int, asS_string, decide_eq_false hbig, cond_true]
    simp only [a11', Option.bind_some, asI_int, asS_string, List.getElem?_cons_succ, List.getElem?_cons_zero, tupG, List.getElem?_toArray, e16, hcat, a18', e23, decide_true, cond_true, lv, lw, b1, c1, p0, p1, p2, q1, q2, s1]
  · rw [if_neg hk] at hx1
    obtain ⟨st11, a11, e11⟩ := hx1
    have l11 : st11.lim ≤ st11.next := by rw [e11.lim]; have := e11.next; omega
    obtain ⟨st16, e16, t16⟩ := TK.pair (st := st11) (r := [.int .i64 0, .int .i64 0]) (1, 1) l11 rfl
    have l16 : st16.lim ≤ st16.next := by rw [t16.ext.lim]; have := t16.ext.next; omega
    have hx2 := lex_ok (((hg.ext e7).ext e11).ext t16.ext) l16 (mkS ([48, 120] ++ numS 16 hexC k)) (by simp; omega)
    rw [bl_mkS, lexT_hex, if_neg hk] at hx2
    obtain ⟨st18, a18, e18⟩ := hx2
    have l18 : st18.lim ≤ st18.next := by rw [e18.lim]; have := e18.next; omega
    obtain ⟨st23, e23, t23⟩ := TK.pair (st := st18) (r := [.int .i64 0, .int .i64 0]) (1, 1) l18 rfl
    have a11' : cc 15 [.string (mkS (numS 10 decC k))] st7 = some (.tuple #[.slice none 0 0, pairV (1, 1), .int .i64 4], st11) := a11
    have a18' : cc 15 [.string (mkS ([48, 120] ++ numS 16 hexC k))] st16 = some (.tuple #[.slice none 0 0, pairV (1, 1), .int .i64 4], st18) := a18
    have hbig : (2147483648 : Int) ≤ (k : Int) := by omega
    refine ⟨st23, camshaftlaw15_UlexNumbers_eq _ st ?_⟩
    simp only [camshaftlaw15_UlexNumbers, ha, Option.bind_some, asB_bool, Bool.not_true, cond_false, decide_eq_false h1, decide_eq_false h2, a3', a7', List.getElem?_cons_succ, List.getElem?_cons_zero, asI_int, asS_string, decide_eq_true hbig, cond_true]
    simp only [a11', Option.bind_some, asI_int, asS_string, List.getElem?_cons_succ, List.getElem?_cons_zero, tupG, List.getElem?_toArray, e16, hcat, a18', e23, decide_true, cond_true]
end Go.Proofs.YthngaoncjpgeiaaDoorE
