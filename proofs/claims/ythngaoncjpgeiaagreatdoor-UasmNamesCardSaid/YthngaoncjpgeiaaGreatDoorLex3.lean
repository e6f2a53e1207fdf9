/- What a number's reading comes to. -/
import Derived.Test.YthngaoncjpgeiaaGreatDoorLex2
import Derived.Test.YthngaoncjpgeiaaGreatDoorShC
set_option linter.unusedVariables false
set_option linter.unusedSimpArgs false
namespace Go.Proofs.YthngaoncjpgeiaaGreatDoorE
open Go Go.E Go.Proofs

/-- The two variables with errors lie where they lie. -/
structure Gd (st : SS) : Prop where
  g4 : st.mem.get 9 = some (.table [.chan (some 9)])
  g5 : st.mem.get 10 = some (.table [.chan (some 10)])
  gF : st.mem.get 0 = some (.table fieldsC)
  gS : st.mem.get 1 = some (.table asciiC)
  nx : 12 ≤ st.next
theorem Gd.ext {st st' : SS} (h : Gd st) (he : Ext st st') : Gd st' :=
  ⟨he.get (by have := h.nx; omega) h.g4, he.get (by have := h.nx; omega) h.g5, he.get (by have := h.nx; omega) h.gF, he.get (by have := h.nx; omega) h.gS, Nat.le_trans h.nx he.next⟩
theorem Gd.ro {st : SS} {n : Nat} (h : Gd st) : Gd (st.ro n) := ⟨h.g4, h.g5, h.gF, h.gS, h.nx⟩

/-! ### Prefixes -/
theorem take_eq_iff (p l : List UInt8) : (l.take p.length = p) ↔ p.isPrefixOf l = true := by
  rw [List.isPrefixOf_iff_prefix, List.prefix_iff_eq_take]
  exact eq_comm
theorem hasPrefix_ok [Sym] (s p : ByteArray) (st : SS) : cc 173 [.string s, .string p] st = some (.bool ((bl p).isPrefixOf (bl s)), st) := by
  refine istringslite_HasPrefix_eq s p st ?_
  unfold istringslite_HasPrefix
  by_cases h : (p.size : Int) ≤ (s.size : Int)
  · simp only [decide_eq_true h, cond_true, sub_ok (s := s) (l := 0) (h := p.size) (by omega) (by omega) h, Option.bind_some, eqT_iff']
    congr 3
    rw [Bool.eq_iff_iff, decide_eq_true_eq, ← take_eq_iff, bl_extract, bl_length]
    simp
  · simp only [decide_eq_false h, cond_false]
    congr 3
    have : (bl p).isPrefixOf (bl s) = false := by
      rw [Bool.eq_false_iff]
      intro hp
      rw [List.isPrefixOf_iff_prefix] at hp
      have := hp.length_le
      simp at this
      omega
    rw [this]
theorem cutPrefix_ok [Sym] (s p : ByteArray) (st : SS) : cc 141 [.string s, .string p] st = some (.tuple #[.string (if (bl p).isPrefixOf (bl s) then mkS ((bl s).drop p.size) else s), .bool ((bl p).isPrefixOf (bl s))], st) := by
  have h1 : cc 161 [.string s, .string p] st = some (.tuple #[.string (if (bl p).isPrefixOf (bl s) then mkS ((bl s).drop p.size) else s), .bool ((bl p).isPrefixOf (bl s))], st) := by
    refine istringslite_CutPrefix_eq s p st ?_
    unfold istringslite_CutPrefix
    rw [hasPrefix_ok]
    cases hp : (bl p).isPrefixOf (bl s) with
    | false => simp
    | true =>
      have hp' := hp
      rw [List.isPrefixOf_iff_prefix] at hp'
      have := hp'.length_le
      simp only [bl_length] at this
      simp [sub_ok (s := s) (l := p.size) (h := s.size) (by omega) (by omega) (by omega), extract_mkS]
      rw [List.take_of_length_le (by simp)]
  refine strings_CutPrefix_eq s p st ?_
  unfold strings_CutPrefix
  rw [h1]
  rfl

/-! ### A digit's worth -/
def lowN (b : UInt8) : Nat := (orI .u8 b.toNat 32).toNat
theorem wrapU8_range (n : Int) : 0 ≤ IntKind.wrap .u8 n ∧ IntKind.wrap .u8 n < 256 := by
  rw [← wrapF_eq]
  show 0 ≤ ((emodF n 256 : Nat) : Int) ∧ ((emodF n 256 : Nat) : Int) < 256
  rw [emodF_eq _ _ (by decide)]
  omega
theorem low_eq (b : UInt8) : orI .u8 b.toNat 32 = (lowN b : Int) := by
  have := (wrapU8_range ((BitVec.ofInt 8 b.toNat ||| BitVec.ofInt 8 32).toNat : Nat)).1
  unfold lowN
  rw [Int.toNat_of_nonneg]
  exact this
theorem low_lt (b : UInt8) : lowN b < 256 := by
  have := (wrapU8_range ((BitVec.ofInt 8 b.toNat ||| BitVec.ofInt 8 32).toNat : Nat)).2
  have h2 := low_eq b
  have h3 : orI .u8 b.toNat 32 < 256 := this
  omega
theorem lower_ok [Sym] (b : UInt8) (st : SS) : cc 174 [.int .u8 b.toNat] st = some (.int .u8 (lowN b), st) := by
  refine istrconv_lower_eq _ st ?_
  unfold istrconv_lower
  rw [low_eq]
def digV (b : UInt8) : Option Nat := if 48 ≤ b.toNat ∧ b.toNat ≤ 57 then some (b.toNat - 48) else if 97 ≤ lowN b ∧ lowN b ≤ 122 then some (lowN b - 87) else none
/-- none: no digits; some none: too big. -/
def parseG (B : Nat) : Nat → List UInt8 → Option (Option Nat)
  | n, [] => some (some n)
  | n, b :: r => match digV b with
    | none => none
    | some d => if B ≤ d then none else if 2147483647 < n * B + d then some none else parseG B (n * B + d) r
def puR (x : Option (Option Nat)) (s : ByteArray) (st : SS) : Nat × List Value × SS := match x with
  | none => (1, [.int .u64 0, .iface 256 (.int .i64 2)], st)
  | some none => (1, [.int .u64 2147483647, .iface 256 (.int .i64 1)], st)
  | some (some m) => (0, [.string s, .bool false, .int .u64 m], st)
theorem pu_loop [Sym] (s s0 : ByteArray) (B : Nat) (hB : 0 < B ∧ B ≤ 16) (C : Int) (hC : 2147483648 ≤ C) (i cap : Nat) (st : SS) (hs : s.size ≤ 4294967296) (hm : st.mem.get i = some (.cells (s.data.toList.map fun b => .int .u8 b.toNat) 1)) : ∀ (l : List UInt8) (p n : Nat), (bl s).drop p = l → p ≤ s.size → n ≤ 2147483647 →
    pu10_lf 36 [.int .i64 B, .bool false, .string s0, .int .u64 C, .int .u64 2147483647, .bool false, .int .u64 n, .slice (some ⟨i, 0, none⟩) s.size cap, .int .i64 s.size, .int .i64 p] st = some (puR (parseG B n l) s0 st) := by
  intro l
  induction l with
  | nil =>
    intro p n hp hle hn
    have hps : p = s.size := by
      rw [List.drop_eq_nil_iff, bl_length] at hp
      omega
    subst hps
    refine pu10_l36_eq _ _ _ _ _ _ _ _ _ st ?_
    simp [pu10_l36, parseG, puR]
  | cons b r ih =>
    intro p n hp hle hn
    have hb : (bl s)[p]? = some b := by
      have := congrArg (·[0]?) hp
      simpa using this
    have hlt : p < s.size := by
      obtain ⟨h, _⟩ := List.getElem?_eq_some_iff.1 hb
      simpa using h
    have hr : (bl s).drop (p + 1) = r := by
      have := drop_cons hb
      rw [hp] at this
      exact (List.cons.inj this).2.symm
    have hlt' : (p : Int) < (s.size : Int) := by omega
    have hel : elemS (.slice (some ⟨i, 0, none⟩) s.size cap) (p : Int) 1 = some (i, p) := by
      unfold elemS
      simp [hlt]
    have hld : (st.ld i p).bind (asI .u8) = some (b.toNat : Int) := by
      rw [SS.ld_cells hm, List.getElem?_map]
      show (((bl s)[p]?).map _).bind _ = _
      rw [hb]
      rfl
    have hwp : IntKind.wrap .i64 ((p : Int) + 1) = ((p + 1 : Nat) : Int) := by rw [wrap64 (by omega) (by omega)]; omega
    have hB8 : IntKind.wrap .u8 (B : Int) = B := wrapU8 (by omega) (by omega)
    have hB64 : IntKind.wrap .u64 (B : Int) = B := wrapU64 (by omega) (by omega)
    have hmul : n * B ≤ 2147483647 * 16 := Nat.mul_le_mul hn hB.2
    have hmulw : IntKind.wrap .u64 ((n : Int) * (B : Int)) = ((n * B : Nat) : Int) := by
      rw [← Int.natCast_mul]
      exact wrapU64 (by omega) (by omega)
    have hCn : ¬ C ≤ (n : Int) := by omega
    have hlow := low_lt b
    have hbl := b.toNat_lt
    -- a digit d
    have fin : ∀ d : Nat, d < 256 → digV b = some d → ∀ (q : Int), q = d →
      (cond (decide ((B : Int) ≤ q)) (some (1, [Value.int .u64 0, .iface 256 (.int .i64 2)], st)) (
       cond (decide (C ≤ (n : Int))) (some (1, [.int .u64 2147483647, .iface 256 (.int .i64 1)], st)) (
        cond (decide (IntKind.wrap .u64 (((n * B : Nat) : Int) + IntKind.wrap .u64 q) < ((n * B : Nat) : Int))) (some (1, [.int .u64 2147483647, .iface 256 (.int .i64 1)], st)) (
         cond (decide (2147483647 < IntKind.wrap .u64 (((n * B : Nat) : Int) + IntKind.wrap .u64 q))) (some (1, [.int .u64 2147483647, .iface 256 (.int .i64 1)], st)) (
          pu10_lf 36 [.int .i64 B, .bool false, .string s0, .int .u64 C, .int .u64 2147483647, .bool false, .int .u64 (IntKind.wrap .u64 (((n * B : Nat) : Int) + IntKind.wrap .u64 q)), .slice (some ⟨i, 0, none⟩) s.size cap, .int .i64 s.size, .int .i64 ((p + 1 : Nat) : Int)] st))))) = some (puR (parseG B n (b :: r)) s0 st) := by
      intro d hd hv q hq
      subst hq
      have hw1 : IntKind.wrap .u64 (d : Int) = d := wrapU64 (by omega) (by omega)
      have hw2 : IntKind.wrap .u64 (((n * B : Nat) : Int) + (d : Int)) = ((n * B + d : Nat) : Int) := by
        rw [← Int.natCast_add]
        exact wrapU64 (by omega) (by omega)
      have hnl : ¬ (((n * B + d : Nat) : Int) < ((n * B : Nat) : Int)) := by omega
      rw [hw1, hw2, decide_eq_false hCn, decide_eq_false hnl]
      unfold parseG
      rw [hv]
      by_cases h1 : B ≤ d
      · have h1' : (B : Int) ≤ (d : Int) := by omega
        simp [h1, puR]
      · have h1' : ¬ (B : Int) ≤ (d : Int) := by omega
        rw [decide_eq_false h1']
        simp only [cond_false, h1, if_false]
        by_cases h2 : 2147483647 < n * B + d
        · have h2' : (2147483647 : Int) < ((n * B + d : Nat) : Int) := by omega
          rw [decide_eq_true h2', if_pos h2]
          rfl
        · have h2' : ¬ (2147483647 : Int) < ((n * B + d : Nat) : Int) := by omega
          rw [decide_eq_false h2', if_neg h2]
          exact ih (p + 1) (n * B + d) hr (by omega) (by omega)
    refine pu10_l36_eq _ _ _ _ _ _ _ _ _ st ?_
    by_cases hdig : 48 ≤ b.toNat ∧ b.toNat ≤ 57
    · have h1 : (48 : Int) ≤ (b.toNat : Int) := by omega
      have h2 : (b.toNat : Int) ≤ 57 := by omega
      have h3 : ¬ (b.toNat : Int) = 95 := by omega
      have hw : IntKind.wrap .u8 ((b.toNat : Int) - 48) = ((b.toNat - 48 : Nat) : Int) := by rw [wrapU8 (by omega) (by omega)]; omega
      have := fin (b.toNat - 48) (by omega) (by unfold digV; rw [if_pos hdig]) _ rfl
      simp only [pu10_l36, decide_eq_true hlt', cond_true, hel, Option.bind_some, hld, decide_eq_false h3, cond_false, decide_eq_true h1, decide_eq_true h2, hw, hB8, hB64, hmulw, hwp]
      exact this
    · have hlo := lower_ok b st
      have h4857 : decide ((48 : Int) ≤ (b.toNat : Int)) = false ∨ (decide ((48 : Int) ≤ (b.toNat : Int)) = true ∧ decide ((b.toNat : Int) ≤ 57) = false) := by
        by_cases h : (48 : Int) ≤ (b.toNat : Int)
        · exact .inr ⟨decide_eq_true h, decide_eq_false (by omega)⟩
        · exact .inl (decide_eq_false h)
      by_cases h1 : 97 ≤ lowN b
      · have h1' : (97 : Int) ≤ (lowN b : Int) := by omega
        have hw1 : IntKind.wrap .u8 ((lowN b : Int) - 97) = ((lowN b - 97 : Nat) : Int) := by rw [wrapU8 (by omega) (by omega)]; omega
        by_cases h2 : lowN b ≤ 122
        · have h2' : (lowN b : Int) ≤ 122 := by omega
          have hw2 : IntKind.wrap .u8 (((lowN b - 97 : Nat) : Int) + 10) = ((lowN b - 87 : Nat) : Int) := by rw [wrapU8 (by omega) (by omega)]; omega
          have := fin (lowN b - 87) (by omega) (by unfold digV; rw [if_neg hdig, if_pos ⟨h1, h2⟩]) _ rfl
          rcases h4857 with h48 | ⟨h48, h57⟩
          · cases h95 : decide ((b.toNat : Int) = 95)
            all_goals
              simp only [pu10_l36, decide_eq_true hlt', cond_true, hel, Option.bind_some, hld, h95, cond_false, h48, hlo, asI_int, decide_eq_true h1', decide_eq_true h2', hw1, hw2, hB8, hB64, hmulw, hwp]
              exact this
          · cases h95 : decide ((b.toNat : Int) = 95)
            all_goals
              simp only [pu10_l36, decide_eq_true hlt', cond_true, hel, Option.bind_some, hld, h95, cond_false, h48, h57, hlo, asI_int, decide_eq_true h1', decide_eq_true h2', hw1, hw2, hB8, hB64, hmulw, hwp]
              exact this
        · have h2' : ¬ (lowN b : Int) ≤ 122 := by omega
          have hv : digV b = none := by unfold digV; rw [if_neg hdig, if_neg (by omega)]
          have e : parseG B n (b :: r) = none := by unfold parseG; rw [hv]
          rw [e]
          rcases h4857 with h48 | ⟨h48, h57⟩
          · cases h95 : decide ((b.toNat : Int) = 95)
            all_goals
              simp only [pu10_l36, decide_eq_true hlt', cond_true, hel, Option.bind_some, hld, h95, cond_false, h48, hlo, asI_int, decide_eq_true h1', decide_eq_false h2', puR]
          · cases h95 : decide ((b.toNat : Int) = 95)
            all_goals
              simp only [pu10_l36, decide_eq_true hlt', cond_true, hel, Option.bind_some, hld, h95, cond_false, h48, h57, hlo, asI_int, decide_eq_true h1', decide_eq_false h2', puR]
      · have h1' : ¬ (97 : Int) ≤ (lowN b : Int) := by omega
        have hv : digV b = none := by unfold digV; rw [if_neg hdig, if_neg (by omega)]
        have e : parseG B n (b :: r) = none := by unfold parseG; rw [hv]
        rw [e]
        rcases h4857 with h48 | ⟨h48, h57⟩
        · cases h95 : decide ((b.toNat : Int) = 95)
          all_goals
            simp only [pu10_l36, decide_eq_true hlt', cond_true, hel, Option.bind_some, hld, h95, cond_false, h48, hlo, asI_int, decide_eq_false h1', puR]
        · cases h95 : decide ((b.toNat : Int) = 95)
          all_goals
            simp only [pu10_l36, decide_eq_true hlt', cond_true, hel, Option.bind_some, hld, h95, cond_false, h48, h57, hlo, asI_int, decide_eq_false h1', puR]

/-! ### ParseUint -/
def parseT (B : Nat) (l : List UInt8) : Option (Option Nat) := if l = [] then none else parseG B 0 l
/-- The worth and the fault. -/
def puV (x : Option (Option Nat)) : Int × Option Nat := match x with
  | none => (0, some 4)
  | some none => (2147483647, some 5)
  | some (some m) => (m, none)
def numV (x : Option (Option Nat)) : Int × Bool := ((puV x).1, (puV x).2.isNone)
def puE (x : Option (Option Nat)) : Value := match x with
  | none => .iface 256 (.int .i64 2)
  | some none => .iface 256 (.int .i64 1)
  | some (some m) => .nilIface
theorem eqT_empty (s : ByteArray) : eqT s ⟨#[]⟩ = decide (bl s = []) := rfl
theorem pu16_same : @pu16_lf = @pu10_lf := rfl
theorem pu10_ok [Sym] (s : ByteArray) (hs : s.size ≤ 4294967296) (st : SS) : ∃ st', cc 162 [.string s, .int .i64 10, .int .i64 31] st = some (.tuple #[.int .u64 (puV (parseT 10 (bl s))).1, puE (parseT 10 (bl s))], st') ∧ Ext st st' := by
  have hsh : IntKind.wrap .u64 (shlI .u64 1 31 - 1) = 2147483647 := by decide
  by_cases h0 : bl s = []
  · refine ⟨st, pu10_eq s st ?_, .refl _⟩
    simp [pu10, eqT_empty, h0, parseT, puV, puE]
  · refine ⟨st.new (.cells (s.data.toList.map fun b => .int .u8 b.toNat) 1), pu10_eq s st ?_, (Ext.refl st).new _⟩
    have := pu_loop s s 10 (by omega) 1844674407370955162 (by omega) st.next s.size (st.new (.cells (s.data.toList.map fun b => .int .u8 b.toNat) 1)) hs (by simp) (bl s) 0 0 rfl (by omega) (by omega)
    have this' : pu10_lf 36 [.int .i64 10, .bool false, .string s, .int .u64 1844674407370955162, .int .u64 2147483647, .bool false, .int .u64 0, .slice (some ⟨st.next, 0, none⟩) s.size s.size, .int .i64 ((s.size : Nat) : Int), .int .i64 0] (st.new (.cells (s.data.toList.map fun b => .int .u8 b.toNat) 1)) = _ := this
    simp only [pu10, eqT_empty, decide_eq_false h0, cond_false, hsh, this', Option.bind_some, parseT, if_neg h0]
    rcases parseG 10 0 (bl s) with _ | _ | m <;> simp [puR, puV, puE]
theorem pu16_ok [Sym] (s : ByteArray) (hs : s.size ≤ 4294967296) (st : SS) : ∃ st', cc 162 [.string s, .int .i64 16, .int .i64 31] st = some (.tuple #[.int .u64 (puV (parseT 16 (bl s))).1, puE (parseT 16 (bl s))], st') ∧ Ext st st' := by
  have hsh : IntKind.wrap .u64 (shlI .u64 1 31 - 1) = 2147483647 := by decide
  by_cases h0 : bl s = []
  · refine ⟨st, pu16_eq s st ?_, .refl _⟩
    simp [pu16, eqT_empty, h0, parseT, puV, puE]
  · refine ⟨st.new (.cells (s.data.toList.map fun b => .int .u8 b.toNat) 1), pu16_eq s st ?_, (Ext.refl st).new _⟩
    have := pu_loop s s 16 (by omega) 1152921504606846976 (by omega) st.next s.size (st.new (.cells (s.data.toList.map fun b => .int .u8 b.toNat) 1)) hs (by simp) (bl s) 0 0 rfl (by omega) (by omega)
    have this' : pu16_lf 36 [.int .i64 16, .bool false, .string s, .int .u64 1152921504606846976, .int .u64 2147483647, .bool false, .int .u64 0, .slice (some ⟨st.next, 0, none⟩) s.size s.size, .int .i64 ((s.size : Nat) : Int), .int .i64 0] (st.new (.cells (s.data.toList.map fun b => .int .u8 b.toNat) 1)) = _ := this
    simp only [pu16, eqT_empty, decide_eq_false h0, cond_false, hsh, this', Option.bind_some, parseT, if_neg h0]
    rcases parseG 16 0 (bl s) with _ | _ | m <;> simp [puR, puV, puE]
theorem toErr_ok [Sym] {st : SS} (hg : Gd st) (fn s : ByteArray) (hs : s.size ≤ 4294967296) (base bits : Int) (x : Option (Option Nat)) (hx : (puV x).2.isNone = false) :
    cc 163 [.string fn, .string s, .int .i64 base, .int .i64 bits, puE x] st = some (.iface 258 (.pointer (some ⟨st.next, 0, none⟩)), st.adv (st.next + 1)) := by
  have hq : Nat.ble s.size 281474976710656 = true := by rw [Nat.ble_eq]; omega
  have hn := hg.nx
  rcases x with _ | _ | m
  · have h := con_sound (P := Tryz.prog) (L := Lk0) (f := 163) (args := [.string fn, .string s, .int .i64 base, .int .i64 bits, .iface 256 (.int .i64 2)]) (st := st) (c := errCon st.next 9) (by rfl)
      (by show conF 163 [.string fn, .string s, .int .i64 base, .int .i64 bits, .iface 256 (.int .i64 2)] st.next = _; simp [conF, -nble_dec, hq]) (by
        have h4 : Nat.blt 9 st.next = true := by rw [Nat.blt_eq]; omega
        have hgl : Lk0.glob 9 = true := rfl
        simp [errCon, hg.g4, eqTab, eqVs, h4, hgl])
    exact h
  · have h := con_sound (P := Tryz.prog) (L := Lk0) (f := 163) (args := [.string fn, .string s, .int .i64 base, .int .i64 bits, .iface 256 (.int .i64 1)]) (st := st) (c := errCon st.next 10) (by rfl)
      (by show conF 163 [.string fn, .string s, .int .i64 base, .int .i64 bits, .iface 256 (.int .i64 1)] st.next = _; simp [conF, -nble_dec, hq]) (by
        have h4 : Nat.blt 10 st.next = true := by rw [Nat.blt_eq]; omega
        have hgl : Lk0.glob 10 = true := rfl
        simp [errCon, hg.g5, eqTab, eqVs, h4, hgl])
    exact h
  · cases hx
/-- What strconv.ParseUint hands back: the worth, and a fault or none. -/
theorem parseUint_ok [Sym] {st : SS} (hg : Gd st) (s : ByteArray) (hs : s.size ≤ 4294967296) (base : Int) (B : Nat) (hb : (base = 10 ∧ B = 10) ∨ (base = 16 ∧ B = 16)) :
    ∃ e st', cc 142 [.string s, .int .i64 base, .int .i64 31] st = some (.tuple #[.int .u64 (puV (parseT B (bl s))).1, e], st') ∧ isNilI e = some (puV (parseT B (bl s))).2.isNone ∧ Ext st st' := by
  have h : ∃ st', cc 162 [.string s, .int .i64 base, .int .i64 31] st = some (.tuple #[.int .u64 (puV (parseT B (bl s))).1, puE (parseT B (bl s))], st') ∧ Ext st st' := by
    rcases hb with ⟨rfl, rfl⟩ | ⟨rfl, rfl⟩
    · exact pu10_ok s hs st
    · exact pu16_ok s hs st
  obtain ⟨st', h1, h2⟩ := h
  have hE : isNilI (puE (parseT B (bl s))) = some (puV (parseT B (bl s))).2.isNone := by
    rcases parseT B (bl s) with _ | _ | m <;> rfl
  cases hx : (puV (parseT B (bl s))).2.isNone with
  | true =>
    refine ⟨.nilIface, st', strconv_ParseUint_eq s _ _ st ?_, rfl, h2⟩
    rw [hx] at hE
    simp [strconv_ParseUint, h1, tupG, hE]
  | false =>
    refine ⟨.iface 258 (.pointer (some ⟨st'.next, 0, none⟩)), st'.adv (st'.next + 1), strconv_ParseUint_eq s _ _ st ?_, rfl, h2.adv (Nat.le_succ _)⟩
    rw [hx] at hE
    simp [strconv_ParseUint, h1, tupG, hE, toErr_ok (hg.ext h2) _ s hs _ _ _ hx]

/-! ### number -/
def hexP (l : List UInt8) : Bool := [48, 120].isPrefixOf l
def numL (l : List UInt8) : Option (Option Nat) := if hexP l then parseT 16 (l.drop 2) else parseT 10 l
theorem dig_no_under {B n m : Nat} {l : List UInt8} (h : parseG B n l = some (some m)) : Lib.indexByte l 95 = -1 := by
  induction l generalizing n with
  | nil => rfl
  | cons b r ih =>
    unfold parseG at h
    split at h
    · cases h
    · rename_i d hd
      split at h
      · cases h
      · split at h
        · cases h
        · have hb : b ≠ 95 := by
            rintro rfl
            have : digV 95 = none := by decide
            rw [this] at hd; cases hd
          simp [Lib.indexByte, hb, ih h]
theorem puV_under {B : Nat} {l : List UInt8} (h : (puV (parseT B l)).2.isNone = true) : Lib.indexByte l 95 = -1 := by
  unfold parseT at h
  split at h
  · cases h
  · cases hp : parseG B 0 l with
    | none => rw [hp] at h; cases h
    | some x => cases x with
      | none => rw [hp] at h; cases h
      | some m => exact dig_no_under hp
theorem puV_range {B : Nat} {l : List UInt8} : 0 ≤ (puV (parseT B l)).1 ∧ (puV (parseT B l)).1 ≤ 2147483647 := by
  have : ∀ (l : List UInt8) (n m : Nat), n ≤ 2147483647 → parseG B n l = some (some m) → m ≤ 2147483647 := by
    intro l
    induction l with
    | nil => intro n m hn h; cases h; exact hn
    | cons b r ih =>
      intro n m hn h
      unfold parseG at h
      split at h
      · cases h
      · split at h
        · cases h
        · split at h
          · cases h
          · exact ih _ _ (by omega) h
  unfold parseT
  split
  · simp [puV]
  · cases hp : parseG B 0 l with
    | none => simp [puV]
    | some x => cases x with
      | none => simp [puV]
      | some m => have := this l 0 m (by omega) hp; simp only [puV]; omega
theorem number_ok [Sym] {st : SS} (hg : Gd st) (s : ByteArray) (hs : s.size ≤ 4294967296) : ∃ n, st.next ≤ n ∧ cc 117 [.string s] st = some (.tuple #[.int .i64 (numV (numL (bl s))).1, .bool (numV (numL (bl s))).2], st.adv n) := by
  have hcut := cutPrefix_ok s ⟨#[48, 120]⟩ (st.ro st.next)
  have hp : (bl (⟨#[48, 120]⟩ : ByteArray)) = [48, 120] := rfl
  have hsz : (⟨#[48, 120]⟩ : ByteArray).size = 2 := rfl
  rw [hp, hsz] at hcut
  cases hh : hexP (bl s) with
  | true =>
    have hh' := hh
    unfold hexP at hh'
    rw [hh'] at hcut
    obtain ⟨e, st', h1, h2, h3⟩ := parseUint_ok (st := st.ro st.next) (hg.ro) (mkS ((bl s).drop 2)) (by simp; omega) 16 16 (.inr ⟨rfl, rfl⟩)
    rw [bl_mkS] at h1 h2
    refine ⟨st'.next, h3.next, ulex_number_eq s st ?_⟩
    have hw := wrap64 (n := (puV (parseT 16 ((bl s).drop 2))).1) (by have := puV_range (B := 16) (l := (bl s).drop 2); omega) (by have := puV_range (B := 16) (l := (bl s).drop 2); omega)
    have hi := indexByte_ok 95 (mkS ((bl s).drop 2)) st'
    cases hx : (puV (parseT 16 ((bl s).drop 2))).2.isNone with
    | true =>
      rw [hx] at h2
      have hu := puV_under hx
      have hi' : cc 118 [.string (mkS ((bl s).drop 2)), .int .u8 95] st' = _ := hi
      rw [bl_mkS, hu] at hi'
      simp [ulex_number, hcut, tupG, h1, h2, hw, numL, hh, numV, hx, hi']
    | false =>
      rw [hx] at h2
      simp [ulex_number, hcut, tupG, h1, h2, hw, numL, hh, numV, hx]
  | false =>
    have hh' := hh
    unfold hexP at hh'
    rw [hh'] at hcut
    obtain ⟨e, st', h1, h2, h3⟩ := parseUint_ok (st := st.ro st.next) (hg.ro) s hs 10 10 (.inl ⟨rfl, rfl⟩)
    refine ⟨st'.next, h3.next, ulex_number_eq s st ?_⟩
    have hw := wrap64 (n := (puV (parseT 10 (bl s))).1) (by have := puV_range (B := 10) (l := bl s); omega) (by have := puV_range (B := 10) (l := bl s); omega)
    have hi := indexByte_ok 95 s st'
    cases hx : (puV (parseT 10 (bl s))).2.isNone with
    | true =>
      rw [hx] at h2
      have hu := puV_under hx
      have hi' : cc 118 [.string s, .int .u8 95] st' = _ := hi
      rw [hu] at hi'
      simp [ulex_number, hcut, tupG, h1, h2, hw, numL, hh, numV, hx, hi']
    | false =>
      rw [hx] at h2
      simp [ulex_number, hcut, tupG, h1, h2, hw, numL, hh, numV, hx]
end Go.Proofs.YthngaoncjpgeiaaGreatDoorE
