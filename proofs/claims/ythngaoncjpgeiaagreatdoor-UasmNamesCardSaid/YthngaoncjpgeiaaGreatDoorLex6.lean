/- What the reference's Line comes to. -/
import Derived.Test.YthngaoncjpgeiaaGreatDoorLex5
set_option linter.unusedVariables false
set_option linter.unusedSimpArgs false
namespace Go.Proofs.YthngaoncjpgeiaaGreatDoorE
open Go Go.E Go.Proofs

theorem rline_run [Sym] (s : ByteArray) (at' : Int) (out : Value) (i : Nat) (c : Int) (st : SS) (hs : s.size ≤ 4294967296) : ∀ (k n : Nat), s.size ≤ k + (i + n) → i + n ≤ s.size →
    camshaftref15_Line_lf 6 [.string s, .int .i64 at', out, .int .i64 i, .int .u8 c, .int .i64 n] st = some (0, [.string s, .int .i64 at', out, .int .i64 i, .int .u8 c, .int .i64 ((n + runL ((bl s).drop (i + n)) : Nat) : Int)], st) := by
  intro k
  induction k with
  | zero =>
    intro n hk hn
    have he : i + n = s.size := by omega
    have hw : IntKind.wrap .i64 ((i : Int) + (n : Int)) = (s.size : Int) := by rw [wrap64 (by omega) (by omega)]; omega
    refine camshaftref15_Line_l6_eq s _ out _ _ _ st ?_
    rw [he, bl_drop_nil]
    simp [camshaftref15_Line_l6, hw, runL]
  | succ k ih =>
    intro n hk hn
    have hw : IntKind.wrap .i64 ((i : Int) + (n : Int)) = ((i + n : Nat) : Int) := by rw [wrap64 (by omega) (by omega)]; omega
    refine camshaftref15_Line_l6_eq s _ out _ _ _ st ?_
    by_cases hlt : i + n < s.size
    · obtain ⟨b, hb⟩ : ∃ b, (bl s)[i + n]? = some b := ⟨_, List.getElem?_eq_getElem (by rw [bl_length]; exact hlt)⟩
      have hdc := drop_cons hb
      have hix : (idxS s ((i + n : Nat) : Int)).bind (asI .u8) = some (b.toNat : Int) := by
        obtain ⟨b', hb', hidx⟩ := idx_lt (s := s) (i := ((i + n : Nat) : Int)) (by omega) (by omega)
        have : b' = b := by rw [Int.toNat_natCast, hb] at hb'; cases hb'; rfl
        subst this
        rw [hidx]; simp
      have hlt' : ((i + n : Nat) : Int) < (s.size : Int) := by omega
      have hwn : IntKind.wrap .i64 ((n : Int) + 1) = ((n + 1 : Nat) : Int) := by rw [wrap64 (by omega) (by omega)]; omega
      have hlet := rletter_ok (b.toNat : Int) st
      have hdig := rdigit_ok b 10 st
      have h10 := digit10 b
      have next := ih (n + 1) (by omega) (by omega)
      rw [hdc, runL_cons]
      have hrun : n + 1 + runL ((bl s).drop (i + (n + 1))) = n + (1 + runL ((bl s).drop (i + n + 1))) := by rw [Nat.add_assoc]; rfl
      rw [hrun] at next
      by_cases hl : letterI b.toNat = true
      · have hn : nameB b = true := by unfold nameB; rw [hl]; rfl
        rw [if_pos hn]
        simp only [camshaftref15_Line_l6, hw, decide_eq_true hlt', cond_true, hix, Option.bind_some, hlet, hl, asB_bool, hwn]
        exact next
      · have hl' : letterI b.toNat = false := Bool.eq_false_iff.2 hl
        cases hd : digitI b.toNat with
        | true =>
          have hn : nameB b = true := by unfold nameB; rw [hd]; simp
          rw [hd] at h10
          rw [if_pos hn]
          simp only [camshaftref15_Line_l6, hw, decide_eq_true hlt', cond_true, hix, Option.bind_some, hlet, hl', asB_bool, hwn, cond_false, hdig, asI_int, h10]
          exact next
        | false =>
          have hn : nameB b = false := by unfold nameB; rw [hl', hd]; rfl
          rw [hd] at h10
          rw [hn]
          simp only [camshaftref15_Line_l6, hw, decide_eq_true hlt', cond_true, hix, Option.bind_some, hlet, hl', asB_bool, hwn, cond_false, hdig, asI_int, h10]
          rfl
    · have he : i + n = s.size := by omega
      rw [he] at hw ⊢
      rw [bl_drop_nil]
      simp [camshaftref15_Line_l6, hw, runL]

theorem rline_loop [Sym] (s : ByteArray) (at' : Int) (hs : s.size ≤ 4294967296) (st0 : SS) (hl0 : st0.lim ≤ st0.next) : ∀ (k col : Nat) (done : List Tok) (out : Value) (st : SS), s.size ≤ k + col → col ≤ s.size → done.length ≤ col → Ext st0 st → Own st0.next st out (rowsT at' done) 5 done.length →
    LineP (fun c => [.slice none 0 0, .int .i64 c]) s at' st0 done (camshaftref15_Line_lf 3 [.string s, .int .i64 at', out, .int .i64 col] st) (lexL k col ((bl s).drop col)) := by
  intro k
  induction k with
  | zero =>
    intro col done out st hk hc hd he ho
    have : col = s.size := by omega
    subst this
    refine ⟨out, st, camshaftref15_Line_l3_eq s _ out _ st ?_, he, by simpa using ho, by simpa using hd⟩
    simp [camshaftref15_Line_l3]
  | succ k ih =>
    intro col done out st hk hc hd he ho
    by_cases hlt : col < s.size
    · obtain ⟨c, hb⟩ : ∃ c, (bl s)[col]? = some c := ⟨_, List.getElem?_eq_getElem (by rw [bl_length]; exact hlt)⟩
      have hdc := drop_cons hb
      have hix : (idxS s (col : Int)).bind (asI .u8) = some (c.toNat : Int) := by
        obtain ⟨b', hb', hidx⟩ := idx_lt (s := s) (i := (col : Int)) (by omega) (by omega)
        have : b' = c := by simp at hb'; rw [hb] at hb'; cases hb'; rfl
        subst this
        rw [hidx]; simp
      have hlt' : (col : Int) < (s.size : Int) := by omega
      have hw1 : IntKind.wrap .i64 ((col : Int) + 1) = ((col + 1 : Nat) : Int) := by rw [wrap64 (by omega) (by omega)]; omega
      have hl : st.lim ≤ st.next := by rw [he.lim]; have := he.next; omega
      have hL := stepT_eq hdc
      have hrl : runL ((bl s).drop col) ≤ s.size - col := by
        have := runL_le ((bl s).drop col)
        simpa using this
      have hrun : camshaftref15_Line_lf 6 [.string s, .int .i64 at', out, .int .i64 col, .int .u8 c.toNat, .int .i64 0] st = some (0, [.string s, .int .i64 at', out, .int .i64 col, .int .u8 c.toNat, .int .i64 (runL ((bl s).drop col) : Nat)], st) := by
        have := rline_run s at' out col c.toNat st hs s.size 0 (by omega) (by omega)
        simpa using this
      unfold lexL
      rw [hL]
      by_cases h59 : (c.toNat : Int) = 59
      · rw [if_pos h59]
        refine ⟨out, st, camshaftref15_Line_l3_eq s _ out _ st ?_, he, by simpa using ho, by simp; omega⟩
        simp only [camshaftref15_Line_l3, decide_eq_true hlt', cond_true, Option.bind_some, hix, decide_eq_true h59, Bool.not_true, cond_false]
      rw [if_neg h59]
      by_cases hbk : (c.toNat : Int) = 32 ∨ (c.toNat : Int) = 9 ∨ (c.toNat : Int) = 13
      · rw [if_pos hbk]
        simp only [List.drop_drop]
        refine (ih (col + 1) done out st (by omega) (by omega) (by omega) he ho).to ?_
        intro r hr
        refine camshaftref15_Line_l3_eq s _ out _ st ?_
        simp only [camshaftref15_Line_l3, decide_eq_true hlt', cond_true, Option.bind_some, hix, decide_eq_false h59, Bool.not_false, hrun, List.getElem?_cons_succ, List.getElem?_cons_zero, asS_string, asI_int]
        rcases hbk with h | h | h
        · simp only [decide_eq_true h, cond_true, hw1, hr]
        · have h' : ¬ (c.toNat : Int) = 32 := by omega
          simp only [decide_eq_true h, cond_true, hw1, hr, decide_eq_false h', cond_false]
        · have h' : ¬ (c.toNat : Int) = 32 := by omega
          have h'' : ¬ (c.toNat : Int) = 9 := by omega
          simp only [decide_eq_true h, cond_true, hw1, hr, decide_eq_false h', decide_eq_false h'', cond_false]
      rw [if_neg hbk]
      obtain ⟨st3, e3, t3⟩ := TK.new (st := st) (r := [.int .i64 0, .string ⟨#[]⟩, .int .i64 0, .int .i64 0, .int .i64 0]) (row := [.int .i64 0, .string ⟨#[]⟩, .int .i64 0, .int .i64 at', .int .i64 ((col + 1 : Nat) : Int)]) hl (by rfl) rfl
      have h32 : ¬ (c.toNat : Int) = 32 := fun h => hbk (.inl h)
      have h9 : ¬ (c.toNat : Int) = 9 := fun h => hbk (.inr (.inl h))
      have h13 : ¬ (c.toNat : Int) = 13 := fun h => hbk (.inr (.inr h))
      have hlet := rletter_ok (c.toNat : Int)
      by_cases hlt1 : letterI c.toNat = true
      · rw [if_pos hlt1]
        have hpos : 0 < runL ((bl s).drop col) := by rw [hdc]; exact runL_pos (by unfold nameB; rw [hlt1]; rfl)
        have hpos' : (0 : Int) < (runL ((bl s).drop col) : Nat) := by omega
        obtain ⟨st5, e5, t5, n5⟩ := t3.st (k := 0) (vs := [.int .i64 1]) (row' := [.int .i64 1, .string ⟨#[]⟩, .int .i64 0, .int .i64 at', .int .i64 ((col + 1 : Nat) : Int)]) hl (by rfl) rfl
        obtain ⟨st6, e6, t6, n6⟩ := t5.st (k := 1) (vs := [.string (mkS (((bl s).drop col).take (runL ((bl s).drop col))))]) (row' := [.int .i64 1, .string (mkS (((bl s).drop col).take (runL ((bl s).drop col)))), .int .i64 0, .int .i64 at', .int .i64 ((col + 1 : Nat) : Int)]) hl (by rfl) rfl
        have hw2 : IntKind.wrap .i64 ((col : Int) + (runL ((bl s).drop col) : Nat)) = ((col + runL ((bl s).drop col) : Nat) : Int) := by rw [wrap64 (by omega) (by omega)]; omega
        have hmid := subS_mid (s := s) (col := col) (n := runL ((bl s).drop col)) (by omega)
        have hsz : (mkS (((bl s).drop col).take (runL ((bl s).drop col)))).size = runL ((bl s).drop col) := by simp; omega
        by_cases h24 : 24 < runL ((bl s).drop col)
        · rw [if_pos h24]
          have h24' : (24 : Int) < (runL ((bl s).drop col) : Nat) := by omega
          refine ⟨st6, camshaftref15_Line_l3_eq s _ out _ st ?_, he.trans t6.ext⟩
          simp only [camshaftref15_Line_l3, decide_eq_true hlt', cond_true, Option.bind_some, hix, decide_eq_false h59, Bool.not_false, hrun, List.getElem?_cons_succ, List.getElem?_cons_zero, asS_string, asI_int, decide_eq_false h32, decide_eq_false h9, decide_eq_false h13, cond_false, hw1, e3, decide_eq_true hpos', hlet, hlt1, asB_bool, e5, hw2, hmid, e6, decide_eq_true h24']
        · rw [if_neg h24]
          have h24' : ¬ (24 : Int) < (runL ((bl s).drop col) : Nat) := by omega
          refine LineP.tok hs hl0 hd he ho hpos (by omega) t6 (fun done out st hd he ho => ih _ done out st (by omega) (by omega) hd he ho) ?_
          intro v stZ hv hz y hy
          refine camshaftref15_Line_l3_eq s _ out _ st ?_
          have hv' : ((st6.new (.cells [.int .i64 1, .string (mkS (((bl s).drop col).take (runL ((bl s).drop col)))), .int .i64 0, .int .i64 at', .int .i64 ((col + 1 : Nat) : Int)] 5)).app 5 48 out (.slice (some ⟨st6.next, 0, none⟩) 1 1)) = some (v, stZ) := hv
          simp only [camshaftref15_Line_l3, decide_eq_true hlt', cond_true, Option.bind_some, hix, decide_eq_false h59, Bool.not_false, hrun, List.getElem?_cons_succ, List.getElem?_cons_zero, asS_string, asI_int, decide_eq_false h32, decide_eq_false h9, decide_eq_false h13, cond_false, hw1, e3, decide_eq_true hpos', hlet, hlt1, asB_bool, e5, hw2, hmid, e6, decide_eq_false h24', t6.ldN (n := 5) rfl, cells5, List.append_nil, hv', SS.ld_cells hz, hsz]
          exact hy
      rw [if_neg hlt1]
      have hlt1' : letterI c.toNat = false := Bool.eq_false_iff.2 hlt1
      by_cases hd1 : digitI c.toNat = true
      · rw [if_pos hd1]
        have hpos : 0 < runL ((bl s).drop col) := by rw [hdc]; exact runL_pos (by unfold nameB; rw [hd1]; simp)
        have hpos' : (0 : Int) < (runL ((bl s).drop col) : Nat) := by omega
        obtain ⟨st5, e5, t5, n5⟩ := t3.st (k := 0) (vs := [.int .i64 2]) (row' := [.int .i64 2, .string ⟨#[]⟩, .int .i64 0, .int .i64 at', .int .i64 ((col + 1 : Nat) : Int)]) hl (by rfl) rfl
        obtain ⟨st6, e6, t6, n6⟩ := t5.st (k := 1) (vs := [.string (mkS (((bl s).drop col).take (runL ((bl s).drop col))))]) (row' := [.int .i64 2, .string (mkS (((bl s).drop col).take (runL ((bl s).drop col)))), .int .i64 0, .int .i64 at', .int .i64 ((col + 1 : Nat) : Int)]) hl (by rfl) rfl
        have hnum := rnumber_ok (mkS (((bl s).drop col).take (runL ((bl s).drop col)))) (by simp; omega) st6
        rw [bl_mkS] at hnum
        obtain ⟨st8, e8, t8, n8⟩ := t6.st (k := 2) (vs := [.int .i64 (numE (numL (((bl s).drop col).take (runL ((bl s).drop col)))))]) (row' := [.int .i64 2, .string (mkS (((bl s).drop col).take (runL ((bl s).drop col)))), .int .i64 (numE (numL (((bl s).drop col).take (runL ((bl s).drop col))))), .int .i64 at', .int .i64 ((col + 1 : Nat) : Int)]) hl (by rfl) rfl
        have hw2 : IntKind.wrap .i64 ((col : Int) + (runL ((bl s).drop col) : Nat)) = ((col + runL ((bl s).drop col) : Nat) : Int) := by rw [wrap64 (by omega) (by omega)]; omega
        have hmid := subS_mid (s := s) (col := col) (n := runL ((bl s).drop col)) (by omega)
        have hsz : (mkS (((bl s).drop col).take (runL ((bl s).drop col)))).size = runL ((bl s).drop col) := by simp; omega
        cases hx : numO (numL (((bl s).drop col).take (runL ((bl s).drop col)))) with
        | some w =>
          have hx2 : numE (numL (((bl s).drop col).take (runL ((bl s).drop col)))) = (w : Int) := by unfold numE; rw [hx]
          have hx3 : ¬ (w : Int) < 0 := by omega
          rw [hx2] at hnum e8 t8
          refine LineP.tok hs hl0 hd he ho hpos (by omega) t8 (fun done out st hd he ho => ih _ done out st (by omega) (by omega) hd he ho) ?_
          intro v stZ hv hz y hy
          refine camshaftref15_Line_l3_eq s _ out _ st ?_
          have hv' : ((st8.new (.cells [.int .i64 2, .string (mkS (((bl s).drop col).take (runL ((bl s).drop col)))), .int .i64 (w : Int), .int .i64 at', .int .i64 ((col + 1 : Nat) : Int)] 5)).app 5 48 out (.slice (some ⟨st8.next, 0, none⟩) 1 1)) = some (v, stZ) := hv
          simp only [camshaftref15_Line_l3, decide_eq_true hlt', cond_true, Option.bind_some, hix, decide_eq_false h59, Bool.not_false, hrun, List.getElem?_cons_succ, List.getElem?_cons_zero, asS_string, asI_int, decide_eq_false h32, decide_eq_false h9, decide_eq_false h13, cond_false, hw1, e3, decide_eq_true hpos', hlet, hlt1', asB_bool, e5, hw2, hmid, e6, t6.ld, hnum, e8, t8.ld, decide_eq_false hx3, t8.ldN (n := 5) rfl, cells5, List.append_nil, hv', SS.ld_cells hz, hsz]
          exact hy
        | none =>
          have hx2 : numE (numL (((bl s).drop col).take (runL ((bl s).drop col)))) = -1 := by unfold numE; rw [hx]
          rw [hx2] at hnum e8 t8
          have hm1 : decide ((-1 : Int) < 0) = true := rfl
          refine ⟨st8, camshaftref15_Line_l3_eq s _ out _ st ?_, he.trans t8.ext⟩
          simp only [camshaftref15_Line_l3, decide_eq_true hlt', cond_true, Option.bind_some, hix, decide_eq_false h59, Bool.not_false, hrun, List.getElem?_cons_succ, List.getElem?_cons_zero, asS_string, asI_int, decide_eq_false h32, decide_eq_false h9, decide_eq_false h13, cond_false, hw1, e3, decide_eq_true hpos', hlet, hlt1', asB_bool, e5, hw2, hmid, e6, t6.ld, hnum, e8, t8.ld, hm1]
      rw [if_neg hd1]
      have hd1' : digitI c.toNat = false := Bool.eq_false_iff.2 hd1
      have hzero : runL ((bl s).drop col) = 0 := by
        rw [hdc, runL_cons]
        have : nameB c = false := by unfold nameB; rw [hlt1', hd1']; rfl
        rw [this]; rfl
      have hz0 : ¬ (0 : Int) < ((0 : Nat) : Int) := by omega
      rw [hzero] at hrun
      have hsg := sign5 c
      by_cases hs1 : signB c = true
      · rw [if_pos hs1]
        rw [hs1] at hsg
        obtain ⟨st5, e5, t5, n5⟩ := t3.st (k := 0) (vs := [.int .i64 3]) (row' := [.int .i64 3, .string ⟨#[]⟩, .int .i64 0, .int .i64 at', .int .i64 ((col + 1 : Nat) : Int)]) hl (by rfl) rfl
        obtain ⟨st6, e6, t6, n6⟩ := t5.st (k := 1) (vs := [.string (mkS (((bl s).drop col).take 1))]) (row' := [.int .i64 3, .string (mkS (((bl s).drop col).take 1)), .int .i64 0, .int .i64 at', .int .i64 ((col + 1 : Nat) : Int)]) hl (by rfl) rfl
        have hmid := subS_mid (s := s) (col := col) (n := 1) (by omega)
        have hsz : (mkS (((bl s).drop col).take 1)).size = 1 := by simp; omega
        have hw2 : IntKind.wrap .i64 ((col : Int) + ((1 : Nat) : Int)) = ((col + 1 : Nat) : Int) := hw1
        refine LineP.tok hs hl0 hd he ho (by omega) (by omega) t6 (fun done out st hd he ho => ih _ done out st (by omega) (by omega) hd he ho) ?_
        intro v stZ hv hz y hy
        refine camshaftref15_Line_l3_eq s _ out _ st ?_
        have hv' : ((st6.new (.cells [.int .i64 3, .string (mkS (((bl s).drop col).take 1)), .int .i64 0, .int .i64 at', .int .i64 ((col + 1 : Nat) : Int)] 5)).app 5 48 out (.slice (some ⟨st6.next, 0, none⟩) 1 1)) = some (v, stZ) := hv
        have tail : ∀ (a b c d e : Bool), true = (a || b || c || d || e) → ∀ (X Y : Option (Nat × List Value × SS)), cond a X (cond b X (cond c X (cond d X (cond e X Y)))) = X := by
          intro a b c d e h X Y
          cases a <;> cases b <;> cases c <;> cases d <;> cases e <;> first | rfl | cases h
        simp only [camshaftref15_Line_l3, decide_eq_true hlt', cond_true, Option.bind_some, hix, decide_eq_false h59, Bool.not_false, hrun, List.getElem?_cons_succ, List.getElem?_cons_zero, asS_string, asI_int, decide_eq_false h32, decide_eq_false h9, decide_eq_false h13, cond_false, hw1, e3, decide_eq_false hz0, e5, hmid, e6, t6.ldN (n := 5) rfl, cells5, List.append_nil, hv', SS.ld_cells hz, hsz, hw2]
        rw [tail _ _ _ _ _ hsg]
        exact hy
      · rw [if_neg hs1]
        have hs1' : signB c = false := Bool.eq_false_iff.2 hs1
        rw [hs1'] at hsg
        refine ⟨st3, camshaftref15_Line_l3_eq s _ out _ st ?_, he.trans t3.ext⟩
        simp only [camshaftref15_Line_l3, decide_eq_true hlt', cond_true, Option.bind_some, hix, decide_eq_false h59, Bool.not_false, hrun, List.getElem?_cons_succ, List.getElem?_cons_zero, asS_string, asI_int, decide_eq_false h32, decide_eq_false h9, decide_eq_false h13, cond_false, hw1, e3, decide_eq_false hz0]
        have tail : ∀ (a b c d e : Bool), false = (a || b || c || d || e) → ∀ (X1 X2 X3 X4 X5 Y : Option (Nat × List Value × SS)), cond a X1 (cond b X2 (cond c X3 (cond d X4 (cond e X5 Y)))) = Y := by
          intro a b c d e h X1 X2 X3 X4 X5 Y
          cases a <;> cases b <;> cases c <;> cases d <;> cases e <;> first | rfl | cases h
        rw [tail _ _ _ _ _ hsg]
    · have : col = s.size := by omega
      subst this
      have hnil : (bl s).drop s.size = [] := bl_drop_nil s
      rw [hnil]
      refine ⟨out, st, camshaftref15_Line_l3_eq s _ out _ st ?_, he, by simpa [stepT] using ho, by simpa using hd⟩
      simp [camshaftref15_Line_l3]
theorem rline_ok [Sym] {st : SS} (hl : st.lim ≤ st.next) (s : ByteArray) (hs : s.size ≤ 4294967296) (at' : Int) :
    LineR (fun v => [v, .int .i64 0]) (fun c => [.slice none 0 0, .int .i64 c]) s at' st (cc 57 [.string s, .int .i64 at'] st) (lineX (bl s)) := by
  have h := rline_loop s at' hs st hl s.size 0 [] (.slice none 0 0) st (by omega) (by omega) (by simp) (.refl _) (Own.nil _ _ _)
  simp only [List.drop_zero] at h
  have hw : IntKind.wrap .i64 ((s.size : Int) + 1) = ((s.size + 1 : Nat) : Int) := by rw [wrap64 (by omega) (by omega)]; omega
  unfold lineX
  rw [bl_length]
  cases hx : lexL s.size 0 (bl s) with
  | ok ts =>
    rw [hx] at h
    obtain ⟨v, st', a, b, c, d⟩ := h
    obtain ⟨w, st'', e1, e2, e3, e4⟩ := end_app s hs hl b c d
    refine ⟨w, st'', camshaftref15_Line_eq s at' st ?_, e2, e3, e4⟩
    have a' : camshaftref15_Line_lf 3 [.string s, .int .i64 at', .slice none 0 0, .int .i64 0] st = some (0, [.string s, .int .i64 at', v], st') := a
    have hb0 : Nat.beq 0 0 = true := rfl
    simp only [camshaftref15_Line, a', Option.bind_some, hb0, cond_true, List.getElem?_cons_succ, List.getElem?_cons_zero, asS_string, asI_int, hw, e1]
  | error c =>
    rw [hx] at h
    obtain ⟨st', a, b⟩ := h
    refine ⟨st', camshaftref15_Line_eq s at' st ?_, b⟩
    have a' : camshaftref15_Line_lf 3 [.string s, .int .i64 at', .slice none 0 0, .int .i64 0] st = some (1, [.slice none 0 0, .int .i64 c], st') := a
    have hb0 : Nat.beq 1 0 = false := rfl
    simp only [camshaftref15_Line, a', Option.bind_some, hb0, cond_false, List.getElem?_cons_succ, List.getElem?_cons_zero, asB_bool, asI_int]
end Go.Proofs.YthngaoncjpgeiaaGreatDoorE
