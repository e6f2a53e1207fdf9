-- Written by wip/oprint.py, a program of this session's repo, out of the translation. Not trusted: Lean checks it.
import Derived.Test.YtmmmifgddkfehaaPAllx0
import Derived.Test.YtmmmifgddkfehaaPAllx4
namespace Go.Proofs.Ytmmmifgddkfehaa.PAll
open Go.RowKit Go.Proofs.YtmmmifgddkfehaaW.PrintWords Go.Proofs.YtmmmifgddkfehaaW.PrintLast Go.Proofs.YtmmmifgddkfehaaW.PrintMore
attribute [local go_sem] max2_int min2_int max_two min_two max_three min_three max_four min_four   -- for this text's walks alone
set_option linter.unusedVariables false
set_option linter.unusedSimpArgs false

/-! ### camshaftref01_Div: function 39 -/
def camshaftref01_Div.j0 : Nat → Int → Int → Int → Int → Bool → Option (Int × Bool × Bool × Bool × Bool × Bool)
  | 0, _, _, _, _, _ => none
  | k + 1, x2, x9, x10, x11, x12 => if x12 = true then ((camshaftref01_Bits.f x11 x2).bind fun t322 => ((camshaftref01_Signs.f t322 x2).bind fun bt323 => (some (t322, bt323.1, bt323.2.1, x12, bt323.2.2.2, (x10 != 0))))) else (if x10 = 0 then (none) else ((camshaftref01_Bits.f (wrap64 (Int.tdiv x9 x10)) x2).bind fun t328 => ((camshaftref01_Signs.f t328 x2).bind fun bt329 => (some (t328, bt329.1, bt329.2.1, x12, bt329.2.2.2, (x10 != 0))))))
def camshaftref01_Div.f (k : Nat) (a0 : Int) (a1 : Int) (a2 : Int) : Option (Int × Bool × Bool × Bool × Bool × Bool) := (camshaftref01_Signed.f a0 a2).bind fun t319 => ((camshaftref01_Signed.f a1 a2).bind fun t320 => (if t320 = 0 then (camshaftref01_Div.j0 k a2 t319 t320 t319 true) else ((camshaftref01_Fits.f (wrap64 (-t319)) a2).bind fun t321 => (if t321 = true then (camshaftref01_Div.j0 k a2 t319 t320 t319 false) else (camshaftref01_Div.j0 k a2 t319 t320 t319 (t320 == (-1)))))))
theorem camshaftref01_Div.mono_l : ∀ k, (∀ y0 y1 y2 y3 y4, LeO (camshaftref01_Div.j0 k y0 y1 y2 y3 y4) (camshaftref01_Div.j0 (k + 1) y0 y1 y2 y3 y4))
  | 0 => fun _ _ _ _ _ r h => by simp [camshaftref01_Div.j0] at h
  | k + 1 => by
    have ih0 := camshaftref01_Div.mono_l k
    · intro y0 y1 y2 y3 y4
      unfold camshaftref01_Div.j0
      repeat' first
      | (with_reducible exact ih0 _ _ _ _ _)
      | (with_reducible exact LeO.refl _)
      | (with_reducible exact LeO.none _)
      | (with_reducible refine LeO.ite ?_ ?_)
      | (with_reducible refine LeO.bind ?_ (fun _ => ?_))
      | exact ih0 _ _ _ _ _
      | exact LeO.none _
      | refine LeO.ite ?_ ?_
      | refine LeO.bind ?_ (fun _ => ?_)
theorem camshaftref01_Div.mono : ∀ a0 a1 a2 k, LeO (camshaftref01_Div.f k a0 a1 a2) (camshaftref01_Div.f (k + 1) a0 a1 a2) := by
  intro a0 a1 a2 k
  have ih0 := camshaftref01_Div.mono_l k
  unfold camshaftref01_Div.f
  repeat' first
      | (with_reducible exact ih0 _ _ _ _ _)
      | (with_reducible exact LeO.refl _)
      | (with_reducible exact LeO.none _)
      | (with_reducible refine LeO.ite ?_ ?_)
      | (with_reducible refine LeO.bind ?_ (fun _ => ?_))
      | exact ih0 _ _ _ _ _
      | exact LeO.none _
      | refine LeO.ite ?_ ?_
      | refine LeO.bind ?_ (fun _ => ?_)
set_option maxHeartbeats 8000000 in
set_option maxRecDepth 100000 in
theorem camshaftref01_Div.calls (k : Nat) (a0 : Int) (a1 : Int) (a2 : Int) (r1 : Int) (r2 : Bool) (r3 : Bool) (r4 : Bool) (r5 : Bool) (r6 : Bool) (w : World) (h : camshaftref01_Div.f k a0 a1 a2 = some (r1, r2, r3, r4, r5, r6)) :
    Calls Try.prog 39 #[.int .u32 a0, .int .u32 a1, .int .i64 a2] w fun e w' => e = .returned (.tuple #[.int .u32 r1, .agg #[.bool r2, .bool r3, .bool r4, .bool r5], .bool r6]) ∧ Below w.heap.size w w' := by
  have hu29 := Try.underlying29
  have HB := Aside0.mk (Below.refl w.heap.size w)
  have H : ((camshaftref01_Signed.f a0 a2).bind fun t319 => ((camshaftref01_Signed.f a1 a2).bind fun t320 => (if t320 = 0 then (camshaftref01_Div.j0 k a2 t319 t320 t319 true) else ((camshaftref01_Fits.f (wrap64 (-t319)) a2).bind fun t321 => (if t321 = true then (camshaftref01_Div.j0 k a2 t319 t320 t319 false) else (camshaftref01_Div.j0 k a2 t319 t320 t319 (t320 == (-1)))))))) = some (r1, r2, r3, r4, r5, r6) := h
  clear h
  replace H := Option.bind_eq_some_iff.mp H
  obtain ⟨t319, A40, H⟩ := H
  replace H : ((camshaftref01_Signed.f a1 a2).bind fun t320 => (if t320 = 0 then (camshaftref01_Div.j0 k a2 t319 t320 t319 true) else ((camshaftref01_Fits.f (wrap64 (-t319)) a2).bind fun t321 => (if t321 = true then (camshaftref01_Div.j0 k a2 t319 t320 t319 false) else (camshaftref01_Div.j0 k a2 t319 t320 t319 (t320 == (-1))))))) = some (r1, r2, r3, r4, r5, r6) := H
  have A4 := Aside0.mk A40
  clear A40
  replace H := Option.bind_eq_some_iff.mp H
  obtain ⟨t320, A50, H⟩ := H
  replace H : (if t320 = 0 then (camshaftref01_Div.j0 k a2 t319 t320 t319 true) else ((camshaftref01_Fits.f (wrap64 (-t319)) a2).bind fun t321 => (if t321 = true then (camshaftref01_Div.j0 k a2 t319 t320 t319 false) else (camshaftref01_Div.j0 k a2 t319 t320 t319 (t320 == (-1)))))) = some (r1, r2, r3, r4, r5, r6) := H
  have A5 := Aside0.mk A50
  clear A50
  have HC6 := Aside0.mk H
  clear H
  go_enter Try.func39, Try.ntmps39
  go_upto_region 4 with (first | ((with_reducible refine gate_dst (N := 7) rfl ?_); refine box_event ?hg (N := 7) ?hd (cs := #[.bool false, .bool false, .bool false, .bool false]) (t := 29) ?hr ?_; (case hd => rfl); (case hg => rfl); (case hr => first | (go_simp; done) | (go_simp; rfl)); intro gb318 hg w7 hbox hb; have n0_ := Aside0.mk (below_step (by repeat (first | (with_reducible first | exact HB.out | apply below_alloc | apply pw_below_drewN | apply below_drew1) | exact HB.out)) hb); have n1_ := Aside0.mk (hbox); have n2_ := Aside0.mk ((by rw [hg]; exact (below_size (by repeat (first | (with_reducible first | exact HB.out | apply below_alloc | apply pw_below_drewN | apply below_drew1) | exact HB.out))) : w.heap.size ≤ gb318)); have n3_ := Aside0.mk ((by rw [hg]; exact (below_size (by repeat (first | (with_reducible first | exact HB.out | apply below_alloc | apply pw_below_drewN | apply below_drew1) | exact HB.out))) : w.heap.size ≤ gb318)); clear HB; have HB := n0_; have BK318 := n1_; have GW318 := n2_; have GE318 := n3_; clear n0_ n1_ n2_ n3_; clear hb hbox hg) | ((with_reducible refine gate_callee (f := 26) rfl ?_); refine goesL_ (some 17) rfl rfl Try.func26 (by kernel_rfl) rfl #[.int .u32 a0, .int .i64 a2] rfl (by (try simp only [List.map_toArray, List.map_cons, List.map_nil]); first | done | rfl | (simp only [List.length_drop, List.length_take]; rfl)) ?_; (with_reducible refine (camshaftref01_Signed.calls a0 a2 t319 _ A4.out).mono ?_); rintro e w' ⟨rfl, ⟨nd, rfl⟩⟩; refine ⟨_, rfl, ?_⟩) | ((with_reducible refine gate_callee (f := 26) rfl ?_); refine goesL_ (some 20) rfl rfl Try.func26 (by kernel_rfl) rfl #[.int .u32 a1, .int .i64 a2] rfl (by (try simp only [List.map_toArray, List.map_cons, List.map_nil]); first | done | rfl | (simp only [List.length_drop, List.length_take]; rfl)) ?_; (with_reducible refine (camshaftref01_Signed.calls a1 a2 t320 _ A5.out).mono ?_); rintro e w' ⟨rfl, ⟨nd, rfl⟩⟩; refine ⟨_, rfl, ?_⟩))
  (try simp only [Act.put, List.setIfInBounds_toArray, List.set_cons_zero, List.set_cons_succ])
  go_cut [12] (fun v12 wc => ∃ (kq : Nat) (x12_5 : Bool), v12 = .bool x12_5 ∧ Aside0 (camshaftref01_Div.j0 kq a2 t319 t320 t319 x12_5 = some (r1, r2, r3, r4, r5, r6)) ∧ Aside0 (kq ≤ k) ∧ Aside0 (wc.heap[gb318]? = some (.cells #[.bool false, .bool false, .bool false, .bool false] 29 (0, 0))) ∧ Aside0 (Below w.heap.size w wc))
  case first =>
    have H := HC6.out
    clear HC6
    by_cases c8 : t320 = 0
    · rw [if_pos c8] at H
      have c8b0 : (t320 == 0) = true := beq_iff_eq.mpr c8
      have c8b1 : (t320 != 0) = false := bne_eq_false_iff_eq.mpr c8
      clear c8
      (first | rw [c8b0] | (simp only [i64_w, i32_w]; rw [c8b0]) | skip)
      have H' := Aside0.mk H
      clear H
      go_wp2
      go_meet
      case rel => exact ⟨_, (true), (by first | rfl | (simp; done) | (simp [*]; done)), H', ⟨by first | omega | exact Nat.le_refl _⟩, ⟨by (with_reducible repeat (first | refine blk_drewN ?_ _ | refine blk_drew ?_ | refine blk_alloc ?_ _)); exact BK318.out⟩, ⟨by repeat (first | (with_reducible first | exact HB.out | apply below_alloc | apply pw_below_drewN | apply below_drew1 | refine below_set ?_ GE318.out) | exact HB.out)⟩⟩
    · rw [if_neg c8] at H
      have c8b0 : (t320 == 0) = false := beq_eq_false_iff_ne.mpr c8
      have c8b1 : (t320 != 0) = true := bne_iff_ne.mpr c8
      (first | rw [c8b0] | (simp only [i64_w, i32_w]; rw [c8b0]) | skip)
      replace H := Option.bind_eq_some_iff.mp H
      obtain ⟨t321, A90, H⟩ := H
      replace H : (if t321 = true then (camshaftref01_Div.j0 k a2 t319 t320 t319 false) else (camshaftref01_Div.j0 k a2 t319 t320 t319 (t320 == (-1)))) = some (r1, r2, r3, r4, r5, r6) := H
      have A9 := Aside0.mk A90
      clear A90
      by_cases c10 : t321 = true
      · subst c10
        have H1 : (camshaftref01_Div.j0 k a2 t319 t320 t319 false) = some (r1, r2, r3, r4, r5, r6) := by rw [if_pos rfl] at H; exact H
        clear H
        have H := H1
        clear H1
        have H' := Aside0.mk H
        clear H
        go_wp2_with (first | (go_at_call 49; (with_reducible refine (camshaftref01_Fits.calls (wrap64 (-t319)) a2 true _ A9.out).mono ?_); rintro e w' ⟨rfl, ⟨nd, rfl⟩⟩))
        go_meet
        case rel => exact ⟨_, (false), (by first | rfl | (simp; done) | (simp [*]; done)), H', ⟨by first | omega | exact Nat.le_refl _⟩, ⟨by (with_reducible repeat (first | refine blk_drewN ?_ _ | refine blk_drew ?_ | refine blk_alloc ?_ _)); exact BK318.out⟩, ⟨by repeat (first | (with_reducible first | exact HB.out | apply below_alloc | apply pw_below_drewN | apply below_drew1 | refine below_set ?_ GE318.out) | exact HB.out)⟩⟩
      · replace c10 := Bool.eq_false_iff.mpr c10
        subst c10
        have H1 : (camshaftref01_Div.j0 k a2 t319 t320 t319 (t320 == (-1))) = some (r1, r2, r3, r4, r5, r6) := by rw [if_neg (show ¬ (false = true) by decide)] at H; exact H
        clear H
        have H := H1
        clear H1
        have H' := Aside0.mk H
        clear H
        go_wp2_with (first | (go_at_call 49; (with_reducible refine (camshaftref01_Fits.calls (wrap64 (-t319)) a2 false _ A9.out).mono ?_); rintro e w' ⟨rfl, ⟨nd, rfl⟩⟩))
        go_meet
        case rel => exact ⟨_, ((t320 == (-1))), (by first | rfl | (simp; done) | (simp [*]; done)), H', ⟨by first | omega | exact Nat.le_refl _⟩, ⟨by (with_reducible repeat (first | refine blk_drewN ?_ _ | refine blk_drew ?_ | refine blk_alloc ?_ _)); exact BK318.out⟩, ⟨by repeat (first | (with_reducible first | exact HB.out | apply below_alloc | apply pw_below_drewN | apply below_drew1 | refine below_set ?_ GE318.out) | exact HB.out)⟩⟩
  case rest =>
    clear HC6
    try clear c1
    try clear c2
    try clear p2
    try clear c3
    try clear p6
    try clear c8
    try clear c8b0
    try clear c8b1
    try clear c10
    obtain ⟨kq, x12_5, rfl, HA, HJ5, BK318, HB⟩ := hcut
    cases kq with
    | zero => exact absurd HA.out (by simp [camshaftref01_Div.j0])
    | succ kj5 =>
      have H := HA.out
      clear HA
      simp only [camshaftref01_Div.j0] at H
      by_cases c11 : x12_5 = true
      · subst c11
        have H1 : ((camshaftref01_Bits.f t319 a2).bind fun t322 => ((camshaftref01_Signs.f t322 a2).bind fun bt323 => (some (t322, bt323.1, bt323.2.1, true, bt323.2.2.2, (t320 != 0))))) = some (r1, r2, r3, r4, r5, r6) := by rw [if_pos rfl] at H; exact H
        clear H
        have H := H1
        clear H1
        replace H := Option.bind_eq_some_iff.mp H
        obtain ⟨t322, A120, H⟩ := H
        replace H : ((camshaftref01_Signs.f t322 a2).bind fun bt323 => (some (t322, bt323.1, bt323.2.1, true, bt323.2.2.2, (t320 != 0)))) = some (r1, r2, r3, r4, r5, r6) := H
        have A12 := Aside0.mk A120
        clear A120
        replace H := Option.bind_eq_some_iff.mp H
        obtain ⟨⟨t323, t324, t325, t326⟩, A130, H⟩ := H
        replace H : (some (t322, t323, t324, true, t326, (t320 != 0))) = some (r1, r2, r3, r4, r5, r6) := H
        have A13 := Aside0.mk A130
        clear A130
        simp only [Option.some.injEq, Prod.mk.injEq] at H
        obtain ⟨rfl, rfl, rfl, rfl, rfl, rfl⟩ := H
        try go_wp2_with (first | ((with_reducible refine gate_callee (f := 30) rfl ?_); refine goesL_ (some 42) rfl rfl Try.func30 (by kernel_rfl) rfl #[.int .i64 t319, .int .i64 a2] rfl (by (try simp only [List.map_toArray, List.map_cons, List.map_nil]); first | done | rfl | (simp only [List.length_drop, List.length_take]; rfl)) ?_; (with_reducible refine (camshaftref01_Bits.calls t319 a2 t322 _ A12.out).mono ?_); rintro e w' ⟨rfl, ⟨nd, rfl⟩⟩; refine ⟨_, rfl, ?_⟩; (try (rw [drewN_self wc]; generalize hq_ : World.drewN wc _ = wc; have n0_ : Aside0 (wc.heap[gb318]? = some (.cells #[.bool false, .bool false, .bool false, .bool false] 29 (0, 0))) := ⟨by rw [← hq_]; exact (by (with_reducible repeat (first | refine blk_drewN ?_ _ | refine blk_drew ?_ | refine blk_alloc ?_ _)); exact BK318.out)⟩; have n1_ : Aside0 (Below w.heap.size w wc) := ⟨by rw [← hq_]; exact (by repeat (first | (with_reducible first | exact HB.out | apply below_alloc | apply pw_below_drewN | apply below_drew1 | refine below_set ?_ GE318.out) | exact HB.out))⟩; clear BK318 HB hq_; have BK318 := n0_; have HB := n1_; clear n0_ n1_))) | ((with_reducible refine gate_callee (f := 31) rfl ?_); refine goesL_ (some 45) rfl rfl Try.func31 (by kernel_rfl) rfl #[.int .u32 t322, .int .i64 a2] rfl (by (try simp only [List.map_toArray, List.map_cons, List.map_nil]); first | done | rfl | (simp only [List.length_drop, List.length_take]; rfl)) ?_; (with_reducible refine (camshaftref01_Signs.calls t322 a2 t323 t324 t325 t326 _ A13.out).mono ?_); rintro e w14 ⟨rfl, hb⟩; refine ⟨_, rfl, ?_⟩; have n0_ := Aside0.mk (blk_below (g := gb318) (o := .cells #[.bool false, .bool false, .bool false, .bool false] 29 (0, 0)) (by (with_reducible repeat (first | refine blk_drewN ?_ _ | refine blk_drew ?_ | refine blk_alloc ?_ _)); exact BK318.out) hb); have n1_ := Aside0.mk (below_step (by repeat (first | (with_reducible first | exact HB.out | apply below_alloc | apply pw_below_drewN | apply below_drew1 | refine below_set ?_ GE318.out) | exact HB.out)) hb); clear BK318; clear HB; have BK318 := n0_; have HB := n1_; clear n0_ n1_; (try clear hb); (try clear hb2); (try clear hk); (try clear hi)) | ((with_reducible refine gate_dst (N := 14) rfl ?_); refine box_event ?hg (N := 14) ?hd (cs := #[.bool false, .bool false, .bool false, .bool false]) (t := 29) ?hr ?_; (case hd => rfl); (case hg => rfl); (case hr => first | (go_simp; done) | (go_simp; rfl)); intro gb327 hg w15 hbox hb; have n0_ := Aside0.mk (blk_below (g := gb318) (o := .cells #[.bool false, .bool false, .bool false, .bool false] 29 (0, 0)) (by (with_reducible repeat (first | refine blk_drewN ?_ _ | refine blk_drew ?_ | refine blk_alloc ?_ _)); exact BK318.out) hb); have n1_ := Aside0.mk (below_step (by repeat (first | (with_reducible first | exact HB.out | apply below_alloc | apply pw_below_drewN | apply below_drew1 | refine below_set ?_ GE318.out) | exact HB.out)) hb); have n2_ := Aside0.mk (hbox); have n3_ := Aside0.mk ((by rw [hg]; exact (below_size (by repeat (first | (with_reducible first | exact HB.out | apply below_alloc | apply pw_below_drewN | apply below_drew1 | refine below_set ?_ GE318.out) | exact HB.out))) : w.heap.size ≤ gb327)); have n4_ := Aside0.mk ((by rw [hg]; exact (below_size (by repeat (first | (with_reducible first | exact HB.out | apply below_alloc | apply pw_below_drewN | apply below_drew1 | refine below_set ?_ GE318.out) | exact HB.out))) : w.heap.size ≤ gb327)); have n5_ := Aside0.mk ((by rw [hg]; exact Nat.ne_of_lt (blk_lt (g := gb318) (o := .cells #[.bool false, .bool false, .bool false, .bool false] 29 (0, 0)) (by (with_reducible repeat (first | refine blk_drewN ?_ _ | refine blk_drew ?_ | refine blk_alloc ?_ _)); exact BK318.out)) : gb318 ≠ gb327)); have n6_ := Aside0.mk ((by rw [hg]; exact Nat.ne_of_gt (blk_lt (g := gb318) (o := .cells #[.bool false, .bool false, .bool false, .bool false] 29 (0, 0)) (by (with_reducible repeat (first | refine blk_drewN ?_ _ | refine blk_drew ?_ | refine blk_alloc ?_ _)); exact BK318.out)) : gb327 ≠ gb318)); clear BK318; clear HB; have BK318 := n0_; have HB := n1_; have BK327 := n2_; have GW327 := n3_; have GE327 := n4_; have NB318_327 := n5_; have NB327_318 := n6_; clear n0_ n1_ n2_ n3_ n4_ n5_ n6_; clear hb hbox hg; have hnb16 := NB327_318.out; have hnc16 := NB318_327.out; have hcz17_0 : w15.cell? ⟨gb327, 0, none⟩ = some (.bool false) := (blk_cell BK327.out 0).trans rfl; have hcz17_1 : w15.cell? ⟨gb327, 1, none⟩ = some (.bool false) := (blk_cell BK327.out 1).trans rfl; have hcz17_2 : w15.cell? ⟨gb327, 2, none⟩ = some (.bool false) := (blk_cell BK327.out 2).trans rfl; have hcz17_3 : w15.cell? ⟨gb327, 3, none⟩ = some (.bool false) := (blk_cell BK327.out 3).trans rfl; have hfz17_0 := blk_frozen BK327.out 0; have hfz17_1 := blk_frozen BK327.out 1; have hfz17_2 := blk_frozen BK327.out 2; have hfz17_3 := blk_frozen BK327.out 3))
        have n0_ : Aside0 ((((((w15.setCell ⟨gb327, 0, none⟩ (.bool t323)).setCell ⟨gb327, 1, none⟩ (.bool t324)).setCell ⟨gb327, 2, none⟩ (.bool t325)).setCell ⟨gb327, 3, none⟩ (.bool t326)).setCell ⟨gb327, 2, none⟩ (.bool true)).heap[gb318]? = some (.cells #[.bool false, .bool false, .bool false, .bool false] 29 (0, 0))) := ⟨by (with_reducible repeat (first | refine blk_drewN ?_ _ | refine blk_drew ?_ | refine blk_alloc ?_ _)); refine blk_far ?_ NB318_327.out _; (with_reducible repeat (first | refine blk_drewN ?_ _ | refine blk_drew ?_ | refine blk_alloc ?_ _)); refine blk_far ?_ NB318_327.out _; (with_reducible repeat (first | refine blk_drewN ?_ _ | refine blk_drew ?_ | refine blk_alloc ?_ _)); refine blk_far ?_ NB318_327.out _; (with_reducible repeat (first | refine blk_drewN ?_ _ | refine blk_drew ?_ | refine blk_alloc ?_ _)); refine blk_far ?_ NB318_327.out _; (with_reducible repeat (first | refine blk_drewN ?_ _ | refine blk_drew ?_ | refine blk_alloc ?_ _)); refine blk_far ?_ NB318_327.out _; (with_reducible repeat (first | refine blk_drewN ?_ _ | refine blk_drew ?_ | refine blk_alloc ?_ _)); exact BK318.out⟩
        have n1_ : Aside0 ((((((w15.setCell ⟨gb327, 0, none⟩ (.bool t323)).setCell ⟨gb327, 1, none⟩ (.bool t324)).setCell ⟨gb327, 2, none⟩ (.bool t325)).setCell ⟨gb327, 3, none⟩ (.bool t326)).setCell ⟨gb327, 2, none⟩ (.bool true)).heap[gb327]? = some (.cells #[.bool t323, .bool t324, .bool true, .bool t326] 29 (0, 0))) := ⟨by (with_reducible repeat (first | refine blk_drewN ?_ _ | refine blk_drew ?_ | refine blk_alloc ?_ _)); refine blk_put (cs := #[.bool t323, .bool t324, .bool t325, .bool t326]) ?_ 2 _ rfl; (with_reducible repeat (first | refine blk_drewN ?_ _ | refine blk_drew ?_ | refine blk_alloc ?_ _)); refine blk_put (cs := #[.bool t323, .bool t324, .bool t325, .bool false]) ?_ 3 _ rfl; (with_reducible repeat (first | refine blk_drewN ?_ _ | refine blk_drew ?_ | refine blk_alloc ?_ _)); refine blk_put (cs := #[.bool t323, .bool t324, .bool false, .bool false]) ?_ 2 _ rfl; (with_reducible repeat (first | refine blk_drewN ?_ _ | refine blk_drew ?_ | refine blk_alloc ?_ _)); refine blk_put (cs := #[.bool t323, .bool false, .bool false, .bool false]) ?_ 1 _ rfl; (with_reducible repeat (first | refine blk_drewN ?_ _ | refine blk_drew ?_ | refine blk_alloc ?_ _)); refine blk_put (cs := #[.bool false, .bool false, .bool false, .bool false]) ?_ 0 _ rfl; (with_reducible repeat (first | refine blk_drewN ?_ _ | refine blk_drew ?_ | refine blk_alloc ?_ _)); exact BK327.out⟩
        have n2_ : Aside0 (Below w.heap.size w (((((w15.setCell ⟨gb327, 0, none⟩ (.bool t323)).setCell ⟨gb327, 1, none⟩ (.bool t324)).setCell ⟨gb327, 2, none⟩ (.bool t325)).setCell ⟨gb327, 3, none⟩ (.bool t326)).setCell ⟨gb327, 2, none⟩ (.bool true))) := ⟨by repeat (first | (with_reducible first | exact HB.out | apply below_alloc | apply pw_below_drewN | apply below_drew1 | refine below_set ?_ GE318.out | refine below_set ?_ GE327.out) | exact HB.out)⟩
        (try clear BK318)
        (try clear BK327)
        (try clear HB)
        (repeat rw [own_setCell_drewN]); (repeat rw [World.drewN_drewN])
        generalize (((((w15.setCell ⟨gb327, 0, none⟩ (.bool t323)).setCell ⟨gb327, 1, none⟩ (.bool t324)).setCell ⟨gb327, 2, none⟩ (.bool t325)).setCell ⟨gb327, 3, none⟩ (.bool t326)).setCell ⟨gb327, 2, none⟩ (.bool true)) = w18 at n0_ n1_ n2_ ⊢
        have BK318 := n0_
        have BK327 := n1_
        have HB := n2_
        clear n0_ n1_ n2_
        have n0_ := Aside0.mk (blk_drew BK318.out)
        have n1_ := Aside0.mk (blk_drew BK327.out)
        have n2_ := Aside0.mk (below_drew1 HB.out)
        clear BK318
        clear BK327
        clear HB
        have BK318 := n0_
        have BK327 := n1_
        have HB := n2_
        clear n0_ n1_ n2_
        refine start_ (n := 7) (S := fun w' => w'.cell? ⟨gb327, 0, none⟩ = some (.bool t323) ∧ w'.cell? ⟨gb327, 1, none⟩ = some (.bool t324) ∧ w'.cell? ⟨gb327, 2, none⟩ = some (.bool true) ∧ w'.cell? ⟨gb327, 3, none⟩ = some (.bool t326)) (ds := []) #[false, false, false, false, false, false, false] (by kernel_rfl) rfl rfl ⟨(blk_cell BK327.out 0).trans rfl, (blk_cell BK327.out 1).trans rfl, (blk_cell BK327.out 2).trans rfl, (blk_cell BK327.out 3).trans rfl⟩ (fun hHeld => ?_)
        generalize w18.drew = w19 at BK318 BK327 HB hHeld ⊢
        refine pure_ (i := 0) (N := some 48) (v := ?_) (a' := ?_) #[true, false, false, false, false, false, false] rfl rfl (by kernel_rfl) (fun _ _ _ h => h) (Or.inl ⟨by rfl, ?_⟩) ?_ ?_
        rotate_left
        · intro w'
          go_simp
          with_reducible rfl
        rotate_left
        · simp only [Act.put, List.setIfInBounds_toArray, List.set_cons_zero, List.set_cons_succ, i64_w, i32_w]
          rfl
        refine pure_ (i := 2) (N := some 50) (v := ?_) (a' := ?_) #[true, false, true, false, false, false, false] rfl rfl (by kernel_rfl) (fun _ _ _ h => h) (Or.inl ⟨by rfl, ?_⟩) ?_ ?_
        rotate_left
        · intro w'
          go_simp
          with_reducible rfl
        rotate_left
        · simp only [Act.put, List.setIfInBounds_toArray, List.set_cons_zero, List.set_cons_succ, i64_w, i32_w]
          rfl
        refine pure_ (i := 3) (N := some 51) (v := ?_) (a' := ?_) #[true, false, true, true, false, false, false] rfl rfl (by kernel_rfl) (fun _ _ _ h => h) (Or.inl ⟨by rfl, ?_⟩) ?_ ?_
        rotate_left
        · intro w'
          go_simp
          with_reducible rfl
        rotate_left
        · simp only [Act.put, List.setIfInBounds_toArray, List.set_cons_zero, List.set_cons_succ, i64_w, i32_w]
          rfl
        refine pure_ (i := 4) (N := some 6) (v := ?_) (a' := ?_) #[true, false, true, true, true, false, false] rfl rfl (by kernel_rfl) (fun _ _ _ h => h) (Or.inl ⟨by rfl, ?_⟩) ?_ ?_
        rotate_left
        · intro w'
          go_simp
          with_reducible rfl
        rotate_left
        · simp only [Act.put, List.setIfInBounds_toArray, List.set_cons_zero, List.set_cons_succ, i64_w, i32_w]
          rfl
        refine take_ (i := 1) (N := some 49) (v := ?_) (a' := ?_) #[true, true, true, true, true, false, false] rfl rfl (by kernel_rfl) (fun _ _ _ h => h) (Or.inl ⟨by rfl, ?_⟩) hHeld ?_ ?_
        rotate_left
        · rintro w' ⟨s0, s1, s2, s3⟩
          go_simp
          with_reducible rfl
        rotate_left
        · simp only [Act.put, List.setIfInBounds_toArray, List.set_cons_zero, List.set_cons_succ, i64_w, i32_w]
          rfl
        refine one_ (i := 5) (N := none) #[true, true, true, true, true, true, false] rfl rfl (by kernel_rfl) (by decide) (fun K hK => ?_)
        have hs20 : w19.cell? ⟨gb318, 0, none⟩ = some (.bool false) := (blk_cell BK318.out 0).trans rfl
        have hfs20 := blk_frozen BK318.out 0
        have hns20_1 := NB327_318.out
        have hms20_1 := NB318_327.out
        have hs21 : w19.cell? ⟨gb318, 1, none⟩ = some (.bool false) := (blk_cell BK318.out 1).trans rfl
        have hfs21 := blk_frozen BK318.out 1
        have hns21_1 := NB327_318.out
        have hms21_1 := NB318_327.out
        have hs22 : w19.cell? ⟨gb318, 2, none⟩ = some (.bool false) := (blk_cell BK318.out 2).trans rfl
        have hfs22 := blk_frozen BK318.out 2
        have hns22_1 := NB327_318.out
        have hms22_1 := NB318_327.out
        have hs23 : w19.cell? ⟨gb318, 3, none⟩ = some (.bool false) := (blk_cell BK318.out 3).trans rfl
        have hfs23 := blk_frozen BK318.out 3
        have hns23_1 := NB327_318.out
        have hms23_1 := NB318_327.out
        refine skip_ (w1 := ?_) (by rfl) rfl ?_ ?_
        rotate_left
        · go_simp
          rfl
        refine hK.out _ _ ⟨((cell_far (p := ⟨gb318, _, none⟩) NB327_318.out _).trans (((cell_far (p := ⟨gb318, _, none⟩) NB327_318.out _).trans (((cell_far (p := ⟨gb318, _, none⟩) NB327_318.out _).trans (((cell_far (p := ⟨gb318, _, none⟩) NB327_318.out _).trans (hHeld.1)))))))), ((cell_far (p := ⟨gb318, _, none⟩) NB327_318.out _).trans (((cell_far (p := ⟨gb318, _, none⟩) NB327_318.out _).trans (((cell_far (p := ⟨gb318, _, none⟩) NB327_318.out _).trans (((cell_far (p := ⟨gb318, _, none⟩) NB327_318.out _).trans (hHeld.2.1)))))))), ((cell_far (p := ⟨gb318, _, none⟩) NB327_318.out _).trans (((cell_far (p := ⟨gb318, _, none⟩) NB327_318.out _).trans (((cell_far (p := ⟨gb318, _, none⟩) NB327_318.out _).trans (((cell_far (p := ⟨gb318, _, none⟩) NB327_318.out _).trans (hHeld.2.2.1)))))))), ((cell_far (p := ⟨gb318, _, none⟩) NB327_318.out _).trans (((cell_far (p := ⟨gb318, _, none⟩) NB327_318.out _).trans (((cell_far (p := ⟨gb318, _, none⟩) NB327_318.out _).trans (((cell_far (p := ⟨gb318, _, none⟩) NB327_318.out _).trans (hHeld.2.2.2))))))))⟩ (fun hHeld => ?_)
        clear hK K
        refine pure_ (i := 6) (N := some 8) (v := ?_) (a' := ?_) #[true, true, true, true, true, true, true] rfl rfl (by kernel_rfl) (fun _ _ _ h => h) (Or.inl ⟨by rfl, ?_⟩) ?_ ?_
        rotate_left
        · intro w'
          go_simp
          with_reducible rfl
        rotate_left
        · simp only [Act.put, List.setIfInBounds_toArray, List.set_cons_zero, List.set_cons_succ, i64_w, i32_w]
          rfl
        refine done_ (by kernel_rfl) ?_
        try go_wp2
        refine bodyPost_ret (results_list (rs := [.tmp 6, .cell 7 29, .tmp 8]) rfl (by simp) (.tmp (.cell gb318 29 #[.bool t323, .bool t324, .bool true, .bool t326] (0, 0) _ rfl (by (with_reducible repeat (first | refine blk_drewN ?_ _ | refine blk_drew ?_ | refine blk_alloc ?_ _)); refine blk_put (cs := #[.bool t323, .bool t324, .bool true, .bool false]) ?_ 3 _ rfl; (with_reducible repeat (first | refine blk_drewN ?_ _ | refine blk_drew ?_ | refine blk_alloc ?_ _)); refine blk_put (cs := #[.bool t323, .bool t324, .bool false, .bool false]) ?_ 2 _ rfl; (with_reducible repeat (first | refine blk_drewN ?_ _ | refine blk_drew ?_ | refine blk_alloc ?_ _)); refine blk_put (cs := #[.bool t323, .bool false, .bool false, .bool false]) ?_ 1 _ rfl; (with_reducible repeat (first | refine blk_drewN ?_ _ | refine blk_drew ?_ | refine blk_alloc ?_ _)); refine blk_put (cs := #[.bool false, .bool false, .bool false, .bool false]) ?_ 0 _ rfl; (with_reducible repeat (first | refine blk_drewN ?_ _ | refine blk_drew ?_ | refine blk_alloc ?_ _)); exact BK318.out) Try.underlying29 rfl (by kernel_rfl) (.tmp .nil)))) rfl ?_
        exact ⟨by first | rfl | (simp [errW_none, errW_some] <;> rfl) | (simp [*, errW_none, errW_some] <;> rfl), by repeat (first | (with_reducible first | exact HB.out | apply below_alloc | apply pw_below_drewN | apply below_drew1 | refine below_set ?_ GE318.out | refine below_set ?_ GE327.out) | exact HB.out)⟩
      · replace c11 := Bool.eq_false_iff.mpr c11
        subst c11
        have H1 : (if t320 = 0 then (none) else ((camshaftref01_Bits.f (wrap64 (Int.tdiv t319 t320)) a2).bind fun t328 => ((camshaftref01_Signs.f t328 a2).bind fun bt329 => (some (t328, bt329.1, bt329.2.1, false, bt329.2.2.2, (t320 != 0)))))) = some (r1, r2, r3, r4, r5, r6) := by rw [if_neg (show ¬ (false = true) by decide)] at H; exact H
        clear H
        have H := H1
        clear H1
        by_cases c24 : t320 = 0
        · rw [if_pos c24] at H
          exact absurd H (by simp)
        · rw [if_neg c24] at H
          have c24b0 : (t320 == 0) = false := beq_eq_false_iff_ne.mpr c24
          have c24b1 : (t320 != 0) = true := bne_iff_ne.mpr c24
          replace H := Option.bind_eq_some_iff.mp H
          obtain ⟨t328, A250, H⟩ := H
          replace H : ((camshaftref01_Signs.f t328 a2).bind fun bt329 => (some (t328, bt329.1, bt329.2.1, false, bt329.2.2.2, (t320 != 0)))) = some (r1, r2, r3, r4, r5, r6) := H
          have A25 := Aside0.mk A250
          clear A250
          replace H := Option.bind_eq_some_iff.mp H
          obtain ⟨⟨t329, t330, t331, t332⟩, A260, H⟩ := H
          replace H : (some (t328, t329, t330, false, t332, (t320 != 0))) = some (r1, r2, r3, r4, r5, r6) := H
          have A26 := Aside0.mk A260
          clear A260
          simp only [Option.some.injEq, Prod.mk.injEq] at H
          obtain ⟨rfl, rfl, rfl, rfl, rfl, rfl⟩ := H
          try go_wp2_with (first | ((with_reducible refine gate_callee (f := 30) rfl ?_); refine goesL_ (some 42) rfl rfl Try.func30 (by kernel_rfl) rfl #[.int .i64 (wrap64 (Int.tdiv t319 t320)), .int .i64 a2] rfl (by (try simp only [List.map_toArray, List.map_cons, List.map_nil]); first | done | rfl | (simp only [List.length_drop, List.length_take]; rfl)) ?_; (with_reducible refine (camshaftref01_Bits.calls (wrap64 (Int.tdiv t319 t320)) a2 t328 _ A25.out).mono ?_); rintro e w' ⟨rfl, ⟨nd, rfl⟩⟩; refine ⟨_, rfl, ?_⟩; (try (rw [drewN_self wc]; generalize hq_ : World.drewN wc _ = wc; have n0_ : Aside0 (wc.heap[gb318]? = some (.cells #[.bool false, .bool false, .bool false, .bool false] 29 (0, 0))) := ⟨by rw [← hq_]; exact (by (with_reducible repeat (first | refine blk_drewN ?_ _ | refine blk_drew ?_ | refine blk_alloc ?_ _)); exact BK318.out)⟩; have n1_ : Aside0 (Below w.heap.size w wc) := ⟨by rw [← hq_]; exact (by repeat (first | (with_reducible first | exact HB.out | apply below_alloc | apply pw_below_drewN | apply below_drew1 | refine below_set ?_ GE318.out) | exact HB.out))⟩; clear BK318 HB hq_; have BK318 := n0_; have HB := n1_; clear n0_ n1_))) | ((with_reducible refine gate_callee (f := 31) rfl ?_); refine goesL_ (some 45) rfl rfl Try.func31 (by kernel_rfl) rfl #[.int .u32 t328, .int .i64 a2] rfl (by (try simp only [List.map_toArray, List.map_cons, List.map_nil]); first | done | rfl | (simp only [List.length_drop, List.length_take]; rfl)) ?_; (with_reducible refine (camshaftref01_Signs.calls t328 a2 t329 t330 t331 t332 _ A26.out).mono ?_); rintro e w27 ⟨rfl, hb⟩; refine ⟨_, rfl, ?_⟩; have n0_ := Aside0.mk (blk_below (g := gb318) (o := .cells #[.bool false, .bool false, .bool false, .bool false] 29 (0, 0)) (by (with_reducible repeat (first | refine blk_drewN ?_ _ | refine blk_drew ?_ | refine blk_alloc ?_ _)); exact BK318.out) hb); have n1_ := Aside0.mk (below_step (by repeat (first | (with_reducible first | exact HB.out | apply below_alloc | apply pw_below_drewN | apply below_drew1 | refine below_set ?_ GE318.out) | exact HB.out)) hb); clear BK318; clear HB; have BK318 := n0_; have HB := n1_; clear n0_ n1_; (try clear hb); (try clear hb2); (try clear hk); (try clear hi)) | ((with_reducible refine gate_dst (N := 14) rfl ?_); refine box_event ?hg (N := 14) ?hd (cs := #[.bool false, .bool false, .bool false, .bool false]) (t := 29) ?hr ?_; (case hd => rfl); (case hg => rfl); (case hr => first | (go_simp; done) | (go_simp; rfl)); intro gb333 hg w28 hbox hb; have n0_ := Aside0.mk (blk_below (g := gb318) (o := .cells #[.bool false, .bool false, .bool false, .bool false] 29 (0, 0)) (by (with_reducible repeat (first | refine blk_drewN ?_ _ | refine blk_drew ?_ | refine blk_alloc ?_ _)); exact BK318.out) hb); have n1_ := Aside0.mk (below_step (by repeat (first | (with_reducible first | exact HB.out | apply below_alloc | apply pw_below_drewN | apply below_drew1 | refine below_set ?_ GE318.out) | exact HB.out)) hb); have n2_ := Aside0.mk (hbox); have n3_ := Aside0.mk ((by rw [hg]; exact (below_size (by repeat (first | (with_reducible first | exact HB.out | apply below_alloc | apply pw_below_drewN | apply below_drew1 | refine below_set ?_ GE318.out) | exact HB.out))) : w.heap.size ≤ gb333)); have n4_ := Aside0.mk ((by rw [hg]; exact (below_size (by repeat (first | (with_reducible first | exact HB.out | apply below_alloc | apply pw_below_drewN | apply below_drew1 | refine below_set ?_ GE318.out) | exact HB.out))) : w.heap.size ≤ gb333)); have n5_ := Aside0.mk ((by rw [hg]; exact Nat.ne_of_lt (blk_lt (g := gb318) (o := .cells #[.bool false, .bool false, .bool false, .bool false] 29 (0, 0)) (by (with_reducible repeat (first | refine blk_drewN ?_ _ | refine blk_drew ?_ | refine blk_alloc ?_ _)); exact BK318.out)) : gb318 ≠ gb333)); have n6_ := Aside0.mk ((by rw [hg]; exact Nat.ne_of_gt (blk_lt (g := gb318) (o := .cells #[.bool false, .bool false, .bool false, .bool false] 29 (0, 0)) (by (with_reducible repeat (first | refine blk_drewN ?_ _ | refine blk_drew ?_ | refine blk_alloc ?_ _)); exact BK318.out)) : gb333 ≠ gb318)); clear BK318; clear HB; have BK318 := n0_; have HB := n1_; have BK333 := n2_; have GW333 := n3_; have GE333 := n4_; have NB318_333 := n5_; have NB333_318 := n6_; clear n0_ n1_ n2_ n3_ n4_ n5_ n6_; clear hb hbox hg; have hnb29 := NB333_318.out; have hnc29 := NB318_333.out; have hcz30_0 : w28.cell? ⟨gb333, 0, none⟩ = some (.bool false) := (blk_cell BK333.out 0).trans rfl; have hcz30_1 : w28.cell? ⟨gb333, 1, none⟩ = some (.bool false) := (blk_cell BK333.out 1).trans rfl; have hcz30_2 : w28.cell? ⟨gb333, 2, none⟩ = some (.bool false) := (blk_cell BK333.out 2).trans rfl; have hcz30_3 : w28.cell? ⟨gb333, 3, none⟩ = some (.bool false) := (blk_cell BK333.out 3).trans rfl; have hfz30_0 := blk_frozen BK333.out 0; have hfz30_1 := blk_frozen BK333.out 1; have hfz30_2 := blk_frozen BK333.out 2; have hfz30_3 := blk_frozen BK333.out 3))
          have n0_ : Aside0 ((((((w28.setCell ⟨gb333, 0, none⟩ (.bool t329)).setCell ⟨gb333, 1, none⟩ (.bool t330)).setCell ⟨gb333, 2, none⟩ (.bool t331)).setCell ⟨gb333, 3, none⟩ (.bool t332)).setCell ⟨gb333, 2, none⟩ (.bool false)).heap[gb318]? = some (.cells #[.bool false, .bool false, .bool false, .bool false] 29 (0, 0))) := ⟨by (with_reducible repeat (first | refine blk_drewN ?_ _ | refine blk_drew ?_ | refine blk_alloc ?_ _)); refine blk_far ?_ NB318_333.out _; (with_reducible repeat (first | refine blk_drewN ?_ _ | refine blk_drew ?_ | refine blk_alloc ?_ _)); refine blk_far ?_ NB318_333.out _; (with_reducible repeat (first | refine blk_drewN ?_ _ | refine blk_drew ?_ | refine blk_alloc ?_ _)); refine blk_far ?_ NB318_333.out _; (with_reducible repeat (first | refine blk_drewN ?_ _ | refine blk_drew ?_ | refine blk_alloc ?_ _)); refine blk_far ?_ NB318_333.out _; (with_reducible repeat (first | refine blk_drewN ?_ _ | refine blk_drew ?_ | refine blk_alloc ?_ _)); refine blk_far ?_ NB318_333.out _; (with_reducible repeat (first | refine blk_drewN ?_ _ | refine blk_drew ?_ | refine blk_alloc ?_ _)); exact BK318.out⟩
          have n1_ : Aside0 ((((((w28.setCell ⟨gb333, 0, none⟩ (.bool t329)).setCell ⟨gb333, 1, none⟩ (.bool t330)).setCell ⟨gb333, 2, none⟩ (.bool t331)).setCell ⟨gb333, 3, none⟩ (.bool t332)).setCell ⟨gb333, 2, none⟩ (.bool false)).heap[gb333]? = some (.cells #[.bool t329, .bool t330, .bool false, .bool t332] 29 (0, 0))) := ⟨by (with_reducible repeat (first | refine blk_drewN ?_ _ | refine blk_drew ?_ | refine blk_alloc ?_ _)); refine blk_put (cs := #[.bool t329, .bool t330, .bool t331, .bool t332]) ?_ 2 _ rfl; (with_reducible repeat (first | refine blk_drewN ?_ _ | refine blk_drew ?_ | refine blk_alloc ?_ _)); refine blk_put (cs := #[.bool t329, .bool t330, .bool t331, .bool false]) ?_ 3 _ rfl; (with_reducible repeat (first | refine blk_drewN ?_ _ | refine blk_drew ?_ | refine blk_alloc ?_ _)); refine blk_put (cs := #[.bool t329, .bool t330, .bool false, .bool false]) ?_ 2 _ rfl; (with_reducible repeat (first | refine blk_drewN ?_ _ | refine blk_drew ?_ | refine blk_alloc ?_ _)); refine blk_put (cs := #[.bool t329, .bool false, .bool false, .bool false]) ?_ 1 _ rfl; (with_reducible repeat (first | refine blk_drewN ?_ _ | refine blk_drew ?_ | refine blk_alloc ?_ _)); refine blk_put (cs := #[.bool false, .bool false, .bool false, .bool false]) ?_ 0 _ rfl; (with_reducible repeat (first | refine blk_drewN ?_ _ | refine blk_drew ?_ | refine blk_alloc ?_ _)); exact BK333.out⟩
          have n2_ : Aside0 (Below w.heap.size w (((((w28.setCell ⟨gb333, 0, none⟩ (.bool t329)).setCell ⟨gb333, 1, none⟩ (.bool t330)).setCell ⟨gb333, 2, none⟩ (.bool t331)).setCell ⟨gb333, 3, none⟩ (.bool t332)).setCell ⟨gb333, 2, none⟩ (.bool false))) := ⟨by repeat (first | (with_reducible first | exact HB.out | apply below_alloc | apply pw_below_drewN | apply below_drew1 | refine below_set ?_ GE318.out | refine below_set ?_ GE333.out) | exact HB.out)⟩
          (try clear BK318)
          (try clear BK333)
          (try clear HB)
          (repeat rw [own_setCell_drewN]); (repeat rw [World.drewN_drewN])
          generalize (((((w28.setCell ⟨gb333, 0, none⟩ (.bool t329)).setCell ⟨gb333, 1, none⟩ (.bool t330)).setCell ⟨gb333, 2, none⟩ (.bool t331)).setCell ⟨gb333, 3, none⟩ (.bool t332)).setCell ⟨gb333, 2, none⟩ (.bool false)) = w31 at n0_ n1_ n2_ ⊢
          have BK318 := n0_
          have BK333 := n1_
          have HB := n2_
          clear n0_ n1_ n2_
          have n0_ := Aside0.mk (blk_drew BK318.out)
          have n1_ := Aside0.mk (blk_drew BK333.out)
          have n2_ := Aside0.mk (below_drew1 HB.out)
          clear BK318
          clear BK333
          clear HB
          have BK318 := n0_
          have BK333 := n1_
          have HB := n2_
          clear n0_ n1_ n2_
          refine start_ (n := 7) (S := fun w' => w'.cell? ⟨gb333, 0, none⟩ = some (.bool t329) ∧ w'.cell? ⟨gb333, 1, none⟩ = some (.bool t330) ∧ w'.cell? ⟨gb333, 2, none⟩ = some (.bool false) ∧ w'.cell? ⟨gb333, 3, none⟩ = some (.bool t332)) (ds := []) #[false, false, false, false, false, false, false] (by kernel_rfl) rfl rfl ⟨(blk_cell BK333.out 0).trans rfl, (blk_cell BK333.out 1).trans rfl, (blk_cell BK333.out 2).trans rfl, (blk_cell BK333.out 3).trans rfl⟩ (fun hHeld => ?_)
          generalize w31.drew = w32 at BK318 BK333 HB hHeld ⊢
          refine pure_ (i := 0) (N := some 48) (v := ?_) (a' := ?_) #[true, false, false, false, false, false, false] rfl rfl (by kernel_rfl) (fun _ _ _ h => h) (Or.inl ⟨by rfl, ?_⟩) ?_ ?_
          rotate_left
          · intro w'
            go_simp
            with_reducible rfl
          rotate_left
          · simp only [Act.put, List.setIfInBounds_toArray, List.set_cons_zero, List.set_cons_succ, i64_w, i32_w]
            rfl
          refine pure_ (i := 2) (N := some 50) (v := ?_) (a' := ?_) #[true, false, true, false, false, false, false] rfl rfl (by kernel_rfl) (fun _ _ _ h => h) (Or.inl ⟨by rfl, ?_⟩) ?_ ?_
          rotate_left
          · intro w'
            go_simp
            with_reducible rfl
          rotate_left
          · simp only [Act.put, List.setIfInBounds_toArray, List.set_cons_zero, List.set_cons_succ, i64_w, i32_w]
            rfl
          refine pure_ (i := 3) (N := some 51) (v := ?_) (a' := ?_) #[true, false, true, true, false, false, false] rfl rfl (by kernel_rfl) (fun _ _ _ h => h) (Or.inl ⟨by rfl, ?_⟩) ?_ ?_
          rotate_left
          · intro w'
            go_simp
            with_reducible rfl
          rotate_left
          · simp only [Act.put, List.setIfInBounds_toArray, List.set_cons_zero, List.set_cons_succ, i64_w, i32_w]
            rfl
          refine pure_ (i := 4) (N := some 6) (v := ?_) (a' := ?_) #[true, false, true, true, true, false, false] rfl rfl (by kernel_rfl) (fun _ _ _ h => h) (Or.inl ⟨by rfl, ?_⟩) ?_ ?_
          rotate_left
          · intro w'
            go_simp
            with_reducible rfl
          rotate_left
          · simp only [Act.put, List.setIfInBounds_toArray, List.set_cons_zero, List.set_cons_succ, i64_w, i32_w]
            rfl
          refine take_ (i := 1) (N := some 49) (v := ?_) (a' := ?_) #[true, true, true, true, true, false, false] rfl rfl (by kernel_rfl) (fun _ _ _ h => h) (Or.inl ⟨by rfl, ?_⟩) hHeld ?_ ?_
          rotate_left
          · rintro w' ⟨s0, s1, s2, s3⟩
            go_simp
            with_reducible rfl
          rotate_left
          · simp only [Act.put, List.setIfInBounds_toArray, List.set_cons_zero, List.set_cons_succ, i64_w, i32_w]
            rfl
          refine one_ (i := 5) (N := none) #[true, true, true, true, true, true, false] rfl rfl (by kernel_rfl) (by decide) (fun K hK => ?_)
          have hs33 : w32.cell? ⟨gb318, 0, none⟩ = some (.bool false) := (blk_cell BK318.out 0).trans rfl
          have hfs33 := blk_frozen BK318.out 0
          have hns33_1 := NB333_318.out
          have hms33_1 := NB318_333.out
          have hs34 : w32.cell? ⟨gb318, 1, none⟩ = some (.bool false) := (blk_cell BK318.out 1).trans rfl
          have hfs34 := blk_frozen BK318.out 1
          have hns34_1 := NB333_318.out
          have hms34_1 := NB318_333.out
          have hs35 : w32.cell? ⟨gb318, 2, none⟩ = some (.bool false) := (blk_cell BK318.out 2).trans rfl
          have hfs35 := blk_frozen BK318.out 2
          have hns35_1 := NB333_318.out
          have hms35_1 := NB318_333.out
          have hs36 : w32.cell? ⟨gb318, 3, none⟩ = some (.bool false) := (blk_cell BK318.out 3).trans rfl
          have hfs36 := blk_frozen BK318.out 3
          have hns36_1 := NB333_318.out
          have hms36_1 := NB318_333.out
          refine skip_ (w1 := ?_) (by rfl) rfl ?_ ?_
          rotate_left
          · go_simp
            rfl
          refine hK.out _ _ ⟨((cell_far (p := ⟨gb318, _, none⟩) NB333_318.out _).trans (((cell_far (p := ⟨gb318, _, none⟩) NB333_318.out _).trans (((cell_far (p := ⟨gb318, _, none⟩) NB333_318.out _).trans (((cell_far (p := ⟨gb318, _, none⟩) NB333_318.out _).trans (hHeld.1)))))))), ((cell_far (p := ⟨gb318, _, none⟩) NB333_318.out _).trans (((cell_far (p := ⟨gb318, _, none⟩) NB333_318.out _).trans (((cell_far (p := ⟨gb318, _, none⟩) NB333_318.out _).trans (((cell_far (p := ⟨gb318, _, none⟩) NB333_318.out _).trans (hHeld.2.1)))))))), ((cell_far (p := ⟨gb318, _, none⟩) NB333_318.out _).trans (((cell_far (p := ⟨gb318, _, none⟩) NB333_318.out _).trans (((cell_far (p := ⟨gb318, _, none⟩) NB333_318.out _).trans (((cell_far (p := ⟨gb318, _, none⟩) NB333_318.out _).trans (hHeld.2.2.1)))))))), ((cell_far (p := ⟨gb318, _, none⟩) NB333_318.out _).trans (((cell_far (p := ⟨gb318, _, none⟩) NB333_318.out _).trans (((cell_far (p := ⟨gb318, _, none⟩) NB333_318.out _).trans (((cell_far (p := ⟨gb318, _, none⟩) NB333_318.out _).trans (hHeld.2.2.2))))))))⟩ (fun hHeld => ?_)
          clear hK K
          refine pure_ (i := 6) (N := some 8) (v := ?_) (a' := ?_) #[true, true, true, true, true, true, true] rfl rfl (by kernel_rfl) (fun _ _ _ h => h) (Or.inl ⟨by rfl, ?_⟩) ?_ ?_
          rotate_left
          · intro w'
            go_simp
            with_reducible rfl
          rotate_left
          · simp only [Act.put, List.setIfInBounds_toArray, List.set_cons_zero, List.set_cons_succ, i64_w, i32_w]
            rfl
          refine done_ (by kernel_rfl) ?_
          try go_wp2
          refine bodyPost_ret (results_list (rs := [.tmp 6, .cell 7 29, .tmp 8]) rfl (by simp) (.tmp (.cell gb318 29 #[.bool t329, .bool t330, .bool false, .bool t332] (0, 0) _ rfl (by (with_reducible repeat (first | refine blk_drewN ?_ _ | refine blk_drew ?_ | refine blk_alloc ?_ _)); refine blk_put (cs := #[.bool t329, .bool t330, .bool false, .bool false]) ?_ 3 _ rfl; (with_reducible repeat (first | refine blk_drewN ?_ _ | refine blk_drew ?_ | refine blk_alloc ?_ _)); refine blk_put (cs := #[.bool t329, .bool t330, .bool false, .bool false]) ?_ 2 _ rfl; (with_reducible repeat (first | refine blk_drewN ?_ _ | refine blk_drew ?_ | refine blk_alloc ?_ _)); refine blk_put (cs := #[.bool t329, .bool false, .bool false, .bool false]) ?_ 1 _ rfl; (with_reducible repeat (first | refine blk_drewN ?_ _ | refine blk_drew ?_ | refine blk_alloc ?_ _)); refine blk_put (cs := #[.bool false, .bool false, .bool false, .bool false]) ?_ 0 _ rfl; (with_reducible repeat (first | refine blk_drewN ?_ _ | refine blk_drew ?_ | refine blk_alloc ?_ _)); exact BK318.out) Try.underlying29 rfl (by kernel_rfl) (.tmp .nil)))) rfl ?_
          exact ⟨by first | rfl | (simp [errW_none, errW_some] <;> rfl) | (simp [*, errW_none, errW_some] <;> rfl), by repeat (first | (with_reducible first | exact HB.out | apply below_alloc | apply pw_below_drewN | apply below_drew1 | refine below_set ?_ GE318.out | refine below_set ?_ GE333.out) | exact HB.out)⟩

end Go.Proofs.Ytmmmifgddkfehaa.PAll
