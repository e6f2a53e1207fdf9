-- Written by wip/oprint.py, a program of this session's repo, out of the translation. Not trusted: Lean checks it.
import Derived.Test.YtmmmifgddkfehaaPAlux0
import Derived.Test.YtmmmifgddkfehaaPAlux12
import Derived.Test.YtmmmifgddkfehaaPAlux13
namespace Go.Proofs.Ytmmmifgddkfehaa.PAlu
open Go.RowKit Go.Proofs.YtmmmifgddkfehaaW.PrintWords Go.Proofs.YtmmmifgddkfehaaW.PrintLast
set_option linter.unusedVariables false
set_option linter.unusedSimpArgs false

/-! ### camshaftref01_Div: function 39 -/
def camshaftref01_Div.j0 : Nat → Int → Int → Int → Int → Bool → Option (Int × Bool × Bool × Bool × Bool × Bool)
  | 0, _, _, _, _, _ => none
  | k + 1, x2, x9, x10, x11, x12 => if x12 = true then ((camshaftref01_Bits.f x11 x2).bind fun t290 => ((camshaftref01_Signs.f t290 x2).bind fun bt291 => (some (t290, bt291.1, bt291.2.1, x12, bt291.2.2.2, (x10 != 0))))) else (if x10 = 0 then (none) else ((camshaftref01_Bits.f (wrap64 (Int.tdiv x9 x10)) x2).bind fun t296 => ((camshaftref01_Signs.f t296 x2).bind fun bt297 => (some (t296, bt297.1, bt297.2.1, x12, bt297.2.2.2, (x10 != 0))))))
def camshaftref01_Div.f (k : Nat) (a0 : Int) (a1 : Int) (a2 : Int) : Option (Int × Bool × Bool × Bool × Bool × Bool) := (camshaftref01_Signed.f a0 a2).bind fun t287 => ((camshaftref01_Signed.f a1 a2).bind fun t288 => (if t288 = 0 then (camshaftref01_Div.j0 k a2 t287 t288 t287 true) else ((camshaftref01_Fits.f (wrap64 (-t287)) a2).bind fun t289 => (if t289 = true then (camshaftref01_Div.j0 k a2 t287 t288 t287 false) else (camshaftref01_Div.j0 k a2 t287 t288 t287 (t288 == (-1)))))))
theorem camshaftref01_Div.mono_l : ∀ k, (∀ y0 y1 y2 y3 y4, LeO (camshaftref01_Div.j0 k y0 y1 y2 y3 y4) (camshaftref01_Div.j0 (k + 1) y0 y1 y2 y3 y4))
  | 0 => fun _ _ _ _ _ r h => by simp [camshaftref01_Div.j0] at h
  | k + 1 => by
    have ih0 := camshaftref01_Div.mono_l k
    · intro y0 y1 y2 y3 y4
      unfold camshaftref01_Div.j0
      repeat' first
      | (with_reducible exact ih0 _ _ _ _ _)
      | (with_reducible exact LeO.refl _)
      | (with_reducible exact LeO.none _)
      | (with_reducible refine LeO.ite ?_ ?_)
      | (with_reducible refine LeO.bind ?_ (fun _ => ?_))
      | exact ih0 _ _ _ _ _
      | exact LeO.none _
      | refine LeO.ite ?_ ?_
      | refine LeO.bind ?_ (fun _ => ?_)
theorem camshaftref01_Div.mono : ∀ a0 a1 a2 k, LeO (camshaftref01_Div.f k a0 a1 a2) (camshaftref01_Div.f (k + 1) a0 a1 a2) := by
  intro a0 a1 a2 k
  have ih0 := camshaftref01_Div.mono_l k
  unfold camshaftref01_Div.f
  repeat' first
      | (with_reducible exact ih0 _ _ _ _ _)
      | (with_reducible exact LeO.refl _)
      | (with_reducible exact LeO.none _)
      | (with_reducible refine LeO.ite ?_ ?_)
      | (with_reducible refine LeO.bind ?_ (fun _ => ?_))
      | exact ih0 _ _ _ _ _
      | exact LeO.none _
      | refine LeO.ite ?_ ?_
      | refine LeO.bind ?_ (fun _ => ?_)
set_option maxHeartbeats 8000000 in
set_option maxRecDepth 100000 in
theorem camshaftref01_Div.calls (k : Nat) (a0 : Int) (a1 : Int) (a2 : Int) (r1 : Int) (r2 : Bool) (r3 : Bool) (r4 : Bool) (r5 : Bool) (r6 : Bool) (w : World) (h : camshaftref01_Div.f k a0 a1 a2 = some (r1, r2, r3, r4, r5, r6)) :
    Calls Try.prog 39 #[.int .u32 a0, .int .u32 a1, .int .i64 a2] w fun e w' => e = .returned (.tuple #[.int .u32 r1, .agg #[.bool r2, .bool r3, .bool r4, .bool r5], .bool r6]) ∧ Below w.heap.size w w' := by
  have hu29 := Try.underlying29
  have HB := Aside0.mk (Below.refl w.heap.size w)
  have H : ((camshaftref01_Signed.f a0 a2).bind fun t287 => ((camshaftref01_Signed.f a1 a2).bind fun t288 => (if t288 = 0 then (camshaftref01_Div.j0 k a2 t287 t288 t287 true) else ((camshaftref01_Fits.f (wrap64 (-t287)) a2).bind fun t289 => (if t289 = true then (camshaftref01_Div.j0 k a2 t287 t288 t287 false) else (camshaftref01_Div.j0 k a2 t287 t288 t287 (t288 == (-1)))))))) = some (r1, r2, r3, r4, r5, r6) := h
  clear h
  replace H := Option.bind_eq_some_iff.mp H
  obtain ⟨t287, A40, H⟩ := H
  replace H : ((camshaftref01_Signed.f a1 a2).bind fun t288 => (if t288 = 0 then (camshaftref01_Div.j0 k a2 t287 t288 t287 true) else ((camshaftref01_Fits.f (wrap64 (-t287)) a2).bind fun t289 => (if t289 = true then (camshaftref01_Div.j0 k a2 t287 t288 t287 false) else (camshaftref01_Div.j0 k a2 t287 t288 t287 (t288 == (-1))))))) = some (r1, r2, r3, r4, r5, r6) := H
  have A4 := Aside0.mk A40
  clear A40
  replace H := Option.bind_eq_some_iff.mp H
  obtain ⟨t288, A50, H⟩ := H
  replace H : (if t288 = 0 then (camshaftref01_Div.j0 k a2 t287 t288 t287 true) else ((camshaftref01_Fits.f (wrap64 (-t287)) a2).bind fun t289 => (if t289 = true then (camshaftref01_Div.j0 k a2 t287 t288 t287 false) else (camshaftref01_Div.j0 k a2 t287 t288 t287 (t288 == (-1)))))) = some (r1, r2, r3, r4, r5, r6) := H
  have A5 := Aside0.mk A50
  clear A50
  have HC6 := Aside0.mk H
  clear H
  go_enter Try.func39, Try.ntmps39
  go_upto_region 4 with (first | ((with_reducible refine gate_dst (N := 7) rfl ?_); refine box_event ?hg (N := 7) ?hd (cs := #[.bool false, .bool false, .bool false, .bool false]) (t := 29) ?hr ?_; (case hd => rfl); (case hg => rfl); (case hr => first | (go_simp; done) | (go_simp; rfl)); intro gb286 hg w7 hbox hb; have n0_ := Aside0.mk (below_step (by repeat (first | (with_reducible first | exact HB.out | apply below_alloc | apply pw_below_drewN | apply below_drew1) | exact HB.out)) hb); have n1_ := Aside0.mk (hbox); have n2_ := Aside0.mk ((by rw [hg]; exact (below_size (by repeat (first | (with_reducible first | exact HB.out | apply below_alloc | apply pw_below_drewN | apply below_drew1) | exact HB.out))) : w.heap.size ≤ gb286)); have n3_ := Aside0.mk ((by rw [hg]; exact (below_size (by repeat (first | (with_reducible first | exact HB.out | apply below_alloc | apply pw_below_drewN | apply below_drew1) | exact HB.out))) : w.heap.size ≤ gb286)); clear HB; have HB := n0_; have BK286 := n1_; have GW286 := n2_; have GE286 := n3_; clear n0_ n1_ n2_ n3_; clear hb hbox hg) | ((with_reducible refine gate_callee (f := 26) rfl ?_); refine goesL_ (some 17) rfl rfl Try.func26 (by kernel_rfl) rfl #[.int .u32 a0, .int .i64 a2] rfl (by (try simp only [List.map_toArray, List.map_cons, List.map_nil]); first | done | rfl | (simp only [List.length_drop, List.length_take]; rfl)) ?_; (with_reducible refine (camshaftref01_Signed.calls a0 a2 t287 _ A4.out).mono ?_); rintro e w' ⟨rfl, ⟨nd, rfl⟩⟩; refine ⟨_, rfl, ?_⟩) | ((with_reducible refine gate_callee (f := 26) rfl ?_); refine goesL_ (some 20) rfl rfl Try.func26 (by kernel_rfl) rfl #[.int .u32 a1, .int .i64 a2] rfl (by (try simp only [List.map_toArray, List.map_cons, List.map_nil]); first | done | rfl | (simp only [List.length_drop, List.length_take]; rfl)) ?_; (with_reducible refine (camshaftref01_Signed.calls a1 a2 t288 _ A5.out).mono ?_); rintro e w' ⟨rfl, ⟨nd, rfl⟩⟩; refine ⟨_, rfl, ?_⟩))
  (try simp only [Act.put, List.setIfInBounds_toArray, List.set_cons_zero, List.set_cons_succ])
  go_cut [12] (fun v12 wc => ∃ (kq : Nat) (x12_5 : Bool), v12 = .bool x12_5 ∧ Aside0 (camshaftref01_Div.j0 kq a2 t287 t288 t287 x12_5 = some (r1, r2, r3, r4, r5, r6)) ∧ Aside0 (kq ≤ k) ∧ Aside0 (wc.heap[gb286]? = some (.cells #[.bool false, .bool false, .bool false, .bool false] 29 (0, 0))) ∧ Aside0 (Below w.heap.size w wc))
  case first =>
    have H := HC6.out
    clear HC6
    by_cases c8 : t288 = 0
    · rw [if_pos c8] at H
      have c8b0 : (t288 == 0) = true := beq_iff_eq.mpr c8
      have c8b1 : (t288 != 0) = false := bne_eq_false_iff_eq.mpr c8
      clear c8
      (first | rw [c8b0] | (simp only [i64_w, i32_w]; rw [c8b0]) | skip)
      have H' := Aside0.mk H
      clear H
      go_wp2
      go_meet
      case rel => exact ⟨_, (true), (by first | rfl | (simp; done) | (simp [*]; done)), H', ⟨by first | omega | exact Nat.le_refl _⟩, ⟨by (with_reducible repeat (first | refine blk_drewN ?_ _ | refine blk_drew ?_ | refine blk_alloc ?_ _)); exact BK286.out⟩, ⟨by repeat (first | (with_reducible first | exact HB.out | apply below_alloc | apply pw_below_drewN | apply below_drew1 | refine below_set ?_ GE286.out) | exact HB.out)⟩⟩
    · rw [if_neg c8] at H
      have c8b0 : (t288 == 0) = false := beq_eq_false_iff_ne.mpr c8
      have c8b1 : (t288 != 0) = true := bne_iff_ne.mpr c8
      (first | rw [c8b0] | (simp only [i64_w, i32_w]; rw [c8b0]) | skip)
      replace H := Option.bind_eq_some_iff.mp H
      obtain ⟨t289, A90, H⟩ := H
      replace H : (if t289 = true then (camshaftref01_Div.j0 k a2 t287 t288 t287 false) else (camshaftref01_Div.j0 k a2 t287 t288 t287 (t288 == (-1)))) = some (r1, r2, r3, r4, r5, r6) := H
      have A9 := Aside0.mk A90
      clear A90
      by_cases c10 : t289 = true
      · subst c10
        have H1 : (camshaftref01_Div.j0 k a2 t287 t288 t287 false) = some (r1, r2, r3, r4, r5, r6) := by rw [if_pos rfl] at H; exact H
        clear H
        have H := H1
        clear H1
        have H' := Aside0.mk H
        clear H
        go_wp2_with (first | (go_at_call 49; (with_reducible refine (camshaftref01_Fits.calls (wrap64 (-t287)) a2 true _ A9.out).mono ?_); rintro e w' ⟨rfl, ⟨nd, rfl⟩⟩))
        go_meet
        case rel => exact ⟨_, (false), (by first | rfl | (simp; done) | (simp [*]; done)), H', ⟨by first | omega | exact Nat.le_refl _⟩, ⟨by (with_reducible repeat (first | refine blk_drewN ?_ _ | refine blk_drew ?_ | refine blk_alloc ?_ _)); exact BK286.out⟩, ⟨by repeat (first | (with_reducible first | exact HB.out | apply below_alloc | apply pw_below_drewN | apply below_drew1 | refine below_set ?_ GE286.out) | exact HB.out)⟩⟩
      · replace c10 := Bool.eq_false_iff.mpr c10
        subst c10
        have H1 : (camshaftref01_Div.j0 k a2 t287 t288 t287 (t288 == (-1))) = some (r1, r2, r3, r4, r5, r6) := by rw [if_neg (show ¬ (false = true) by decide)] at H; exact H
        clear H
        have H := H1
        clear H1
        have H' := Aside0.mk H
        clear H
        go_wp2_with (first | (go_at_call 49; (with_reducible refine (camshaftref01_Fits.calls (wrap64 (-t287)) a2 false _ A9.out).mono ?_); rintro e w' ⟨rfl, ⟨nd, rfl⟩⟩))
        go_meet
        case rel => exact ⟨_, ((t288 == (-1))), (by first | rfl | (simp; done) | (simp [*]; done)), H', ⟨by first | omega | exact Nat.le_refl _⟩, ⟨by (with_reducible repeat (first | refine blk_drewN ?_ _ | refine blk_drew ?_ | refine blk_alloc ?_ _)); exact BK286.out⟩, ⟨by repeat (first | (with_reducible first | exact HB.out | apply below_alloc | apply pw_below_drewN | apply below_drew1 | refine below_set ?_ GE286.out) | exact HB.out)⟩⟩
  case rest =>
    clear HC6
    try clear c1
    try clear c2
    try clear p2
    try clear c3
    try clear p6
    try clear c8
    try clear c8b0
    try clear c8b1
    try clear c10
    obtain ⟨kq, x12_5, rfl, HA, HJ5, BK286, HB⟩ := hcut
    cases kq with
    | zero => exact absurd HA.out (by simp [camshaftref01_Div.j0])
    | succ kj5 =>
      have H := HA.out
      clear HA
      simp only [camshaftref01_Div.j0] at H
      by_cases c11 : x12_5 = true
      · subst c11
        have H1 : ((camshaftref01_Bits.f t287 a2).bind fun t290 => ((camshaftref01_Signs.f t290 a2).bind fun bt291 => (some (t290, bt291.1, bt291.2.1, true, bt291.2.2.2, (t288 != 0))))) = some (r1, r2, r3, r4, r5, r6) := by rw [if_pos rfl] at H; exact H
        clear H
        have H := H1
        clear H1
        replace H := Option.bind_eq_some_iff.mp H
        obtain ⟨t290, A120, H⟩ := H
        replace H : ((camshaftref01_Signs.f t290 a2).bind fun bt291 => (some (t290, bt291.1, bt291.2.1, true, bt291.2.2.2, (t288 != 0)))) = some (r1, r2, r3, r4, r5, r6) := H
        have A12 := Aside0.mk A120
        clear A120
        replace H := Option.bind_eq_some_iff.mp H
        obtain ⟨⟨t291, t292, t293, t294⟩, A130, H⟩ := H
        replace H : (some (t290, t291, t292, true, t294, (t288 != 0))) = some (r1, r2, r3, r4, r5, r6) := H
        have A13 := Aside0.mk A130
        clear A130
        simp only [Option.some.injEq, Prod.mk.injEq] at H
        obtain ⟨rfl, rfl, rfl, rfl, rfl, rfl⟩ := H
        try go_wp2_with (first | ((with_reducible refine gate_callee (f := 30) rfl ?_); refine goesL_ (some 42) rfl rfl Try.func30 (by kernel_rfl) rfl #[.int .i64 t287, .int .i64 a2] rfl (by (try simp only [List.map_toArray, List.map_cons, List.map_nil]); first | done | rfl | (simp only [List.length_drop, List.length_take]; rfl)) ?_; (with_reducible refine (camshaftref01_Bits.calls t287 a2 t290 _ A12.out).mono ?_); rintro e w' ⟨rfl, ⟨nd, rfl⟩⟩; refine ⟨_, rfl, ?_⟩; (try (rw [drewN_self wc]; generalize hq_ : World.drewN wc _ = wc; have n0_ : Aside0 (wc.heap[gb286]? = some (.cells #[.bool false, .bool false, .bool false, .bool false] 29 (0, 0))) := ⟨by rw [← hq_]; exact (by (with_reducible repeat (first | refine blk_drewN ?_ _ | refine blk_drew ?_ | refine blk_alloc ?_ _)); exact BK286.out)⟩; have n1_ : Aside0 (Below w.heap.size w wc) := ⟨by rw [← hq_]; exact (by repeat (first | (with_reducible first | exact HB.out | apply below_alloc | apply pw_below_drewN | apply below_drew1 | refine below_set ?_ GE286.out) | exact HB.out))⟩; clear BK286 HB hq_; have BK286 := n0_; have HB := n1_; clear n0_ n1_))) | ((with_reducible refine gate_callee (f := 31) rfl ?_); refine goesL_ (some 45) rfl rfl Try.func31 (by kernel_rfl) rfl #[.int .u32 t290, .int .i64 a2] rfl (by (try simp only [List.map_toArray, List.map_cons, List.map_nil]); first | done | rfl | (simp only [List.length_drop, List.length_take]; rfl)) ?_; (with_reducible refine (camshaftref01_Signs.calls t290 a2 t291 t292 t293 t294 _ A13.out).mono ?_); rintro e w14 ⟨rfl, hb⟩; refine ⟨_, rfl, ?_⟩; have n0_ := Aside0.mk (blk_below (g := gb286) (o := .cells #[.bool false, .bool false, .bool false, .bool false] 29 (0, 0)) (by (with_reducible repeat (first | refine blk_drewN ?_ _ | refine blk_drew ?_ | refine blk_alloc ?_ _)); exact BK286.out) hb); have n1_ := Aside0.mk (below_step (by repeat (first | (with_reducible first | exact HB.out | apply below_alloc | apply pw_below_drewN | apply below_drew1 | refine below_set ?_ GE286.out) | exact HB.out)) hb); clear BK286; clear HB; have BK286 := n0_; have HB := n1_; clear n0_ n1_; (try clear hb); (try clear hb2); (try clear hk); (try clear hi)) | ((with_reducible refine gate_dst (N := 14) rfl ?_); refine box_event ?hg (N := 14) ?hd (cs := #[.bool false, .bool false, .bool false, .bool false]) (t := 29) ?hr ?_; (case hd => rfl); (case hg => rfl); (case hr => first | (go_simp; done) | (go_simp; rfl)); intro gb295 hg w15 hbox hb; have n0_ := Aside0.mk (blk_below (g := gb286) (o := .cells #[.bool false, .bool false, .bool false, .bool false] 29 (0, 0)) (by (with_reducible repeat (first | refine blk_drewN ?_ _ | refine blk_drew ?_ | refine blk_alloc ?_ _)); exact BK286.out) hb); have n1_ := Aside0.mk (below_step (by repeat (first | (with_reducible first | exact HB.out | apply below_alloc | apply pw_below_drewN | apply below_drew1 | refine below_set ?_ GE286.out) | exact HB.out)) hb); have n2_ := Aside0.mk (hbox); have n3_ := Aside0.mk ((by rw [hg]; exact (below_size (by repeat (first | (with_reducible first | exact HB.out | apply below_alloc | apply pw_below_drewN | apply below_drew1 | refine below_set ?_ GE286.out) | exact HB.out))) : w.heap.size ≤ gb295)); have n4_ := Aside0.mk ((by rw [hg]; exact (below_size (by repeat (first | (with_reducible first | exact HB.out | apply below_alloc | apply pw_below_drewN | apply below_drew1 | refine below_set ?_ GE286.out) | exact HB.out))) : w.heap.size ≤ gb295)); have n5_ := Aside0.mk ((by rw [hg]; exact Nat.ne_of_lt (blk_lt (g := gb286) (o := .cells #[.bool false, .bool false, .bool false, .bool false] 29 (0, 0)) (by (with_reducible repeat (first | refine blk_drewN ?_ _ | refine blk_drew ?_ | refine blk_alloc ?_ _)); exact BK286.out)) : gb286 ≠ gb295)); have n6_ := Aside0.mk ((by rw [hg]; exact Nat.ne_of_gt (blk_lt (g := gb286) (o := .cells #[.bool false, .bool false, .bool false, .bool false] 29 (0, 0)) (by (with_reducible repeat (first | refine blk_drewN ?_ _ | refine blk_drew ?_ | refine blk_alloc ?_ _)); exact BK286.out)) : gb295 ≠ gb286)); clear BK286; clear HB; have BK286 := n0_; have HB := n1_; have BK295 := n2_; have GW295 := n3_; have GE295 := n4_; have NB286_295 := n5_; have NB295_286 := n6_; clear n0_ n1_ n2_ n3_ n4_ n5_ n6_; clear hb hbox hg; have hnb16 := NB295_286.out; have hnc16 := NB286_295.out; have hcz17_0 : w15.cell? ⟨gb295, 0, none⟩ = some (.bool false) := (blk_cell BK295.out 0).trans rfl; have hcz17_1 : w15.cell? ⟨gb295, 1, none⟩ = some (.bool false) := (blk_cell BK295.out 1).trans rfl; have hcz17_2 : w15.cell? ⟨gb295, 2, none⟩ = some (.bool false) := (blk_cell BK295.out 2).trans rfl; have hcz17_3 : w15.cell? ⟨gb295, 3, none⟩ = some (.bool false) := (blk_cell BK295.out 3).trans rfl; have hfz17_0 := blk_frozen BK295.out 0; have hfz17_1 := blk_frozen BK295.out 1; have hfz17_2 := blk_frozen BK295.out 2; have hfz17_3 := blk_frozen BK295.out 3))
        have n0_ : Aside0 ((((((w15.setCell ⟨gb295, 0, none⟩ (.bool t291)).setCell ⟨gb295, 1, none⟩ (.bool t292)).setCell ⟨gb295, 2, none⟩ (.bool t293)).setCell ⟨gb295, 3, none⟩ (.bool t294)).setCell ⟨gb295, 2, none⟩ (.bool true)).heap[gb286]? = some (.cells #[.bool false, .bool false, .bool false, .bool false] 29 (0, 0))) := ⟨by (with_reducible repeat (first | refine blk_drewN ?_ _ | refine blk_drew ?_ | refine blk_alloc ?_ _)); refine blk_far ?_ NB286_295.out _; (with_reducible repeat (first | refine blk_drewN ?_ _ | refine blk_drew ?_ | refine blk_alloc ?_ _)); refine blk_far ?_ NB286_295.out _; (with_reducible repeat (first | refine blk_drewN ?_ _ | refine blk_drew ?_ | refine blk_alloc ?_ _)); refine blk_far ?_ NB286_295.out _; (with_reducible repeat (first | refine blk_drewN ?_ _ | refine blk_drew ?_ | refine blk_alloc ?_ _)); refine blk_far ?_ NB286_295.out _; (with_reducible repeat (first | refine blk_drewN ?_ _ | refine blk_drew ?_ | refine blk_alloc ?_ _)); refine blk_far ?_ NB286_295.out _; (with_reducible repeat (first | refine blk_drewN ?_ _ | refine blk_drew ?_ | refine blk_alloc ?_ _)); exact BK286.out⟩
        have n1_ : Aside0 ((((((w15.setCell ⟨gb295, 0, none⟩ (.bool t291)).setCell ⟨gb295, 1, none⟩ (.bool t292)).setCell ⟨gb295, 2, none⟩ (.bool t293)).setCell ⟨gb295, 3, none⟩ (.bool t294)).setCell ⟨gb295, 2, none⟩ (.bool true)).heap[gb295]? = some (.cells #[.bool t291, .bool t292, .bool true, .bool t294] 29 (0, 0))) := ⟨by (with_reducible repeat (first | refine blk_drewN ?_ _ | refine blk_drew ?_ | refine blk_alloc ?_ _)); refine blk_put (cs := #[.bool t291, .bool t292, .bool t293, .bool t294]) ?_ 2 _ rfl; (with_reducible repeat (first | refine blk_drewN ?_ _ | refine blk_drew ?_ | refine blk_alloc ?_ _)); refine blk_put (cs := #[.bool t291, .bool t292, .bool t293, .bool false]) ?_ 3 _ rfl; (with_reducible repeat (first | refine blk_drewN ?_ _ | refine blk_drew ?_ | refine blk_alloc ?_ _)); refine blk_put (cs := #[.bool t291, .bool t292, .bool false, .bool false]) ?_ 2 _ rfl; (with_reducible repeat (first | refine blk_drewN ?_ _ | refine blk_drew ?_ | refine blk_alloc ?_ _)); refine blk_put (cs := #[.bool t291, .bool false, .bool false, .bool false]) ?_ 1 _ rfl; (with_reducible repeat (first | refine blk_drewN ?_ _ | refine blk_drew ?_ | refine blk_alloc ?_ _)); refine blk_put (cs := #[.bool false, .bool false, .bool false, .bool false]) ?_ 0 _ rfl; (with_reducible repeat (first | refine blk_drewN ?_ _ | refine blk_drew ?_ | refine blk_alloc ?_ _)); exact BK295.out⟩
        have n2_ : Aside0 (Below w.heap.size w (((((w15.setCell ⟨gb295, 0, none⟩ (.bool t291)).setCell ⟨gb295, 1, none⟩ (.bool t292)).setCell ⟨gb295, 2, none⟩ (.bool t293)).setCell ⟨gb295, 3, none⟩ (.bool t294)).setCell ⟨gb295, 2, none⟩ (.bool true))) := ⟨by repeat (first | (with_reducible first | exact HB.out | apply below_alloc | apply pw_below_drewN | apply below_drew1 | refine below_set ?_ GE286.out | refine below_set ?_ GE295.out) | exact HB.out)⟩
        (try clear BK286)
        (try clear BK295)
        (try clear HB)
        (repeat rw [own_setCell_drewN]); (repeat rw [World.drewN_drewN])
        generalize (((((w15.setCell ⟨gb295, 0, none⟩ (.bool t291)).setCell ⟨gb295, 1, none⟩ (.bool t292)).setCell ⟨gb295, 2, none⟩ (.bool t293)).setCell ⟨gb295, 3, none⟩ (.bool t294)).setCell ⟨gb295, 2, none⟩ (.bool true)) = w18 at n0_ n1_ n2_ ⊢
        have BK286 := n0_
        have BK295 := n1_
        have HB := n2_
        clear n0_ n1_ n2_
        have n0_ := Aside0.mk (blk_drew BK286.out)
        have n1_ := Aside0.mk (blk_drew BK295.out)
        have n2_ := Aside0.mk (below_drew1 HB.out)
        clear BK286
        clear BK295
        clear HB
        have BK286 := n0_
        have BK295 := n1_
        have HB := n2_
        clear n0_ n1_ n2_
        refine start_ (n := 7) (S := fun w' => w'.cell? ⟨gb295, 0, none⟩ = some (.bool t291) ∧ w'.cell? ⟨gb295, 1, none⟩ = some (.bool t292) ∧ w'.cell? ⟨gb295, 2, none⟩ = some (.bool true) ∧ w'.cell? ⟨gb295, 3, none⟩ = some (.bool t294)) (ds := []) #[false, false, false, false, false, false, false] (by kernel_rfl) rfl rfl ⟨(blk_cell BK295.out 0).trans rfl, (blk_cell BK295.out 1).trans rfl, (blk_cell BK295.out 2).trans rfl, (blk_cell BK295.out 3).trans rfl⟩ (fun hHeld => ?_)
        generalize w18.drew = w19 at BK286 BK295 HB hHeld ⊢
        refine pure_ (i := 0) (N := some 48) (v := ?_) (a' := ?_) #[true, false, false, false, false, false, false] rfl rfl (by kernel_rfl) (fun _ _ _ h => h) (Or.inl ⟨by rfl, ?_⟩) ?_ ?_
        rotate_left
        · intro w'
          go_simp
          with_reducible rfl
        rotate_left
        · simp only [Act.put, List.setIfInBounds_toArray, List.set_cons_zero, List.set_cons_succ, i64_w, i32_w]
          rfl
        refine pure_ (i := 2) (N := some 50) (v := ?_) (a' := ?_) #[true, false, true, false, false, false, false] rfl rfl (by kernel_rfl) (fun _ _ _ h => h) (Or.inl ⟨by rfl, ?_⟩) ?_ ?_
        rotate_left
        · intro w'
          go_simp
          with_reducible rfl
        rotate_left
        · simp only [Act.put, List.setIfInBounds_toArray, List.set_cons_zero, List.set_cons_succ, i64_w, i32_w]
          rfl
        refine pure_ (i := 3) (N := some 51) (v := ?_) (a' := ?_) #[true, false, true, true, false, false, false] rfl rfl (by kernel_rfl) (fun _ _ _ h => h) (Or.inl ⟨by rfl, ?_⟩) ?_ ?_
        rotate_left
        · intro w'
          go_simp
          with_reducible rfl
        rotate_left
        · simp only [Act.put, List.setIfInBounds_toArray, List.set_cons_zero, List.set_cons_succ, i64_w, i32_w]
          rfl
        refine pure_ (i := 4) (N := some 6) (v := ?_) (a' := ?_) #[true, false, true, true, true, false, false] rfl rfl (by kernel_rfl) (fun _ _ _ h => h) (Or.inl ⟨by rfl, ?_⟩) ?_ ?_
        rotate_left
        · intro w'
          go_simp
          with_reducible rfl
        rotate_left
        · simp only [Act.put, List.setIfInBounds_toArray, List.set_cons_zero, List.set_cons_succ, i64_w, i32_w]
          rfl
        refine take_ (i := 1) (N := some 49) (v := ?_) (a' := ?_) #[true, true, true, true, true, false, false] rfl rfl (by kernel_rfl) (fun _ _ _ h => h) (Or.inl ⟨by rfl, ?_⟩) hHeld ?_ ?_
        rotate_left
        · rintro w' ⟨s0, s1, s2, s3⟩
          go_simp
          with_reducible rfl
        rotate_left
        · simp only [Act.put, List.setIfInBounds_toArray, List.set_cons_zero, List.set_cons_succ, i64_w, i32_w]
          rfl
        refine one_ (i := 5) (N := none) #[true, true, true, true, true, true, false] rfl rfl (by kernel_rfl) (by decide) (fun K hK => ?_)
        have hs20 : w19.cell? ⟨gb286, 0, none⟩ = some (.bool false) := (blk_cell BK286.out 0).trans rfl
        have hfs20 := blk_frozen BK286.out 0
        have hns20_1 := NB295_286.out
        have hms20_1 := NB286_295.out
        have hs21 : w19.cell? ⟨gb286, 1, none⟩ = some (.bool false) := (blk_cell BK286.out 1).trans rfl
        have hfs21 := blk_frozen BK286.out 1
        have hns21_1 := NB295_286.out
        have hms21_1 := NB286_295.out
        have hs22 : w19.cell? ⟨gb286, 2, none⟩ = some (.bool false) := (blk_cell BK286.out 2).trans rfl
        have hfs22 := blk_frozen BK286.out 2
        have hns22_1 := NB295_286.out
        have hms22_1 := NB286_295.out
        have hs23 : w19.cell? ⟨gb286, 3, none⟩ = some (.bool false) := (blk_cell BK286.out 3).trans rfl
        have hfs23 := blk_frozen BK286.out 3
        have hns23_1 := NB295_286.out
        have hms23_1 := NB286_295.out
        refine skip_ (w1 := ?_) (by rfl) rfl ?_ ?_
        rotate_left
        · go_simp
          rfl
        refine hK.out _ _ ⟨((cell_far (p := ⟨gb286, _, none⟩) NB295_286.out _).trans (((cell_far (p := ⟨gb286, _, none⟩) NB295_286.out _).trans (((cell_far (p := ⟨gb286, _, none⟩) NB295_286.out _).trans (((cell_far (p := ⟨gb286, _, none⟩) NB295_286.out _).trans (hHeld.1)))))))), ((cell_far (p := ⟨gb286, _, none⟩) NB295_286.out _).trans (((cell_far (p := ⟨gb286, _, none⟩) NB295_286.out _).trans (((cell_far (p := ⟨gb286, _, none⟩) NB295_286.out _).trans (((cell_far (p := ⟨gb286, _, none⟩) NB295_286.out _).trans (hHeld.2.1)))))))), ((cell_far (p := ⟨gb286, _, none⟩) NB295_286.out _).trans (((cell_far (p := ⟨gb286, _, none⟩) NB295_286.out _).trans (((cell_far (p := ⟨gb286, _, none⟩) NB295_286.out _).trans (((cell_far (p := ⟨gb286, _, none⟩) NB295_286.out _).trans (hHeld.2.2.1)))))))), ((cell_far (p := ⟨gb286, _, none⟩) NB295_286.out _).trans (((cell_far (p := ⟨gb286, _, none⟩) NB295_286.out _).trans (((cell_far (p := ⟨gb286, _, none⟩) NB295_286.out _).trans (((cell_far (p := ⟨gb286, _, none⟩) NB295_286.out _).trans (hHeld.2.2.2))))))))⟩ (fun hHeld => ?_)
        clear hK K
        refine pure_ (i := 6) (N := some 8) (v := ?_) (a' := ?_) #[true, true, true, true, true, true, true] rfl rfl (by kernel_rfl) (fun _ _ _ h => h) (Or.inl ⟨by rfl, ?_⟩) ?_ ?_
        rotate_left
        · intro w'
          go_simp
          with_reducible rfl
        rotate_left
        · simp only [Act.put, List.setIfInBounds_toArray, List.set_cons_zero, List.set_cons_succ, i64_w, i32_w]
          rfl
        refine done_ (by kernel_rfl) ?_
        try go_wp2
        refine bodyPost_ret (results_list (rs := [.tmp 6, .cell 7 29, .tmp 8]) rfl (by simp) (.tmp (.cell gb286 29 #[.bool t291, .bool t292, .bool true, .bool t294] (0, 0) _ rfl (by (with_reducible repeat (first | refine blk_drewN ?_ _ | refine blk_drew ?_ | refine blk_alloc ?_ _)); refine blk_put (cs := #[.bool t291, .bool t292, .bool true, .bool false]) ?_ 3 _ rfl; (with_reducible repeat (first | refine blk_drewN ?_ _ | refine blk_drew ?_ | refine blk_alloc ?_ _)); refine blk_put (cs := #[.bool t291, .bool t292, .bool false, .bool false]) ?_ 2 _ rfl; (with_reducible repeat (first | refine blk_drewN ?_ _ | refine blk_drew ?_ | refine blk_alloc ?_ _)); refine blk_put (cs := #[.bool t291, .bool false, .bool false, .bool false]) ?_ 1 _ rfl; (with_reducible repeat (first | refine blk_drewN ?_ _ | refine blk_drew ?_ | refine blk_alloc ?_ _)); refine blk_put (cs := #[.bool false, .bool false, .bool false, .bool false]) ?_ 0 _ rfl; (with_reducible repeat (first | refine blk_drewN ?_ _ | refine blk_drew ?_ | refine blk_alloc ?_ _)); exact BK286.out) Try.underlying29 rfl (by kernel_rfl) (.tmp .nil)))) rfl ?_
        exact ⟨by first | rfl | (simp [errW_none, errW_some] <;> rfl) | (simp [*, errW_none, errW_some] <;> rfl), by repeat (first | (with_reducible first | exact HB.out | apply below_alloc | apply pw_below_drewN | apply below_drew1 | refine below_set ?_ GE286.out | refine below_set ?_ GE295.out) | exact HB.out)⟩
      · replace c11 := Bool.eq_false_iff.mpr c11
        subst c11
        have H1 : (if t288 = 0 then (none) else ((camshaftref01_Bits.f (wrap64 (Int.tdiv t287 t288)) a2).bind fun t296 => ((camshaftref01_Signs.f t296 a2).bind fun bt297 => (some (t296, bt297.1, bt297.2.1, false, bt297.2.2.2, (t288 != 0)))))) = some (r1, r2, r3, r4, r5, r6) := by rw [if_neg (show ¬ (false = true) by decide)] at H; exact H
        clear H
        have H := H1
        clear H1
        by_cases c24 : t288 = 0
        · rw [if_pos c24] at H
          exact absurd H (by simp)
        · rw [if_neg c24] at H
          have c24b0 : (t288 == 0) = false := beq_eq_false_iff_ne.mpr c24
          have c24b1 : (t288 != 0) = true := bne_iff_ne.mpr c24
          replace H := Option.bind_eq_some_iff.mp H
          obtain ⟨t296, A250, H⟩ := H
          replace H : ((camshaftref01_Signs.f t296 a2).bind fun bt297 => (some (t296, bt297.1, bt297.2.1, false, bt297.2.2.2, (t288 != 0)))) = some (r1, r2, r3, r4, r5, r6) := H
          have A25 := Aside0.mk A250
          clear A250
          replace H := Option.bind_eq_some_iff.mp H
          obtain ⟨⟨t297, t298, t299, t300⟩, A260, H⟩ := H
          replace H : (some (t296, t297, t298, false, t300, (t288 != 0))) = some (r1, r2, r3, r4, r5, r6) := H
          have A26 := Aside0.mk A260
          clear A260
          simp only [Option.some.injEq, Prod.mk.injEq] at H
          obtain ⟨rfl, rfl, rfl, rfl, rfl, rfl⟩ := H
          try go_wp2_with (first | ((with_reducible refine gate_callee (f := 30) rfl ?_); refine goesL_ (some 42) rfl rfl Try.func30 (by kernel_rfl) rfl #[.int .i64 (wrap64 (Int.tdiv t287 t288)), .int .i64 a2] rfl (by (try simp only [List.map_toArray, List.map_cons, List.map_nil]); first | done | rfl | (simp only [List.length_drop, List.length_take]; rfl)) ?_; (with_reducible refine (camshaftref01_Bits.calls (wrap64 (Int.tdiv t287 t288)) a2 t296 _ A25.out).mono ?_); rintro e w' ⟨rfl, ⟨nd, rfl⟩⟩; refine ⟨_, rfl, ?_⟩; (try (rw [drewN_self wc]; generalize hq_ : World.drewN wc _ = wc; have n0_ : Aside0 (wc.heap[gb286]? = some (.cells #[.bool false, .bool false, .bool false, .bool false] 29 (0, 0))) := ⟨by rw [← hq_]; exact (by (with_reducible repeat (first | refine blk_drewN ?_ _ | refine blk_drew ?_ | refine blk_alloc ?_ _)); exact BK286.out)⟩; have n1_ : Aside0 (Below w.heap.size w wc) := ⟨by rw [← hq_]; exact (by repeat (first | (with_reducible first | exact HB.out | apply below_alloc | apply pw_below_drewN | apply below_drew1 | refine below_set ?_ GE286.out) | exact HB.out))⟩; clear BK286 HB hq_; have BK286 := n0_; have HB := n1_; clear n0_ n1_))) | ((with_reducible refine gate_callee (f := 31) rfl ?_); refine goesL_ (some 45) rfl rfl Try.func31 (by kernel_rfl) rfl #[.int .u32 t296, .int .i64 a2] rfl (by (try simp only [List.map_toArray, List.map_cons, List.map_nil]); first | done | rfl | (simp only [List.length_drop, List.length_take]; rfl)) ?_; (with_reducible refine (camshaftref01_Signs.calls t296 a2 t297 t298 t299 t300 _ A26.out).mono ?_); rintro e w27 ⟨rfl, hb⟩; refine ⟨_, rfl, ?_⟩; have n0_ := Aside0.mk (blk_below (g := gb286) (o := .cells #[.bool false, .bool false, .bool false, .bool false] 29 (0, 0)) (by (with_reducible repeat (first | refine blk_drewN ?_ _ | refine blk_drew ?_ | refine blk_alloc ?_ _)); exact BK286.out) hb); have n1_ := Aside0.mk (below_step (by repeat (first | (with_reducible first | exact HB.out | apply below_alloc | apply pw_below_drewN | apply below_drew1 | refine below_set ?_ GE286.out) | exact HB.out)) hb); clear BK286; clear HB; have BK286 := n0_; have HB := n1_; clear n0_ n1_; (try clear hb); (try clear hb2); (try clear hk); (try clear hi)) | ((with_reducible refine gate_dst (N := 14) rfl ?_); refine box_event ?hg (N := 14) ?hd (cs := #[.bool false, .bool false, .bool false, .bool false]) (t := 29) ?hr ?_; (case hd => rfl); (case hg => rfl); (case hr => first | (go_simp; done) | (go_simp; rfl)); intro gb301 hg w28 hbox hb; have n0_ := Aside0.mk (blk_below (g := gb286) (o := .cells #[.bool false, .bool false, .bool false, .bool false] 29 (0, 0)) (by (with_reducible repeat (first | refine blk_drewN ?_ _ | refine blk_drew ?_ | refine blk_alloc ?_ _)); exact BK286.out) hb); have n1_ := Aside0.mk (below_step (by repeat (first | (with_reducible first | exact HB.out | apply below_alloc | apply pw_below_drewN | apply below_drew1 | refine below_set ?_ GE286.out) | exact HB.out)) hb); have n2_ := Aside0.mk (hbox); have n3_ := Aside0.mk ((by rw [hg]; exact (below_size (by repeat (first | (with_reducible first | exact HB.out | apply below_alloc | apply pw_below_drewN | apply below_drew1 | refine below_set ?_ GE286.out) | exact HB.out))) : w.heap.size ≤ gb301)); have n4_ := Aside0.mk ((by rw [hg]; exact (below_size (by repeat (first | (with_reducible first | exact HB.out | apply below_alloc | apply pw_below_drewN | apply below_drew1 | refine below_set ?_ GE286.out) | exact HB.out))) : w.heap.size ≤ gb301)); have n5_ := Aside0.mk ((by rw [hg]; exact Nat.ne_of_lt (blk_lt (g := gb286) (o := .cells #[.bool false, .bool false, .bool false, .bool false] 29 (0, 0)) (by (with_reducible repeat (first | refine blk_drewN ?_ _ | refine blk_drew ?_ | refine blk_alloc ?_ _)); exact BK286.out)) : gb286 ≠ gb301)); have n6_ := Aside0.mk ((by rw [hg]; exact Nat.ne_of_gt (blk_lt (g := gb286) (o := .cells #[.bool false, .bool false, .bool false, .bool false] 29 (0, 0)) (by (with_reducible repeat (first | refine blk_drewN ?_ _ | refine blk_drew ?_ | refine blk_alloc ?_ _)); exact BK286.out)) : gb301 ≠ gb286)); clear BK286; clear HB; have BK286 := n0_; have HB := n1_; have BK301 := n2_; have GW301 := n3_; have GE301 := n4_; have NB286_301 := n5_; have NB301_286 := n6_; clear n0_ n1_ n2_ n3_ n4_ n5_ n6_; clear hb hbox hg; have hnb29 := NB301_286.out; have hnc29 := NB286_301.out; have hcz30_0 : w28.cell? ⟨gb301, 0, none⟩ = some (.bool false) := (blk_cell BK301.out 0).trans rfl; have hcz30_1 : w28.cell? ⟨gb301, 1, none⟩ = some (.bool false) := (blk_cell BK301.out 1).trans rfl; have hcz30_2 : w28.cell? ⟨gb301, 2, none⟩ = some (.bool false) := (blk_cell BK301.out 2).trans rfl; have hcz30_3 : w28.cell? ⟨gb301, 3, none⟩ = some (.bool false) := (blk_cell BK301.out 3).trans rfl; have hfz30_0 := blk_frozen BK301.out 0; have hfz30_1 := blk_frozen BK301.out 1; have hfz30_2 := blk_frozen BK301.out 2; have hfz30_3 := blk_frozen BK301.out 3))
          have n0_ : Aside0 ((((((w28.setCell ⟨gb301, 0, none⟩ (.bool t297)).setCell ⟨gb301, 1, none⟩ (.bool t298)).setCell ⟨gb301, 2, none⟩ (.bool t299)).setCell ⟨gb301, 3, none⟩ (.bool t300)).setCell ⟨gb301, 2, none⟩ (.bool false)).heap[gb286]? = some (.cells #[.bool false, .bool false, .bool false, .bool false] 29 (0, 0))) := ⟨by (with_reducible repeat (first | refine blk_drewN ?_ _ | refine blk_drew ?_ | refine blk_alloc ?_ _)); refine blk_far ?_ NB286_301.out _; (with_reducible repeat (first | refine blk_drewN ?_ _ | refine blk_drew ?_ | refine blk_alloc ?_ _)); refine blk_far ?_ NB286_301.out _; (with_reducible repeat (first | refine blk_drewN ?_ _ | refine blk_drew ?_ | refine blk_alloc ?_ _)); refine blk_far ?_ NB286_301.out _; (with_reducible repeat (first | refine blk_drewN ?_ _ | refine blk_drew ?_ | refine blk_alloc ?_ _)); refine blk_far ?_ NB286_301.out _; (with_reducible repeat (first | refine blk_drewN ?_ _ | refine blk_drew ?_ | refine blk_alloc ?_ _)); refine blk_far ?_ NB286_301.out _; (with_reducible repeat (first | refine blk_drewN ?_ _ | refine blk_drew ?_ | refine blk_alloc ?_ _)); exact BK286.out⟩
          have n1_ : Aside0 ((((((w28.setCell ⟨gb301, 0, none⟩ (.bool t297)).setCell ⟨gb301, 1, none⟩ (.bool t298)).setCell ⟨gb301, 2, none⟩ (.bool t299)).setCell ⟨gb301, 3, none⟩ (.bool t300)).setCell ⟨gb301, 2, none⟩ (.bool false)).heap[gb301]? = some (.cells #[.bool t297, .bool t298, .bool false, .bool t300] 29 (0, 0))) := ⟨by (with_reducible repeat (first | refine blk_drewN ?_ _ | refine blk_drew ?_ | refine blk_alloc ?_ _)); refine blk_put (cs := #[.bool t297, .bool t298, .bool t299, .bool t300]) ?_ 2 _ rfl; (with_reducible repeat (first | refine blk_drewN ?_ _ | refine blk_drew ?_ | refine blk_alloc ?_ _)); refine blk_put (cs := #[.bool t297, .bool t298, .bool t299, .bool false]) ?_ 3 _ rfl; (with_reducible repeat (first | refine blk_drewN ?_ _ | refine blk_drew ?_ | refine blk_alloc ?_ _)); refine blk_put (cs := #[.bool t297, .bool t298, .bool false, .bool false]) ?_ 2 _ rfl; (with_reducible repeat (first | refine blk_drewN ?_ _ | refine blk_drew ?_ | refine blk_alloc ?_ _)); refine blk_put (cs := #[.bool t297, .bool false, .bool false, .bool false]) ?_ 1 _ rfl; (with_reducible repeat (first | refine blk_drewN ?_ _ | refine blk_drew ?_ | refine blk_alloc ?_ _)); refine blk_put (cs := #[.bool false, .bool false, .bool false, .bool false]) ?_ 0 _ rfl; (with_reducible repeat (first | refine blk_drewN ?_ _ | refine blk_drew ?_ | refine blk_alloc ?_ _)); exact BK301.out⟩
          have n2_ : Aside0 (Below w.heap.size w (((((w28.setCell ⟨gb301, 0, none⟩ (.bool t297)).setCell ⟨gb301, 1, none⟩ (.bool t298)).setCell ⟨gb301, 2, none⟩ (.bool t299)).setCell ⟨gb301, 3, none⟩ (.bool t300)).setCell ⟨gb301, 2, none⟩ (.bool false))) := ⟨by repeat (first | (with_reducible first | exact HB.out | apply below_alloc | apply pw_below_drewN | apply below_drew1 | refine below_set ?_ GE286.out | refine below_set ?_ GE301.out) | exact HB.out)⟩
          (try clear BK286)
          (try clear BK301)
          (try clear HB)
          (repeat rw [own_setCell_drewN]); (repeat rw [World.drewN_drewN])
          generalize (((((w28.setCell ⟨gb301, 0, none⟩ (.bool t297)).setCell ⟨gb301, 1, none⟩ (.bool t298)).setCell ⟨gb301, 2, none⟩ (.bool t299)).setCell ⟨gb301, 3, none⟩ (.bool t300)).setCell ⟨gb301, 2, none⟩ (.bool false)) = w31 at n0_ n1_ n2_ ⊢
          have BK286 := n0_
          have BK301 := n1_
          have HB := n2_
          clear n0_ n1_ n2_
          have n0_ := Aside0.mk (blk_drew BK286.out)
          have n1_ := Aside0.mk (blk_drew BK301.out)
          have n2_ := Aside0.mk (below_drew1 HB.out)
          clear BK286
          clear BK301
          clear HB
          have BK286 := n0_
          have BK301 := n1_
          have HB := n2_
          clear n0_ n1_ n2_
          refine start_ (n := 7) (S := fun w' => w'.cell? ⟨gb301, 0, none⟩ = some (.bool t297) ∧ w'.cell? ⟨gb301, 1, none⟩ = some (.bool t298) ∧ w'.cell? ⟨gb301, 2, none⟩ = some (.bool false) ∧ w'.cell? ⟨gb301, 3, none⟩ = some (.bool t300)) (ds := []) #[false, false, false, false, false, false, false] (by kernel_rfl) rfl rfl ⟨(blk_cell BK301.out 0).trans rfl, (blk_cell BK301.out 1).trans rfl, (blk_cell BK301.out 2).trans rfl, (blk_cell BK301.out 3).trans rfl⟩ (fun hHeld => ?_)
          generalize w31.drew = w32 at BK286 BK301 HB hHeld ⊢
          refine pure_ (i := 0) (N := some 48) (v := ?_) (a' := ?_) #[true, false, false, false, false, false, false] rfl rfl (by kernel_rfl) (fun _ _ _ h => h) (Or.inl ⟨by rfl, ?_⟩) ?_ ?_
          rotate_left
          · intro w'
            go_simp
            with_reducible rfl
          rotate_left
          · simp only [Act.put, List.setIfInBounds_toArray, List.set_cons_zero, List.set_cons_succ, i64_w, i32_w]
            rfl
          refine pure_ (i := 2) (N := some 50) (v := ?_) (a' := ?_) #[true, false, true, false, false, false, false] rfl rfl (by kernel_rfl) (fun _ _ _ h => h) (Or.inl ⟨by rfl, ?_⟩) ?_ ?_
          rotate_left
          · intro w'
            go_simp
            with_reducible rfl
          rotate_left
          · simp only [Act.put, List.setIfInBounds_toArray, List.set_cons_zero, List.set_cons_succ, i64_w, i32_w]
            rfl
          refine pure_ (i := 3) (N := some 51) (v := ?_) (a' := ?_) #[true, false, true, true, false, false, false] rfl rfl (by kernel_rfl) (fun _ _ _ h => h) (Or.inl ⟨by rfl, ?_⟩) ?_ ?_
          rotate_left
          · intro w'
            go_simp
            with_reducible rfl
          rotate_left
          · simp only [Act.put, List.setIfInBounds_toArray, List.set_cons_zero, List.set_cons_succ, i64_w, i32_w]
            rfl
          refine pure_ (i := 4) (N := some 6) (v := ?_) (a' := ?_) #[true, false, true, true, true, false, false] rfl rfl (by kernel_rfl) (fun _ _ _ h => h) (Or.inl ⟨by rfl, ?_⟩) ?_ ?_
          rotate_left
          · intro w'
            go_simp
            with_reducible rfl
          rotate_left
          · simp only [Act.put, List.setIfInBounds_toArray, List.set_cons_zero, List.set_cons_succ, i64_w, i32_w]
            rfl
          refine take_ (i := 1) (N := some 49) (v := ?_) (a' := ?_) #[true, true, true, true, true, false, false] rfl rfl (by kernel_rfl) (fun _ _ _ h => h) (Or.inl ⟨by rfl, ?_⟩) hHeld ?_ ?_
          rotate_left
          · rintro w' ⟨s0, s1, s2, s3⟩
            go_simp
            with_reducible rfl
          rotate_left
          · simp only [Act.put, List.setIfInBounds_toArray, List.set_cons_zero, List.set_cons_succ, i64_w, i32_w]
            rfl
          refine one_ (i := 5) (N := none) #[true, true, true, true, true, true, false] rfl rfl (by kernel_rfl) (by decide) (fun K hK => ?_)
          have hs33 : w32.cell? ⟨gb286, 0, none⟩ = some (.bool false) := (blk_cell BK286.out 0).trans rfl
          have hfs33 := blk_frozen BK286.out 0
          have hns33_1 := NB301_286.out
          have hms33_1 := NB286_301.out
          have hs34 : w32.cell? ⟨gb286, 1, none⟩ = some (.bool false) := (blk_cell BK286.out 1).trans rfl
          have hfs34 := blk_frozen BK286.out 1
          have hns34_1 := NB301_286.out
          have hms34_1 := NB286_301.out
          have hs35 : w32.cell? ⟨gb286, 2, none⟩ = some (.bool false) := (blk_cell BK286.out 2).trans rfl
          have hfs35 := blk_frozen BK286.out 2
          have hns35_1 := NB301_286.out
          have hms35_1 := NB286_301.out
          have hs36 : w32.cell? ⟨gb286, 3, none⟩ = some (.bool false) := (blk_cell BK286.out 3).trans rfl
          have hfs36 := blk_frozen BK286.out 3
          have hns36_1 := NB301_286.out
          have hms36_1 := NB286_301.out
          refine skip_ (w1 := ?_) (by rfl) rfl ?_ ?_
          rotate_left
          · go_simp
            rfl
          refine hK.out _ _ ⟨((cell_far (p := ⟨gb286, _, none⟩) NB301_286.out _).trans (((cell_far (p := ⟨gb286, _, none⟩) NB301_286.out _).trans (((cell_far (p := ⟨gb286, _, none⟩) NB301_286.out _).trans (((cell_far (p := ⟨gb286, _, none⟩) NB301_286.out _).trans (hHeld.1)))))))), ((cell_far (p := ⟨gb286, _, none⟩) NB301_286.out _).trans (((cell_far (p := ⟨gb286, _, none⟩) NB301_286.out _).trans (((cell_far (p := ⟨gb286, _, none⟩) NB301_286.out _).trans (((cell_far (p := ⟨gb286, _, none⟩) NB301_286.out _).trans (hHeld.2.1)))))))), ((cell_far (p := ⟨gb286, _, none⟩) NB301_286.out _).trans (((cell_far (p := ⟨gb286, _, none⟩) NB301_286.out _).trans (((cell_far (p := ⟨gb286, _, none⟩) NB301_286.out _).trans (((cell_far (p := ⟨gb286, _, none⟩) NB301_286.out _).trans (hHeld.2.2.1)))))))), ((cell_far (p := ⟨gb286, _, none⟩) NB301_286.out _).trans (((cell_far (p := ⟨gb286, _, none⟩) NB301_286.out _).trans (((cell_far (p := ⟨gb286, _, none⟩) NB301_286.out _).trans (((cell_far (p := ⟨gb286, _, none⟩) NB301_286.out _).trans (hHeld.2.2.2))))))))⟩ (fun hHeld => ?_)
          clear hK K
          refine pure_ (i := 6) (N := some 8) (v := ?_) (a' := ?_) #[true, true, true, true, true, true, true] rfl rfl (by kernel_rfl) (fun _ _ _ h => h) (Or.inl ⟨by rfl, ?_⟩) ?_ ?_
          rotate_left
          · intro w'
            go_simp
            with_reducible rfl
          rotate_left
          · simp only [Act.put, List.setIfInBounds_toArray, List.set_cons_zero, List.set_cons_succ, i64_w, i32_w]
            rfl
          refine done_ (by kernel_rfl) ?_
          try go_wp2
          refine bodyPost_ret (results_list (rs := [.tmp 6, .cell 7 29, .tmp 8]) rfl (by simp) (.tmp (.cell gb286 29 #[.bool t297, .bool t298, .bool false, .bool t300] (0, 0) _ rfl (by (with_reducible repeat (first | refine blk_drewN ?_ _ | refine blk_drew ?_ | refine blk_alloc ?_ _)); refine blk_put (cs := #[.bool t297, .bool t298, .bool false, .bool false]) ?_ 3 _ rfl; (with_reducible repeat (first | refine blk_drewN ?_ _ | refine blk_drew ?_ | refine blk_alloc ?_ _)); refine blk_put (cs := #[.bool t297, .bool t298, .bool false, .bool false]) ?_ 2 _ rfl; (with_reducible repeat (first | refine blk_drewN ?_ _ | refine blk_drew ?_ | refine blk_alloc ?_ _)); refine blk_put (cs := #[.bool t297, .bool false, .bool false, .bool false]) ?_ 1 _ rfl; (with_reducible repeat (first | refine blk_drewN ?_ _ | refine blk_drew ?_ | refine blk_alloc ?_ _)); refine blk_put (cs := #[.bool false, .bool false, .bool false, .bool false]) ?_ 0 _ rfl; (with_reducible repeat (first | refine blk_drewN ?_ _ | refine blk_drew ?_ | refine blk_alloc ?_ _)); exact BK286.out) Try.underlying29 rfl (by kernel_rfl) (.tmp .nil)))) rfl ?_
          exact ⟨by first | rfl | (simp [errW_none, errW_some] <;> rfl) | (simp [*, errW_none, errW_some] <;> rfl), by repeat (first | (with_reducible first | exact HB.out | apply below_alloc | apply pw_below_drewN | apply below_drew1 | refine below_set ?_ GE286.out | refine below_set ?_ GE301.out) | exact HB.out)⟩

end Go.Proofs.Ytmmmifgddkfehaa.PAlu
