-- Written by wip/oprint.py, a program of this session's repo, out of the translation. Not trusted: Lean checks it.
import Derived.Test.YtmmmifgddkfehaaPAlux0
import Derived.Test.YtmmmifgddkfehaaPAlux11
import Derived.Test.YtmmmifgddkfehaaPAlux12
import Derived.Test.YtmmmifgddkfehaaPAlux13
namespace Go.Proofs.Ytmmmifgddkfehaa.PAlu
open Go.RowKit Go.Proofs.YtmmmifgddkfehaaW.PrintWords Go.Proofs.YtmmmifgddkfehaaW.PrintLast
set_option linter.unusedVariables false
set_option linter.unusedSimpArgs false

/-! ### camshaftref08_Convert: function 47 -/
def camshaftref08_Convert.j0 : Nat → Int → Bool → Bool → Int → Option (Int × Bool × Bool × Bool × Bool)
  | 0, _, _, _, _ => none
  | k + 1, x2, x3, x4, x12 => (camshaftref01_Bits.f x12 x2).bind fun t538 => ((camshaftref01_Signs.f t538 x2).bind fun bt539 => (if x3 = true then ((camshaftref01_Fits.f x12 x2).bind fun t544 => (some (t538, bt539.1, bt539.2.1, !t544, bt539.2.2.2))) else (some (t538, false, bt539.2.1, bt539.2.2.1, x4))))
def camshaftref08_Convert.f (k : Nat) (a0 : Int) (a1 : Int) (a2 : Int) (a3 : Bool) (a4 : Bool) : Option (Int × Bool × Bool × Bool × Bool) := (camshaftref01_Rest.f a0 a1).bind fun t536 => (if a3 = true then ((camshaftref01_Signed.f a0 a1).bind fun t537 => (camshaftref08_Convert.j0 k a2 a3 a4 t537)) else (camshaftref08_Convert.j0 k a2 a3 a4 t536))
theorem camshaftref08_Convert.mono_l : ∀ k, (∀ y0 y1 y2 y3, LeO (camshaftref08_Convert.j0 k y0 y1 y2 y3) (camshaftref08_Convert.j0 (k + 1) y0 y1 y2 y3))
  | 0 => fun _ _ _ _ r h => by simp [camshaftref08_Convert.j0] at h
  | k + 1 => by
    have ih0 := camshaftref08_Convert.mono_l k
    · intro y0 y1 y2 y3
      unfold camshaftref08_Convert.j0
      repeat' first
      | (with_reducible exact ih0 _ _ _ _)
      | (with_reducible exact LeO.refl _)
      | (with_reducible exact LeO.none _)
      | (with_reducible refine LeO.ite ?_ ?_)
      | (with_reducible refine LeO.bind ?_ (fun _ => ?_))
      | exact ih0 _ _ _ _
      | exact LeO.none _
      | refine LeO.ite ?_ ?_
      | refine LeO.bind ?_ (fun _ => ?_)
theorem camshaftref08_Convert.mono : ∀ a0 a1 a2 a3 a4 k, LeO (camshaftref08_Convert.f k a0 a1 a2 a3 a4) (camshaftref08_Convert.f (k + 1) a0 a1 a2 a3 a4) := by
  intro a0 a1 a2 a3 a4 k
  have ih0 := camshaftref08_Convert.mono_l k
  unfold camshaftref08_Convert.f
  repeat' first
      | (with_reducible exact ih0 _ _ _ _)
      | (with_reducible exact LeO.refl _)
      | (with_reducible exact LeO.none _)
      | (with_reducible refine LeO.ite ?_ ?_)
      | (with_reducible refine LeO.bind ?_ (fun _ => ?_))
      | exact ih0 _ _ _ _
      | exact LeO.none _
      | refine LeO.ite ?_ ?_
      | refine LeO.bind ?_ (fun _ => ?_)
set_option maxHeartbeats 8000000 in
set_option maxRecDepth 100000 in
theorem camshaftref08_Convert.calls (k : Nat) (a0 : Int) (a1 : Int) (a2 : Int) (a3 : Bool) (a4 : Bool) (r1 : Int) (r2 : Bool) (r3 : Bool) (r4 : Bool) (r5 : Bool) (w : World) (h : camshaftref08_Convert.f k a0 a1 a2 a3 a4 = some (r1, r2, r3, r4, r5)) :
    Calls Try.prog 47 #[.int .u32 a0, .int .i64 a1, .int .i64 a2, .bool a3, .bool a4] w fun e w' => e = .returned (.tuple #[.int .u32 r1, .agg #[.bool r2, .bool r3, .bool r4, .bool r5]]) ∧ Below w.heap.size w w' := by
  have hu29 := Try.underlying29
  have HB := Aside0.mk (Below.refl w.heap.size w)
  have H : ((camshaftref01_Rest.f a0 a1).bind fun t536 => (if a3 = true then ((camshaftref01_Signed.f a0 a1).bind fun t537 => (camshaftref08_Convert.j0 k a2 a3 a4 t537)) else (camshaftref08_Convert.j0 k a2 a3 a4 t536))) = some (r1, r2, r3, r4, r5) := h
  clear h
  replace H := Option.bind_eq_some_iff.mp H
  obtain ⟨t536, A60, H⟩ := H
  replace H : (if a3 = true then ((camshaftref01_Signed.f a0 a1).bind fun t537 => (camshaftref08_Convert.j0 k a2 a3 a4 t537)) else (camshaftref08_Convert.j0 k a2 a3 a4 t536)) = some (r1, r2, r3, r4, r5) := H
  have A6 := Aside0.mk A60
  clear A60
  have HC7 := Aside0.mk H
  clear H
  go_enter Try.func47, Try.ntmps47
  go_upto_if 18 with (first | ((with_reducible refine gate_dst (N := 11) rfl ?_); refine box_event ?hg (N := 11) ?hd (cs := #[.bool false, .bool false, .bool false, .bool false]) (t := 29) ?hr ?_; (case hd => rfl); (case hg => rfl); (case hr => first | (go_simp; done) | (go_simp; rfl)); intro gb535 hg w8 hbox hb; have n0_ := Aside0.mk (below_step (by repeat (first | (with_reducible first | exact HB.out | apply below_alloc | apply pw_below_drewN | apply below_drew1) | exact HB.out)) hb); have n1_ := Aside0.mk (hbox); have n2_ := Aside0.mk ((by rw [hg]; exact (below_size (by repeat (first | (with_reducible first | exact HB.out | apply below_alloc | apply pw_below_drewN | apply below_drew1) | exact HB.out))) : w.heap.size ≤ gb535)); have n3_ := Aside0.mk ((by rw [hg]; exact (below_size (by repeat (first | (with_reducible first | exact HB.out | apply below_alloc | apply pw_below_drewN | apply below_drew1) | exact HB.out))) : w.heap.size ≤ gb535)); clear HB; have HB := n0_; have BK535 := n1_; have GW535 := n2_; have GE535 := n3_; clear n0_ n1_ n2_ n3_; clear hb hbox hg) | ((with_reducible refine gate_callee (f := 45) rfl ?_); refine goesL_ (some 17) rfl rfl Try.func45 (by kernel_rfl) rfl #[.int .u32 a0, .int .i64 a1] rfl (by (try simp only [List.map_toArray, List.map_cons, List.map_nil]); first | done | rfl | (simp only [List.length_drop, List.length_take]; rfl)) ?_; (with_reducible refine (camshaftref01_Rest.calls a0 a1 t536 _ A6.out).mono ?_); rintro e w' ⟨rfl, ⟨nd, rfl⟩⟩; refine ⟨_, rfl, ?_⟩))
  (try simp only [Act.put, List.setIfInBounds_toArray, List.set_cons_zero, List.set_cons_succ])
  go_cut [12] (fun v12 wc => ∃ (kq : Nat) (x12_6 : Int), v12 = .int .i64 x12_6 ∧ Aside0 (camshaftref08_Convert.j0 kq a2 a3 a4 x12_6 = some (r1, r2, r3, r4, r5)) ∧ Aside0 (kq ≤ k) ∧ Aside0 (wc.heap[gb535]? = some (.cells #[.bool false, .bool false, .bool false, .bool false] 29 (0, 0))) ∧ Aside0 (Below w.heap.size w wc))
  case first =>
    have H := HC7.out
    clear HC7
    by_cases c9 : a3 = true
    · subst c9
      have H1 : ((camshaftref01_Signed.f a0 a1).bind fun t537 => (camshaftref08_Convert.j0 k a2 true a4 t537)) = some (r1, r2, r3, r4, r5) := by rw [if_pos rfl] at H; exact H
      clear H
      have H := H1
      clear H1
      replace H := Option.bind_eq_some_iff.mp H
      obtain ⟨t537, A100, H⟩ := H
      replace H : (camshaftref08_Convert.j0 k a2 true a4 t537) = some (r1, r2, r3, r4, r5) := H
      have A10 := Aside0.mk A100
      clear A100
      have H' := Aside0.mk H
      clear H
      go_wp2_with (first | ((with_reducible refine gate_callee (f := 26) rfl ?_); refine goesL_ (some 21) rfl rfl Try.func26 (by kernel_rfl) rfl #[.int .u32 a0, .int .i64 a1] rfl (by (try simp only [List.map_toArray, List.map_cons, List.map_nil]); first | done | rfl | (simp only [List.length_drop, List.length_take]; rfl)) ?_; (with_reducible refine (camshaftref01_Signed.calls a0 a1 t537 _ A10.out).mono ?_); rintro e w' ⟨rfl, ⟨nd, rfl⟩⟩; refine ⟨_, rfl, ?_⟩))
      go_meet
      case rel => exact ⟨_, (t537), (by first | rfl | (simp; done) | (simp [*]; done)), H', ⟨by first | omega | exact Nat.le_refl _⟩, ⟨by (with_reducible repeat (first | refine blk_drewN ?_ _ | refine blk_drew ?_ | refine blk_alloc ?_ _)); exact BK535.out⟩, ⟨by repeat (first | (with_reducible first | exact HB.out | apply below_alloc | apply pw_below_drewN | apply below_drew1 | refine below_set ?_ GE535.out) | exact HB.out)⟩⟩
    · replace c9 := Bool.eq_false_iff.mpr c9
      subst c9
      have H1 : (camshaftref08_Convert.j0 k a2 false a4 t536) = some (r1, r2, r3, r4, r5) := by rw [if_neg (show ¬ (false = true) by decide)] at H; exact H
      clear H
      have H := H1
      clear H1
      have H' := Aside0.mk H
      clear H
      go_wp2
      go_meet
      case rel => exact ⟨_, (t536), (by first | rfl | (simp; done) | (simp [*]; done)), H', ⟨by first | omega | exact Nat.le_refl _⟩, ⟨by (with_reducible repeat (first | refine blk_drewN ?_ _ | refine blk_drew ?_ | refine blk_alloc ?_ _)); exact BK535.out⟩, ⟨by repeat (first | (with_reducible first | exact HB.out | apply below_alloc | apply pw_below_drewN | apply below_drew1 | refine below_set ?_ GE535.out) | exact HB.out)⟩⟩
  case rest =>
    clear HC7
    try clear c2
    try clear p2
    try clear c4
    try clear c9
    obtain ⟨kq, x12_6, rfl, HA, HJ6, BK535, HB⟩ := hcut
    cases kq with
    | zero => exact absurd HA.out (by simp [camshaftref08_Convert.j0])
    | succ kj6 =>
      have H := HA.out
      clear HA
      simp only [camshaftref08_Convert.j0] at H
      replace H := Option.bind_eq_some_iff.mp H
      obtain ⟨t538, A110, H⟩ := H
      replace H : ((camshaftref01_Signs.f t538 a2).bind fun bt539 => (if a3 = true then ((camshaftref01_Fits.f x12_6 a2).bind fun t544 => (some (t538, bt539.1, bt539.2.1, !t544, bt539.2.2.2))) else (some (t538, false, bt539.2.1, bt539.2.2.1, a4)))) = some (r1, r2, r3, r4, r5) := H
      have A11 := Aside0.mk A110
      clear A110
      replace H := Option.bind_eq_some_iff.mp H
      obtain ⟨⟨t539, t540, t541, t542⟩, A120, H⟩ := H
      replace H : (if a3 = true then ((camshaftref01_Fits.f x12_6 a2).bind fun t544 => (some (t538, t539, t540, !t544, t542))) else (some (t538, false, t540, t541, a4))) = some (r1, r2, r3, r4, r5) := H
      have A12 := Aside0.mk A120
      clear A120
      by_cases c13 : a3 = true
      · subst c13
        have H1 : ((camshaftref01_Fits.f x12_6 a2).bind fun t544 => (some (t538, t539, t540, !t544, t542))) = some (r1, r2, r3, r4, r5) := by rw [if_pos rfl] at H; exact H
        clear H
        have H := H1
        clear H1
        replace H := Option.bind_eq_some_iff.mp H
        obtain ⟨t544, A140, H⟩ := H
        replace H : (some (t538, t539, t540, !t544, t542)) = some (r1, r2, r3, r4, r5) := H
        have A14 := Aside0.mk A140
        clear A140
        simp only [Option.some.injEq, Prod.mk.injEq] at H
        obtain ⟨rfl, rfl, rfl, rfl, rfl⟩ := H
        try go_wp2_with (first | ((with_reducible refine gate_callee (f := 30) rfl ?_); refine goesL_ (some 24) rfl rfl Try.func30 (by kernel_rfl) rfl #[.int .i64 x12_6, .int .i64 a2] rfl (by (try simp only [List.map_toArray, List.map_cons, List.map_nil]); first | done | rfl | (simp only [List.length_drop, List.length_take]; rfl)) ?_; (with_reducible refine (camshaftref01_Bits.calls x12_6 a2 t538 _ A11.out).mono ?_); rintro e w' ⟨rfl, ⟨nd, rfl⟩⟩; refine ⟨_, rfl, ?_⟩; (try (rw [drewN_self wc]; generalize hq_ : World.drewN wc _ = wc; have n0_ : Aside0 (wc.heap[gb535]? = some (.cells #[.bool false, .bool false, .bool false, .bool false] 29 (0, 0))) := ⟨by rw [← hq_]; exact (by (with_reducible repeat (first | refine blk_drewN ?_ _ | refine blk_drew ?_ | refine blk_alloc ?_ _)); exact BK535.out)⟩; have n1_ : Aside0 (Below w.heap.size w wc) := ⟨by rw [← hq_]; exact (by repeat (first | (with_reducible first | exact HB.out | apply below_alloc | apply pw_below_drewN | apply below_drew1 | refine below_set ?_ GE535.out) | exact HB.out))⟩; clear BK535 HB hq_; have BK535 := n0_; have HB := n1_; clear n0_ n1_))) | ((with_reducible refine gate_callee (f := 31) rfl ?_); refine goesL_ (some 27) rfl rfl Try.func31 (by kernel_rfl) rfl #[.int .u32 t538, .int .i64 a2] rfl (by (try simp only [List.map_toArray, List.map_cons, List.map_nil]); first | done | rfl | (simp only [List.length_drop, List.length_take]; rfl)) ?_; (with_reducible refine (camshaftref01_Signs.calls t538 a2 t539 t540 t541 t542 _ A12.out).mono ?_); rintro e w15 ⟨rfl, hb⟩; refine ⟨_, rfl, ?_⟩; have n0_ := Aside0.mk (blk_below (g := gb535) (o := .cells #[.bool false, .bool false, .bool false, .bool false] 29 (0, 0)) (by (with_reducible repeat (first | refine blk_drewN ?_ _ | refine blk_drew ?_ | refine blk_alloc ?_ _)); exact BK535.out) hb); have n1_ := Aside0.mk (below_step (by repeat (first | (with_reducible first | exact HB.out | apply below_alloc | apply pw_below_drewN | apply below_drew1 | refine below_set ?_ GE535.out) | exact HB.out)) hb); clear BK535; clear HB; have BK535 := n0_; have HB := n1_; clear n0_ n1_; (try clear hb); (try clear hb2); (try clear hk); (try clear hi)) | ((with_reducible refine gate_dst (N := 14) rfl ?_); refine box_event ?hg (N := 14) ?hd (cs := #[.bool false, .bool false, .bool false, .bool false]) (t := 29) ?hr ?_; (case hd => rfl); (case hg => rfl); (case hr => first | (go_simp; done) | (go_simp; rfl)); intro gb543 hg w16 hbox hb; have n0_ := Aside0.mk (blk_below (g := gb535) (o := .cells #[.bool false, .bool false, .bool false, .bool false] 29 (0, 0)) (by (with_reducible repeat (first | refine blk_drewN ?_ _ | refine blk_drew ?_ | refine blk_alloc ?_ _)); exact BK535.out) hb); have n1_ := Aside0.mk (below_step (by repeat (first | (with_reducible first | exact HB.out | apply below_alloc | apply pw_below_drewN | apply below_drew1 | refine below_set ?_ GE535.out) | exact HB.out)) hb); have n2_ := Aside0.mk (hbox); have n3_ := Aside0.mk ((by rw [hg]; exact (below_size (by repeat (first | (with_reducible first | exact HB.out | apply below_alloc | apply pw_below_drewN | apply below_drew1 | refine below_set ?_ GE535.out) | exact HB.out))) : w.heap.size ≤ gb543)); have n4_ := Aside0.mk ((by rw [hg]; exact (below_size (by repeat (first | (with_reducible first | exact HB.out | apply below_alloc | apply pw_below_drewN | apply below_drew1 | refine below_set ?_ GE535.out) | exact HB.out))) : w.heap.size ≤ gb543)); have n5_ := Aside0.mk ((by rw [hg]; exact Nat.ne_of_lt (blk_lt (g := gb535) (o := .cells #[.bool false, .bool false, .bool false, .bool false] 29 (0, 0)) (by (with_reducible repeat (first | refine blk_drewN ?_ _ | refine blk_drew ?_ | refine blk_alloc ?_ _)); exact BK535.out)) : gb535 ≠ gb543)); have n6_ := Aside0.mk ((by rw [hg]; exact Nat.ne_of_gt (blk_lt (g := gb535) (o := .cells #[.bool false, .bool false, .bool false, .bool false] 29 (0, 0)) (by (with_reducible repeat (first | refine blk_drewN ?_ _ | refine blk_drew ?_ | refine blk_alloc ?_ _)); exact BK535.out)) : gb543 ≠ gb535)); clear BK535; clear HB; have BK535 := n0_; have HB := n1_; have BK543 := n2_; have GW543 := n3_; have GE543 := n4_; have NB535_543 := n5_; have NB543_535 := n6_; clear n0_ n1_ n2_ n3_ n4_ n5_ n6_; clear hb hbox hg; have hnb17 := NB543_535.out; have hnc17 := NB535_543.out; have hcz18_0 : w16.cell? ⟨gb543, 0, none⟩ = some (.bool false) := (blk_cell BK543.out 0).trans rfl; have hcz18_1 : w16.cell? ⟨gb543, 1, none⟩ = some (.bool false) := (blk_cell BK543.out 1).trans rfl; have hcz18_2 : w16.cell? ⟨gb543, 2, none⟩ = some (.bool false) := (blk_cell BK543.out 2).trans rfl; have hcz18_3 : w16.cell? ⟨gb543, 3, none⟩ = some (.bool false) := (blk_cell BK543.out 3).trans rfl; have hfz18_0 := blk_frozen BK543.out 0; have hfz18_1 := blk_frozen BK543.out 1; have hfz18_2 := blk_frozen BK543.out 2; have hfz18_3 := blk_frozen BK543.out 3) | ((with_reducible refine gate_callee (f := 49) rfl ?_); refine goesL_ (some 37) rfl rfl Try.func49 (by kernel_rfl) rfl #[.int .i64 x12_6, .int .i64 a2] rfl (by (try simp only [List.map_toArray, List.map_cons, List.map_nil]); first | done | rfl | (simp only [List.length_drop, List.length_take]; rfl)) ?_; (with_reducible refine (camshaftref01_Fits.calls x12_6 a2 t544 _ A14.out).mono ?_); rintro e w' ⟨rfl, ⟨nd, rfl⟩⟩; refine ⟨_, rfl, ?_⟩))
        have n0_ : Aside0 ((((((w16.setCell ⟨gb543, 0, none⟩ (.bool t539)).setCell ⟨gb543, 1, none⟩ (.bool t540)).setCell ⟨gb543, 2, none⟩ (.bool t541)).setCell ⟨gb543, 3, none⟩ (.bool t542)).setCell ⟨gb543, 2, none⟩ (.bool (!t544))).heap[gb535]? = some (.cells #[.bool false, .bool false, .bool false, .bool false] 29 (0, 0))) := ⟨by (with_reducible repeat (first | refine blk_drewN ?_ _ | refine blk_drew ?_ | refine blk_alloc ?_ _)); refine blk_far ?_ NB535_543.out _; (with_reducible repeat (first | refine blk_drewN ?_ _ | refine blk_drew ?_ | refine blk_alloc ?_ _)); refine blk_far ?_ NB535_543.out _; (with_reducible repeat (first | refine blk_drewN ?_ _ | refine blk_drew ?_ | refine blk_alloc ?_ _)); refine blk_far ?_ NB535_543.out _; (with_reducible repeat (first | refine blk_drewN ?_ _ | refine blk_drew ?_ | refine blk_alloc ?_ _)); refine blk_far ?_ NB535_543.out _; (with_reducible repeat (first | refine blk_drewN ?_ _ | refine blk_drew ?_ | refine blk_alloc ?_ _)); refine blk_far ?_ NB535_543.out _; (with_reducible repeat (first | refine blk_drewN ?_ _ | refine blk_drew ?_ | refine blk_alloc ?_ _)); exact BK535.out⟩
        have n1_ : Aside0 ((((((w16.setCell ⟨gb543, 0, none⟩ (.bool t539)).setCell ⟨gb543, 1, none⟩ (.bool t540)).setCell ⟨gb543, 2, none⟩ (.bool t541)).setCell ⟨gb543, 3, none⟩ (.bool t542)).setCell ⟨gb543, 2, none⟩ (.bool (!t544))).heap[gb543]? = some (.cells #[.bool t539, .bool t540, .bool (!t544), .bool t542] 29 (0, 0))) := ⟨by (with_reducible repeat (first | refine blk_drewN ?_ _ | refine blk_drew ?_ | refine blk_alloc ?_ _)); refine blk_put (cs := #[.bool t539, .bool t540, .bool t541, .bool t542]) ?_ 2 _ rfl; (with_reducible repeat (first | refine blk_drewN ?_ _ | refine blk_drew ?_ | refine blk_alloc ?_ _)); refine blk_put (cs := #[.bool t539, .bool t540, .bool t541, .bool false]) ?_ 3 _ rfl; (with_reducible repeat (first | refine blk_drewN ?_ _ | refine blk_drew ?_ | refine blk_alloc ?_ _)); refine blk_put (cs := #[.bool t539, .bool t540, .bool false, .bool false]) ?_ 2 _ rfl; (with_reducible repeat (first | refine blk_drewN ?_ _ | refine blk_drew ?_ | refine blk_alloc ?_ _)); refine blk_put (cs := #[.bool t539, .bool false, .bool false, .bool false]) ?_ 1 _ rfl; (with_reducible repeat (first | refine blk_drewN ?_ _ | refine blk_drew ?_ | refine blk_alloc ?_ _)); refine blk_put (cs := #[.bool false, .bool false, .bool false, .bool false]) ?_ 0 _ rfl; (with_reducible repeat (first | refine blk_drewN ?_ _ | refine blk_drew ?_ | refine blk_alloc ?_ _)); exact BK543.out⟩
        have n2_ : Aside0 (Below w.heap.size w (((((w16.setCell ⟨gb543, 0, none⟩ (.bool t539)).setCell ⟨gb543, 1, none⟩ (.bool t540)).setCell ⟨gb543, 2, none⟩ (.bool t541)).setCell ⟨gb543, 3, none⟩ (.bool t542)).setCell ⟨gb543, 2, none⟩ (.bool (!t544)))) := ⟨by repeat (first | (with_reducible first | exact HB.out | apply below_alloc | apply pw_below_drewN | apply below_drew1 | refine below_set ?_ GE535.out | refine below_set ?_ GE543.out) | exact HB.out)⟩
        (try clear BK535)
        (try clear BK543)
        (try clear HB)
        (repeat rw [own_setCell_drewN]); (repeat rw [World.drewN_drewN])
        generalize (((((w16.setCell ⟨gb543, 0, none⟩ (.bool t539)).setCell ⟨gb543, 1, none⟩ (.bool t540)).setCell ⟨gb543, 2, none⟩ (.bool t541)).setCell ⟨gb543, 3, none⟩ (.bool t542)).setCell ⟨gb543, 2, none⟩ (.bool (!t544))) = w19 at n0_ n1_ n2_ ⊢
        have BK535 := n0_
        have BK543 := n1_
        have HB := n2_
        clear n0_ n1_ n2_
        (try (rw [drewN_self w19]; generalize hq_ : World.drewN w19 _ = w19; have n0_ : Aside0 (w19.heap[gb535]? = some (.cells #[.bool false, .bool false, .bool false, .bool false] 29 (0, 0))) := ⟨by rw [← hq_]; exact (by (with_reducible repeat (first | refine blk_drewN ?_ _ | refine blk_drew ?_ | refine blk_alloc ?_ _)); exact BK535.out)⟩; have n1_ : Aside0 (w19.heap[gb543]? = some (.cells #[.bool t539, .bool t540, .bool (!t544), .bool t542] 29 (0, 0))) := ⟨by rw [← hq_]; exact (by (with_reducible repeat (first | refine blk_drewN ?_ _ | refine blk_drew ?_ | refine blk_alloc ?_ _)); exact BK543.out)⟩; have n2_ : Aside0 (Below w.heap.size w w19) := ⟨by rw [← hq_]; exact (by repeat (first | (with_reducible first | exact HB.out | apply below_alloc | apply pw_below_drewN | apply below_drew1 | refine below_set ?_ GE535.out | refine below_set ?_ GE543.out) | exact HB.out))⟩; clear BK535 BK543 HB hq_; have BK535 := n0_; have BK543 := n1_; have HB := n2_; clear n0_ n1_ n2_))
        have n0_ := Aside0.mk (blk_drew BK535.out)
        have n1_ := Aside0.mk (blk_drew BK543.out)
        have n2_ := Aside0.mk (below_drew1 HB.out)
        clear BK535
        clear BK543
        clear HB
        have BK535 := n0_
        have BK543 := n1_
        have HB := n2_
        clear n0_ n1_ n2_
        refine start_ (n := 4) (S := fun w' => w'.cell? ⟨gb543, 0, none⟩ = some (.bool t539) ∧ w'.cell? ⟨gb543, 1, none⟩ = some (.bool t540) ∧ w'.cell? ⟨gb543, 2, none⟩ = some (.bool (!t544)) ∧ w'.cell? ⟨gb543, 3, none⟩ = some (.bool t542)) (ds := []) #[false, false, false, false] (by kernel_rfl) rfl rfl ⟨(blk_cell BK543.out 0).trans rfl, (blk_cell BK543.out 1).trans rfl, (blk_cell BK543.out 2).trans rfl, (blk_cell BK543.out 3).trans rfl⟩ (fun hHeld => ?_)
        generalize w19.drew = w20 at BK535 BK543 HB hHeld ⊢
        refine pure_ (i := 0) (N := some 40) (v := ?_) (a' := ?_) #[true, false, false, false] rfl rfl (by kernel_rfl) (fun _ _ _ h => h) (Or.inl ⟨by rfl, ?_⟩) ?_ ?_
        rotate_left
        · intro w'
          go_simp
          with_reducible rfl
        rotate_left
        · simp only [Act.put, List.setIfInBounds_toArray, List.set_cons_zero, List.set_cons_succ, i64_w, i32_w]
          rfl
        refine pure_ (i := 2) (N := some 10) (v := ?_) (a' := ?_) #[true, false, true, false] rfl rfl (by kernel_rfl) (fun _ _ _ h => h) (Or.inl ⟨by rfl, ?_⟩) ?_ ?_
        rotate_left
        · intro w'
          go_simp
          with_reducible rfl
        rotate_left
        · simp only [Act.put, List.setIfInBounds_toArray, List.set_cons_zero, List.set_cons_succ, i64_w, i32_w]
          rfl
        refine take_ (i := 1) (N := some 41) (v := ?_) (a' := ?_) #[true, true, true, false] rfl rfl (by kernel_rfl) (fun _ _ _ h => h) (Or.inl ⟨by rfl, ?_⟩) hHeld ?_ ?_
        rotate_left
        · rintro w' ⟨s0, s1, s2, s3⟩
          go_simp
          with_reducible rfl
        rotate_left
        · simp only [Act.put, List.setIfInBounds_toArray, List.set_cons_zero, List.set_cons_succ, i64_w, i32_w]
          rfl
        refine one_ (i := 3) (N := none) #[true, true, true, true] rfl rfl (by kernel_rfl) (by decide) (fun K hK => ?_)
        have hs21 : w20.cell? ⟨gb535, 0, none⟩ = some (.bool false) := (blk_cell BK535.out 0).trans rfl
        have hfs21 := blk_frozen BK535.out 0
        have hns21_1 := NB543_535.out
        have hms21_1 := NB535_543.out
        have hs22 : w20.cell? ⟨gb535, 1, none⟩ = some (.bool false) := (blk_cell BK535.out 1).trans rfl
        have hfs22 := blk_frozen BK535.out 1
        have hns22_1 := NB543_535.out
        have hms22_1 := NB535_543.out
        have hs23 : w20.cell? ⟨gb535, 2, none⟩ = some (.bool false) := (blk_cell BK535.out 2).trans rfl
        have hfs23 := blk_frozen BK535.out 2
        have hns23_1 := NB543_535.out
        have hms23_1 := NB535_543.out
        have hs24 : w20.cell? ⟨gb535, 3, none⟩ = some (.bool false) := (blk_cell BK535.out 3).trans rfl
        have hfs24 := blk_frozen BK535.out 3
        have hns24_1 := NB543_535.out
        have hms24_1 := NB535_543.out
        refine skip_ (w1 := ?_) (by rfl) rfl ?_ ?_
        rotate_left
        · go_simp
          rfl
        refine hK.out _ _ ⟨((cell_far (p := ⟨gb535, _, none⟩) NB543_535.out _).trans (((cell_far (p := ⟨gb535, _, none⟩) NB543_535.out _).trans (((cell_far (p := ⟨gb535, _, none⟩) NB543_535.out _).trans (((cell_far (p := ⟨gb535, _, none⟩) NB543_535.out _).trans (hHeld.1)))))))), ((cell_far (p := ⟨gb535, _, none⟩) NB543_535.out _).trans (((cell_far (p := ⟨gb535, _, none⟩) NB543_535.out _).trans (((cell_far (p := ⟨gb535, _, none⟩) NB543_535.out _).trans (((cell_far (p := ⟨gb535, _, none⟩) NB543_535.out _).trans (hHeld.2.1)))))))), ((cell_far (p := ⟨gb535, _, none⟩) NB543_535.out _).trans (((cell_far (p := ⟨gb535, _, none⟩) NB543_535.out _).trans (((cell_far (p := ⟨gb535, _, none⟩) NB543_535.out _).trans (((cell_far (p := ⟨gb535, _, none⟩) NB543_535.out _).trans (hHeld.2.2.1)))))))), ((cell_far (p := ⟨gb535, _, none⟩) NB543_535.out _).trans (((cell_far (p := ⟨gb535, _, none⟩) NB543_535.out _).trans (((cell_far (p := ⟨gb535, _, none⟩) NB543_535.out _).trans (((cell_far (p := ⟨gb535, _, none⟩) NB543_535.out _).trans (hHeld.2.2.2))))))))⟩ (fun hHeld => ?_)
        clear hK K
        refine done_ (by kernel_rfl) ?_
        try go_wp2
        refine bodyPost_ret (results_tc rfl _ _ gb535 29 #[.bool t539, .bool t540, .bool (!t544), .bool t542] (0, 0) _ rfl (by (with_reducible repeat (first | refine blk_drewN ?_ _ | refine blk_drew ?_ | refine blk_alloc ?_ _)); refine blk_put (cs := #[.bool t539, .bool t540, .bool (!t544), .bool false]) ?_ 3 _ rfl; (with_reducible repeat (first | refine blk_drewN ?_ _ | refine blk_drew ?_ | refine blk_alloc ?_ _)); refine blk_put (cs := #[.bool t539, .bool t540, .bool false, .bool false]) ?_ 2 _ rfl; (with_reducible repeat (first | refine blk_drewN ?_ _ | refine blk_drew ?_ | refine blk_alloc ?_ _)); refine blk_put (cs := #[.bool t539, .bool false, .bool false, .bool false]) ?_ 1 _ rfl; (with_reducible repeat (first | refine blk_drewN ?_ _ | refine blk_drew ?_ | refine blk_alloc ?_ _)); refine blk_put (cs := #[.bool false, .bool false, .bool false, .bool false]) ?_ 0 _ rfl; (with_reducible repeat (first | refine blk_drewN ?_ _ | refine blk_drew ?_ | refine blk_alloc ?_ _)); exact BK535.out) Try.underlying29 rfl (by kernel_rfl)) rfl ?_
        exact ⟨by first | rfl | (simp [errW_none, errW_some] <;> rfl) | (simp [*, errW_none, errW_some] <;> rfl), by repeat (first | (with_reducible first | exact HB.out | apply below_alloc | apply pw_below_drewN | apply below_drew1 | refine below_set ?_ GE535.out | refine below_set ?_ GE543.out) | exact HB.out)⟩
      · replace c13 := Bool.eq_false_iff.mpr c13
        subst c13
        have H1 : (some (t538, false, t540, t541, a4)) = some (r1, r2, r3, r4, r5) := by rw [if_neg (show ¬ (false = true) by decide)] at H; exact H
        clear H
        have H := H1
        clear H1
        simp only [Option.some.injEq, Prod.mk.injEq] at H
        obtain ⟨rfl, rfl, rfl, rfl, rfl⟩ := H
        try go_wp2_with (first | ((with_reducible refine gate_callee (f := 30) rfl ?_); refine goesL_ (some 24) rfl rfl Try.func30 (by kernel_rfl) rfl #[.int .i64 x12_6, .int .i64 a2] rfl (by (try simp only [List.map_toArray, List.map_cons, List.map_nil]); first | done | rfl | (simp only [List.length_drop, List.length_take]; rfl)) ?_; (with_reducible refine (camshaftref01_Bits.calls x12_6 a2 t538 _ A11.out).mono ?_); rintro e w' ⟨rfl, ⟨nd, rfl⟩⟩; refine ⟨_, rfl, ?_⟩; (try (rw [drewN_self wc]; generalize hq_ : World.drewN wc _ = wc; have n0_ : Aside0 (wc.heap[gb535]? = some (.cells #[.bool false, .bool false, .bool false, .bool false] 29 (0, 0))) := ⟨by rw [← hq_]; exact (by (with_reducible repeat (first | refine blk_drewN ?_ _ | refine blk_drew ?_ | refine blk_alloc ?_ _)); exact BK535.out)⟩; have n1_ : Aside0 (Below w.heap.size w wc) := ⟨by rw [← hq_]; exact (by repeat (first | (with_reducible first | exact HB.out | apply below_alloc | apply pw_below_drewN | apply below_drew1 | refine below_set ?_ GE535.out) | exact HB.out))⟩; clear BK535 HB hq_; have BK535 := n0_; have HB := n1_; clear n0_ n1_))) | ((with_reducible refine gate_callee (f := 31) rfl ?_); refine goesL_ (some 27) rfl rfl Try.func31 (by kernel_rfl) rfl #[.int .u32 t538, .int .i64 a2] rfl (by (try simp only [List.map_toArray, List.map_cons, List.map_nil]); first | done | rfl | (simp only [List.length_drop, List.length_take]; rfl)) ?_; (with_reducible refine (camshaftref01_Signs.calls t538 a2 t539 t540 t541 t542 _ A12.out).mono ?_); rintro e w25 ⟨rfl, hb⟩; refine ⟨_, rfl, ?_⟩; have n0_ := Aside0.mk (blk_below (g := gb535) (o := .cells #[.bool false, .bool false, .bool false, .bool false] 29 (0, 0)) (by (with_reducible repeat (first | refine blk_drewN ?_ _ | refine blk_drew ?_ | refine blk_alloc ?_ _)); exact BK535.out) hb); have n1_ := Aside0.mk (below_step (by repeat (first | (with_reducible first | exact HB.out | apply below_alloc | apply pw_below_drewN | apply below_drew1 | refine below_set ?_ GE535.out) | exact HB.out)) hb); clear BK535; clear HB; have BK535 := n0_; have HB := n1_; clear n0_ n1_; (try clear hb); (try clear hb2); (try clear hk); (try clear hi)) | ((with_reducible refine gate_dst (N := 14) rfl ?_); refine box_event ?hg (N := 14) ?hd (cs := #[.bool false, .bool false, .bool false, .bool false]) (t := 29) ?hr ?_; (case hd => rfl); (case hg => rfl); (case hr => first | (go_simp; done) | (go_simp; rfl)); intro gb543 hg w26 hbox hb; have n0_ := Aside0.mk (blk_below (g := gb535) (o := .cells #[.bool false, .bool false, .bool false, .bool false] 29 (0, 0)) (by (with_reducible repeat (first | refine blk_drewN ?_ _ | refine blk_drew ?_ | refine blk_alloc ?_ _)); exact BK535.out) hb); have n1_ := Aside0.mk (below_step (by repeat (first | (with_reducible first | exact HB.out | apply below_alloc | apply pw_below_drewN | apply below_drew1 | refine below_set ?_ GE535.out) | exact HB.out)) hb); have n2_ := Aside0.mk (hbox); have n3_ := Aside0.mk ((by rw [hg]; exact (below_size (by repeat (first | (with_reducible first | exact HB.out | apply below_alloc | apply pw_below_drewN | apply below_drew1 | refine below_set ?_ GE535.out) | exact HB.out))) : w.heap.size ≤ gb543)); have n4_ := Aside0.mk ((by rw [hg]; exact (below_size (by repeat (first | (with_reducible first | exact HB.out | apply below_alloc | apply pw_below_drewN | apply below_drew1 | refine below_set ?_ GE535.out) | exact HB.out))) : w.heap.size ≤ gb543)); have n5_ := Aside0.mk ((by rw [hg]; exact Nat.ne_of_lt (blk_lt (g := gb535) (o := .cells #[.bool false, .bool false, .bool false, .bool false] 29 (0, 0)) (by (with_reducible repeat (first | refine blk_drewN ?_ _ | refine blk_drew ?_ | refine blk_alloc ?_ _)); exact BK535.out)) : gb535 ≠ gb543)); have n6_ := Aside0.mk ((by rw [hg]; exact Nat.ne_of_gt (blk_lt (g := gb535) (o := .cells #[.bool false, .bool false, .bool false, .bool false] 29 (0, 0)) (by (with_reducible repeat (first | refine blk_drewN ?_ _ | refine blk_drew ?_ | refine blk_alloc ?_ _)); exact BK535.out)) : gb543 ≠ gb535)); clear BK535; clear HB; have BK535 := n0_; have HB := n1_; have BK543 := n2_; have GW543 := n3_; have GE543 := n4_; have NB535_543 := n5_; have NB543_535 := n6_; clear n0_ n1_ n2_ n3_ n4_ n5_ n6_; clear hb hbox hg; have hnb27 := NB543_535.out; have hnc27 := NB535_543.out; have hcz28_0 : w26.cell? ⟨gb543, 0, none⟩ = some (.bool false) := (blk_cell BK543.out 0).trans rfl; have hcz28_1 : w26.cell? ⟨gb543, 1, none⟩ = some (.bool false) := (blk_cell BK543.out 1).trans rfl; have hcz28_2 : w26.cell? ⟨gb543, 2, none⟩ = some (.bool false) := (blk_cell BK543.out 2).trans rfl; have hcz28_3 : w26.cell? ⟨gb543, 3, none⟩ = some (.bool false) := (blk_cell BK543.out 3).trans rfl; have hfz28_0 := blk_frozen BK543.out 0; have hfz28_1 := blk_frozen BK543.out 1; have hfz28_2 := blk_frozen BK543.out 2; have hfz28_3 := blk_frozen BK543.out 3))
        have n0_ : Aside0 (((((((w26.setCell ⟨gb543, 0, none⟩ (.bool t539)).setCell ⟨gb543, 1, none⟩ (.bool t540)).setCell ⟨gb543, 2, none⟩ (.bool t541)).setCell ⟨gb543, 3, none⟩ (.bool t542)).setCell ⟨gb543, 0, none⟩ (.bool false)).setCell ⟨gb543, 3, none⟩ (.bool a4)).heap[gb535]? = some (.cells #[.bool false, .bool false, .bool false, .bool false] 29 (0, 0))) := ⟨by (with_reducible repeat (first | refine blk_drewN ?_ _ | refine blk_drew ?_ | refine blk_alloc ?_ _)); refine blk_far ?_ NB535_543.out _; (with_reducible repeat (first | refine blk_drewN ?_ _ | refine blk_drew ?_ | refine blk_alloc ?_ _)); refine blk_far ?_ NB535_543.out _; (with_reducible repeat (first | refine blk_drewN ?_ _ | refine blk_drew ?_ | refine blk_alloc ?_ _)); refine blk_far ?_ NB535_543.out _; (with_reducible repeat (first | refine blk_drewN ?_ _ | refine blk_drew ?_ | refine blk_alloc ?_ _)); refine blk_far ?_ NB535_543.out _; (with_reducible repeat (first | refine blk_drewN ?_ _ | refine blk_drew ?_ | refine blk_alloc ?_ _)); refine blk_far ?_ NB535_543.out _; (with_reducible repeat (first | refine blk_drewN ?_ _ | refine blk_drew ?_ | refine blk_alloc ?_ _)); refine blk_far ?_ NB535_543.out _; (with_reducible repeat (first | refine blk_drewN ?_ _ | refine blk_drew ?_ | refine blk_alloc ?_ _)); exact BK535.out⟩
        have n1_ : Aside0 (((((((w26.setCell ⟨gb543, 0, none⟩ (.bool t539)).setCell ⟨gb543, 1, none⟩ (.bool t540)).setCell ⟨gb543, 2, none⟩ (.bool t541)).setCell ⟨gb543, 3, none⟩ (.bool t542)).setCell ⟨gb543, 0, none⟩ (.bool false)).setCell ⟨gb543, 3, none⟩ (.bool a4)).heap[gb543]? = some (.cells #[.bool false, .bool t540, .bool t541, .bool a4] 29 (0, 0))) := ⟨by (with_reducible repeat (first | refine blk_drewN ?_ _ | refine blk_drew ?_ | refine blk_alloc ?_ _)); refine blk_put (cs := #[.bool false, .bool t540, .bool t541, .bool t542]) ?_ 3 _ rfl; (with_reducible repeat (first | refine blk_drewN ?_ _ | refine blk_drew ?_ | refine blk_alloc ?_ _)); refine blk_put (cs := #[.bool t539, .bool t540, .bool t541, .bool t542]) ?_ 0 _ rfl; (with_reducible repeat (first | refine blk_drewN ?_ _ | refine blk_drew ?_ | refine blk_alloc ?_ _)); refine blk_put (cs := #[.bool t539, .bool t540, .bool t541, .bool false]) ?_ 3 _ rfl; (with_reducible repeat (first | refine blk_drewN ?_ _ | refine blk_drew ?_ | refine blk_alloc ?_ _)); refine blk_put (cs := #[.bool t539, .bool t540, .bool false, .bool false]) ?_ 2 _ rfl; (with_reducible repeat (first | refine blk_drewN ?_ _ | refine blk_drew ?_ | refine blk_alloc ?_ _)); refine blk_put (cs := #[.bool t539, .bool false, .bool false, .bool false]) ?_ 1 _ rfl; (with_reducible repeat (first | refine blk_drewN ?_ _ | refine blk_drew ?_ | refine blk_alloc ?_ _)); refine blk_put (cs := #[.bool false, .bool false, .bool false, .bool false]) ?_ 0 _ rfl; (with_reducible repeat (first | refine blk_drewN ?_ _ | refine blk_drew ?_ | refine blk_alloc ?_ _)); exact BK543.out⟩
        have n2_ : Aside0 (Below w.heap.size w ((((((w26.setCell ⟨gb543, 0, none⟩ (.bool t539)).setCell ⟨gb543, 1, none⟩ (.bool t540)).setCell ⟨gb543, 2, none⟩ (.bool t541)).setCell ⟨gb543, 3, none⟩ (.bool t542)).setCell ⟨gb543, 0, none⟩ (.bool false)).setCell ⟨gb543, 3, none⟩ (.bool a4))) := ⟨by repeat (first | (with_reducible first | exact HB.out | apply below_alloc | apply pw_below_drewN | apply below_drew1 | refine below_set ?_ GE535.out | refine below_set ?_ GE543.out) | exact HB.out)⟩
        (try clear BK535)
        (try clear BK543)
        (try clear HB)
        (repeat rw [own_setCell_drewN]); (repeat rw [World.drewN_drewN])
        generalize ((((((w26.setCell ⟨gb543, 0, none⟩ (.bool t539)).setCell ⟨gb543, 1, none⟩ (.bool t540)).setCell ⟨gb543, 2, none⟩ (.bool t541)).setCell ⟨gb543, 3, none⟩ (.bool t542)).setCell ⟨gb543, 0, none⟩ (.bool false)).setCell ⟨gb543, 3, none⟩ (.bool a4)) = w29 at n0_ n1_ n2_ ⊢
        have BK535 := n0_
        have BK543 := n1_
        have HB := n2_
        clear n0_ n1_ n2_
        have n0_ := Aside0.mk (blk_drew BK535.out)
        have n1_ := Aside0.mk (blk_drew BK543.out)
        have n2_ := Aside0.mk (below_drew1 HB.out)
        clear BK535
        clear BK543
        clear HB
        have BK535 := n0_
        have BK543 := n1_
        have HB := n2_
        clear n0_ n1_ n2_
        refine start_ (n := 4) (S := fun w' => w'.cell? ⟨gb543, 0, none⟩ = some (.bool false) ∧ w'.cell? ⟨gb543, 1, none⟩ = some (.bool t540) ∧ w'.cell? ⟨gb543, 2, none⟩ = some (.bool t541) ∧ w'.cell? ⟨gb543, 3, none⟩ = some (.bool a4)) (ds := []) #[false, false, false, false] (by kernel_rfl) rfl rfl ⟨(blk_cell BK543.out 0).trans rfl, (blk_cell BK543.out 1).trans rfl, (blk_cell BK543.out 2).trans rfl, (blk_cell BK543.out 3).trans rfl⟩ (fun hHeld => ?_)
        generalize w29.drew = w30 at BK535 BK543 HB hHeld ⊢
        refine pure_ (i := 0) (N := some 33) (v := ?_) (a' := ?_) #[true, false, false, false] rfl rfl (by kernel_rfl) (fun _ _ _ h => h) (Or.inl ⟨by rfl, ?_⟩) ?_ ?_
        rotate_left
        · intro w'
          go_simp
          with_reducible rfl
        rotate_left
        · simp only [Act.put, List.setIfInBounds_toArray, List.set_cons_zero, List.set_cons_succ, i64_w, i32_w]
          rfl
        refine pure_ (i := 2) (N := some 10) (v := ?_) (a' := ?_) #[true, false, true, false] rfl rfl (by kernel_rfl) (fun _ _ _ h => h) (Or.inl ⟨by rfl, ?_⟩) ?_ ?_
        rotate_left
        · intro w'
          go_simp
          with_reducible rfl
        rotate_left
        · simp only [Act.put, List.setIfInBounds_toArray, List.set_cons_zero, List.set_cons_succ, i64_w, i32_w]
          rfl
        refine take_ (i := 1) (N := some 34) (v := ?_) (a' := ?_) #[true, true, true, false] rfl rfl (by kernel_rfl) (fun _ _ _ h => h) (Or.inl ⟨by rfl, ?_⟩) hHeld ?_ ?_
        rotate_left
        · rintro w' ⟨s0, s1, s2, s3⟩
          go_simp
          with_reducible rfl
        rotate_left
        · simp only [Act.put, List.setIfInBounds_toArray, List.set_cons_zero, List.set_cons_succ, i64_w, i32_w]
          rfl
        refine one_ (i := 3) (N := none) #[true, true, true, true] rfl rfl (by kernel_rfl) (by decide) (fun K hK => ?_)
        have hs31 : w30.cell? ⟨gb535, 0, none⟩ = some (.bool false) := (blk_cell BK535.out 0).trans rfl
        have hfs31 := blk_frozen BK535.out 0
        have hns31_1 := NB543_535.out
        have hms31_1 := NB535_543.out
        have hs32 : w30.cell? ⟨gb535, 1, none⟩ = some (.bool false) := (blk_cell BK535.out 1).trans rfl
        have hfs32 := blk_frozen BK535.out 1
        have hns32_1 := NB543_535.out
        have hms32_1 := NB535_543.out
        have hs33 : w30.cell? ⟨gb535, 2, none⟩ = some (.bool false) := (blk_cell BK535.out 2).trans rfl
        have hfs33 := blk_frozen BK535.out 2
        have hns33_1 := NB543_535.out
        have hms33_1 := NB535_543.out
        have hs34 : w30.cell? ⟨gb535, 3, none⟩ = some (.bool false) := (blk_cell BK535.out 3).trans rfl
        have hfs34 := blk_frozen BK535.out 3
        have hns34_1 := NB543_535.out
        have hms34_1 := NB535_543.out
        refine skip_ (w1 := ?_) (by rfl) rfl ?_ ?_
        rotate_left
        · go_simp
          rfl
        refine hK.out _ _ ⟨((cell_far (p := ⟨gb535, _, none⟩) NB543_535.out _).trans (((cell_far (p := ⟨gb535, _, none⟩) NB543_535.out _).trans (((cell_far (p := ⟨gb535, _, none⟩) NB543_535.out _).trans (((cell_far (p := ⟨gb535, _, none⟩) NB543_535.out _).trans (hHeld.1)))))))), ((cell_far (p := ⟨gb535, _, none⟩) NB543_535.out _).trans (((cell_far (p := ⟨gb535, _, none⟩) NB543_535.out _).trans (((cell_far (p := ⟨gb535, _, none⟩) NB543_535.out _).trans (((cell_far (p := ⟨gb535, _, none⟩) NB543_535.out _).trans (hHeld.2.1)))))))), ((cell_far (p := ⟨gb535, _, none⟩) NB543_535.out _).trans (((cell_far (p := ⟨gb535, _, none⟩) NB543_535.out _).trans (((cell_far (p := ⟨gb535, _, none⟩) NB543_535.out _).trans (((cell_far (p := ⟨gb535, _, none⟩) NB543_535.out _).trans (hHeld.2.2.1)))))))), ((cell_far (p := ⟨gb535, _, none⟩) NB543_535.out _).trans (((cell_far (p := ⟨gb535, _, none⟩) NB543_535.out _).trans (((cell_far (p := ⟨gb535, _, none⟩) NB543_535.out _).trans (((cell_far (p := ⟨gb535, _, none⟩) NB543_535.out _).trans (hHeld.2.2.2))))))))⟩ (fun hHeld => ?_)
        clear hK K
        refine done_ (by kernel_rfl) ?_
        try go_wp2
        refine bodyPost_ret (results_tc rfl _ _ gb535 29 #[.bool false, .bool t540, .bool t541, .bool a4] (0, 0) _ rfl (by (with_reducible repeat (first | refine blk_drewN ?_ _ | refine blk_drew ?_ | refine blk_alloc ?_ _)); refine blk_put (cs := #[.bool false, .bool t540, .bool t541, .bool false]) ?_ 3 _ rfl; (with_reducible repeat (first | refine blk_drewN ?_ _ | refine blk_drew ?_ | refine blk_alloc ?_ _)); refine blk_put (cs := #[.bool false, .bool t540, .bool false, .bool false]) ?_ 2 _ rfl; (with_reducible repeat (first | refine blk_drewN ?_ _ | refine blk_drew ?_ | refine blk_alloc ?_ _)); refine blk_put (cs := #[.bool false, .bool false, .bool false, .bool false]) ?_ 1 _ rfl; (with_reducible repeat (first | refine blk_drewN ?_ _ | refine blk_drew ?_ | refine blk_alloc ?_ _)); refine blk_put (cs := #[.bool false, .bool false, .bool false, .bool false]) ?_ 0 _ rfl; (with_reducible repeat (first | refine blk_drewN ?_ _ | refine blk_drew ?_ | refine blk_alloc ?_ _)); exact BK535.out) Try.underlying29 rfl (by kernel_rfl)) rfl ?_
        exact ⟨by first | rfl | (simp [errW_none, errW_some] <;> rfl) | (simp [*, errW_none, errW_some] <;> rfl), by repeat (first | (with_reducible first | exact HB.out | apply below_alloc | apply pw_below_drewN | apply below_drew1 | refine below_set ?_ GE535.out | refine below_set ?_ GE543.out) | exact HB.out)⟩

end Go.Proofs.Ytmmmifgddkfehaa.PAlu
