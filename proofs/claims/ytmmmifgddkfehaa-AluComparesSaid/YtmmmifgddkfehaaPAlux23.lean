-- Written by wip/oprint.py, a program of this session's repo, out of the translation. Not trusted: Lean checks it.
import Derived.Test.YtmmmifgddkfehaaPAlux0
import Derived.Test.YtmmmifgddkfehaaPAlux1
import Derived.Test.YtmmmifgddkfehaaPAlux2
import Derived.Test.YtmmmifgddkfehaaPAlux8
import Derived.Test.YtmmmifgddkfehaaPAlux10
import Derived.Test.YtmmmifgddkfehaaPAlux11
import Derived.Test.YtmmmifgddkfehaaPAlux19
import Derived.Test.YtmmmifgddkfehaaPAlux22
namespace Go.Proofs.Ytmmmifgddkfehaa.PAlu
open Go.RowKit Go.Proofs.YtmmmifgddkfehaaW.PrintWords Go.Proofs.YtmmmifgddkfehaaW.PrintLast
set_option linter.unusedVariables false
set_option linter.unusedSimpArgs false

attribute [local go_sem high] eqA29
/-! ### camshaftlaw08_AluDoes: function 10 -/
def camshaftlaw08_AluDoes.f (k : Nat) (a0 : Int) (a1 : Int) (a2 : Int) (a3 : Bool) (a4 : Int) : Option (Bool) := (camshaftlaw08_alive.f).bind fun t375 => (if t375 = true then ((camshaftref01_Size.f a4).bind fun t376 => (if t376 = true then ((alu_Do.f a0 a1 a2 a3 a4).bind fun bt377 => ((camshaftref08_Do.f k a0 a1 a2 a3 a4).bind fun bt384 => (if bt377.1 = bt384.1 then (if (bt377.2.1 == bt384.2.1 && (bt377.2.2.1 == bt384.2.2.1 && (bt377.2.2.2.1 == bt384.2.2.2.1 && (bt377.2.2.2.2.1 == bt384.2.2.2.2.1)))) = true then (if (bt377.2.2.2.2.2 == bt384.2.2.2.2.2) = true then ((alu_Logic.f a0).bind fun t391 => ((camshaftref08_Logic.f a0).bind fun t392 => (some (t391 == t392)))) else (none)) else (none)) else (none)))) else (some true))) else (none))
theorem camshaftlaw08_AluDoes.mono : ∀ a0 a1 a2 a3 a4 k, LeO (camshaftlaw08_AluDoes.f k a0 a1 a2 a3 a4) (camshaftlaw08_AluDoes.f (k + 1) a0 a1 a2 a3 a4) := by
  intro a0 a1 a2 a3 a4 k
  unfold camshaftlaw08_AluDoes.f
  repeat' first
      | (with_reducible exact camshaftref08_Do.mono _ _ _ _ _ _)
      | (with_reducible exact LeO.refl _)
      | (with_reducible exact LeO.none _)
      | (with_reducible refine LeO.ite ?_ ?_)
      | (with_reducible refine LeO.bind ?_ (fun _ => ?_))
      | exact camshaftref08_Do.mono _ _ _ _ _ _
      | exact LeO.none _
      | refine LeO.ite ?_ ?_
      | refine LeO.bind ?_ (fun _ => ?_)
set_option maxHeartbeats 8000000 in
set_option maxRecDepth 100000 in
theorem camshaftlaw08_AluDoes.calls (k : Nat) (a0 : Int) (a1 : Int) (a2 : Int) (a3 : Bool) (a4 : Int) (r : Bool) (w : World) (h : camshaftlaw08_AluDoes.f k a0 a1 a2 a3 a4 = some r) :
    Calls Try.prog 10 #[.int .i64 a0, .int .u32 a1, .int .u32 a2, .bool a3, .int .i64 a4] w fun e w' => e = .returned (.bool r) ∧ Below w.heap.size w w' := by
  have hu29 := Try.underlying29
  have HB := Aside0.mk (Below.refl w.heap.size w)
  have H : ((camshaftlaw08_alive.f).bind fun t375 => (if t375 = true then ((camshaftref01_Size.f a4).bind fun t376 => (if t376 = true then ((alu_Do.f a0 a1 a2 a3 a4).bind fun bt377 => ((camshaftref08_Do.f k a0 a1 a2 a3 a4).bind fun bt384 => (if bt377.1 = bt384.1 then (if (bt377.2.1 == bt384.2.1 && (bt377.2.2.1 == bt384.2.2.1 && (bt377.2.2.2.1 == bt384.2.2.2.1 && (bt377.2.2.2.2.1 == bt384.2.2.2.2.1)))) = true then (if (bt377.2.2.2.2.2 == bt384.2.2.2.2.2) = true then ((alu_Logic.f a0).bind fun t391 => ((camshaftref08_Logic.f a0).bind fun t392 => (some (t391 == t392)))) else (none)) else (none)) else (none)))) else (some true))) else (none))) = some r := h
  clear h
  replace H := Option.bind_eq_some_iff.mp H
  obtain ⟨t375, A60, H⟩ := H
  replace H : (if t375 = true then ((camshaftref01_Size.f a4).bind fun t376 => (if t376 = true then ((alu_Do.f a0 a1 a2 a3 a4).bind fun bt377 => ((camshaftref08_Do.f k a0 a1 a2 a3 a4).bind fun bt384 => (if bt377.1 = bt384.1 then (if (bt377.2.1 == bt384.2.1 && (bt377.2.2.1 == bt384.2.2.1 && (bt377.2.2.2.1 == bt384.2.2.2.1 && (bt377.2.2.2.2.1 == bt384.2.2.2.2.1)))) = true then (if (bt377.2.2.2.2.2 == bt384.2.2.2.2.2) = true then ((alu_Logic.f a0).bind fun t391 => ((camshaftref08_Logic.f a0).bind fun t392 => (some (t391 == t392)))) else (none)) else (none)) else (none)))) else (some true))) else (none)) = some r := H
  have A6 := Aside0.mk A60
  clear A60
  by_cases c7 : t375 = true
  · subst c7
    have H1 : ((camshaftref01_Size.f a4).bind fun t376 => (if t376 = true then ((alu_Do.f a0 a1 a2 a3 a4).bind fun bt377 => ((camshaftref08_Do.f k a0 a1 a2 a3 a4).bind fun bt384 => (if bt377.1 = bt384.1 then (if (bt377.2.1 == bt384.2.1 && (bt377.2.2.1 == bt384.2.2.1 && (bt377.2.2.2.1 == bt384.2.2.2.1 && (bt377.2.2.2.2.1 == bt384.2.2.2.2.1)))) = true then (if (bt377.2.2.2.2.2 == bt384.2.2.2.2.2) = true then ((alu_Logic.f a0).bind fun t391 => ((camshaftref08_Logic.f a0).bind fun t392 => (some (t391 == t392)))) else (none)) else (none)) else (none)))) else (some true))) = some r := by rw [if_pos rfl] at H; exact H
    clear H
    have H := H1
    clear H1
    replace H := Option.bind_eq_some_iff.mp H
    obtain ⟨t376, A80, H⟩ := H
    replace H : (if t376 = true then ((alu_Do.f a0 a1 a2 a3 a4).bind fun bt377 => ((camshaftref08_Do.f k a0 a1 a2 a3 a4).bind fun bt384 => (if bt377.1 = bt384.1 then (if (bt377.2.1 == bt384.2.1 && (bt377.2.2.1 == bt384.2.2.1 && (bt377.2.2.2.1 == bt384.2.2.2.1 && (bt377.2.2.2.2.1 == bt384.2.2.2.2.1)))) = true then (if (bt377.2.2.2.2.2 == bt384.2.2.2.2.2) = true then ((alu_Logic.f a0).bind fun t391 => ((camshaftref08_Logic.f a0).bind fun t392 => (some (t391 == t392)))) else (none)) else (none)) else (none)))) else (some true)) = some r := H
    have A8 := Aside0.mk A80
    clear A80
    by_cases c9 : t376 = true
    · subst c9
      have H1 : ((alu_Do.f a0 a1 a2 a3 a4).bind fun bt377 => ((camshaftref08_Do.f k a0 a1 a2 a3 a4).bind fun bt384 => (if bt377.1 = bt384.1 then (if (bt377.2.1 == bt384.2.1 && (bt377.2.2.1 == bt384.2.2.1 && (bt377.2.2.2.1 == bt384.2.2.2.1 && (bt377.2.2.2.2.1 == bt384.2.2.2.2.1)))) = true then (if (bt377.2.2.2.2.2 == bt384.2.2.2.2.2) = true then ((alu_Logic.f a0).bind fun t391 => ((camshaftref08_Logic.f a0).bind fun t392 => (some (t391 == t392)))) else (none)) else (none)) else (none)))) = some r := by rw [if_pos rfl] at H; exact H
      clear H
      have H := H1
      clear H1
      replace H := Option.bind_eq_some_iff.mp H
      obtain ⟨⟨t377, t378, t379, t380, t381, t382⟩, A100, H⟩ := H
      replace H : ((camshaftref08_Do.f k a0 a1 a2 a3 a4).bind fun bt384 => (if t377 = bt384.1 then (if (t378 == bt384.2.1 && (t379 == bt384.2.2.1 && (t380 == bt384.2.2.2.1 && (t381 == bt384.2.2.2.2.1)))) = true then (if (t382 == bt384.2.2.2.2.2) = true then ((alu_Logic.f a0).bind fun t391 => ((camshaftref08_Logic.f a0).bind fun t392 => (some (t391 == t392)))) else (none)) else (none)) else (none))) = some r := H
      have A10 := Aside0.mk A100
      clear A100
      replace H := Option.bind_eq_some_iff.mp H
      obtain ⟨⟨t384, t385, t386, t387, t388, t389⟩, A110, H⟩ := H
      replace H : (if t377 = t384 then (if (t378 == t385 && (t379 == t386 && (t380 == t387 && (t381 == t388)))) = true then (if (t382 == t389) = true then ((alu_Logic.f a0).bind fun t391 => ((camshaftref08_Logic.f a0).bind fun t392 => (some (t391 == t392)))) else (none)) else (none)) else (none)) = some r := H
      have A11 := Aside0.mk A110
      clear A110
      by_cases c12 : t377 = t384
      · rw [if_pos c12] at H
        have c12b0 : (t377 == t384) = true := beq_iff_eq.mpr c12
        have c12b1 : (t377 != t384) = false := bne_eq_false_iff_eq.mpr c12
        clear c12
        by_cases c13 : (t378 == t385 && (t379 == t386 && (t380 == t387 && (t381 == t388)))) = true
        · rw [if_pos c13] at H
          have c13b0 : (t378 == t385 && (t379 == t386 && (t380 == t387 && (t381 == t388)))) = true := c13
          (try (have c13b1 : decide (t378 = t385 && (t379 == t386 && (t380 == t387 && (t381 == t388)))) = true := by simpa using c13))
          (try (have c13b2 : (t378 == t385 && (t379 == t386 && (t380 == t387 && (t381 == t388)))) = true := by simpa using c13))
          clear c13
          by_cases c14 : (t382 == t389) = true
          · rw [if_pos c14] at H
            have c14b0 : (t382 == t389) = true := c14
            (try (have c14b1 : decide (t382 = t389) = true := by simpa using c14))
            (try (have c14b2 : (t382 == t389) = true := by simpa using c14))
            clear c14
            replace H := Option.bind_eq_some_iff.mp H
            obtain ⟨t391, A150, H⟩ := H
            replace H : ((camshaftref08_Logic.f a0).bind fun t392 => (some (t391 == t392))) = some r := H
            have A15 := Aside0.mk A150
            clear A150
            replace H := Option.bind_eq_some_iff.mp H
            obtain ⟨t392, A160, H⟩ := H
            replace H : (some (t391 == t392)) = some r := H
            have A16 := Aside0.mk A160
            clear A160
            obtain rfl := Option.some.inj H
            go_enter Try.func10, Try.ntmps10
            go_wp2_with (first | ((with_reducible refine gate_callee (f := 40) rfl ?_); refine goesL_ (some 17) rfl rfl Try.func40 (by kernel_rfl) rfl #[] rfl (by (try simp only [List.map_toArray, List.map_cons, List.map_nil]); first | done | rfl | (simp only [List.length_drop, List.length_take]; rfl)) ?_; (with_reducible refine (camshaftlaw08_alive.calls  true _ A6.out).mono ?_); rintro e w17 ⟨rfl, hb⟩; refine ⟨_, rfl, ?_⟩; have n0_ := Aside0.mk (below_step (by repeat (first | (with_reducible first | exact HB.out | apply below_alloc | apply pw_below_drewN | apply below_drew1) | exact HB.out)) hb); clear HB; have HB := n0_; clear n0_; (try clear hb); (try clear hb2); (try clear hk); (try clear hi)) | ((with_reducible refine gate_callee (f := 17) rfl ?_); refine goesL_ (some 20) rfl rfl Try.func17 (by kernel_rfl) rfl #[.int .i64 a4] rfl (by (try simp only [List.map_toArray, List.map_cons, List.map_nil]); first | done | rfl | (simp only [List.length_drop, List.length_take]; rfl)) ?_; (with_reducible refine (camshaftref01_Size.calls a4 true _ A8.out).mono ?_); rintro e w' ⟨rfl, ⟨nd, rfl⟩⟩; refine ⟨_, rfl, ?_⟩; (try (rw [drewN_self w17]; generalize hq_ : World.drewN w17 _ = w17; have n0_ : Aside0 (Below w.heap.size w w17) := ⟨by rw [← hq_]; exact (by repeat (first | (with_reducible first | exact HB.out | apply below_alloc | apply pw_below_drewN | apply below_drew1) | exact HB.out))⟩; clear HB hq_; have HB := n0_; clear n0_))) | ((with_reducible refine gate_callee (f := 41) rfl ?_); refine goesL_ (some 28) rfl rfl Try.func41 (by kernel_rfl) rfl #[.int .i64 a0, .int .u32 a1, .int .u32 a2, .bool a3, .int .i64 a4] rfl (by (try simp only [List.map_toArray, List.map_cons, List.map_nil]); first | done | rfl | (simp only [List.length_drop, List.length_take]; rfl)) ?_; (with_reducible refine (alu_Do.calls a0 a1 a2 a3 a4 t377 t378 t379 t380 t381 t382 _ A10.out).mono ?_); rintro e w18 ⟨rfl, hb⟩; refine ⟨_, rfl, ?_⟩; have n0_ := Aside0.mk (below_step (by repeat (first | (with_reducible first | exact HB.out | apply below_alloc | apply pw_below_drewN | apply below_drew1) | exact HB.out)) hb); clear HB; have HB := n0_; clear n0_; (try clear hb); (try clear hb2); (try clear hk); (try clear hi)) | ((with_reducible refine gate_dst (N := 12) rfl ?_); refine box_event ?hg (N := 12) ?hd (cs := #[.bool false, .bool false, .bool false, .bool false]) (t := 29) ?hr ?_; (case hd => rfl); (case hg => rfl); (case hr => first | (go_simp; done) | (go_simp; rfl)); intro gb383 hg w19 hbox hb; have n0_ := Aside0.mk (below_step (by repeat (first | (with_reducible first | exact HB.out | apply below_alloc | apply pw_below_drewN | apply below_drew1) | exact HB.out)) hb); have n1_ := Aside0.mk (hbox); have n2_ := Aside0.mk ((by rw [hg]; exact (below_size (by repeat (first | (with_reducible first | exact HB.out | apply below_alloc | apply pw_below_drewN | apply below_drew1) | exact HB.out))) : w.heap.size ≤ gb383)); have n3_ := Aside0.mk ((by rw [hg]; exact (below_size (by repeat (first | (with_reducible first | exact HB.out | apply below_alloc | apply pw_below_drewN | apply below_drew1) | exact HB.out))) : w.heap.size ≤ gb383)); clear HB; have HB := n0_; have BK383 := n1_; have GW383 := n2_; have GE383 := n3_; clear n0_ n1_ n2_ n3_; clear hb hbox hg; have hcz20_0 : w19.cell? ⟨gb383, 0, none⟩ = some (.bool false) := (blk_cell BK383.out 0).trans rfl; have hcz20_1 : w19.cell? ⟨gb383, 1, none⟩ = some (.bool false) := (blk_cell BK383.out 1).trans rfl; have hcz20_2 : w19.cell? ⟨gb383, 2, none⟩ = some (.bool false) := (blk_cell BK383.out 2).trans rfl; have hcz20_3 : w19.cell? ⟨gb383, 3, none⟩ = some (.bool false) := (blk_cell BK383.out 3).trans rfl; have hfz20_0 := blk_frozen BK383.out 0; have hfz20_1 := blk_frozen BK383.out 1; have hfz20_2 := blk_frozen BK383.out 2; have hfz20_3 := blk_frozen BK383.out 3) | ((with_reducible refine gate_callee (f := 42) rfl ?_); refine goesL_ (some 38) rfl rfl Try.func42 (by kernel_rfl) rfl #[.int .i64 a0, .int .u32 a1, .int .u32 a2, .bool a3, .int .i64 a4] rfl (by (try simp only [List.map_toArray, List.map_cons, List.map_nil]); first | done | rfl | (simp only [List.length_drop, List.length_take]; rfl)) ?_; (with_reducible refine (camshaftref08_Do.calls k a0 a1 a2 a3 a4 t384 t385 t386 t387 t388 t389 _ A11.out).mono ?_); rintro e w21 ⟨rfl, hb⟩; refine ⟨_, rfl, ?_⟩; have n0_ := Aside0.mk (blk_below (g := gb383) (o := .cells #[.bool t378, .bool t379, .bool t380, .bool t381] 29 (0, 0)) (by (with_reducible repeat (first | refine blk_drewN ?_ _ | refine blk_drew ?_ | refine blk_alloc ?_ _)); refine blk_put (cs := #[.bool t378, .bool t379, .bool t380, .bool false]) ?_ 3 _ rfl; (with_reducible repeat (first | refine blk_drewN ?_ _ | refine blk_drew ?_ | refine blk_alloc ?_ _)); refine blk_put (cs := #[.bool t378, .bool t379, .bool false, .bool false]) ?_ 2 _ rfl; (with_reducible repeat (first | refine blk_drewN ?_ _ | refine blk_drew ?_ | refine blk_alloc ?_ _)); refine blk_put (cs := #[.bool t378, .bool false, .bool false, .bool false]) ?_ 1 _ rfl; (with_reducible repeat (first | refine blk_drewN ?_ _ | refine blk_drew ?_ | refine blk_alloc ?_ _)); refine blk_put (cs := #[.bool false, .bool false, .bool false, .bool false]) ?_ 0 _ rfl; (with_reducible repeat (first | refine blk_drewN ?_ _ | refine blk_drew ?_ | refine blk_alloc ?_ _)); exact BK383.out) hb); have n1_ := Aside0.mk (below_step (by repeat (first | (with_reducible first | exact HB.out | apply below_alloc | apply pw_below_drewN | apply below_drew1 | refine below_set ?_ GE383.out) | exact HB.out)) hb); clear BK383; clear HB; have BK383 := n0_; have HB := n1_; clear n0_ n1_; (try clear hb); (try clear hb2); (try clear hk); (try clear hi)) | ((with_reducible refine gate_dst (N := 15) rfl ?_); refine box_event ?hg (N := 15) ?hd (cs := #[.bool false, .bool false, .bool false, .bool false]) (t := 29) ?hr ?_; (case hd => rfl); (case hg => rfl); (case hr => first | (go_simp; done) | (go_simp; rfl)); intro gb390 hg w22 hbox hb; have n0_ := Aside0.mk (blk_below (g := gb383) (o := .cells #[.bool t378, .bool t379, .bool t380, .bool t381] 29 (0, 0)) (by (with_reducible repeat (first | refine blk_drewN ?_ _ | refine blk_drew ?_ | refine blk_alloc ?_ _)); exact BK383.out) hb); have n1_ := Aside0.mk (below_step (by repeat (first | (with_reducible first | exact HB.out | apply below_alloc | apply pw_below_drewN | apply below_drew1 | refine below_set ?_ GE383.out) | exact HB.out)) hb); have n2_ := Aside0.mk (hbox); have n3_ := Aside0.mk ((by rw [hg]; exact (below_size (by repeat (first | (with_reducible first | exact HB.out | apply below_alloc | apply pw_below_drewN | apply below_drew1 | refine below_set ?_ GE383.out) | exact HB.out))) : w.heap.size ≤ gb390)); have n4_ := Aside0.mk ((by rw [hg]; exact (below_size (by repeat (first | (with_reducible first | exact HB.out | apply below_alloc | apply pw_below_drewN | apply below_drew1 | refine below_set ?_ GE383.out) | exact HB.out))) : w.heap.size ≤ gb390)); have n5_ := Aside0.mk ((by rw [hg]; exact Nat.ne_of_lt (blk_lt (g := gb383) (o := .cells #[.bool t378, .bool t379, .bool t380, .bool t381] 29 (0, 0)) (by (with_reducible repeat (first | refine blk_drewN ?_ _ | refine blk_drew ?_ | refine blk_alloc ?_ _)); exact BK383.out)) : gb383 ≠ gb390)); have n6_ := Aside0.mk ((by rw [hg]; exact Nat.ne_of_gt (blk_lt (g := gb383) (o := .cells #[.bool t378, .bool t379, .bool t380, .bool t381] 29 (0, 0)) (by (with_reducible repeat (first | refine blk_drewN ?_ _ | refine blk_drew ?_ | refine blk_alloc ?_ _)); exact BK383.out)) : gb390 ≠ gb383)); clear BK383; clear HB; have BK383 := n0_; have HB := n1_; have BK390 := n2_; have GW390 := n3_; have GE390 := n4_; have NB383_390 := n5_; have NB390_383 := n6_; clear n0_ n1_ n2_ n3_ n4_ n5_ n6_; clear hb hbox hg; have hnb23 := NB390_383.out; have hnc23 := NB383_390.out; have hcz24_0 : w22.cell? ⟨gb390, 0, none⟩ = some (.bool false) := (blk_cell BK390.out 0).trans rfl; have hcz24_1 : w22.cell? ⟨gb390, 1, none⟩ = some (.bool false) := (blk_cell BK390.out 1).trans rfl; have hcz24_2 : w22.cell? ⟨gb390, 2, none⟩ = some (.bool false) := (blk_cell BK390.out 2).trans rfl; have hcz24_3 : w22.cell? ⟨gb390, 3, none⟩ = some (.bool false) := (blk_cell BK390.out 3).trans rfl; have hfz24_0 := blk_frozen BK390.out 0; have hfz24_1 := blk_frozen BK390.out 1; have hfz24_2 := blk_frozen BK390.out 2; have hfz24_3 := blk_frozen BK390.out 3; have hcz25_0 : w22.cell? ⟨gb383, 0, none⟩ = some (.bool t378) := (blk_cell BK383.out 0).trans rfl; have hcz25_1 : w22.cell? ⟨gb383, 1, none⟩ = some (.bool t379) := (blk_cell BK383.out 1).trans rfl; have hcz25_2 : w22.cell? ⟨gb383, 2, none⟩ = some (.bool t380) := (blk_cell BK383.out 2).trans rfl; have hcz25_3 : w22.cell? ⟨gb383, 3, none⟩ = some (.bool t381) := (blk_cell BK383.out 3).trans rfl; have hfz25_0 := blk_frozen BK383.out 0; have hfz25_1 := blk_frozen BK383.out 1; have hfz25_2 := blk_frozen BK383.out 2; have hfz25_3 := blk_frozen BK383.out 3) | (go_at_call 43; (with_reducible refine (alu_Logic.calls a0 t391 _ A15.out).mono ?_); rintro e w' ⟨rfl, ⟨nd, rfl⟩⟩) | (go_at_call 44; (with_reducible refine (camshaftref08_Logic.calls a0 t392 _ A16.out).mono ?_); rintro e w' ⟨rfl, ⟨nd, rfl⟩⟩))
            go_ret
            exact ⟨by first | rfl | (simp [errW_none, errW_some] <;> rfl) | (simp [*, errW_none, errW_some] <;> rfl), by repeat (first | (with_reducible first | exact HB.out | apply below_alloc | apply pw_below_drewN | apply below_drew1 | refine below_set ?_ GE383.out | refine below_set ?_ GE390.out) | exact HB.out)⟩
          · rw [if_neg c14] at H
            exact absurd H (by simp)
        · rw [if_neg c13] at H
          exact absurd H (by simp)
      · rw [if_neg c12] at H
        exact absurd H (by simp)
    · replace c9 := Bool.eq_false_iff.mpr c9
      subst c9
      have H1 : (some true) = some r := by rw [if_neg (show ¬ (false = true) by decide)] at H; exact H
      clear H
      have H := H1
      clear H1
      obtain rfl := Option.some.inj H
      go_enter Try.func10, Try.ntmps10
      go_wp2_with (first | ((with_reducible refine gate_callee (f := 40) rfl ?_); refine goesL_ (some 17) rfl rfl Try.func40 (by kernel_rfl) rfl #[] rfl (by (try simp only [List.map_toArray, List.map_cons, List.map_nil]); first | done | rfl | (simp only [List.length_drop, List.length_take]; rfl)) ?_; (with_reducible refine (camshaftlaw08_alive.calls  true _ A6.out).mono ?_); rintro e w26 ⟨rfl, hb⟩; refine ⟨_, rfl, ?_⟩; have n0_ := Aside0.mk (below_step (by repeat (first | (with_reducible first | exact HB.out | apply below_alloc | apply pw_below_drewN | apply below_drew1) | exact HB.out)) hb); clear HB; have HB := n0_; clear n0_; (try clear hb); (try clear hb2); (try clear hk); (try clear hi)) | ((with_reducible refine gate_callee (f := 17) rfl ?_); refine goesL_ (some 20) rfl rfl Try.func17 (by kernel_rfl) rfl #[.int .i64 a4] rfl (by (try simp only [List.map_toArray, List.map_cons, List.map_nil]); first | done | rfl | (simp only [List.length_drop, List.length_take]; rfl)) ?_; (with_reducible refine (camshaftref01_Size.calls a4 false _ A8.out).mono ?_); rintro e w' ⟨rfl, ⟨nd, rfl⟩⟩; refine ⟨_, rfl, ?_⟩))
      go_ret
      exact ⟨by first | rfl | (simp [errW_none, errW_some] <;> rfl) | (simp [*, errW_none, errW_some] <;> rfl), by repeat (first | (with_reducible first | exact HB.out | apply below_alloc | apply pw_below_drewN | apply below_drew1) | exact HB.out)⟩
  · replace c7 := Bool.eq_false_iff.mpr c7
    subst c7
    have H1 : (none) = some r := by rw [if_neg (show ¬ (false = true) by decide)] at H; exact H
    clear H
    have H := H1
    clear H1
    exact absurd H (by simp)

/-- THE ONE PURE STATEMENT of camshaftlaw08_AluDoes: yours. -/
def camshaftlaw08_AluDoes.Pure : Prop := ∀ (a0 : Int) (a1 : Int) (a2 : Int) (a3 : Bool) (a4 : Int), (Lit.int .i64 a0).wf = true → (Lit.int .u32 a1).wf = true → (Lit.int .u32 a2).wf = true → (Lit.int .i64 a4).wf = true → ∃ k, camshaftlaw08_AluDoes.f k a0 a1 a2 a3 a4 = some true
theorem camshaftlaw08_AluDoes.walk (P : camshaftlaw08_AluDoes.Pure) (a0 : Int) (a1 : Int) (a2 : Int) (a3 : Bool) (a4 : Int) (w : World) (w0 : (Lit.int .i64 a0).wf = true) (w1 : (Lit.int .u32 a1).wf = true) (w2 : (Lit.int .u32 a2).wf = true) (w4 : (Lit.int .i64 a4).wf = true) :
    Calls Try.prog 10 #[.int .i64 a0, .int .u32 a1, .int .u32 a2, .bool a3, .int .i64 a4] w fun e w' => e = .returned (.bool true) ∧ Below w.heap.size w w' := by
  obtain ⟨k, h⟩ := P a0 a1 a2 a3 a4 w0 w1 w2 w4
  refine (camshaftlaw08_AluDoes.calls k a0 a1 a2 a3 a4 true w h).mono ?_
  rintro e w' ⟨rfl, hd⟩
  exact ⟨rfl, hd⟩

/-! ### camshaftref01_Put: function 32 -/
def camshaftref01_Put.f (a0 : Int) (a1 : Int) (a2 : Int) : Option (Int) := (camshaftref01_Rest.f a0 a2).bind fun t393 => ((camshaftref01_Rest.f a1 a2).bind fun t394 => (some ((wrap64 ((wrap64 ((wrap64 (a0)) - t393)) + t394)) % 4294967296)))
set_option maxHeartbeats 8000000 in
set_option maxRecDepth 100000 in
theorem camshaftref01_Put.calls (a0 : Int) (a1 : Int) (a2 : Int) (r : Int) (w : World) (h : camshaftref01_Put.f a0 a1 a2 = some r) :
    Calls Try.prog 32 #[.int .u32 a0, .int .u32 a1, .int .i64 a2] w fun e w' => e = .returned (.int .u32 r) ∧ Drawn0 w w' := by
  have H : ((camshaftref01_Rest.f a0 a2).bind fun t393 => ((camshaftref01_Rest.f a1 a2).bind fun t394 => (some ((wrap64 ((wrap64 ((wrap64 (a0)) - t393)) + t394)) % 4294967296)))) = some r := h
  clear h
  replace H := Option.bind_eq_some_iff.mp H
  obtain ⟨t393, A40, H⟩ := H
  replace H : ((camshaftref01_Rest.f a1 a2).bind fun t394 => (some ((wrap64 ((wrap64 ((wrap64 (a0)) - t393)) + t394)) % 4294967296))) = some r := H
  have A4 := Aside0.mk A40
  clear A40
  replace H := Option.bind_eq_some_iff.mp H
  obtain ⟨t394, A50, H⟩ := H
  replace H : (some ((wrap64 ((wrap64 ((wrap64 (a0)) - t393)) + t394)) % 4294967296)) = some r := H
  have A5 := Aside0.mk A50
  clear A50
  obtain rfl := Option.some.inj H
  go_enter Try.func32, Try.ntmps32
  go_wp2_with (first | ((with_reducible refine gate_callee (f := 45) rfl ?_); refine goesL_ (some 11) rfl rfl Try.func45 (by kernel_rfl) rfl #[.int .u32 a0, .int .i64 a2] rfl (by (try simp only [List.map_toArray, List.map_cons, List.map_nil]); first | done | rfl | (simp only [List.length_drop, List.length_take]; rfl)) ?_; (with_reducible refine (camshaftref01_Rest.calls a0 a2 t393 _ A4.out).mono ?_); rintro e w' ⟨rfl, ⟨nd, rfl⟩⟩; refine ⟨_, rfl, ?_⟩) | ((with_reducible refine gate_callee (f := 45) rfl ?_); refine goesL_ (some 15) rfl rfl Try.func45 (by kernel_rfl) rfl #[.int .u32 a1, .int .i64 a2] rfl (by (try simp only [List.map_toArray, List.map_cons, List.map_nil]); first | done | rfl | (simp only [List.length_drop, List.length_take]; rfl)) ?_; (with_reducible refine (camshaftref01_Rest.calls a1 a2 t394 _ A5.out).mono ?_); rintro e w' ⟨rfl, ⟨nd, rfl⟩⟩; refine ⟨_, rfl, ?_⟩))
  go_ret
  exact ⟨by first | rfl | (simp; done) | (simp [*]; done), by repeat (first | exact Drawn0.refl _ | apply Drawn0.step)⟩

end Go.Proofs.Ytmmmifgddkfehaa.PAlu
