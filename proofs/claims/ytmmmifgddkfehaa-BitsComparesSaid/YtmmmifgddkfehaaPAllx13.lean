-- Written by wip/oprint.py, a program of this session's repo, out of the translation. Not trusted: Lean checks it.
import Derived.Test.YtmmmifgddkfehaaPAllx0
import Derived.Test.YtmmmifgddkfehaaPAllx2
import Derived.Test.YtmmmifgddkfehaaPAllx8
namespace Go.Proofs.Ytmmmifgddkfehaa.PAll
open Go.RowKit Go.Proofs.YtmmmifgddkfehaaW.PrintWords Go.Proofs.YtmmmifgddkfehaaW.PrintLast Go.Proofs.YtmmmifgddkfehaaW.PrintMore
attribute [local go_sem] max2_int min2_int max_two min_two max_three min_three max_four min_four   -- for this text's walks alone
set_option linter.unusedVariables false
set_option linter.unusedSimpArgs false

/-! ### bits_Div: function 38 -/
def bits_Div.f (a0 : Int) (a1 : Int) (a2 : Int) : Option (Int × Bool × Bool × Bool × Bool × Bool) := (bits_Extend.f a0 a2).bind fun t298 => ((bits_Extend.f a1 a2).bind fun t299 => ((bits_Mask.f a2).bind fun t300 => (if (wrap64 (wrap32 (t299))) = 0 then ((bits_Signs.f (Go.bits .and .u32 a0 t300) a2).bind fun bt301 => (some (Go.bits .and .u32 a0 t300, bt301.1, bt301.2.1, true, bt301.2.2.2, ((wrap64 (wrap32 (t299))) != 0)))) else ((bits_Mask.f a2).bind fun t306 => ((bits_Extend.f (Go.bits .and .u32 ((wrap64 (Int.tdiv (wrap64 (wrap32 (t298))) (wrap64 (wrap32 (t299))))) % 4294967296) t306) a2).bind fun t307 => (if (wrap64 (wrap32 (t307))) = (wrap64 (Int.tdiv (wrap64 (wrap32 (t298))) (wrap64 (wrap32 (t299))))) then ((bits_Signs.f (Go.bits .and .u32 ((wrap64 (Int.tdiv (wrap64 (wrap32 (t298))) (wrap64 (wrap32 (t299))))) % 4294967296) t306) a2).bind fun bt308 => (some (Go.bits .and .u32 ((wrap64 (Int.tdiv (wrap64 (wrap32 (t298))) (wrap64 (wrap32 (t299))))) % 4294967296) t306, bt308.1, bt308.2.1, false, bt308.2.2.2, ((wrap64 (wrap32 (t299))) != 0)))) else ((bits_Signs.f (Go.bits .and .u32 a0 t300) a2).bind fun bt313 => (some (Go.bits .and .u32 a0 t300, bt313.1, bt313.2.1, true, bt313.2.2.2, ((wrap64 (wrap32 (t299))) != 0))))))))))
set_option maxHeartbeats 8000000 in
set_option maxRecDepth 100000 in
theorem bits_Div.calls (a0 : Int) (a1 : Int) (a2 : Int) (r1 : Int) (r2 : Bool) (r3 : Bool) (r4 : Bool) (r5 : Bool) (r6 : Bool) (w : World) (h : bits_Div.f a0 a1 a2 = some (r1, r2, r3, r4, r5, r6)) :
    Calls Try.prog 38 #[.int .u32 a0, .int .u32 a1, .int .i64 a2] w fun e w' => e = .returned (.tuple #[.int .u32 r1, .agg #[.bool r2, .bool r3, .bool r4, .bool r5], .bool r6]) ∧ Below w.heap.size w w' := by
  have hu29 := Try.underlying29
  have HB := Aside0.mk (Below.refl w.heap.size w)
  have H : ((bits_Extend.f a0 a2).bind fun t298 => ((bits_Extend.f a1 a2).bind fun t299 => ((bits_Mask.f a2).bind fun t300 => (if (wrap64 (wrap32 (t299))) = 0 then ((bits_Signs.f (Go.bits .and .u32 a0 t300) a2).bind fun bt301 => (some (Go.bits .and .u32 a0 t300, bt301.1, bt301.2.1, true, bt301.2.2.2, ((wrap64 (wrap32 (t299))) != 0)))) else ((bits_Mask.f a2).bind fun t306 => ((bits_Extend.f (Go.bits .and .u32 ((wrap64 (Int.tdiv (wrap64 (wrap32 (t298))) (wrap64 (wrap32 (t299))))) % 4294967296) t306) a2).bind fun t307 => (if (wrap64 (wrap32 (t307))) = (wrap64 (Int.tdiv (wrap64 (wrap32 (t298))) (wrap64 (wrap32 (t299))))) then ((bits_Signs.f (Go.bits .and .u32 ((wrap64 (Int.tdiv (wrap64 (wrap32 (t298))) (wrap64 (wrap32 (t299))))) % 4294967296) t306) a2).bind fun bt308 => (some (Go.bits .and .u32 ((wrap64 (Int.tdiv (wrap64 (wrap32 (t298))) (wrap64 (wrap32 (t299))))) % 4294967296) t306, bt308.1, bt308.2.1, false, bt308.2.2.2, ((wrap64 (wrap32 (t299))) != 0)))) else ((bits_Signs.f (Go.bits .and .u32 a0 t300) a2).bind fun bt313 => (some (Go.bits .and .u32 a0 t300, bt313.1, bt313.2.1, true, bt313.2.2.2, ((wrap64 (wrap32 (t299))) != 0))))))))))) = some (r1, r2, r3, r4, r5, r6) := h
  clear h
  replace H := Option.bind_eq_some_iff.mp H
  obtain ⟨t298, A40, H⟩ := H
  replace H : ((bits_Extend.f a1 a2).bind fun t299 => ((bits_Mask.f a2).bind fun t300 => (if (wrap64 (wrap32 (t299))) = 0 then ((bits_Signs.f (Go.bits .and .u32 a0 t300) a2).bind fun bt301 => (some (Go.bits .and .u32 a0 t300, bt301.1, bt301.2.1, true, bt301.2.2.2, ((wrap64 (wrap32 (t299))) != 0)))) else ((bits_Mask.f a2).bind fun t306 => ((bits_Extend.f (Go.bits .and .u32 ((wrap64 (Int.tdiv (wrap64 (wrap32 (t298))) (wrap64 (wrap32 (t299))))) % 4294967296) t306) a2).bind fun t307 => (if (wrap64 (wrap32 (t307))) = (wrap64 (Int.tdiv (wrap64 (wrap32 (t298))) (wrap64 (wrap32 (t299))))) then ((bits_Signs.f (Go.bits .and .u32 ((wrap64 (Int.tdiv (wrap64 (wrap32 (t298))) (wrap64 (wrap32 (t299))))) % 4294967296) t306) a2).bind fun bt308 => (some (Go.bits .and .u32 ((wrap64 (Int.tdiv (wrap64 (wrap32 (t298))) (wrap64 (wrap32 (t299))))) % 4294967296) t306, bt308.1, bt308.2.1, false, bt308.2.2.2, ((wrap64 (wrap32 (t299))) != 0)))) else ((bits_Signs.f (Go.bits .and .u32 a0 t300) a2).bind fun bt313 => (some (Go.bits .and .u32 a0 t300, bt313.1, bt313.2.1, true, bt313.2.2.2, ((wrap64 (wrap32 (t299))) != 0)))))))))) = some (r1, r2, r3, r4, r5, r6) := H
  have A4 := Aside0.mk A40
  clear A40
  replace H := Option.bind_eq_some_iff.mp H
  obtain ⟨t299, A50, H⟩ := H
  replace H : ((bits_Mask.f a2).bind fun t300 => (if (wrap64 (wrap32 (t299))) = 0 then ((bits_Signs.f (Go.bits .and .u32 a0 t300) a2).bind fun bt301 => (some (Go.bits .and .u32 a0 t300, bt301.1, bt301.2.1, true, bt301.2.2.2, ((wrap64 (wrap32 (t299))) != 0)))) else ((bits_Mask.f a2).bind fun t306 => ((bits_Extend.f (Go.bits .and .u32 ((wrap64 (Int.tdiv (wrap64 (wrap32 (t298))) (wrap64 (wrap32 (t299))))) % 4294967296) t306) a2).bind fun t307 => (if (wrap64 (wrap32 (t307))) = (wrap64 (Int.tdiv (wrap64 (wrap32 (t298))) (wrap64 (wrap32 (t299))))) then ((bits_Signs.f (Go.bits .and .u32 ((wrap64 (Int.tdiv (wrap64 (wrap32 (t298))) (wrap64 (wrap32 (t299))))) % 4294967296) t306) a2).bind fun bt308 => (some (Go.bits .and .u32 ((wrap64 (Int.tdiv (wrap64 (wrap32 (t298))) (wrap64 (wrap32 (t299))))) % 4294967296) t306, bt308.1, bt308.2.1, false, bt308.2.2.2, ((wrap64 (wrap32 (t299))) != 0)))) else ((bits_Signs.f (Go.bits .and .u32 a0 t300) a2).bind fun bt313 => (some (Go.bits .and .u32 a0 t300, bt313.1, bt313.2.1, true, bt313.2.2.2, ((wrap64 (wrap32 (t299))) != 0))))))))) = some (r1, r2, r3, r4, r5, r6) := H
  have A5 := Aside0.mk A50
  clear A50
  replace H := Option.bind_eq_some_iff.mp H
  obtain ⟨t300, A60, H⟩ := H
  replace H : (if (wrap64 (wrap32 (t299))) = 0 then ((bits_Signs.f (Go.bits .and .u32 a0 t300) a2).bind fun bt301 => (some (Go.bits .and .u32 a0 t300, bt301.1, bt301.2.1, true, bt301.2.2.2, ((wrap64 (wrap32 (t299))) != 0)))) else ((bits_Mask.f a2).bind fun t306 => ((bits_Extend.f (Go.bits .and .u32 ((wrap64 (Int.tdiv (wrap64 (wrap32 (t298))) (wrap64 (wrap32 (t299))))) % 4294967296) t306) a2).bind fun t307 => (if (wrap64 (wrap32 (t307))) = (wrap64 (Int.tdiv (wrap64 (wrap32 (t298))) (wrap64 (wrap32 (t299))))) then ((bits_Signs.f (Go.bits .and .u32 ((wrap64 (Int.tdiv (wrap64 (wrap32 (t298))) (wrap64 (wrap32 (t299))))) % 4294967296) t306) a2).bind fun bt308 => (some (Go.bits .and .u32 ((wrap64 (Int.tdiv (wrap64 (wrap32 (t298))) (wrap64 (wrap32 (t299))))) % 4294967296) t306, bt308.1, bt308.2.1, false, bt308.2.2.2, ((wrap64 (wrap32 (t299))) != 0)))) else ((bits_Signs.f (Go.bits .and .u32 a0 t300) a2).bind fun bt313 => (some (Go.bits .and .u32 a0 t300, bt313.1, bt313.2.1, true, bt313.2.2.2, ((wrap64 (wrap32 (t299))) != 0)))))))) = some (r1, r2, r3, r4, r5, r6) := H
  have A6 := Aside0.mk A60
  clear A60
  by_cases c7 : (wrap64 (wrap32 (t299))) = 0
  · rw [if_pos c7] at H
    have c7b0 : ((wrap64 (wrap32 (t299))) == 0) = true := beq_iff_eq.mpr c7
    have c7b1 : ((wrap64 (wrap32 (t299))) != 0) = false := bne_eq_false_iff_eq.mpr c7
    clear c7
    replace H := Option.bind_eq_some_iff.mp H
    obtain ⟨⟨t301, t302, t303, t304⟩, A80, H⟩ := H
    replace H : (some (Go.bits .and .u32 a0 t300, t301, t302, true, t304, ((wrap64 (wrap32 (t299))) != 0))) = some (r1, r2, r3, r4, r5, r6) := H
    have A8 := Aside0.mk A80
    clear A80
    simp only [Option.some.injEq, Prod.mk.injEq] at H
    obtain ⟨rfl, rfl, rfl, rfl, rfl, rfl⟩ := H
    go_enter Try.func38, Try.ntmps38
    try go_wp2_with (first | ((with_reducible refine gate_dst (N := 7) rfl ?_); refine box_event ?hg (N := 7) ?hd (cs := #[.bool false, .bool false, .bool false, .bool false]) (t := 29) ?hr ?_; (case hd => rfl); (case hg => rfl); (case hr => first | (go_simp; done) | (go_simp; rfl)); intro gb297 hg w9 hbox hb; have n0_ := Aside0.mk (below_step (by repeat (first | (with_reducible first | exact HB.out | apply below_alloc | apply pw_below_drewN | apply below_drew1) | exact HB.out)) hb); have n1_ := Aside0.mk (hbox); have n2_ := Aside0.mk ((by rw [hg]; exact (below_size (by repeat (first | (with_reducible first | exact HB.out | apply below_alloc | apply pw_below_drewN | apply below_drew1) | exact HB.out))) : w.heap.size ≤ gb297)); have n3_ := Aside0.mk ((by rw [hg]; exact (below_size (by repeat (first | (with_reducible first | exact HB.out | apply below_alloc | apply pw_below_drewN | apply below_drew1) | exact HB.out))) : w.heap.size ≤ gb297)); clear HB; have HB := n0_; have BK297 := n1_; have GW297 := n2_; have GE297 := n3_; clear n0_ n1_ n2_ n3_; clear hb hbox hg) | ((with_reducible refine gate_callee (f := 25) rfl ?_); refine goesL_ (some 18) rfl rfl Try.func25 (by kernel_rfl) rfl #[.int .u32 a0, .int .i64 a2] rfl (by (try simp only [List.map_toArray, List.map_cons, List.map_nil]); first | done | rfl | (simp only [List.length_drop, List.length_take]; rfl)) ?_; (with_reducible refine (bits_Extend.calls a0 a2 t298 _ A4.out).mono ?_); rintro e w' ⟨rfl, ⟨nd, rfl⟩⟩; refine ⟨_, rfl, ?_⟩; (try (rw [drewN_self w9]; generalize hq_ : World.drewN w9 _ = w9; have n0_ : Aside0 (w9.heap[gb297]? = some (.cells #[.bool false, .bool false, .bool false, .bool false] 29 (0, 0))) := ⟨by rw [← hq_]; exact (by (with_reducible repeat (first | refine blk_drewN ?_ _ | refine blk_drew ?_ | refine blk_alloc ?_ _)); exact BK297.out)⟩; have n1_ : Aside0 (Below w.heap.size w w9) := ⟨by rw [← hq_]; exact (by repeat (first | (with_reducible first | exact HB.out | apply below_alloc | apply pw_below_drewN | apply below_drew1 | refine below_set ?_ GE297.out) | exact HB.out))⟩; clear BK297 HB hq_; have BK297 := n0_; have HB := n1_; clear n0_ n1_))) | ((with_reducible refine gate_callee (f := 25) rfl ?_); refine goesL_ (some 23) rfl rfl Try.func25 (by kernel_rfl) rfl #[.int .u32 a1, .int .i64 a2] rfl (by (try simp only [List.map_toArray, List.map_cons, List.map_nil]); first | done | rfl | (simp only [List.length_drop, List.length_take]; rfl)) ?_; (with_reducible refine (bits_Extend.calls a1 a2 t299 _ A5.out).mono ?_); rintro e w' ⟨rfl, ⟨nd, rfl⟩⟩; refine ⟨_, rfl, ?_⟩; (try (rw [drewN_self w9]; generalize hq_ : World.drewN w9 _ = w9; have n0_ : Aside0 (w9.heap[gb297]? = some (.cells #[.bool false, .bool false, .bool false, .bool false] 29 (0, 0))) := ⟨by rw [← hq_]; exact (by (with_reducible repeat (first | refine blk_drewN ?_ _ | refine blk_drew ?_ | refine blk_alloc ?_ _)); exact BK297.out)⟩; have n1_ : Aside0 (Below w.heap.size w w9) := ⟨by rw [← hq_]; exact (by repeat (first | (with_reducible first | exact HB.out | apply below_alloc | apply pw_below_drewN | apply below_drew1 | refine below_set ?_ GE297.out) | exact HB.out))⟩; clear BK297 HB hq_; have BK297 := n0_; have HB := n1_; clear n0_ n1_))) | ((with_reducible refine gate_callee (f := 19) rfl ?_); refine goesL_ (some 28) rfl rfl Try.func19 (by kernel_rfl) rfl #[.int .i64 a2] rfl (by (try simp only [List.map_toArray, List.map_cons, List.map_nil]); first | done | rfl | (simp only [List.length_drop, List.length_take]; rfl)) ?_; (with_reducible refine (bits_Mask.calls a2 t300 _ A6.out).mono ?_); rintro e w' ⟨rfl, ⟨nd, rfl⟩⟩; refine ⟨_, rfl, ?_⟩; (try (rw [drewN_self w9]; generalize hq_ : World.drewN w9 _ = w9; have n0_ : Aside0 (w9.heap[gb297]? = some (.cells #[.bool false, .bool false, .bool false, .bool false] 29 (0, 0))) := ⟨by rw [← hq_]; exact (by (with_reducible repeat (first | refine blk_drewN ?_ _ | refine blk_drew ?_ | refine blk_alloc ?_ _)); exact BK297.out)⟩; have n1_ : Aside0 (Below w.heap.size w w9) := ⟨by rw [← hq_]; exact (by repeat (first | (with_reducible first | exact HB.out | apply below_alloc | apply pw_below_drewN | apply below_drew1 | refine below_set ?_ GE297.out) | exact HB.out))⟩; clear BK297 HB hq_; have BK297 := n0_; have HB := n1_; clear n0_ n1_))) | ((with_reducible refine gate_callee (f := 27) rfl ?_); refine goesL_ (some 50) rfl rfl Try.func27 (by kernel_rfl) rfl #[.int .u32 (Go.bits .and .u32 a0 t300), .int .i64 a2] rfl (by (try simp only [List.map_toArray, List.map_cons, List.map_nil]); first | done | rfl | (simp only [List.length_drop, List.length_take]; rfl)) ?_; (with_reducible refine (bits_Signs.calls (Go.bits .and .u32 a0 t300) a2 t301 t302 t303 t304 _ A8.out).mono ?_); rintro e w10 ⟨rfl, hb⟩; refine ⟨_, rfl, ?_⟩; have n0_ := Aside0.mk (blk_below (g := gb297) (o := .cells #[.bool false, .bool false, .bool false, .bool false] 29 (0, 0)) (by (with_reducible repeat (first | refine blk_drewN ?_ _ | refine blk_drew ?_ | refine blk_alloc ?_ _)); exact BK297.out) hb); have n1_ := Aside0.mk (below_step (by repeat (first | (with_reducible first | exact HB.out | apply below_alloc | apply pw_below_drewN | apply below_drew1 | refine below_set ?_ GE297.out) | exact HB.out)) hb); clear BK297; clear HB; have BK297 := n0_; have HB := n1_; clear n0_ n1_; (try clear hb); (try clear hb2); (try clear hk); (try clear hi)) | ((with_reducible refine gate_dst (N := 15) rfl ?_); refine box_event ?hg (N := 15) ?hd (cs := #[.bool false, .bool false, .bool false, .bool false]) (t := 29) ?hr ?_; (case hd => rfl); (case hg => rfl); (case hr => first | (go_simp; done) | (go_simp; rfl)); intro gb305 hg w11 hbox hb; have n0_ := Aside0.mk (blk_below (g := gb297) (o := .cells #[.bool false, .bool false, .bool false, .bool false] 29 (0, 0)) (by (with_reducible repeat (first | refine blk_drewN ?_ _ | refine blk_drew ?_ | refine blk_alloc ?_ _)); exact BK297.out) hb); have n1_ := Aside0.mk (below_step (by repeat (first | (with_reducible first | exact HB.out | apply below_alloc | apply pw_below_drewN | apply below_drew1 | refine below_set ?_ GE297.out) | exact HB.out)) hb); have n2_ := Aside0.mk (hbox); have n3_ := Aside0.mk ((by rw [hg]; exact (below_size (by repeat (first | (with_reducible first | exact HB.out | apply below_alloc | apply pw_below_drewN | apply below_drew1 | refine below_set ?_ GE297.out) | exact HB.out))) : w.heap.size ≤ gb305)); have n4_ := Aside0.mk ((by rw [hg]; exact (below_size (by repeat (first | (with_reducible first | exact HB.out | apply below_alloc | apply pw_below_drewN | apply below_drew1 | refine below_set ?_ GE297.out) | exact HB.out))) : w.heap.size ≤ gb305)); have n5_ := Aside0.mk ((by rw [hg]; exact Nat.ne_of_lt (blk_lt (g := gb297) (o := .cells #[.bool false, .bool false, .bool false, .bool false] 29 (0, 0)) (by (with_reducible repeat (first | refine blk_drewN ?_ _ | refine blk_drew ?_ | refine blk_alloc ?_ _)); exact BK297.out)) : gb297 ≠ gb305)); have n6_ := Aside0.mk ((by rw [hg]; exact Nat.ne_of_gt (blk_lt (g := gb297) (o := .cells #[.bool false, .bool false, .bool false, .bool false] 29 (0, 0)) (by (with_reducible repeat (first | refine blk_drewN ?_ _ | refine blk_drew ?_ | refine blk_alloc ?_ _)); exact BK297.out)) : gb305 ≠ gb297)); clear BK297; clear HB; have BK297 := n0_; have HB := n1_; have BK305 := n2_; have GW305 := n3_; have GE305 := n4_; have NB297_305 := n5_; have NB305_297 := n6_; clear n0_ n1_ n2_ n3_ n4_ n5_ n6_; clear hb hbox hg; have hnb12 := NB305_297.out; have hnc12 := NB297_305.out; have hcz13_0 : w11.cell? ⟨gb305, 0, none⟩ = some (.bool false) := (blk_cell BK305.out 0).trans rfl; have hcz13_1 : w11.cell? ⟨gb305, 1, none⟩ = some (.bool false) := (blk_cell BK305.out 1).trans rfl; have hcz13_2 : w11.cell? ⟨gb305, 2, none⟩ = some (.bool false) := (blk_cell BK305.out 2).trans rfl; have hcz13_3 : w11.cell? ⟨gb305, 3, none⟩ = some (.bool false) := (blk_cell BK305.out 3).trans rfl; have hfz13_0 := blk_frozen BK305.out 0; have hfz13_1 := blk_frozen BK305.out 1; have hfz13_2 := blk_frozen BK305.out 2; have hfz13_3 := blk_frozen BK305.out 3))
    have n0_ : Aside0 ((((((w11.setCell ⟨gb305, 0, none⟩ (.bool t301)).setCell ⟨gb305, 1, none⟩ (.bool t302)).setCell ⟨gb305, 2, none⟩ (.bool t303)).setCell ⟨gb305, 3, none⟩ (.bool t304)).setCell ⟨gb305, 2, none⟩ (.bool true)).heap[gb297]? = some (.cells #[.bool false, .bool false, .bool false, .bool false] 29 (0, 0))) := ⟨by (with_reducible repeat (first | refine blk_drewN ?_ _ | refine blk_drew ?_ | refine blk_alloc ?_ _)); refine blk_far ?_ NB297_305.out _; (with_reducible repeat (first | refine blk_drewN ?_ _ | refine blk_drew ?_ | refine blk_alloc ?_ _)); refine blk_far ?_ NB297_305.out _; (with_reducible repeat (first | refine blk_drewN ?_ _ | refine blk_drew ?_ | refine blk_alloc ?_ _)); refine blk_far ?_ NB297_305.out _; (with_reducible repeat (first | refine blk_drewN ?_ _ | refine blk_drew ?_ | refine blk_alloc ?_ _)); refine blk_far ?_ NB297_305.out _; (with_reducible repeat (first | refine blk_drewN ?_ _ | refine blk_drew ?_ | refine blk_alloc ?_ _)); refine blk_far ?_ NB297_305.out _; (with_reducible repeat (first | refine blk_drewN ?_ _ | refine blk_drew ?_ | refine blk_alloc ?_ _)); exact BK297.out⟩
    have n1_ : Aside0 ((((((w11.setCell ⟨gb305, 0, none⟩ (.bool t301)).setCell ⟨gb305, 1, none⟩ (.bool t302)).setCell ⟨gb305, 2, none⟩ (.bool t303)).setCell ⟨gb305, 3, none⟩ (.bool t304)).setCell ⟨gb305, 2, none⟩ (.bool true)).heap[gb305]? = some (.cells #[.bool t301, .bool t302, .bool true, .bool t304] 29 (0, 0))) := ⟨by (with_reducible repeat (first | refine blk_drewN ?_ _ | refine blk_drew ?_ | refine blk_alloc ?_ _)); refine blk_put (cs := #[.bool t301, .bool t302, .bool t303, .bool t304]) ?_ 2 _ rfl; (with_reducible repeat (first | refine blk_drewN ?_ _ | refine blk_drew ?_ | refine blk_alloc ?_ _)); refine blk_put (cs := #[.bool t301, .bool t302, .bool t303, .bool false]) ?_ 3 _ rfl; (with_reducible repeat (first | refine blk_drewN ?_ _ | refine blk_drew ?_ | refine blk_alloc ?_ _)); refine blk_put (cs := #[.bool t301, .bool t302, .bool false, .bool false]) ?_ 2 _ rfl; (with_reducible repeat (first | refine blk_drewN ?_ _ | refine blk_drew ?_ | refine blk_alloc ?_ _)); refine blk_put (cs := #[.bool t301, .bool false, .bool false, .bool false]) ?_ 1 _ rfl; (with_reducible repeat (first | refine blk_drewN ?_ _ | refine blk_drew ?_ | refine blk_alloc ?_ _)); refine blk_put (cs := #[.bool false, .bool false, .bool false, .bool false]) ?_ 0 _ rfl; (with_reducible repeat (first | refine blk_drewN ?_ _ | refine blk_drew ?_ | refine blk_alloc ?_ _)); exact BK305.out⟩
    have n2_ : Aside0 (Below w.heap.size w (((((w11.setCell ⟨gb305, 0, none⟩ (.bool t301)).setCell ⟨gb305, 1, none⟩ (.bool t302)).setCell ⟨gb305, 2, none⟩ (.bool t303)).setCell ⟨gb305, 3, none⟩ (.bool t304)).setCell ⟨gb305, 2, none⟩ (.bool true))) := ⟨by repeat (first | (with_reducible first | exact HB.out | apply below_alloc | apply pw_below_drewN | apply below_drew1 | refine below_set ?_ GE297.out | refine below_set ?_ GE305.out) | exact HB.out)⟩
    (try clear BK297)
    (try clear BK305)
    (try clear HB)
    (repeat rw [own_setCell_drewN]); (repeat rw [World.drewN_drewN])
    generalize (((((w11.setCell ⟨gb305, 0, none⟩ (.bool t301)).setCell ⟨gb305, 1, none⟩ (.bool t302)).setCell ⟨gb305, 2, none⟩ (.bool t303)).setCell ⟨gb305, 3, none⟩ (.bool t304)).setCell ⟨gb305, 2, none⟩ (.bool true)) = w14 at n0_ n1_ n2_ ⊢
    have BK297 := n0_
    have BK305 := n1_
    have HB := n2_
    clear n0_ n1_ n2_
    have n0_ := Aside0.mk (blk_drew BK297.out)
    have n1_ := Aside0.mk (blk_drew BK305.out)
    have n2_ := Aside0.mk (below_drew1 HB.out)
    clear BK297
    clear BK305
    clear HB
    have BK297 := n0_
    have BK305 := n1_
    have HB := n2_
    clear n0_ n1_ n2_
    refine start_ (n := 7) (S := fun w' => w'.cell? ⟨gb305, 0, none⟩ = some (.bool t301) ∧ w'.cell? ⟨gb305, 1, none⟩ = some (.bool t302) ∧ w'.cell? ⟨gb305, 2, none⟩ = some (.bool true) ∧ w'.cell? ⟨gb305, 3, none⟩ = some (.bool t304)) (ds := []) #[false, false, false, false, false, false, false] (by kernel_rfl) rfl rfl ⟨(blk_cell BK305.out 0).trans rfl, (blk_cell BK305.out 1).trans rfl, (blk_cell BK305.out 2).trans rfl, (blk_cell BK305.out 3).trans rfl⟩ (fun hHeld => ?_)
    generalize w14.drew = w15 at BK297 BK305 HB hHeld ⊢
    refine pure_ (i := 0) (N := some 53) (v := ?_) (a' := ?_) #[true, false, false, false, false, false, false] rfl rfl (by kernel_rfl) (fun _ _ _ h => h) (Or.inl ⟨by rfl, ?_⟩) ?_ ?_
    rotate_left
    · intro w'
      go_simp
      with_reducible rfl
    rotate_left
    · simp only [Act.put, List.setIfInBounds_toArray, List.set_cons_zero, List.set_cons_succ, i64_w, i32_w]
      rfl
    refine pure_ (i := 2) (N := some 55) (v := ?_) (a' := ?_) #[true, false, true, false, false, false, false] rfl rfl (by kernel_rfl) (fun _ _ _ h => h) (Or.inl ⟨by rfl, ?_⟩) ?_ ?_
    rotate_left
    · intro w'
      go_simp
      with_reducible rfl
    rotate_left
    · simp only [Act.put, List.setIfInBounds_toArray, List.set_cons_zero, List.set_cons_succ, i64_w, i32_w]
      rfl
    refine pure_ (i := 3) (N := some 56) (v := ?_) (a' := ?_) #[true, false, true, true, false, false, false] rfl rfl (by kernel_rfl) (fun _ _ _ h => h) (Or.inl ⟨by rfl, ?_⟩) ?_ ?_
    rotate_left
    · intro w'
      go_simp
      with_reducible rfl
    rotate_left
    · simp only [Act.put, List.setIfInBounds_toArray, List.set_cons_zero, List.set_cons_succ, i64_w, i32_w]
      rfl
    refine pure_ (i := 4) (N := some 6) (v := ?_) (a' := ?_) #[true, false, true, true, true, false, false] rfl rfl (by kernel_rfl) (fun _ _ _ h => h) (Or.inl ⟨by rfl, ?_⟩) ?_ ?_
    rotate_left
    · intro w'
      go_simp
      with_reducible rfl
    rotate_left
    · simp only [Act.put, List.setIfInBounds_toArray, List.set_cons_zero, List.set_cons_succ, i64_w, i32_w]
      rfl
    refine take_ (i := 1) (N := some 54) (v := ?_) (a' := ?_) #[true, true, true, true, true, false, false] rfl rfl (by kernel_rfl) (fun _ _ _ h => h) (Or.inl ⟨by rfl, ?_⟩) hHeld ?_ ?_
    rotate_left
    · rintro w' ⟨s0, s1, s2, s3⟩
      go_simp
      with_reducible rfl
    rotate_left
    · simp only [Act.put, List.setIfInBounds_toArray, List.set_cons_zero, List.set_cons_succ, i64_w, i32_w]
      rfl
    refine one_ (i := 5) (N := none) #[true, true, true, true, true, true, false] rfl rfl (by kernel_rfl) (by decide) (fun K hK => ?_)
    have hs16 : w15.cell? ⟨gb297, 0, none⟩ = some (.bool false) := (blk_cell BK297.out 0).trans rfl
    have hfs16 := blk_frozen BK297.out 0
    have hns16_1 := NB305_297.out
    have hms16_1 := NB297_305.out
    have hs17 : w15.cell? ⟨gb297, 1, none⟩ = some (.bool false) := (blk_cell BK297.out 1).trans rfl
    have hfs17 := blk_frozen BK297.out 1
    have hns17_1 := NB305_297.out
    have hms17_1 := NB297_305.out
    have hs18 : w15.cell? ⟨gb297, 2, none⟩ = some (.bool false) := (blk_cell BK297.out 2).trans rfl
    have hfs18 := blk_frozen BK297.out 2
    have hns18_1 := NB305_297.out
    have hms18_1 := NB297_305.out
    have hs19 : w15.cell? ⟨gb297, 3, none⟩ = some (.bool false) := (blk_cell BK297.out 3).trans rfl
    have hfs19 := blk_frozen BK297.out 3
    have hns19_1 := NB305_297.out
    have hms19_1 := NB297_305.out
    refine skip_ (w1 := ?_) (by rfl) rfl ?_ ?_
    rotate_left
    · go_simp
      rfl
    refine hK.out _ _ ⟨((cell_far (p := ⟨gb297, _, none⟩) NB305_297.out _).trans (((cell_far (p := ⟨gb297, _, none⟩) NB305_297.out _).trans (((cell_far (p := ⟨gb297, _, none⟩) NB305_297.out _).trans (((cell_far (p := ⟨gb297, _, none⟩) NB305_297.out _).trans (hHeld.1)))))))), ((cell_far (p := ⟨gb297, _, none⟩) NB305_297.out _).trans (((cell_far (p := ⟨gb297, _, none⟩) NB305_297.out _).trans (((cell_far (p := ⟨gb297, _, none⟩) NB305_297.out _).trans (((cell_far (p := ⟨gb297, _, none⟩) NB305_297.out _).trans (hHeld.2.1)))))))), ((cell_far (p := ⟨gb297, _, none⟩) NB305_297.out _).trans (((cell_far (p := ⟨gb297, _, none⟩) NB305_297.out _).trans (((cell_far (p := ⟨gb297, _, none⟩) NB305_297.out _).trans (((cell_far (p := ⟨gb297, _, none⟩) NB305_297.out _).trans (hHeld.2.2.1)))))))), ((cell_far (p := ⟨gb297, _, none⟩) NB305_297.out _).trans (((cell_far (p := ⟨gb297, _, none⟩) NB305_297.out _).trans (((cell_far (p := ⟨gb297, _, none⟩) NB305_297.out _).trans (((cell_far (p := ⟨gb297, _, none⟩) NB305_297.out _).trans (hHeld.2.2.2))))))))⟩ (fun hHeld => ?_)
    clear hK K
    refine pure_ (i := 6) (N := some 8) (v := ?_) (a' := ?_) #[true, true, true, true, true, true, true] rfl rfl (by kernel_rfl) (fun _ _ _ h => h) (Or.inl ⟨by rfl, ?_⟩) ?_ ?_
    rotate_left
    · intro w'
      go_simp
      with_reducible rfl
    rotate_left
    · simp only [Act.put, List.setIfInBounds_toArray, List.set_cons_zero, List.set_cons_succ, i64_w, i32_w]
      rfl
    refine done_ (by kernel_rfl) ?_
    try go_wp2
    refine bodyPost_ret (results_list (rs := [.tmp 6, .cell 7 29, .tmp 8]) rfl (by simp) (.tmp (.cell gb297 29 #[.bool t301, .bool t302, .bool true, .bool t304] (0, 0) _ rfl (by (with_reducible repeat (first | refine blk_drewN ?_ _ | refine blk_drew ?_ | refine blk_alloc ?_ _)); refine blk_put (cs := #[.bool t301, .bool t302, .bool true, .bool false]) ?_ 3 _ rfl; (with_reducible repeat (first | refine blk_drewN ?_ _ | refine blk_drew ?_ | refine blk_alloc ?_ _)); refine blk_put (cs := #[.bool t301, .bool t302, .bool false, .bool false]) ?_ 2 _ rfl; (with_reducible repeat (first | refine blk_drewN ?_ _ | refine blk_drew ?_ | refine blk_alloc ?_ _)); refine blk_put (cs := #[.bool t301, .bool false, .bool false, .bool false]) ?_ 1 _ rfl; (with_reducible repeat (first | refine blk_drewN ?_ _ | refine blk_drew ?_ | refine blk_alloc ?_ _)); refine blk_put (cs := #[.bool false, .bool false, .bool false, .bool false]) ?_ 0 _ rfl; (with_reducible repeat (first | refine blk_drewN ?_ _ | refine blk_drew ?_ | refine blk_alloc ?_ _)); exact BK297.out) Try.underlying29 rfl (by kernel_rfl) (.tmp .nil)))) rfl ?_
    exact ⟨by first | rfl | (simp [errW_none, errW_some] <;> rfl) | (simp [*, errW_none, errW_some] <;> rfl), by repeat (first | (with_reducible first | exact HB.out | apply below_alloc | apply pw_below_drewN | apply below_drew1 | refine below_set ?_ GE297.out | refine below_set ?_ GE305.out) | exact HB.out)⟩
  · rw [if_neg c7] at H
    have c7b0 : ((wrap64 (wrap32 (t299))) == 0) = false := beq_eq_false_iff_ne.mpr c7
    have c7b1 : ((wrap64 (wrap32 (t299))) != 0) = true := bne_iff_ne.mpr c7
    replace H := Option.bind_eq_some_iff.mp H
    obtain ⟨t306, A200, H⟩ := H
    replace H : ((bits_Extend.f (Go.bits .and .u32 ((wrap64 (Int.tdiv (wrap64 (wrap32 (t298))) (wrap64 (wrap32 (t299))))) % 4294967296) t306) a2).bind fun t307 => (if (wrap64 (wrap32 (t307))) = (wrap64 (Int.tdiv (wrap64 (wrap32 (t298))) (wrap64 (wrap32 (t299))))) then ((bits_Signs.f (Go.bits .and .u32 ((wrap64 (Int.tdiv (wrap64 (wrap32 (t298))) (wrap64 (wrap32 (t299))))) % 4294967296) t306) a2).bind fun bt308 => (some (Go.bits .and .u32 ((wrap64 (Int.tdiv (wrap64 (wrap32 (t298))) (wrap64 (wrap32 (t299))))) % 4294967296) t306, bt308.1, bt308.2.1, false, bt308.2.2.2, ((wrap64 (wrap32 (t299))) != 0)))) else ((bits_Signs.f (Go.bits .and .u32 a0 t300) a2).bind fun bt313 => (some (Go.bits .and .u32 a0 t300, bt313.1, bt313.2.1, true, bt313.2.2.2, ((wrap64 (wrap32 (t299))) != 0)))))) = some (r1, r2, r3, r4, r5, r6) := H
    have A20 := Aside0.mk A200
    clear A200
    replace H := Option.bind_eq_some_iff.mp H
    obtain ⟨t307, A210, H⟩ := H
    replace H : (if (wrap64 (wrap32 (t307))) = (wrap64 (Int.tdiv (wrap64 (wrap32 (t298))) (wrap64 (wrap32 (t299))))) then ((bits_Signs.f (Go.bits .and .u32 ((wrap64 (Int.tdiv (wrap64 (wrap32 (t298))) (wrap64 (wrap32 (t299))))) % 4294967296) t306) a2).bind fun bt308 => (some (Go.bits .and .u32 ((wrap64 (Int.tdiv (wrap64 (wrap32 (t298))) (wrap64 (wrap32 (t299))))) % 4294967296) t306, bt308.1, bt308.2.1, false, bt308.2.2.2, ((wrap64 (wrap32 (t299))) != 0)))) else ((bits_Signs.f (Go.bits .and .u32 a0 t300) a2).bind fun bt313 => (some (Go.bits .and .u32 a0 t300, bt313.1, bt313.2.1, true, bt313.2.2.2, ((wrap64 (wrap32 (t299))) != 0))))) = some (r1, r2, r3, r4, r5, r6) := H
    have A21 := Aside0.mk A210
    clear A210
    by_cases c22 : (wrap64 (wrap32 (t307))) = (wrap64 (Int.tdiv (wrap64 (wrap32 (t298))) (wrap64 (wrap32 (t299)))))
    · rw [if_pos c22] at H
      have c22b0 : ((wrap64 (wrap32 (t307))) == (wrap64 (Int.tdiv (wrap64 (wrap32 (t298))) (wrap64 (wrap32 (t299)))))) = true := beq_iff_eq.mpr c22
      have c22b1 : ((wrap64 (wrap32 (t307))) != (wrap64 (Int.tdiv (wrap64 (wrap32 (t298))) (wrap64 (wrap32 (t299)))))) = false := bne_eq_false_iff_eq.mpr c22
      clear c22
      replace H := Option.bind_eq_some_iff.mp H
      obtain ⟨⟨t308, t309, t310, t311⟩, A230, H⟩ := H
      replace H : (some (Go.bits .and .u32 ((wrap64 (Int.tdiv (wrap64 (wrap32 (t298))) (wrap64 (wrap32 (t299))))) % 4294967296) t306, t308, t309, false, t311, ((wrap64 (wrap32 (t299))) != 0))) = some (r1, r2, r3, r4, r5, r6) := H
      have A23 := Aside0.mk A230
      clear A230
      simp only [Option.some.injEq, Prod.mk.injEq] at H
      obtain ⟨rfl, rfl, rfl, rfl, rfl, rfl⟩ := H
      go_enter Try.func38, Try.ntmps38
      try go_wp2_with (first | ((with_reducible refine gate_dst (N := 7) rfl ?_); refine box_event ?hg (N := 7) ?hd (cs := #[.bool false, .bool false, .bool false, .bool false]) (t := 29) ?hr ?_; (case hd => rfl); (case hg => rfl); (case hr => first | (go_simp; done) | (go_simp; rfl)); intro gb297 hg w24 hbox hb; have n0_ := Aside0.mk (below_step (by repeat (first | (with_reducible first | exact HB.out | apply below_alloc | apply pw_below_drewN | apply below_drew1) | exact HB.out)) hb); have n1_ := Aside0.mk (hbox); have n2_ := Aside0.mk ((by rw [hg]; exact (below_size (by repeat (first | (with_reducible first | exact HB.out | apply below_alloc | apply pw_below_drewN | apply below_drew1) | exact HB.out))) : w.heap.size ≤ gb297)); have n3_ := Aside0.mk ((by rw [hg]; exact (below_size (by repeat (first | (with_reducible first | exact HB.out | apply below_alloc | apply pw_below_drewN | apply below_drew1) | exact HB.out))) : w.heap.size ≤ gb297)); clear HB; have HB := n0_; have BK297 := n1_; have GW297 := n2_; have GE297 := n3_; clear n0_ n1_ n2_ n3_; clear hb hbox hg) | ((with_reducible refine gate_callee (f := 25) rfl ?_); refine goesL_ (some 18) rfl rfl Try.func25 (by kernel_rfl) rfl #[.int .u32 a0, .int .i64 a2] rfl (by (try simp only [List.map_toArray, List.map_cons, List.map_nil]); first | done | rfl | (simp only [List.length_drop, List.length_take]; rfl)) ?_; (with_reducible refine (bits_Extend.calls a0 a2 t298 _ A4.out).mono ?_); rintro e w' ⟨rfl, ⟨nd, rfl⟩⟩; refine ⟨_, rfl, ?_⟩; (try (rw [drewN_self w24]; generalize hq_ : World.drewN w24 _ = w24; have n0_ : Aside0 (w24.heap[gb297]? = some (.cells #[.bool false, .bool false, .bool false, .bool false] 29 (0, 0))) := ⟨by rw [← hq_]; exact (by (with_reducible repeat (first | refine blk_drewN ?_ _ | refine blk_drew ?_ | refine blk_alloc ?_ _)); exact BK297.out)⟩; have n1_ : Aside0 (Below w.heap.size w w24) := ⟨by rw [← hq_]; exact (by repeat (first | (with_reducible first | exact HB.out | apply below_alloc | apply pw_below_drewN | apply below_drew1 | refine below_set ?_ GE297.out) | exact HB.out))⟩; clear BK297 HB hq_; have BK297 := n0_; have HB := n1_; clear n0_ n1_))) | ((with_reducible refine gate_callee (f := 25) rfl ?_); refine goesL_ (some 23) rfl rfl Try.func25 (by kernel_rfl) rfl #[.int .u32 a1, .int .i64 a2] rfl (by (try simp only [List.map_toArray, List.map_cons, List.map_nil]); first | done | rfl | (simp only [List.length_drop, List.length_take]; rfl)) ?_; (with_reducible refine (bits_Extend.calls a1 a2 t299 _ A5.out).mono ?_); rintro e w' ⟨rfl, ⟨nd, rfl⟩⟩; refine ⟨_, rfl, ?_⟩; (try (rw [drewN_self w24]; generalize hq_ : World.drewN w24 _ = w24; have n0_ : Aside0 (w24.heap[gb297]? = some (.cells #[.bool false, .bool false, .bool false, .bool false] 29 (0, 0))) := ⟨by rw [← hq_]; exact (by (with_reducible repeat (first | refine blk_drewN ?_ _ | refine blk_drew ?_ | refine blk_alloc ?_ _)); exact BK297.out)⟩; have n1_ : Aside0 (Below w.heap.size w w24) := ⟨by rw [← hq_]; exact (by repeat (first | (with_reducible first | exact HB.out | apply below_alloc | apply pw_below_drewN | apply below_drew1 | refine below_set ?_ GE297.out) | exact HB.out))⟩; clear BK297 HB hq_; have BK297 := n0_; have HB := n1_; clear n0_ n1_))) | ((with_reducible refine gate_callee (f := 19) rfl ?_); refine goesL_ (some 28) rfl rfl Try.func19 (by kernel_rfl) rfl #[.int .i64 a2] rfl (by (try simp only [List.map_toArray, List.map_cons, List.map_nil]); first | done | rfl | (simp only [List.length_drop, List.length_take]; rfl)) ?_; (with_reducible refine (bits_Mask.calls a2 t300 _ A6.out).mono ?_); rintro e w' ⟨rfl, ⟨nd, rfl⟩⟩; refine ⟨_, rfl, ?_⟩; (try (rw [drewN_self w24]; generalize hq_ : World.drewN w24 _ = w24; have n0_ : Aside0 (w24.heap[gb297]? = some (.cells #[.bool false, .bool false, .bool false, .bool false] 29 (0, 0))) := ⟨by rw [← hq_]; exact (by (with_reducible repeat (first | refine blk_drewN ?_ _ | refine blk_drew ?_ | refine blk_alloc ?_ _)); exact BK297.out)⟩; have n1_ : Aside0 (Below w.heap.size w w24) := ⟨by rw [← hq_]; exact (by repeat (first | (with_reducible first | exact HB.out | apply below_alloc | apply pw_below_drewN | apply below_drew1 | refine below_set ?_ GE297.out) | exact HB.out))⟩; clear BK297 HB hq_; have BK297 := n0_; have HB := n1_; clear n0_ n1_))) | ((with_reducible refine gate_callee (f := 19) rfl ?_); refine goesL_ (some 38) rfl rfl Try.func19 (by kernel_rfl) rfl #[.int .i64 a2] rfl (by (try simp only [List.map_toArray, List.map_cons, List.map_nil]); first | done | rfl | (simp only [List.length_drop, List.length_take]; rfl)) ?_; (with_reducible refine (bits_Mask.calls a2 t306 _ A20.out).mono ?_); rintro e w' ⟨rfl, ⟨nd, rfl⟩⟩; refine ⟨_, rfl, ?_⟩; (try (rw [drewN_self w24]; generalize hq_ : World.drewN w24 _ = w24; have n0_ : Aside0 (w24.heap[gb297]? = some (.cells #[.bool false, .bool false, .bool false, .bool false] 29 (0, 0))) := ⟨by rw [← hq_]; exact (by (with_reducible repeat (first | refine blk_drewN ?_ _ | refine blk_drew ?_ | refine blk_alloc ?_ _)); exact BK297.out)⟩; have n1_ : Aside0 (Below w.heap.size w w24) := ⟨by rw [← hq_]; exact (by repeat (first | (with_reducible first | exact HB.out | apply below_alloc | apply pw_below_drewN | apply below_drew1 | refine below_set ?_ GE297.out) | exact HB.out))⟩; clear BK297 HB hq_; have BK297 := n0_; have HB := n1_; clear n0_ n1_))) | ((with_reducible refine gate_callee (f := 25) rfl ?_); refine goesL_ (some 42) rfl rfl Try.func25 (by kernel_rfl) rfl #[.int .u32 (Go.bits .and .u32 ((wrap64 (Int.tdiv (wrap64 (wrap32 (t298))) (wrap64 (wrap32 (t299))))) % 4294967296) t306), .int .i64 a2] rfl (by (try simp only [List.map_toArray, List.map_cons, List.map_nil]); first | done | rfl | (simp only [List.length_drop, List.length_take]; rfl)) ?_; (with_reducible refine (bits_Extend.calls (Go.bits .and .u32 ((wrap64 (Int.tdiv (wrap64 (wrap32 (t298))) (wrap64 (wrap32 (t299))))) % 4294967296) t306) a2 t307 _ A21.out).mono ?_); rintro e w' ⟨rfl, ⟨nd, rfl⟩⟩; refine ⟨_, rfl, ?_⟩; (try (rw [drewN_self w24]; generalize hq_ : World.drewN w24 _ = w24; have n0_ : Aside0 (w24.heap[gb297]? = some (.cells #[.bool false, .bool false, .bool false, .bool false] 29 (0, 0))) := ⟨by rw [← hq_]; exact (by (with_reducible repeat (first | refine blk_drewN ?_ _ | refine blk_drew ?_ | refine blk_alloc ?_ _)); exact BK297.out)⟩; have n1_ : Aside0 (Below w.heap.size w w24) := ⟨by rw [← hq_]; exact (by repeat (first | (with_reducible first | exact HB.out | apply below_alloc | apply pw_below_drewN | apply below_drew1 | refine below_set ?_ GE297.out) | exact HB.out))⟩; clear BK297 HB hq_; have BK297 := n0_; have HB := n1_; clear n0_ n1_))) | ((with_reducible refine gate_callee (f := 27) rfl ?_); refine goesL_ (some 50) rfl rfl Try.func27 (by kernel_rfl) rfl #[.int .u32 (Go.bits .and .u32 ((wrap64 (Int.tdiv (wrap64 (wrap32 (t298))) (wrap64 (wrap32 (t299))))) % 4294967296) t306), .int .i64 a2] rfl (by (try simp only [List.map_toArray, List.map_cons, List.map_nil]); first | done | rfl | (simp only [List.length_drop, List.length_take]; rfl)) ?_; (with_reducible refine (bits_Signs.calls (Go.bits .and .u32 ((wrap64 (Int.tdiv (wrap64 (wrap32 (t298))) (wrap64 (wrap32 (t299))))) % 4294967296) t306) a2 t308 t309 t310 t311 _ A23.out).mono ?_); rintro e w25 ⟨rfl, hb⟩; refine ⟨_, rfl, ?_⟩; have n0_ := Aside0.mk (blk_below (g := gb297) (o := .cells #[.bool false, .bool false, .bool false, .bool false] 29 (0, 0)) (by (with_reducible repeat (first | refine blk_drewN ?_ _ | refine blk_drew ?_ | refine blk_alloc ?_ _)); exact BK297.out) hb); have n1_ := Aside0.mk (below_step (by repeat (first | (with_reducible first | exact HB.out | apply below_alloc | apply pw_below_drewN | apply below_drew1 | refine below_set ?_ GE297.out) | exact HB.out)) hb); clear BK297; clear HB; have BK297 := n0_; have HB := n1_; clear n0_ n1_; (try clear hb); (try clear hb2); (try clear hk); (try clear hi)) | ((with_reducible refine gate_dst (N := 15) rfl ?_); refine box_event ?hg (N := 15) ?hd (cs := #[.bool false, .bool false, .bool false, .bool false]) (t := 29) ?hr ?_; (case hd => rfl); (case hg => rfl); (case hr => first | (go_simp; done) | (go_simp; rfl)); intro gb312 hg w26 hbox hb; have n0_ := Aside0.mk (blk_below (g := gb297) (o := .cells #[.bool false, .bool false, .bool false, .bool false] 29 (0, 0)) (by (with_reducible repeat (first | refine blk_drewN ?_ _ | refine blk_drew ?_ | refine blk_alloc ?_ _)); exact BK297.out) hb); have n1_ := Aside0.mk (below_step (by repeat (first | (with_reducible first | exact HB.out | apply below_alloc | apply pw_below_drewN | apply below_drew1 | refine below_set ?_ GE297.out) | exact HB.out)) hb); have n2_ := Aside0.mk (hbox); have n3_ := Aside0.mk ((by rw [hg]; exact (below_size (by repeat (first | (with_reducible first | exact HB.out | apply below_alloc | apply pw_below_drewN | apply below_drew1 | refine below_set ?_ GE297.out) | exact HB.out))) : w.heap.size ≤ gb312)); have n4_ := Aside0.mk ((by rw [hg]; exact (below_size (by repeat (first | (with_reducible first | exact HB.out | apply below_alloc | apply pw_below_drewN | apply below_drew1 | refine below_set ?_ GE297.out) | exact HB.out))) : w.heap.size ≤ gb312)); have n5_ := Aside0.mk ((by rw [hg]; exact Nat.ne_of_lt (blk_lt (g := gb297) (o := .cells #[.bool false, .bool false, .bool false, .bool false] 29 (0, 0)) (by (with_reducible repeat (first | refine blk_drewN ?_ _ | refine blk_drew ?_ | refine blk_alloc ?_ _)); exact BK297.out)) : gb297 ≠ gb312)); have n6_ := Aside0.mk ((by rw [hg]; exact Nat.ne_of_gt (blk_lt (g := gb297) (o := .cells #[.bool false, .bool false, .bool false, .bool false] 29 (0, 0)) (by (with_reducible repeat (first | refine blk_drewN ?_ _ | refine blk_drew ?_ | refine blk_alloc ?_ _)); exact BK297.out)) : gb312 ≠ gb297)); clear BK297; clear HB; have BK297 := n0_; have HB := n1_; have BK312 := n2_; have GW312 := n3_; have GE312 := n4_; have NB297_312 := n5_; have NB312_297 := n6_; clear n0_ n1_ n2_ n3_ n4_ n5_ n6_; clear hb hbox hg; have hnb27 := NB312_297.out; have hnc27 := NB297_312.out; have hcz28_0 : w26.cell? ⟨gb312, 0, none⟩ = some (.bool false) := (blk_cell BK312.out 0).trans rfl; have hcz28_1 : w26.cell? ⟨gb312, 1, none⟩ = some (.bool false) := (blk_cell BK312.out 1).trans rfl; have hcz28_2 : w26.cell? ⟨gb312, 2, none⟩ = some (.bool false) := (blk_cell BK312.out 2).trans rfl; have hcz28_3 : w26.cell? ⟨gb312, 3, none⟩ = some (.bool false) := (blk_cell BK312.out 3).trans rfl; have hfz28_0 := blk_frozen BK312.out 0; have hfz28_1 := blk_frozen BK312.out 1; have hfz28_2 := blk_frozen BK312.out 2; have hfz28_3 := blk_frozen BK312.out 3))
      have n0_ : Aside0 ((((((w26.setCell ⟨gb312, 0, none⟩ (.bool t308)).setCell ⟨gb312, 1, none⟩ (.bool t309)).setCell ⟨gb312, 2, none⟩ (.bool t310)).setCell ⟨gb312, 3, none⟩ (.bool t311)).setCell ⟨gb312, 2, none⟩ (.bool false)).heap[gb297]? = some (.cells #[.bool false, .bool false, .bool false, .bool false] 29 (0, 0))) := ⟨by (with_reducible repeat (first | refine blk_drewN ?_ _ | refine blk_drew ?_ | refine blk_alloc ?_ _)); refine blk_far ?_ NB297_312.out _; (with_reducible repeat (first | refine blk_drewN ?_ _ | refine blk_drew ?_ | refine blk_alloc ?_ _)); refine blk_far ?_ NB297_312.out _; (with_reducible repeat (first | refine blk_drewN ?_ _ | refine blk_drew ?_ | refine blk_alloc ?_ _)); refine blk_far ?_ NB297_312.out _; (with_reducible repeat (first | refine blk_drewN ?_ _ | refine blk_drew ?_ | refine blk_alloc ?_ _)); refine blk_far ?_ NB297_312.out _; (with_reducible repeat (first | refine blk_drewN ?_ _ | refine blk_drew ?_ | refine blk_alloc ?_ _)); refine blk_far ?_ NB297_312.out _; (with_reducible repeat (first | refine blk_drewN ?_ _ | refine blk_drew ?_ | refine blk_alloc ?_ _)); exact BK297.out⟩
      have n1_ : Aside0 ((((((w26.setCell ⟨gb312, 0, none⟩ (.bool t308)).setCell ⟨gb312, 1, none⟩ (.bool t309)).setCell ⟨gb312, 2, none⟩ (.bool t310)).setCell ⟨gb312, 3, none⟩ (.bool t311)).setCell ⟨gb312, 2, none⟩ (.bool false)).heap[gb312]? = some (.cells #[.bool t308, .bool t309, .bool false, .bool t311] 29 (0, 0))) := ⟨by (with_reducible repeat (first | refine blk_drewN ?_ _ | refine blk_drew ?_ | refine blk_alloc ?_ _)); refine blk_put (cs := #[.bool t308, .bool t309, .bool t310, .bool t311]) ?_ 2 _ rfl; (with_reducible repeat (first | refine blk_drewN ?_ _ | refine blk_drew ?_ | refine blk_alloc ?_ _)); refine blk_put (cs := #[.bool t308, .bool t309, .bool t310, .bool false]) ?_ 3 _ rfl; (with_reducible repeat (first | refine blk_drewN ?_ _ | refine blk_drew ?_ | refine blk_alloc ?_ _)); refine blk_put (cs := #[.bool t308, .bool t309, .bool false, .bool false]) ?_ 2 _ rfl; (with_reducible repeat (first | refine blk_drewN ?_ _ | refine blk_drew ?_ | refine blk_alloc ?_ _)); refine blk_put (cs := #[.bool t308, .bool false, .bool false, .bool false]) ?_ 1 _ rfl; (with_reducible repeat (first | refine blk_drewN ?_ _ | refine blk_drew ?_ | refine blk_alloc ?_ _)); refine blk_put (cs := #[.bool false, .bool false, .bool false, .bool false]) ?_ 0 _ rfl; (with_reducible repeat (first | refine blk_drewN ?_ _ | refine blk_drew ?_ | refine blk_alloc ?_ _)); exact BK312.out⟩
      have n2_ : Aside0 (Below w.heap.size w (((((w26.setCell ⟨gb312, 0, none⟩ (.bool t308)).setCell ⟨gb312, 1, none⟩ (.bool t309)).setCell ⟨gb312, 2, none⟩ (.bool t310)).setCell ⟨gb312, 3, none⟩ (.bool t311)).setCell ⟨gb312, 2, none⟩ (.bool false))) := ⟨by repeat (first | (with_reducible first | exact HB.out | apply below_alloc | apply pw_below_drewN | apply below_drew1 | refine below_set ?_ GE297.out | refine below_set ?_ GE312.out) | exact HB.out)⟩
      (try clear BK297)
      (try clear BK312)
      (try clear HB)
      (repeat rw [own_setCell_drewN]); (repeat rw [World.drewN_drewN])
      generalize (((((w26.setCell ⟨gb312, 0, none⟩ (.bool t308)).setCell ⟨gb312, 1, none⟩ (.bool t309)).setCell ⟨gb312, 2, none⟩ (.bool t310)).setCell ⟨gb312, 3, none⟩ (.bool t311)).setCell ⟨gb312, 2, none⟩ (.bool false)) = w29 at n0_ n1_ n2_ ⊢
      have BK297 := n0_
      have BK312 := n1_
      have HB := n2_
      clear n0_ n1_ n2_
      have n0_ := Aside0.mk (blk_drew BK297.out)
      have n1_ := Aside0.mk (blk_drew BK312.out)
      have n2_ := Aside0.mk (below_drew1 HB.out)
      clear BK297
      clear BK312
      clear HB
      have BK297 := n0_
      have BK312 := n1_
      have HB := n2_
      clear n0_ n1_ n2_
      refine start_ (n := 7) (S := fun w' => w'.cell? ⟨gb312, 0, none⟩ = some (.bool t308) ∧ w'.cell? ⟨gb312, 1, none⟩ = some (.bool t309) ∧ w'.cell? ⟨gb312, 2, none⟩ = some (.bool false) ∧ w'.cell? ⟨gb312, 3, none⟩ = some (.bool t311)) (ds := []) #[false, false, false, false, false, false, false] (by kernel_rfl) rfl rfl ⟨(blk_cell BK312.out 0).trans rfl, (blk_cell BK312.out 1).trans rfl, (blk_cell BK312.out 2).trans rfl, (blk_cell BK312.out 3).trans rfl⟩ (fun hHeld => ?_)
      generalize w29.drew = w30 at BK297 BK312 HB hHeld ⊢
      refine pure_ (i := 0) (N := some 53) (v := ?_) (a' := ?_) #[true, false, false, false, false, false, false] rfl rfl (by kernel_rfl) (fun _ _ _ h => h) (Or.inl ⟨by rfl, ?_⟩) ?_ ?_
      rotate_left
      · intro w'
        go_simp
        with_reducible rfl
      rotate_left
      · simp only [Act.put, List.setIfInBounds_toArray, List.set_cons_zero, List.set_cons_succ, i64_w, i32_w]
        rfl
      refine pure_ (i := 2) (N := some 55) (v := ?_) (a' := ?_) #[true, false, true, false, false, false, false] rfl rfl (by kernel_rfl) (fun _ _ _ h => h) (Or.inl ⟨by rfl, ?_⟩) ?_ ?_
      rotate_left
      · intro w'
        go_simp
        with_reducible rfl
      rotate_left
      · simp only [Act.put, List.setIfInBounds_toArray, List.set_cons_zero, List.set_cons_succ, i64_w, i32_w]
        rfl
      refine pure_ (i := 3) (N := some 56) (v := ?_) (a' := ?_) #[true, false, true, true, false, false, false] rfl rfl (by kernel_rfl) (fun _ _ _ h => h) (Or.inl ⟨by rfl, ?_⟩) ?_ ?_
      rotate_left
      · intro w'
        go_simp
        with_reducible rfl
      rotate_left
      · simp only [Act.put, List.setIfInBounds_toArray, List.set_cons_zero, List.set_cons_succ, i64_w, i32_w]
        rfl
      refine pure_ (i := 4) (N := some 6) (v := ?_) (a' := ?_) #[true, false, true, true, true, false, false] rfl rfl (by kernel_rfl) (fun _ _ _ h => h) (Or.inl ⟨by rfl, ?_⟩) ?_ ?_
      rotate_left
      · intro w'
        go_simp
        with_reducible rfl
      rotate_left
      · simp only [Act.put, List.setIfInBounds_toArray, List.set_cons_zero, List.set_cons_succ, i64_w, i32_w]
        rfl
      refine take_ (i := 1) (N := some 54) (v := ?_) (a' := ?_) #[true, true, true, true, true, false, false] rfl rfl (by kernel_rfl) (fun _ _ _ h => h) (Or.inl ⟨by rfl, ?_⟩) hHeld ?_ ?_
      rotate_left
      · rintro w' ⟨s0, s1, s2, s3⟩
        go_simp
        with_reducible rfl
      rotate_left
      · simp only [Act.put, List.setIfInBounds_toArray, List.set_cons_zero, List.set_cons_succ, i64_w, i32_w]
        rfl
      refine one_ (i := 5) (N := none) #[true, true, true, true, true, true, false] rfl rfl (by kernel_rfl) (by decide) (fun K hK => ?_)
      have hs31 : w30.cell? ⟨gb297, 0, none⟩ = some (.bool false) := (blk_cell BK297.out 0).trans rfl
      have hfs31 := blk_frozen BK297.out 0
      have hns31_1 := NB312_297.out
      have hms31_1 := NB297_312.out
      have hs32 : w30.cell? ⟨gb297, 1, none⟩ = some (.bool false) := (blk_cell BK297.out 1).trans rfl
      have hfs32 := blk_frozen BK297.out 1
      have hns32_1 := NB312_297.out
      have hms32_1 := NB297_312.out
      have hs33 : w30.cell? ⟨gb297, 2, none⟩ = some (.bool false) := (blk_cell BK297.out 2).trans rfl
      have hfs33 := blk_frozen BK297.out 2
      have hns33_1 := NB312_297.out
      have hms33_1 := NB297_312.out
      have hs34 : w30.cell? ⟨gb297, 3, none⟩ = some (.bool false) := (blk_cell BK297.out 3).trans rfl
      have hfs34 := blk_frozen BK297.out 3
      have hns34_1 := NB312_297.out
      have hms34_1 := NB297_312.out
      refine skip_ (w1 := ?_) (by rfl) rfl ?_ ?_
      rotate_left
      · go_simp
        rfl
      refine hK.out _ _ ⟨((cell_far (p := ⟨gb297, _, none⟩) NB312_297.out _).trans (((cell_far (p := ⟨gb297, _, none⟩) NB312_297.out _).trans (((cell_far (p := ⟨gb297, _, none⟩) NB312_297.out _).trans (((cell_far (p := ⟨gb297, _, none⟩) NB312_297.out _).trans (hHeld.1)))))))), ((cell_far (p := ⟨gb297, _, none⟩) NB312_297.out _).trans (((cell_far (p := ⟨gb297, _, none⟩) NB312_297.out _).trans (((cell_far (p := ⟨gb297, _, none⟩) NB312_297.out _).trans (((cell_far (p := ⟨gb297, _, none⟩) NB312_297.out _).trans (hHeld.2.1)))))))), ((cell_far (p := ⟨gb297, _, none⟩) NB312_297.out _).trans (((cell_far (p := ⟨gb297, _, none⟩) NB312_297.out _).trans (((cell_far (p := ⟨gb297, _, none⟩) NB312_297.out _).trans (((cell_far (p := ⟨gb297, _, none⟩) NB312_297.out _).trans (hHeld.2.2.1)))))))), ((cell_far (p := ⟨gb297, _, none⟩) NB312_297.out _).trans (((cell_far (p := ⟨gb297, _, none⟩) NB312_297.out _).trans (((cell_far (p := ⟨gb297, _, none⟩) NB312_297.out _).trans (((cell_far (p := ⟨gb297, _, none⟩) NB312_297.out _).trans (hHeld.2.2.2))))))))⟩ (fun hHeld => ?_)
      clear hK K
      refine pure_ (i := 6) (N := some 8) (v := ?_) (a' := ?_) #[true, true, true, true, true, true, true] rfl rfl (by kernel_rfl) (fun _ _ _ h => h) (Or.inl ⟨by rfl, ?_⟩) ?_ ?_
      rotate_left
      · intro w'
        go_simp
        with_reducible rfl
      rotate_left
      · simp only [Act.put, List.setIfInBounds_toArray, List.set_cons_zero, List.set_cons_succ, i64_w, i32_w]
        rfl
      refine done_ (by kernel_rfl) ?_
      try go_wp2
      refine bodyPost_ret (results_list (rs := [.tmp 6, .cell 7 29, .tmp 8]) rfl (by simp) (.tmp (.cell gb297 29 #[.bool t308, .bool t309, .bool false, .bool t311] (0, 0) _ rfl (by (with_reducible repeat (first | refine blk_drewN ?_ _ | refine blk_drew ?_ | refine blk_alloc ?_ _)); refine blk_put (cs := #[.bool t308, .bool t309, .bool false, .bool false]) ?_ 3 _ rfl; (with_reducible repeat (first | refine blk_drewN ?_ _ | refine blk_drew ?_ | refine blk_alloc ?_ _)); refine blk_put (cs := #[.bool t308, .bool t309, .bool false, .bool false]) ?_ 2 _ rfl; (with_reducible repeat (first | refine blk_drewN ?_ _ | refine blk_drew ?_ | refine blk_alloc ?_ _)); refine blk_put (cs := #[.bool t308, .bool false, .bool false, .bool false]) ?_ 1 _ rfl; (with_reducible repeat (first | refine blk_drewN ?_ _ | refine blk_drew ?_ | refine blk_alloc ?_ _)); refine blk_put (cs := #[.bool false, .bool false, .bool false, .bool false]) ?_ 0 _ rfl; (with_reducible repeat (first | refine blk_drewN ?_ _ | refine blk_drew ?_ | refine blk_alloc ?_ _)); exact BK297.out) Try.underlying29 rfl (by kernel_rfl) (.tmp .nil)))) rfl ?_
      exact ⟨by first | rfl | (simp [errW_none, errW_some] <;> rfl) | (simp [*, errW_none, errW_some] <;> rfl), by repeat (first | (with_reducible first | exact HB.out | apply below_alloc | apply pw_below_drewN | apply below_drew1 | refine below_set ?_ GE297.out | refine below_set ?_ GE312.out) | exact HB.out)⟩
    · rw [if_neg c22] at H
      have c22b0 : ((wrap64 (wrap32 (t307))) == (wrap64 (Int.tdiv (wrap64 (wrap32 (t298))) (wrap64 (wrap32 (t299)))))) = false := beq_eq_false_iff_ne.mpr c22
      have c22b1 : ((wrap64 (wrap32 (t307))) != (wrap64 (Int.tdiv (wrap64 (wrap32 (t298))) (wrap64 (wrap32 (t299)))))) = true := bne_iff_ne.mpr c22
      replace H := Option.bind_eq_some_iff.mp H
      obtain ⟨⟨t313, t314, t315, t316⟩, A350, H⟩ := H
      replace H : (some (Go.bits .and .u32 a0 t300, t313, t314, true, t316, ((wrap64 (wrap32 (t299))) != 0))) = some (r1, r2, r3, r4, r5, r6) := H
      have A35 := Aside0.mk A350
      clear A350
      simp only [Option.some.injEq, Prod.mk.injEq] at H
      obtain ⟨rfl, rfl, rfl, rfl, rfl, rfl⟩ := H
      go_enter Try.func38, Try.ntmps38
      try go_wp2_with (first | ((with_reducible refine gate_dst (N := 7) rfl ?_); refine box_event ?hg (N := 7) ?hd (cs := #[.bool false, .bool false, .bool false, .bool false]) (t := 29) ?hr ?_; (case hd => rfl); (case hg => rfl); (case hr => first | (go_simp; done) | (go_simp; rfl)); intro gb297 hg w36 hbox hb; have n0_ := Aside0.mk (below_step (by repeat (first | (with_reducible first | exact HB.out | apply below_alloc | apply pw_below_drewN | apply below_drew1) | exact HB.out)) hb); have n1_ := Aside0.mk (hbox); have n2_ := Aside0.mk ((by rw [hg]; exact (below_size (by repeat (first | (with_reducible first | exact HB.out | apply below_alloc | apply pw_below_drewN | apply below_drew1) | exact HB.out))) : w.heap.size ≤ gb297)); have n3_ := Aside0.mk ((by rw [hg]; exact (below_size (by repeat (first | (with_reducible first | exact HB.out | apply below_alloc | apply pw_below_drewN | apply below_drew1) | exact HB.out))) : w.heap.size ≤ gb297)); clear HB; have HB := n0_; have BK297 := n1_; have GW297 := n2_; have GE297 := n3_; clear n0_ n1_ n2_ n3_; clear hb hbox hg) | ((with_reducible refine gate_callee (f := 25) rfl ?_); refine goesL_ (some 18) rfl rfl Try.func25 (by kernel_rfl) rfl #[.int .u32 a0, .int .i64 a2] rfl (by (try simp only [List.map_toArray, List.map_cons, List.map_nil]); first | done | rfl | (simp only [List.length_drop, List.length_take]; rfl)) ?_; (with_reducible refine (bits_Extend.calls a0 a2 t298 _ A4.out).mono ?_); rintro e w' ⟨rfl, ⟨nd, rfl⟩⟩; refine ⟨_, rfl, ?_⟩; (try (rw [drewN_self w36]; generalize hq_ : World.drewN w36 _ = w36; have n0_ : Aside0 (w36.heap[gb297]? = some (.cells #[.bool false, .bool false, .bool false, .bool false] 29 (0, 0))) := ⟨by rw [← hq_]; exact (by (with_reducible repeat (first | refine blk_drewN ?_ _ | refine blk_drew ?_ | refine blk_alloc ?_ _)); exact BK297.out)⟩; have n1_ : Aside0 (Below w.heap.size w w36) := ⟨by rw [← hq_]; exact (by repeat (first | (with_reducible first | exact HB.out | apply below_alloc | apply pw_below_drewN | apply below_drew1 | refine below_set ?_ GE297.out) | exact HB.out))⟩; clear BK297 HB hq_; have BK297 := n0_; have HB := n1_; clear n0_ n1_))) | ((with_reducible refine gate_callee (f := 25) rfl ?_); refine goesL_ (some 23) rfl rfl Try.func25 (by kernel_rfl) rfl #[.int .u32 a1, .int .i64 a2] rfl (by (try simp only [List.map_toArray, List.map_cons, List.map_nil]); first | done | rfl | (simp only [List.length_drop, List.length_take]; rfl)) ?_; (with_reducible refine (bits_Extend.calls a1 a2 t299 _ A5.out).mono ?_); rintro e w' ⟨rfl, ⟨nd, rfl⟩⟩; refine ⟨_, rfl, ?_⟩; (try (rw [drewN_self w36]; generalize hq_ : World.drewN w36 _ = w36; have n0_ : Aside0 (w36.heap[gb297]? = some (.cells #[.bool false, .bool false, .bool false, .bool false] 29 (0, 0))) := ⟨by rw [← hq_]; exact (by (with_reducible repeat (first | refine blk_drewN ?_ _ | refine blk_drew ?_ | refine blk_alloc ?_ _)); exact BK297.out)⟩; have n1_ : Aside0 (Below w.heap.size w w36) := ⟨by rw [← hq_]; exact (by repeat (first | (with_reducible first | exact HB.out | apply below_alloc | apply pw_below_drewN | apply below_drew1 | refine below_set ?_ GE297.out) | exact HB.out))⟩; clear BK297 HB hq_; have BK297 := n0_; have HB := n1_; clear n0_ n1_))) | ((with_reducible refine gate_callee (f := 19) rfl ?_); refine goesL_ (some 28) rfl rfl Try.func19 (by kernel_rfl) rfl #[.int .i64 a2] rfl (by (try simp only [List.map_toArray, List.map_cons, List.map_nil]); first | done | rfl | (simp only [List.length_drop, List.length_take]; rfl)) ?_; (with_reducible refine (bits_Mask.calls a2 t300 _ A6.out).mono ?_); rintro e w' ⟨rfl, ⟨nd, rfl⟩⟩; refine ⟨_, rfl, ?_⟩; (try (rw [drewN_self w36]; generalize hq_ : World.drewN w36 _ = w36; have n0_ : Aside0 (w36.heap[gb297]? = some (.cells #[.bool false, .bool false, .bool false, .bool false] 29 (0, 0))) := ⟨by rw [← hq_]; exact (by (with_reducible repeat (first | refine blk_drewN ?_ _ | refine blk_drew ?_ | refine blk_alloc ?_ _)); exact BK297.out)⟩; have n1_ : Aside0 (Below w.heap.size w w36) := ⟨by rw [← hq_]; exact (by repeat (first | (with_reducible first | exact HB.out | apply below_alloc | apply pw_below_drewN | apply below_drew1 | refine below_set ?_ GE297.out) | exact HB.out))⟩; clear BK297 HB hq_; have BK297 := n0_; have HB := n1_; clear n0_ n1_))) | ((with_reducible refine gate_callee (f := 19) rfl ?_); refine goesL_ (some 38) rfl rfl Try.func19 (by kernel_rfl) rfl #[.int .i64 a2] rfl (by (try simp only [List.map_toArray, List.map_cons, List.map_nil]); first | done | rfl | (simp only [List.length_drop, List.length_take]; rfl)) ?_; (with_reducible refine (bits_Mask.calls a2 t306 _ A20.out).mono ?_); rintro e w' ⟨rfl, ⟨nd, rfl⟩⟩; refine ⟨_, rfl, ?_⟩; (try (rw [drewN_self w36]; generalize hq_ : World.drewN w36 _ = w36; have n0_ : Aside0 (w36.heap[gb297]? = some (.cells #[.bool false, .bool false, .bool false, .bool false] 29 (0, 0))) := ⟨by rw [← hq_]; exact (by (with_reducible repeat (first | refine blk_drewN ?_ _ | refine blk_drew ?_ | refine blk_alloc ?_ _)); exact BK297.out)⟩; have n1_ : Aside0 (Below w.heap.size w w36) := ⟨by rw [← hq_]; exact (by repeat (first | (with_reducible first | exact HB.out | apply below_alloc | apply pw_below_drewN | apply below_drew1 | refine below_set ?_ GE297.out) | exact HB.out))⟩; clear BK297 HB hq_; have BK297 := n0_; have HB := n1_; clear n0_ n1_))) | ((with_reducible refine gate_callee (f := 25) rfl ?_); refine goesL_ (some 42) rfl rfl Try.func25 (by kernel_rfl) rfl #[.int .u32 (Go.bits .and .u32 ((wrap64 (Int.tdiv (wrap64 (wrap32 (t298))) (wrap64 (wrap32 (t299))))) % 4294967296) t306), .int .i64 a2] rfl (by (try simp only [List.map_toArray, List.map_cons, List.map_nil]); first | done | rfl | (simp only [List.length_drop, List.length_take]; rfl)) ?_; (with_reducible refine (bits_Extend.calls (Go.bits .and .u32 ((wrap64 (Int.tdiv (wrap64 (wrap32 (t298))) (wrap64 (wrap32 (t299))))) % 4294967296) t306) a2 t307 _ A21.out).mono ?_); rintro e w' ⟨rfl, ⟨nd, rfl⟩⟩; refine ⟨_, rfl, ?_⟩; (try (rw [drewN_self w36]; generalize hq_ : World.drewN w36 _ = w36; have n0_ : Aside0 (w36.heap[gb297]? = some (.cells #[.bool false, .bool false, .bool false, .bool false] 29 (0, 0))) := ⟨by rw [← hq_]; exact (by (with_reducible repeat (first | refine blk_drewN ?_ _ | refine blk_drew ?_ | refine blk_alloc ?_ _)); exact BK297.out)⟩; have n1_ : Aside0 (Below w.heap.size w w36) := ⟨by rw [← hq_]; exact (by repeat (first | (with_reducible first | exact HB.out | apply below_alloc | apply pw_below_drewN | apply below_drew1 | refine below_set ?_ GE297.out) | exact HB.out))⟩; clear BK297 HB hq_; have BK297 := n0_; have HB := n1_; clear n0_ n1_))) | ((with_reducible refine gate_callee (f := 27) rfl ?_); refine goesL_ (some 50) rfl rfl Try.func27 (by kernel_rfl) rfl #[.int .u32 (Go.bits .and .u32 a0 t300), .int .i64 a2] rfl (by (try simp only [List.map_toArray, List.map_cons, List.map_nil]); first | done | rfl | (simp only [List.length_drop, List.length_take]; rfl)) ?_; (with_reducible refine (bits_Signs.calls (Go.bits .and .u32 a0 t300) a2 t313 t314 t315 t316 _ A35.out).mono ?_); rintro e w37 ⟨rfl, hb⟩; refine ⟨_, rfl, ?_⟩; have n0_ := Aside0.mk (blk_below (g := gb297) (o := .cells #[.bool false, .bool false, .bool false, .bool false] 29 (0, 0)) (by (with_reducible repeat (first | refine blk_drewN ?_ _ | refine blk_drew ?_ | refine blk_alloc ?_ _)); exact BK297.out) hb); have n1_ := Aside0.mk (below_step (by repeat (first | (with_reducible first | exact HB.out | apply below_alloc | apply pw_below_drewN | apply below_drew1 | refine below_set ?_ GE297.out) | exact HB.out)) hb); clear BK297; clear HB; have BK297 := n0_; have HB := n1_; clear n0_ n1_; (try clear hb); (try clear hb2); (try clear hk); (try clear hi)) | ((with_reducible refine gate_dst (N := 15) rfl ?_); refine box_event ?hg (N := 15) ?hd (cs := #[.bool false, .bool false, .bool false, .bool false]) (t := 29) ?hr ?_; (case hd => rfl); (case hg => rfl); (case hr => first | (go_simp; done) | (go_simp; rfl)); intro gb317 hg w38 hbox hb; have n0_ := Aside0.mk (blk_below (g := gb297) (o := .cells #[.bool false, .bool false, .bool false, .bool false] 29 (0, 0)) (by (with_reducible repeat (first | refine blk_drewN ?_ _ | refine blk_drew ?_ | refine blk_alloc ?_ _)); exact BK297.out) hb); have n1_ := Aside0.mk (below_step (by repeat (first | (with_reducible first | exact HB.out | apply below_alloc | apply pw_below_drewN | apply below_drew1 | refine below_set ?_ GE297.out) | exact HB.out)) hb); have n2_ := Aside0.mk (hbox); have n3_ := Aside0.mk ((by rw [hg]; exact (below_size (by repeat (first | (with_reducible first | exact HB.out | apply below_alloc | apply pw_below_drewN | apply below_drew1 | refine below_set ?_ GE297.out) | exact HB.out))) : w.heap.size ≤ gb317)); have n4_ := Aside0.mk ((by rw [hg]; exact (below_size (by repeat (first | (with_reducible first | exact HB.out | apply below_alloc | apply pw_below_drewN | apply below_drew1 | refine below_set ?_ GE297.out) | exact HB.out))) : w.heap.size ≤ gb317)); have n5_ := Aside0.mk ((by rw [hg]; exact Nat.ne_of_lt (blk_lt (g := gb297) (o := .cells #[.bool false, .bool false, .bool false, .bool false] 29 (0, 0)) (by (with_reducible repeat (first | refine blk_drewN ?_ _ | refine blk_drew ?_ | refine blk_alloc ?_ _)); exact BK297.out)) : gb297 ≠ gb317)); have n6_ := Aside0.mk ((by rw [hg]; exact Nat.ne_of_gt (blk_lt (g := gb297) (o := .cells #[.bool false, .bool false, .bool false, .bool false] 29 (0, 0)) (by (with_reducible repeat (first | refine blk_drewN ?_ _ | refine blk_drew ?_ | refine blk_alloc ?_ _)); exact BK297.out)) : gb317 ≠ gb297)); clear BK297; clear HB; have BK297 := n0_; have HB := n1_; have BK317 := n2_; have GW317 := n3_; have GE317 := n4_; have NB297_317 := n5_; have NB317_297 := n6_; clear n0_ n1_ n2_ n3_ n4_ n5_ n6_; clear hb hbox hg; have hnb39 := NB317_297.out; have hnc39 := NB297_317.out; have hcz40_0 : w38.cell? ⟨gb317, 0, none⟩ = some (.bool false) := (blk_cell BK317.out 0).trans rfl; have hcz40_1 : w38.cell? ⟨gb317, 1, none⟩ = some (.bool false) := (blk_cell BK317.out 1).trans rfl; have hcz40_2 : w38.cell? ⟨gb317, 2, none⟩ = some (.bool false) := (blk_cell BK317.out 2).trans rfl; have hcz40_3 : w38.cell? ⟨gb317, 3, none⟩ = some (.bool false) := (blk_cell BK317.out 3).trans rfl; have hfz40_0 := blk_frozen BK317.out 0; have hfz40_1 := blk_frozen BK317.out 1; have hfz40_2 := blk_frozen BK317.out 2; have hfz40_3 := blk_frozen BK317.out 3))
      have n0_ : Aside0 ((((((w38.setCell ⟨gb317, 0, none⟩ (.bool t313)).setCell ⟨gb317, 1, none⟩ (.bool t314)).setCell ⟨gb317, 2, none⟩ (.bool t315)).setCell ⟨gb317, 3, none⟩ (.bool t316)).setCell ⟨gb317, 2, none⟩ (.bool true)).heap[gb297]? = some (.cells #[.bool false, .bool false, .bool false, .bool false] 29 (0, 0))) := ⟨by (with_reducible repeat (first | refine blk_drewN ?_ _ | refine blk_drew ?_ | refine blk_alloc ?_ _)); refine blk_far ?_ NB297_317.out _; (with_reducible repeat (first | refine blk_drewN ?_ _ | refine blk_drew ?_ | refine blk_alloc ?_ _)); refine blk_far ?_ NB297_317.out _; (with_reducible repeat (first | refine blk_drewN ?_ _ | refine blk_drew ?_ | refine blk_alloc ?_ _)); refine blk_far ?_ NB297_317.out _; (with_reducible repeat (first | refine blk_drewN ?_ _ | refine blk_drew ?_ | refine blk_alloc ?_ _)); refine blk_far ?_ NB297_317.out _; (with_reducible repeat (first | refine blk_drewN ?_ _ | refine blk_drew ?_ | refine blk_alloc ?_ _)); refine blk_far ?_ NB297_317.out _; (with_reducible repeat (first | refine blk_drewN ?_ _ | refine blk_drew ?_ | refine blk_alloc ?_ _)); exact BK297.out⟩
      have n1_ : Aside0 ((((((w38.setCell ⟨gb317, 0, none⟩ (.bool t313)).setCell ⟨gb317, 1, none⟩ (.bool t314)).setCell ⟨gb317, 2, none⟩ (.bool t315)).setCell ⟨gb317, 3, none⟩ (.bool t316)).setCell ⟨gb317, 2, none⟩ (.bool true)).heap[gb317]? = some (.cells #[.bool t313, .bool t314, .bool true, .bool t316] 29 (0, 0))) := ⟨by (with_reducible repeat (first | refine blk_drewN ?_ _ | refine blk_drew ?_ | refine blk_alloc ?_ _)); refine blk_put (cs := #[.bool t313, .bool t314, .bool t315, .bool t316]) ?_ 2 _ rfl; (with_reducible repeat (first | refine blk_drewN ?_ _ | refine blk_drew ?_ | refine blk_alloc ?_ _)); refine blk_put (cs := #[.bool t313, .bool t314, .bool t315, .bool false]) ?_ 3 _ rfl; (with_reducible repeat (first | refine blk_drewN ?_ _ | refine blk_drew ?_ | refine blk_alloc ?_ _)); refine blk_put (cs := #[.bool t313, .bool t314, .bool false, .bool false]) ?_ 2 _ rfl; (with_reducible repeat (first | refine blk_drewN ?_ _ | refine blk_drew ?_ | refine blk_alloc ?_ _)); refine blk_put (cs := #[.bool t313, .bool false, .bool false, .bool false]) ?_ 1 _ rfl; (with_reducible repeat (first | refine blk_drewN ?_ _ | refine blk_drew ?_ | refine blk_alloc ?_ _)); refine blk_put (cs := #[.bool false, .bool false, .bool false, .bool false]) ?_ 0 _ rfl; (with_reducible repeat (first | refine blk_drewN ?_ _ | refine blk_drew ?_ | refine blk_alloc ?_ _)); exact BK317.out⟩
      have n2_ : Aside0 (Below w.heap.size w (((((w38.setCell ⟨gb317, 0, none⟩ (.bool t313)).setCell ⟨gb317, 1, none⟩ (.bool t314)).setCell ⟨gb317, 2, none⟩ (.bool t315)).setCell ⟨gb317, 3, none⟩ (.bool t316)).setCell ⟨gb317, 2, none⟩ (.bool true))) := ⟨by repeat (first | (with_reducible first | exact HB.out | apply below_alloc | apply pw_below_drewN | apply below_drew1 | refine below_set ?_ GE297.out | refine below_set ?_ GE317.out) | exact HB.out)⟩
      (try clear BK297)
      (try clear BK317)
      (try clear HB)
      (repeat rw [own_setCell_drewN]); (repeat rw [World.drewN_drewN])
      generalize (((((w38.setCell ⟨gb317, 0, none⟩ (.bool t313)).setCell ⟨gb317, 1, none⟩ (.bool t314)).setCell ⟨gb317, 2, none⟩ (.bool t315)).setCell ⟨gb317, 3, none⟩ (.bool t316)).setCell ⟨gb317, 2, none⟩ (.bool true)) = w41 at n0_ n1_ n2_ ⊢
      have BK297 := n0_
      have BK317 := n1_
      have HB := n2_
      clear n0_ n1_ n2_
      have n0_ := Aside0.mk (blk_drew BK297.out)
      have n1_ := Aside0.mk (blk_drew BK317.out)
      have n2_ := Aside0.mk (below_drew1 HB.out)
      clear BK297
      clear BK317
      clear HB
      have BK297 := n0_
      have BK317 := n1_
      have HB := n2_
      clear n0_ n1_ n2_
      refine start_ (n := 7) (S := fun w' => w'.cell? ⟨gb317, 0, none⟩ = some (.bool t313) ∧ w'.cell? ⟨gb317, 1, none⟩ = some (.bool t314) ∧ w'.cell? ⟨gb317, 2, none⟩ = some (.bool true) ∧ w'.cell? ⟨gb317, 3, none⟩ = some (.bool t316)) (ds := []) #[false, false, false, false, false, false, false] (by kernel_rfl) rfl rfl ⟨(blk_cell BK317.out 0).trans rfl, (blk_cell BK317.out 1).trans rfl, (blk_cell BK317.out 2).trans rfl, (blk_cell BK317.out 3).trans rfl⟩ (fun hHeld => ?_)
      generalize w41.drew = w42 at BK297 BK317 HB hHeld ⊢
      refine pure_ (i := 0) (N := some 53) (v := ?_) (a' := ?_) #[true, false, false, false, false, false, false] rfl rfl (by kernel_rfl) (fun _ _ _ h => h) (Or.inl ⟨by rfl, ?_⟩) ?_ ?_
      rotate_left
      · intro w'
        go_simp
        with_reducible rfl
      rotate_left
      · simp only [Act.put, List.setIfInBounds_toArray, List.set_cons_zero, List.set_cons_succ, i64_w, i32_w]
        rfl
      refine pure_ (i := 2) (N := some 55) (v := ?_) (a' := ?_) #[true, false, true, false, false, false, false] rfl rfl (by kernel_rfl) (fun _ _ _ h => h) (Or.inl ⟨by rfl, ?_⟩) ?_ ?_
      rotate_left
      · intro w'
        go_simp
        with_reducible rfl
      rotate_left
      · simp only [Act.put, List.setIfInBounds_toArray, List.set_cons_zero, List.set_cons_succ, i64_w, i32_w]
        rfl
      refine pure_ (i := 3) (N := some 56) (v := ?_) (a' := ?_) #[true, false, true, true, false, false, false] rfl rfl (by kernel_rfl) (fun _ _ _ h => h) (Or.inl ⟨by rfl, ?_⟩) ?_ ?_
      rotate_left
      · intro w'
        go_simp
        with_reducible rfl
      rotate_left
      · simp only [Act.put, List.setIfInBounds_toArray, List.set_cons_zero, List.set_cons_succ, i64_w, i32_w]
        rfl
      refine pure_ (i := 4) (N := some 6) (v := ?_) (a' := ?_) #[true, false, true, true, true, false, false] rfl rfl (by kernel_rfl) (fun _ _ _ h => h) (Or.inl ⟨by rfl, ?_⟩) ?_ ?_
      rotate_left
      · intro w'
        go_simp
        with_reducible rfl
      rotate_left
      · simp only [Act.put, List.setIfInBounds_toArray, List.set_cons_zero, List.set_cons_succ, i64_w, i32_w]
        rfl
      refine take_ (i := 1) (N := some 54) (v := ?_) (a' := ?_) #[true, true, true, true, true, false, false] rfl rfl (by kernel_rfl) (fun _ _ _ h => h) (Or.inl ⟨by rfl, ?_⟩) hHeld ?_ ?_
      rotate_left
      · rintro w' ⟨s0, s1, s2, s3⟩
        go_simp
        with_reducible rfl
      rotate_left
      · simp only [Act.put, List.setIfInBounds_toArray, List.set_cons_zero, List.set_cons_succ, i64_w, i32_w]
        rfl
      refine one_ (i := 5) (N := none) #[true, true, true, true, true, true, false] rfl rfl (by kernel_rfl) (by decide) (fun K hK => ?_)
      have hs43 : w42.cell? ⟨gb297, 0, none⟩ = some (.bool false) := (blk_cell BK297.out 0).trans rfl
      have hfs43 := blk_frozen BK297.out 0
      have hns43_1 := NB317_297.out
      have hms43_1 := NB297_317.out
      have hs44 : w42.cell? ⟨gb297, 1, none⟩ = some (.bool false) := (blk_cell BK297.out 1).trans rfl
      have hfs44 := blk_frozen BK297.out 1
      have hns44_1 := NB317_297.out
      have hms44_1 := NB297_317.out
      have hs45 : w42.cell? ⟨gb297, 2, none⟩ = some (.bool false) := (blk_cell BK297.out 2).trans rfl
      have hfs45 := blk_frozen BK297.out 2
      have hns45_1 := NB317_297.out
      have hms45_1 := NB297_317.out
      have hs46 : w42.cell? ⟨gb297, 3, none⟩ = some (.bool false) := (blk_cell BK297.out 3).trans rfl
      have hfs46 := blk_frozen BK297.out 3
      have hns46_1 := NB317_297.out
      have hms46_1 := NB297_317.out
      refine skip_ (w1 := ?_) (by rfl) rfl ?_ ?_
      rotate_left
      · go_simp
        rfl
      refine hK.out _ _ ⟨((cell_far (p := ⟨gb297, _, none⟩) NB317_297.out _).trans (((cell_far (p := ⟨gb297, _, none⟩) NB317_297.out _).trans (((cell_far (p := ⟨gb297, _, none⟩) NB317_297.out _).trans (((cell_far (p := ⟨gb297, _, none⟩) NB317_297.out _).trans (hHeld.1)))))))), ((cell_far (p := ⟨gb297, _, none⟩) NB317_297.out _).trans (((cell_far (p := ⟨gb297, _, none⟩) NB317_297.out _).trans (((cell_far (p := ⟨gb297, _, none⟩) NB317_297.out _).trans (((cell_far (p := ⟨gb297, _, none⟩) NB317_297.out _).trans (hHeld.2.1)))))))), ((cell_far (p := ⟨gb297, _, none⟩) NB317_297.out _).trans (((cell_far (p := ⟨gb297, _, none⟩) NB317_297.out _).trans (((cell_far (p := ⟨gb297, _, none⟩) NB317_297.out _).trans (((cell_far (p := ⟨gb297, _, none⟩) NB317_297.out _).trans (hHeld.2.2.1)))))))), ((cell_far (p := ⟨gb297, _, none⟩) NB317_297.out _).trans (((cell_far (p := ⟨gb297, _, none⟩) NB317_297.out _).trans (((cell_far (p := ⟨gb297, _, none⟩) NB317_297.out _).trans (((cell_far (p := ⟨gb297, _, none⟩) NB317_297.out _).trans (hHeld.2.2.2))))))))⟩ (fun hHeld => ?_)
      clear hK K
      refine pure_ (i := 6) (N := some 8) (v := ?_) (a' := ?_) #[true, true, true, true, true, true, true] rfl rfl (by kernel_rfl) (fun _ _ _ h => h) (Or.inl ⟨by rfl, ?_⟩) ?_ ?_
      rotate_left
      · intro w'
        go_simp
        with_reducible rfl
      rotate_left
      · simp only [Act.put, List.setIfInBounds_toArray, List.set_cons_zero, List.set_cons_succ, i64_w, i32_w]
        rfl
      refine done_ (by kernel_rfl) ?_
      try go_wp2
      refine bodyPost_ret (results_list (rs := [.tmp 6, .cell 7 29, .tmp 8]) rfl (by simp) (.tmp (.cell gb297 29 #[.bool t313, .bool t314, .bool true, .bool t316] (0, 0) _ rfl (by (with_reducible repeat (first | refine blk_drewN ?_ _ | refine blk_drew ?_ | refine blk_alloc ?_ _)); refine blk_put (cs := #[.bool t313, .bool t314, .bool true, .bool false]) ?_ 3 _ rfl; (with_reducible repeat (first | refine blk_drewN ?_ _ | refine blk_drew ?_ | refine blk_alloc ?_ _)); refine blk_put (cs := #[.bool t313, .bool t314, .bool false, .bool false]) ?_ 2 _ rfl; (with_reducible repeat (first | refine blk_drewN ?_ _ | refine blk_drew ?_ | refine blk_alloc ?_ _)); refine blk_put (cs := #[.bool t313, .bool false, .bool false, .bool false]) ?_ 1 _ rfl; (with_reducible repeat (first | refine blk_drewN ?_ _ | refine blk_drew ?_ | refine blk_alloc ?_ _)); refine blk_put (cs := #[.bool false, .bool false, .bool false, .bool false]) ?_ 0 _ rfl; (with_reducible repeat (first | refine blk_drewN ?_ _ | refine blk_drew ?_ | refine blk_alloc ?_ _)); exact BK297.out) Try.underlying29 rfl (by kernel_rfl) (.tmp .nil)))) rfl ?_
      exact ⟨by first | rfl | (simp [errW_none, errW_some] <;> rfl) | (simp [*, errW_none, errW_some] <;> rfl), by repeat (first | (with_reducible first | exact HB.out | apply below_alloc | apply pw_below_drewN | apply below_drew1 | refine below_set ?_ GE297.out | refine below_set ?_ GE317.out) | exact HB.out)⟩

end Go.Proofs.Ytmmmifgddkfehaa.PAll
