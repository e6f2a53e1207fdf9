-- Written by wip/oprint.py, a program of this session's repo, out of the translation. Not trusted: Lean checks it.
import Derived.Test.YtmmmifgddkfehaaPAlux0
import Derived.Test.YtmmmifgddkfehaaPAlux2
import Derived.Test.YtmmmifgddkfehaaPAlux3
import Derived.Test.YtmmmifgddkfehaaPAlux5
namespace Go.Proofs.Ytmmmifgddkfehaa.PAlu
open Go.RowKit Go.Proofs.YtmmmifgddkfehaaW.PrintWords Go.Proofs.YtmmmifgddkfehaaW.PrintLast
set_option linter.unusedVariables false
set_option linter.unusedSimpArgs false

/-! ### bits_Div: function 38 -/
def bits_Div.f (a0 : Int) (a1 : Int) (a2 : Int) : Option (Int × Bool × Bool × Bool × Bool × Bool) := (bits_Extend.f a0 a2).bind fun t136 => ((bits_Extend.f a1 a2).bind fun t137 => ((bits_Mask.f a2).bind fun t138 => (if (wrap64 (wrap32 (t137))) = 0 then ((bits_Signs.f (Go.bits .and .u32 a0 t138) a2).bind fun bt139 => (some (Go.bits .and .u32 a0 t138, bt139.1, bt139.2.1, true, bt139.2.2.2, ((wrap64 (wrap32 (t137))) != 0)))) else ((bits_Mask.f a2).bind fun t144 => ((bits_Extend.f (Go.bits .and .u32 ((wrap64 (Int.tdiv (wrap64 (wrap32 (t136))) (wrap64 (wrap32 (t137))))) % 4294967296) t144) a2).bind fun t145 => (if (wrap64 (wrap32 (t145))) = (wrap64 (Int.tdiv (wrap64 (wrap32 (t136))) (wrap64 (wrap32 (t137))))) then ((bits_Signs.f (Go.bits .and .u32 ((wrap64 (Int.tdiv (wrap64 (wrap32 (t136))) (wrap64 (wrap32 (t137))))) % 4294967296) t144) a2).bind fun bt146 => (some (Go.bits .and .u32 ((wrap64 (Int.tdiv (wrap64 (wrap32 (t136))) (wrap64 (wrap32 (t137))))) % 4294967296) t144, bt146.1, bt146.2.1, false, bt146.2.2.2, ((wrap64 (wrap32 (t137))) != 0)))) else ((bits_Signs.f (Go.bits .and .u32 a0 t138) a2).bind fun bt151 => (some (Go.bits .and .u32 a0 t138, bt151.1, bt151.2.1, true, bt151.2.2.2, ((wrap64 (wrap32 (t137))) != 0))))))))))
set_option maxHeartbeats 8000000 in
set_option maxRecDepth 100000 in
theorem bits_Div.calls (a0 : Int) (a1 : Int) (a2 : Int) (r1 : Int) (r2 : Bool) (r3 : Bool) (r4 : Bool) (r5 : Bool) (r6 : Bool) (w : World) (h : bits_Div.f a0 a1 a2 = some (r1, r2, r3, r4, r5, r6)) :
    Calls Try.prog 38 #[.int .u32 a0, .int .u32 a1, .int .i64 a2] w fun e w' => e = .returned (.tuple #[.int .u32 r1, .agg #[.bool r2, .bool r3, .bool r4, .bool r5], .bool r6]) ∧ Below w.heap.size w w' := by
  have hu29 := Try.underlying29
  have HB := Aside0.mk (Below.refl w.heap.size w)
  have H : ((bits_Extend.f a0 a2).bind fun t136 => ((bits_Extend.f a1 a2).bind fun t137 => ((bits_Mask.f a2).bind fun t138 => (if (wrap64 (wrap32 (t137))) = 0 then ((bits_Signs.f (Go.bits .and .u32 a0 t138) a2).bind fun bt139 => (some (Go.bits .and .u32 a0 t138, bt139.1, bt139.2.1, true, bt139.2.2.2, ((wrap64 (wrap32 (t137))) != 0)))) else ((bits_Mask.f a2).bind fun t144 => ((bits_Extend.f (Go.bits .and .u32 ((wrap64 (Int.tdiv (wrap64 (wrap32 (t136))) (wrap64 (wrap32 (t137))))) % 4294967296) t144) a2).bind fun t145 => (if (wrap64 (wrap32 (t145))) = (wrap64 (Int.tdiv (wrap64 (wrap32 (t136))) (wrap64 (wrap32 (t137))))) then ((bits_Signs.f (Go.bits .and .u32 ((wrap64 (Int.tdiv (wrap64 (wrap32 (t136))) (wrap64 (wrap32 (t137))))) % 4294967296) t144) a2).bind fun bt146 => (some (Go.bits .and .u32 ((wrap64 (Int.tdiv (wrap64 (wrap32 (t136))) (wrap64 (wrap32 (t137))))) % 4294967296) t144, bt146.1, bt146.2.1, false, bt146.2.2.2, ((wrap64 (wrap32 (t137))) != 0)))) else ((bits_Signs.f (Go.bits .and .u32 a0 t138) a2).bind fun bt151 => (some (Go.bits .and .u32 a0 t138, bt151.1, bt151.2.1, true, bt151.2.2.2, ((wrap64 (wrap32 (t137))) != 0))))))))))) = some (r1, r2, r3, r4, r5, r6) := h
  clear h
  replace H := Option.bind_eq_some_iff.mp H
  obtain ⟨t136, A40, H⟩ := H
  replace H : ((bits_Extend.f a1 a2).bind fun t137 => ((bits_Mask.f a2).bind fun t138 => (if (wrap64 (wrap32 (t137))) = 0 then ((bits_Signs.f (Go.bits .and .u32 a0 t138) a2).bind fun bt139 => (some (Go.bits .and .u32 a0 t138, bt139.1, bt139.2.1, true, bt139.2.2.2, ((wrap64 (wrap32 (t137))) != 0)))) else ((bits_Mask.f a2).bind fun t144 => ((bits_Extend.f (Go.bits .and .u32 ((wrap64 (Int.tdiv (wrap64 (wrap32 (t136))) (wrap64 (wrap32 (t137))))) % 4294967296) t144) a2).bind fun t145 => (if (wrap64 (wrap32 (t145))) = (wrap64 (Int.tdiv (wrap64 (wrap32 (t136))) (wrap64 (wrap32 (t137))))) then ((bits_Signs.f (Go.bits .and .u32 ((wrap64 (Int.tdiv (wrap64 (wrap32 (t136))) (wrap64 (wrap32 (t137))))) % 4294967296) t144) a2).bind fun bt146 => (some (Go.bits .and .u32 ((wrap64 (Int.tdiv (wrap64 (wrap32 (t136))) (wrap64 (wrap32 (t137))))) % 4294967296) t144, bt146.1, bt146.2.1, false, bt146.2.2.2, ((wrap64 (wrap32 (t137))) != 0)))) else ((bits_Signs.f (Go.bits .and .u32 a0 t138) a2).bind fun bt151 => (some (Go.bits .and .u32 a0 t138, bt151.1, bt151.2.1, true, bt151.2.2.2, ((wrap64 (wrap32 (t137))) != 0)))))))))) = some (r1, r2, r3, r4, r5, r6) := H
  have A4 := Aside0.mk A40
  clear A40
  replace H := Option.bind_eq_some_iff.mp H
  obtain ⟨t137, A50, H⟩ := H
  replace H : ((bits_Mask.f a2).bind fun t138 => (if (wrap64 (wrap32 (t137))) = 0 then ((bits_Signs.f (Go.bits .and .u32 a0 t138) a2).bind fun bt139 => (some (Go.bits .and .u32 a0 t138, bt139.1, bt139.2.1, true, bt139.2.2.2, ((wrap64 (wrap32 (t137))) != 0)))) else ((bits_Mask.f a2).bind fun t144 => ((bits_Extend.f (Go.bits .and .u32 ((wrap64 (Int.tdiv (wrap64 (wrap32 (t136))) (wrap64 (wrap32 (t137))))) % 4294967296) t144) a2).bind fun t145 => (if (wrap64 (wrap32 (t145))) = (wrap64 (Int.tdiv (wrap64 (wrap32 (t136))) (wrap64 (wrap32 (t137))))) then ((bits_Signs.f (Go.bits .and .u32 ((wrap64 (Int.tdiv (wrap64 (wrap32 (t136))) (wrap64 (wrap32 (t137))))) % 4294967296) t144) a2).bind fun bt146 => (some (Go.bits .and .u32 ((wrap64 (Int.tdiv (wrap64 (wrap32 (t136))) (wrap64 (wrap32 (t137))))) % 4294967296) t144, bt146.1, bt146.2.1, false, bt146.2.2.2, ((wrap64 (wrap32 (t137))) != 0)))) else ((bits_Signs.f (Go.bits .and .u32 a0 t138) a2).bind fun bt151 => (some (Go.bits .and .u32 a0 t138, bt151.1, bt151.2.1, true, bt151.2.2.2, ((wrap64 (wrap32 (t137))) != 0))))))))) = some (r1, r2, r3, r4, r5, r6) := H
  have A5 := Aside0.mk A50
  clear A50
  replace H := Option.bind_eq_some_iff.mp H
  obtain ⟨t138, A60, H⟩ := H
  replace H : (if (wrap64 (wrap32 (t137))) = 0 then ((bits_Signs.f (Go.bits .and .u32 a0 t138) a2).bind fun bt139 => (some (Go.bits .and .u32 a0 t138, bt139.1, bt139.2.1, true, bt139.2.2.2, ((wrap64 (wrap32 (t137))) != 0)))) else ((bits_Mask.f a2).bind fun t144 => ((bits_Extend.f (Go.bits .and .u32 ((wrap64 (Int.tdiv (wrap64 (wrap32 (t136))) (wrap64 (wrap32 (t137))))) % 4294967296) t144) a2).bind fun t145 => (if (wrap64 (wrap32 (t145))) = (wrap64 (Int.tdiv (wrap64 (wrap32 (t136))) (wrap64 (wrap32 (t137))))) then ((bits_Signs.f (Go.bits .and .u32 ((wrap64 (Int.tdiv (wrap64 (wrap32 (t136))) (wrap64 (wrap32 (t137))))) % 4294967296) t144) a2).bind fun bt146 => (some (Go.bits .and .u32 ((wrap64 (Int.tdiv (wrap64 (wrap32 (t136))) (wrap64 (wrap32 (t137))))) % 4294967296) t144, bt146.1, bt146.2.1, false, bt146.2.2.2, ((wrap64 (wrap32 (t137))) != 0)))) else ((bits_Signs.f (Go.bits .and .u32 a0 t138) a2).bind fun bt151 => (some (Go.bits .and .u32 a0 t138, bt151.1, bt151.2.1, true, bt151.2.2.2, ((wrap64 (wrap32 (t137))) != 0)))))))) = some (r1, r2, r3, r4, r5, r6) := H
  have A6 := Aside0.mk A60
  clear A60
  by_cases c7 : (wrap64 (wrap32 (t137))) = 0
  · rw [if_pos c7] at H
    have c7b0 : ((wrap64 (wrap32 (t137))) == 0) = true := beq_iff_eq.mpr c7
    have c7b1 : ((wrap64 (wrap32 (t137))) != 0) = false := bne_eq_false_iff_eq.mpr c7
    clear c7
    replace H := Option.bind_eq_some_iff.mp H
    obtain ⟨⟨t139, t140, t141, t142⟩, A80, H⟩ := H
    replace H : (some (Go.bits .and .u32 a0 t138, t139, t140, true, t142, ((wrap64 (wrap32 (t137))) != 0))) = some (r1, r2, r3, r4, r5, r6) := H
    have A8 := Aside0.mk A80
    clear A80
    simp only [Option.some.injEq, Prod.mk.injEq] at H
    obtain ⟨rfl, rfl, rfl, rfl, rfl, rfl⟩ := H
    go_enter Try.func38, Try.ntmps38
    try go_wp2_with (first | ((with_reducible refine gate_dst (N := 7) rfl ?_); refine box_event ?hg (N := 7) ?hd (cs := #[.bool false, .bool false, .bool false, .bool false]) (t := 29) ?hr ?_; (case hd => rfl); (case hg => rfl); (case hr => first | (go_simp; done) | (go_simp; rfl)); intro gb135 hg w9 hbox hb; have n0_ := Aside0.mk (below_step (by repeat (first | (with_reducible first | exact HB.out | apply below_alloc | apply pw_below_drewN | apply below_drew1) | exact HB.out)) hb); have n1_ := Aside0.mk (hbox); have n2_ := Aside0.mk ((by rw [hg]; exact (below_size (by repeat (first | (with_reducible first | exact HB.out | apply below_alloc | apply pw_below_drewN | apply below_drew1) | exact HB.out))) : w.heap.size ≤ gb135)); have n3_ := Aside0.mk ((by rw [hg]; exact (below_size (by repeat (first | (with_reducible first | exact HB.out | apply below_alloc | apply pw_below_drewN | apply below_drew1) | exact HB.out))) : w.heap.size ≤ gb135)); clear HB; have HB := n0_; have BK135 := n1_; have GW135 := n2_; have GE135 := n3_; clear n0_ n1_ n2_ n3_; clear hb hbox hg) | ((with_reducible refine gate_callee (f := 25) rfl ?_); refine goesL_ (some 18) rfl rfl Try.func25 (by kernel_rfl) rfl #[.int .u32 a0, .int .i64 a2] rfl (by (try simp only [List.map_toArray, List.map_cons, List.map_nil]); first | done | rfl | (simp only [List.length_drop, List.length_take]; rfl)) ?_; (with_reducible refine (bits_Extend.calls a0 a2 t136 _ A4.out).mono ?_); rintro e w' ⟨rfl, ⟨nd, rfl⟩⟩; refine ⟨_, rfl, ?_⟩; (try (rw [drewN_self w9]; generalize hq_ : World.drewN w9 _ = w9; have n0_ : Aside0 (w9.heap[gb135]? = some (.cells #[.bool false, .bool false, .bool false, .bool false] 29 (0, 0))) := ⟨by rw [← hq_]; exact (by (with_reducible repeat (first | refine blk_drewN ?_ _ | refine blk_drew ?_ | refine blk_alloc ?_ _)); exact BK135.out)⟩; have n1_ : Aside0 (Below w.heap.size w w9) := ⟨by rw [← hq_]; exact (by repeat (first | (with_reducible first | exact HB.out | apply below_alloc | apply pw_below_drewN | apply below_drew1 | refine below_set ?_ GE135.out) | exact HB.out))⟩; clear BK135 HB hq_; have BK135 := n0_; have HB := n1_; clear n0_ n1_))) | ((with_reducible refine gate_callee (f := 25) rfl ?_); refine goesL_ (some 23) rfl rfl Try.func25 (by kernel_rfl) rfl #[.int .u32 a1, .int .i64 a2] rfl (by (try simp only [List.map_toArray, List.map_cons, List.map_nil]); first | done | rfl | (simp only [List.length_drop, List.length_take]; rfl)) ?_; (with_reducible refine (bits_Extend.calls a1 a2 t137 _ A5.out).mono ?_); rintro e w' ⟨rfl, ⟨nd, rfl⟩⟩; refine ⟨_, rfl, ?_⟩; (try (rw [drewN_self w9]; generalize hq_ : World.drewN w9 _ = w9; have n0_ : Aside0 (w9.heap[gb135]? = some (.cells #[.bool false, .bool false, .bool false, .bool false] 29 (0, 0))) := ⟨by rw [← hq_]; exact (by (with_reducible repeat (first | refine blk_drewN ?_ _ | refine blk_drew ?_ | refine blk_alloc ?_ _)); exact BK135.out)⟩; have n1_ : Aside0 (Below w.heap.size w w9) := ⟨by rw [← hq_]; exact (by repeat (first | (with_reducible first | exact HB.out | apply below_alloc | apply pw_below_drewN | apply below_drew1 | refine below_set ?_ GE135.out) | exact HB.out))⟩; clear BK135 HB hq_; have BK135 := n0_; have HB := n1_; clear n0_ n1_))) | ((with_reducible refine gate_callee (f := 19) rfl ?_); refine goesL_ (some 28) rfl rfl Try.func19 (by kernel_rfl) rfl #[.int .i64 a2] rfl (by (try simp only [List.map_toArray, List.map_cons, List.map_nil]); first | done | rfl | (simp only [List.length_drop, List.length_take]; rfl)) ?_; (with_reducible refine (bits_Mask.calls a2 t138 _ A6.out).mono ?_); rintro e w' ⟨rfl, ⟨nd, rfl⟩⟩; refine ⟨_, rfl, ?_⟩; (try (rw [drewN_self w9]; generalize hq_ : World.drewN w9 _ = w9; have n0_ : Aside0 (w9.heap[gb135]? = some (.cells #[.bool false, .bool false, .bool false, .bool false] 29 (0, 0))) := ⟨by rw [← hq_]; exact (by (with_reducible repeat (first | refine blk_drewN ?_ _ | refine blk_drew ?_ | refine blk_alloc ?_ _)); exact BK135.out)⟩; have n1_ : Aside0 (Below w.heap.size w w9) := ⟨by rw [← hq_]; exact (by repeat (first | (with_reducible first | exact HB.out | apply below_alloc | apply pw_below_drewN | apply below_drew1 | refine below_set ?_ GE135.out) | exact HB.out))⟩; clear BK135 HB hq_; have BK135 := n0_; have HB := n1_; clear n0_ n1_))) | ((with_reducible refine gate_callee (f := 27) rfl ?_); refine goesL_ (some 50) rfl rfl Try.func27 (by kernel_rfl) rfl #[.int .u32 (Go.bits .and .u32 a0 t138), .int .i64 a2] rfl (by (try simp only [List.map_toArray, List.map_cons, List.map_nil]); first | done | rfl | (simp only [List.length_drop, List.length_take]; rfl)) ?_; (with_reducible refine (bits_Signs.calls (Go.bits .and .u32 a0 t138) a2 t139 t140 t141 t142 _ A8.out).mono ?_); rintro e w10 ⟨rfl, hb⟩; refine ⟨_, rfl, ?_⟩; have n0_ := Aside0.mk (blk_below (g := gb135) (o := .cells #[.bool false, .bool false, .bool false, .bool false] 29 (0, 0)) (by (with_reducible repeat (first | refine blk_drewN ?_ _ | refine blk_drew ?_ | refine blk_alloc ?_ _)); exact BK135.out) hb); have n1_ := Aside0.mk (below_step (by repeat (first | (with_reducible first | exact HB.out | apply below_alloc | apply pw_below_drewN | apply below_drew1 | refine below_set ?_ GE135.out) | exact HB.out)) hb); clear BK135; clear HB; have BK135 := n0_; have HB := n1_; clear n0_ n1_; (try clear hb); (try clear hb2); (try clear hk); (try clear hi)) | ((with_reducible refine gate_dst (N := 15) rfl ?_); refine box_event ?hg (N := 15) ?hd (cs := #[.bool false, .bool false, .bool false, .bool false]) (t := 29) ?hr ?_; (case hd => rfl); (case hg => rfl); (case hr => first | (go_simp; done) | (go_simp; rfl)); intro gb143 hg w11 hbox hb; have n0_ := Aside0.mk (blk_below (g := gb135) (o := .cells #[.bool false, .bool false, .bool false, .bool false] 29 (0, 0)) (by (with_reducible repeat (first | refine blk_drewN ?_ _ | refine blk_drew ?_ | refine blk_alloc ?_ _)); exact BK135.out) hb); have n1_ := Aside0.mk (below_step (by repeat (first | (with_reducible first | exact HB.out | apply below_alloc | apply pw_below_drewN | apply below_drew1 | refine below_set ?_ GE135.out) | exact HB.out)) hb); have n2_ := Aside0.mk (hbox); have n3_ := Aside0.mk ((by rw [hg]; exact (below_size (by repeat (first | (with_reducible first | exact HB.out | apply below_alloc | apply pw_below_drewN | apply below_drew1 | refine below_set ?_ GE135.out) | exact HB.out))) : w.heap.size ≤ gb143)); have n4_ := Aside0.mk ((by rw [hg]; exact (below_size (by repeat (first | (with_reducible first | exact HB.out | apply below_alloc | apply pw_below_drewN | apply below_drew1 | refine below_set ?_ GE135.out) | exact HB.out))) : w.heap.size ≤ gb143)); have n5_ := Aside0.mk ((by rw [hg]; exact Nat.ne_of_lt (blk_lt (g := gb135) (o := .cells #[.bool false, .bool false, .bool false, .bool false] 29 (0, 0)) (by (with_reducible repeat (first | refine blk_drewN ?_ _ | refine blk_drew ?_ | refine blk_alloc ?_ _)); exact BK135.out)) : gb135 ≠ gb143)); have n6_ := Aside0.mk ((by rw [hg]; exact Nat.ne_of_gt (blk_lt (g := gb135) (o := .cells #[.bool false, .bool false, .bool false, .bool false] 29 (0, 0)) (by (with_reducible repeat (first | refine blk_drewN ?_ _ | refine blk_drew ?_ | refine blk_alloc ?_ _)); exact BK135.out)) : gb143 ≠ gb135)); clear BK135; clear HB; have BK135 := n0_; have HB := n1_; have BK143 := n2_; have GW143 := n3_; have GE143 := n4_; have NB135_143 := n5_; have NB143_135 := n6_; clear n0_ n1_ n2_ n3_ n4_ n5_ n6_; clear hb hbox hg; have hnb12 := NB143_135.out; have hnc12 := NB135_143.out; have hcz13_0 : w11.cell? ⟨gb143, 0, none⟩ = some (.bool false) := (blk_cell BK143.out 0).trans rfl; have hcz13_1 : w11.cell? ⟨gb143, 1, none⟩ = some (.bool false) := (blk_cell BK143.out 1).trans rfl; have hcz13_2 : w11.cell? ⟨gb143, 2, none⟩ = some (.bool false) := (blk_cell BK143.out 2).trans rfl; have hcz13_3 : w11.cell? ⟨gb143, 3, none⟩ = some (.bool false) := (blk_cell BK143.out 3).trans rfl; have hfz13_0 := blk_frozen BK143.out 0; have hfz13_1 := blk_frozen BK143.out 1; have hfz13_2 := blk_frozen BK143.out 2; have hfz13_3 := blk_frozen BK143.out 3))
    have n0_ : Aside0 ((((((w11.setCell ⟨gb143, 0, none⟩ (.bool t139)).setCell ⟨gb143, 1, none⟩ (.bool t140)).setCell ⟨gb143, 2, none⟩ (.bool t141)).setCell ⟨gb143, 3, none⟩ (.bool t142)).setCell ⟨gb143, 2, none⟩ (.bool true)).heap[gb135]? = some (.cells #[.bool false, .bool false, .bool false, .bool false] 29 (0, 0))) := ⟨by (with_reducible repeat (first | refine blk_drewN ?_ _ | refine blk_drew ?_ | refine blk_alloc ?_ _)); refine blk_far ?_ NB135_143.out _; (with_reducible repeat (first | refine blk_drewN ?_ _ | refine blk_drew ?_ | refine blk_alloc ?_ _)); refine blk_far ?_ NB135_143.out _; (with_reducible repeat (first | refine blk_drewN ?_ _ | refine blk_drew ?_ | refine blk_alloc ?_ _)); refine blk_far ?_ NB135_143.out _; (with_reducible repeat (first | refine blk_drewN ?_ _ | refine blk_drew ?_ | refine blk_alloc ?_ _)); refine blk_far ?_ NB135_143.out _; (with_reducible repeat (first | refine blk_drewN ?_ _ | refine blk_drew ?_ | refine blk_alloc ?_ _)); refine blk_far ?_ NB135_143.out _; (with_reducible repeat (first | refine blk_drewN ?_ _ | refine blk_drew ?_ | refine blk_alloc ?_ _)); exact BK135.out⟩
    have n1_ : Aside0 ((((((w11.setCell ⟨gb143, 0, none⟩ (.bool t139)).setCell ⟨gb143, 1, none⟩ (.bool t140)).setCell ⟨gb143, 2, none⟩ (.bool t141)).setCell ⟨gb143, 3, none⟩ (.bool t142)).setCell ⟨gb143, 2, none⟩ (.bool true)).heap[gb143]? = some (.cells #[.bool t139, .bool t140, .bool true, .bool t142] 29 (0, 0))) := ⟨by (with_reducible repeat (first | refine blk_drewN ?_ _ | refine blk_drew ?_ | refine blk_alloc ?_ _)); refine blk_put (cs := #[.bool t139, .bool t140, .bool t141, .bool t142]) ?_ 2 _ rfl; (with_reducible repeat (first | refine blk_drewN ?_ _ | refine blk_drew ?_ | refine blk_alloc ?_ _)); refine blk_put (cs := #[.bool t139, .bool t140, .bool t141, .bool false]) ?_ 3 _ rfl; (with_reducible repeat (first | refine blk_drewN ?_ _ | refine blk_drew ?_ | refine blk_alloc ?_ _)); refine blk_put (cs := #[.bool t139, .bool t140, .bool false, .bool false]) ?_ 2 _ rfl; (with_reducible repeat (first | refine blk_drewN ?_ _ | refine blk_drew ?_ | refine blk_alloc ?_ _)); refine blk_put (cs := #[.bool t139, .bool false, .bool false, .bool false]) ?_ 1 _ rfl; (with_reducible repeat (first | refine blk_drewN ?_ _ | refine blk_drew ?_ | refine blk_alloc ?_ _)); refine blk_put (cs := #[.bool false, .bool false, .bool false, .bool false]) ?_ 0 _ rfl; (with_reducible repeat (first | refine blk_drewN ?_ _ | refine blk_drew ?_ | refine blk_alloc ?_ _)); exact BK143.out⟩
    have n2_ : Aside0 (Below w.heap.size w (((((w11.setCell ⟨gb143, 0, none⟩ (.bool t139)).setCell ⟨gb143, 1, none⟩ (.bool t140)).setCell ⟨gb143, 2, none⟩ (.bool t141)).setCell ⟨gb143, 3, none⟩ (.bool t142)).setCell ⟨gb143, 2, none⟩ (.bool true))) := ⟨by repeat (first | (with_reducible first | exact HB.out | apply below_alloc | apply pw_below_drewN | apply below_drew1 | refine below_set ?_ GE135.out | refine below_set ?_ GE143.out) | exact HB.out)⟩
    (try clear BK135)
    (try clear BK143)
    (try clear HB)
    (repeat rw [own_setCell_drewN]); (repeat rw [World.drewN_drewN])
    generalize (((((w11.setCell ⟨gb143, 0, none⟩ (.bool t139)).setCell ⟨gb143, 1, none⟩ (.bool t140)).setCell ⟨gb143, 2, none⟩ (.bool t141)).setCell ⟨gb143, 3, none⟩ (.bool t142)).setCell ⟨gb143, 2, none⟩ (.bool true)) = w14 at n0_ n1_ n2_ ⊢
    have BK135 := n0_
    have BK143 := n1_
    have HB := n2_
    clear n0_ n1_ n2_
    have n0_ := Aside0.mk (blk_drew BK135.out)
    have n1_ := Aside0.mk (blk_drew BK143.out)
    have n2_ := Aside0.mk (below_drew1 HB.out)
    clear BK135
    clear BK143
    clear HB
    have BK135 := n0_
    have BK143 := n1_
    have HB := n2_
    clear n0_ n1_ n2_
    refine start_ (n := 7) (S := fun w' => w'.cell? ⟨gb143, 0, none⟩ = some (.bool t139) ∧ w'.cell? ⟨gb143, 1, none⟩ = some (.bool t140) ∧ w'.cell? ⟨gb143, 2, none⟩ = some (.bool true) ∧ w'.cell? ⟨gb143, 3, none⟩ = some (.bool t142)) (ds := []) #[false, false, false, false, false, false, false] (by kernel_rfl) rfl rfl ⟨(blk_cell BK143.out 0).trans rfl, (blk_cell BK143.out 1).trans rfl, (blk_cell BK143.out 2).trans rfl, (blk_cell BK143.out 3).trans rfl⟩ (fun hHeld => ?_)
    generalize w14.drew = w15 at BK135 BK143 HB hHeld ⊢
    refine pure_ (i := 0) (N := some 53) (v := ?_) (a' := ?_) #[true, false, false, false, false, false, false] rfl rfl (by kernel_rfl) (fun _ _ _ h => h) (Or.inl ⟨by rfl, ?_⟩) ?_ ?_
    rotate_left
    · intro w'
      go_simp
      with_reducible rfl
    rotate_left
    · simp only [Act.put, List.setIfInBounds_toArray, List.set_cons_zero, List.set_cons_succ, i64_w, i32_w]
      rfl
    refine pure_ (i := 2) (N := some 55) (v := ?_) (a' := ?_) #[true, false, true, false, false, false, false] rfl rfl (by kernel_rfl) (fun _ _ _ h => h) (Or.inl ⟨by rfl, ?_⟩) ?_ ?_
    rotate_left
    · intro w'
      go_simp
      with_reducible rfl
    rotate_left
    · simp only [Act.put, List.setIfInBounds_toArray, List.set_cons_zero, List.set_cons_succ, i64_w, i32_w]
      rfl
    refine pure_ (i := 3) (N := some 56) (v := ?_) (a' := ?_) #[true, false, true, true, false, false, false] rfl rfl (by kernel_rfl) (fun _ _ _ h => h) (Or.inl ⟨by rfl, ?_⟩) ?_ ?_
    rotate_left
    · intro w'
      go_simp
      with_reducible rfl
    rotate_left
    · simp only [Act.put, List.setIfInBounds_toArray, List.set_cons_zero, List.set_cons_succ, i64_w, i32_w]
      rfl
    refine pure_ (i := 4) (N := some 6) (v := ?_) (a' := ?_) #[true, false, true, true, true, false, false] rfl rfl (by kernel_rfl) (fun _ _ _ h => h) (Or.inl ⟨by rfl, ?_⟩) ?_ ?_
    rotate_left
    · intro w'
      go_simp
      with_reducible rfl
    rotate_left
    · simp only [Act.put, List.setIfInBounds_toArray, List.set_cons_zero, List.set_cons_succ, i64_w, i32_w]
      rfl
    refine take_ (i := 1) (N := some 54) (v := ?_) (a' := ?_) #[true, true, true, true, true, false, false] rfl rfl (by kernel_rfl) (fun _ _ _ h => h) (Or.inl ⟨by rfl, ?_⟩) hHeld ?_ ?_
    rotate_left
    · rintro w' ⟨s0, s1, s2, s3⟩
      go_simp
      with_reducible rfl
    rotate_left
    · simp only [Act.put, List.setIfInBounds_toArray, List.set_cons_zero, List.set_cons_succ, i64_w, i32_w]
      rfl
    refine one_ (i := 5) (N := none) #[true, true, true, true, true, true, false] rfl rfl (by kernel_rfl) (by decide) (fun K hK => ?_)
    have hs16 : w15.cell? ⟨gb135, 0, none⟩ = some (.bool false) := (blk_cell BK135.out 0).trans rfl
    have hfs16 := blk_frozen BK135.out 0
    have hns16_1 := NB143_135.out
    have hms16_1 := NB135_143.out
    have hs17 : w15.cell? ⟨gb135, 1, none⟩ = some (.bool false) := (blk_cell BK135.out 1).trans rfl
    have hfs17 := blk_frozen BK135.out 1
    have hns17_1 := NB143_135.out
    have hms17_1 := NB135_143.out
    have hs18 : w15.cell? ⟨gb135, 2, none⟩ = some (.bool false) := (blk_cell BK135.out 2).trans rfl
    have hfs18 := blk_frozen BK135.out 2
    have hns18_1 := NB143_135.out
    have hms18_1 := NB135_143.out
    have hs19 : w15.cell? ⟨gb135, 3, none⟩ = some (.bool false) := (blk_cell BK135.out 3).trans rfl
    have hfs19 := blk_frozen BK135.out 3
    have hns19_1 := NB143_135.out
    have hms19_1 := NB135_143.out
    refine skip_ (w1 := ?_) (by rfl) rfl ?_ ?_
    rotate_left
    · go_simp
      rfl
    refine hK.out _ _ ⟨((cell_far (p := ⟨gb135, _, none⟩) NB143_135.out _).trans (((cell_far (p := ⟨gb135, _, none⟩) NB143_135.out _).trans (((cell_far (p := ⟨gb135, _, none⟩) NB143_135.out _).trans (((cell_far (p := ⟨gb135, _, none⟩) NB143_135.out _).trans (hHeld.1)))))))), ((cell_far (p := ⟨gb135, _, none⟩) NB143_135.out _).trans (((cell_far (p := ⟨gb135, _, none⟩) NB143_135.out _).trans (((cell_far (p := ⟨gb135, _, none⟩) NB143_135.out _).trans (((cell_far (p := ⟨gb135, _, none⟩) NB143_135.out _).trans (hHeld.2.1)))))))), ((cell_far (p := ⟨gb135, _, none⟩) NB143_135.out _).trans (((cell_far (p := ⟨gb135, _, none⟩) NB143_135.out _).trans (((cell_far (p := ⟨gb135, _, none⟩) NB143_135.out _).trans (((cell_far (p := ⟨gb135, _, none⟩) NB143_135.out _).trans (hHeld.2.2.1)))))))), ((cell_far (p := ⟨gb135, _, none⟩) NB143_135.out _).trans (((cell_far (p := ⟨gb135, _, none⟩) NB143_135.out _).trans (((cell_far (p := ⟨gb135, _, none⟩) NB143_135.out _).trans (((cell_far (p := ⟨gb135, _, none⟩) NB143_135.out _).trans (hHeld.2.2.2))))))))⟩ (fun hHeld => ?_)
    clear hK K
    refine pure_ (i := 6) (N := some 8) (v := ?_) (a' := ?_) #[true, true, true, true, true, true, true] rfl rfl (by kernel_rfl) (fun _ _ _ h => h) (Or.inl ⟨by rfl, ?_⟩) ?_ ?_
    rotate_left
    · intro w'
      go_simp
      with_reducible rfl
    rotate_left
    · simp only [Act.put, List.setIfInBounds_toArray, List.set_cons_zero, List.set_cons_succ, i64_w, i32_w]
      rfl
    refine done_ (by kernel_rfl) ?_
    try go_wp2
    refine bodyPost_ret (results_list (rs := [.tmp 6, .cell 7 29, .tmp 8]) rfl (by simp) (.tmp (.cell gb135 29 #[.bool t139, .bool t140, .bool true, .bool t142] (0, 0) _ rfl (by (with_reducible repeat (first | refine blk_drewN ?_ _ | refine blk_drew ?_ | refine blk_alloc ?_ _)); refine blk_put (cs := #[.bool t139, .bool t140, .bool true, .bool false]) ?_ 3 _ rfl; (with_reducible repeat (first | refine blk_drewN ?_ _ | refine blk_drew ?_ | refine blk_alloc ?_ _)); refine blk_put (cs := #[.bool t139, .bool t140, .bool false, .bool false]) ?_ 2 _ rfl; (with_reducible repeat (first | refine blk_drewN ?_ _ | refine blk_drew ?_ | refine blk_alloc ?_ _)); refine blk_put (cs := #[.bool t139, .bool false, .bool false, .bool false]) ?_ 1 _ rfl; (with_reducible repeat (first | refine blk_drewN ?_ _ | refine blk_drew ?_ | refine blk_alloc ?_ _)); refine blk_put (cs := #[.bool false, .bool false, .bool false, .bool false]) ?_ 0 _ rfl; (with_reducible repeat (first | refine blk_drewN ?_ _ | refine blk_drew ?_ | refine blk_alloc ?_ _)); exact BK135.out) Try.underlying29 rfl (by kernel_rfl) (.tmp .nil)))) rfl ?_
    exact ⟨by first | rfl | (simp [errW_none, errW_some] <;> rfl) | (simp [*, errW_none, errW_some] <;> rfl), by repeat (first | (with_reducible first | exact HB.out | apply below_alloc | apply pw_below_drewN | apply below_drew1 | refine below_set ?_ GE135.out | refine below_set ?_ GE143.out) | exact HB.out)⟩
  · rw [if_neg c7] at H
    have c7b0 : ((wrap64 (wrap32 (t137))) == 0) = false := beq_eq_false_iff_ne.mpr c7
    have c7b1 : ((wrap64 (wrap32 (t137))) != 0) = true := bne_iff_ne.mpr c7
    replace H := Option.bind_eq_some_iff.mp H
    obtain ⟨t144, A200, H⟩ := H
    replace H : ((bits_Extend.f (Go.bits .and .u32 ((wrap64 (Int.tdiv (wrap64 (wrap32 (t136))) (wrap64 (wrap32 (t137))))) % 4294967296) t144) a2).bind fun t145 => (if (wrap64 (wrap32 (t145))) = (wrap64 (Int.tdiv (wrap64 (wrap32 (t136))) (wrap64 (wrap32 (t137))))) then ((bits_Signs.f (Go.bits .and .u32 ((wrap64 (Int.tdiv (wrap64 (wrap32 (t136))) (wrap64 (wrap32 (t137))))) % 4294967296) t144) a2).bind fun bt146 => (some (Go.bits .and .u32 ((wrap64 (Int.tdiv (wrap64 (wrap32 (t136))) (wrap64 (wrap32 (t137))))) % 4294967296) t144, bt146.1, bt146.2.1, false, bt146.2.2.2, ((wrap64 (wrap32 (t137))) != 0)))) else ((bits_Signs.f (Go.bits .and .u32 a0 t138) a2).bind fun bt151 => (some (Go.bits .and .u32 a0 t138, bt151.1, bt151.2.1, true, bt151.2.2.2, ((wrap64 (wrap32 (t137))) != 0)))))) = some (r1, r2, r3, r4, r5, r6) := H
    have A20 := Aside0.mk A200
    clear A200
    replace H := Option.bind_eq_some_iff.mp H
    obtain ⟨t145, A210, H⟩ := H
    replace H : (if (wrap64 (wrap32 (t145))) = (wrap64 (Int.tdiv (wrap64 (wrap32 (t136))) (wrap64 (wrap32 (t137))))) then ((bits_Signs.f (Go.bits .and .u32 ((wrap64 (Int.tdiv (wrap64 (wrap32 (t136))) (wrap64 (wrap32 (t137))))) % 4294967296) t144) a2).bind fun bt146 => (some (Go.bits .and .u32 ((wrap64 (Int.tdiv (wrap64 (wrap32 (t136))) (wrap64 (wrap32 (t137))))) % 4294967296) t144, bt146.1, bt146.2.1, false, bt146.2.2.2, ((wrap64 (wrap32 (t137))) != 0)))) else ((bits_Signs.f (Go.bits .and .u32 a0 t138) a2).bind fun bt151 => (some (Go.bits .and .u32 a0 t138, bt151.1, bt151.2.1, true, bt151.2.2.2, ((wrap64 (wrap32 (t137))) != 0))))) = some (r1, r2, r3, r4, r5, r6) := H
    have A21 := Aside0.mk A210
    clear A210
    by_cases c22 : (wrap64 (wrap32 (t145))) = (wrap64 (Int.tdiv (wrap64 (wrap32 (t136))) (wrap64 (wrap32 (t137)))))
    · rw [if_pos c22] at H
      have c22b0 : ((wrap64 (wrap32 (t145))) == (wrap64 (Int.tdiv (wrap64 (wrap32 (t136))) (wrap64 (wrap32 (t137)))))) = true := beq_iff_eq.mpr c22
      have c22b1 : ((wrap64 (wrap32 (t145))) != (wrap64 (Int.tdiv (wrap64 (wrap32 (t136))) (wrap64 (wrap32 (t137)))))) = false := bne_eq_false_iff_eq.mpr c22
      clear c22
      replace H := Option.bind_eq_some_iff.mp H
      obtain ⟨⟨t146, t147, t148, t149⟩, A230, H⟩ := H
      replace H : (some (Go.bits .and .u32 ((wrap64 (Int.tdiv (wrap64 (wrap32 (t136))) (wrap64 (wrap32 (t137))))) % 4294967296) t144, t146, t147, false, t149, ((wrap64 (wrap32 (t137))) != 0))) = some (r1, r2, r3, r4, r5, r6) := H
      have A23 := Aside0.mk A230
      clear A230
      simp only [Option.some.injEq, Prod.mk.injEq] at H
      obtain ⟨rfl, rfl, rfl, rfl, rfl, rfl⟩ := H
      go_enter Try.func38, Try.ntmps38
      try go_wp2_with (first | ((with_reducible refine gate_dst (N := 7) rfl ?_); refine box_event ?hg (N := 7) ?hd (cs := #[.bool false, .bool false, .bool false, .bool false]) (t := 29) ?hr ?_; (case hd => rfl); (case hg => rfl); (case hr => first | (go_simp; done) | (go_simp; rfl)); intro gb135 hg w24 hbox hb; have n0_ := Aside0.mk (below_step (by repeat (first | (with_reducible first | exact HB.out | apply below_alloc | apply pw_below_drewN | apply below_drew1) | exact HB.out)) hb); have n1_ := Aside0.mk (hbox); have n2_ := Aside0.mk ((by rw [hg]; exact (below_size (by repeat (first | (with_reducible first | exact HB.out | apply below_alloc | apply pw_below_drewN | apply below_drew1) | exact HB.out))) : w.heap.size ≤ gb135)); have n3_ := Aside0.mk ((by rw [hg]; exact (below_size (by repeat (first | (with_reducible first | exact HB.out | apply below_alloc | apply pw_below_drewN | apply below_drew1) | exact HB.out))) : w.heap.size ≤ gb135)); clear HB; have HB := n0_; have BK135 := n1_; have GW135 := n2_; have GE135 := n3_; clear n0_ n1_ n2_ n3_; clear hb hbox hg) | ((with_reducible refine gate_callee (f := 25) rfl ?_); refine goesL_ (some 18) rfl rfl Try.func25 (by kernel_rfl) rfl #[.int .u32 a0, .int .i64 a2] rfl (by (try simp only [List.map_toArray, List.map_cons, List.map_nil]); first | done | rfl | (simp only [List.length_drop, List.length_take]; rfl)) ?_; (with_reducible refine (bits_Extend.calls a0 a2 t136 _ A4.out).mono ?_); rintro e w' ⟨rfl, ⟨nd, rfl⟩⟩; refine ⟨_, rfl, ?_⟩; (try (rw [drewN_self w24]; generalize hq_ : World.drewN w24 _ = w24; have n0_ : Aside0 (w24.heap[gb135]? = some (.cells #[.bool false, .bool false, .bool false, .bool false] 29 (0, 0))) := ⟨by rw [← hq_]; exact (by (with_reducible repeat (first | refine blk_drewN ?_ _ | refine blk_drew ?_ | refine blk_alloc ?_ _)); exact BK135.out)⟩; have n1_ : Aside0 (Below w.heap.size w w24) := ⟨by rw [← hq_]; exact (by repeat (first | (with_reducible first | exact HB.out | apply below_alloc | apply pw_below_drewN | apply below_drew1 | refine below_set ?_ GE135.out) | exact HB.out))⟩; clear BK135 HB hq_; have BK135 := n0_; have HB := n1_; clear n0_ n1_))) | ((with_reducible refine gate_callee (f := 25) rfl ?_); refine goesL_ (some 23) rfl rfl Try.func25 (by kernel_rfl) rfl #[.int .u32 a1, .int .i64 a2] rfl (by (try simp only [List.map_toArray, List.map_cons, List.map_nil]); first | done | rfl | (simp only [List.length_drop, List.length_take]; rfl)) ?_; (with_reducible refine (bits_Extend.calls a1 a2 t137 _ A5.out).mono ?_); rintro e w' ⟨rfl, ⟨nd, rfl⟩⟩; refine ⟨_, rfl, ?_⟩; (try (rw [drewN_self w24]; generalize hq_ : World.drewN w24 _ = w24; have n0_ : Aside0 (w24.heap[gb135]? = some (.cells #[.bool false, .bool false, .bool false, .bool false] 29 (0, 0))) := ⟨by rw [← hq_]; exact (by (with_reducible repeat (first | refine blk_drewN ?_ _ | refine blk_drew ?_ | refine blk_alloc ?_ _)); exact BK135.out)⟩; have n1_ : Aside0 (Below w.heap.size w w24) := ⟨by rw [← hq_]; exact (by repeat (first | (with_reducible first | exact HB.out | apply below_alloc | apply pw_below_drewN | apply below_drew1 | refine below_set ?_ GE135.out) | exact HB.out))⟩; clear BK135 HB hq_; have BK135 := n0_; have HB := n1_; clear n0_ n1_))) | ((with_reducible refine gate_callee (f := 19) rfl ?_); refine goesL_ (some 28) rfl rfl Try.func19 (by kernel_rfl) rfl #[.int .i64 a2] rfl (by (try simp only [List.map_toArray, List.map_cons, List.map_nil]); first | done | rfl | (simp only [List.length_drop, List.length_take]; rfl)) ?_; (with_reducible refine (bits_Mask.calls a2 t138 _ A6.out).mono ?_); rintro e w' ⟨rfl, ⟨nd, rfl⟩⟩; refine ⟨_, rfl, ?_⟩; (try (rw [drewN_self w24]; generalize hq_ : World.drewN w24 _ = w24; have n0_ : Aside0 (w24.heap[gb135]? = some (.cells #[.bool false, .bool false, .bool false, .bool false] 29 (0, 0))) := ⟨by rw [← hq_]; exact (by (with_reducible repeat (first | refine blk_drewN ?_ _ | refine blk_drew ?_ | refine blk_alloc ?_ _)); exact BK135.out)⟩; have n1_ : Aside0 (Below w.heap.size w w24) := ⟨by rw [← hq_]; exact (by repeat (first | (with_reducible first | exact HB.out | apply below_alloc | apply pw_below_drewN | apply below_drew1 | refine below_set ?_ GE135.out) | exact HB.out))⟩; clear BK135 HB hq_; have BK135 := n0_; have HB := n1_; clear n0_ n1_))) | ((with_reducible refine gate_callee (f := 19) rfl ?_); refine goesL_ (some 38) rfl rfl Try.func19 (by kernel_rfl) rfl #[.int .i64 a2] rfl (by (try simp only [List.map_toArray, List.map_cons, List.map_nil]); first | done | rfl | (simp only [List.length_drop, List.length_take]; rfl)) ?_; (with_reducible refine (bits_Mask.calls a2 t144 _ A20.out).mono ?_); rintro e w' ⟨rfl, ⟨nd, rfl⟩⟩; refine ⟨_, rfl, ?_⟩; (try (rw [drewN_self w24]; generalize hq_ : World.drewN w24 _ = w24; have n0_ : Aside0 (w24.heap[gb135]? = some (.cells #[.bool false, .bool false, .bool false, .bool false] 29 (0, 0))) := ⟨by rw [← hq_]; exact (by (with_reducible repeat (first | refine blk_drewN ?_ _ | refine blk_drew ?_ | refine blk_alloc ?_ _)); exact BK135.out)⟩; have n1_ : Aside0 (Below w.heap.size w w24) := ⟨by rw [← hq_]; exact (by repeat (first | (with_reducible first | exact HB.out | apply below_alloc | apply pw_below_drewN | apply below_drew1 | refine below_set ?_ GE135.out) | exact HB.out))⟩; clear BK135 HB hq_; have BK135 := n0_; have HB := n1_; clear n0_ n1_))) | ((with_reducible refine gate_callee (f := 25) rfl ?_); refine goesL_ (some 42) rfl rfl Try.func25 (by kernel_rfl) rfl #[.int .u32 (Go.bits .and .u32 ((wrap64 (Int.tdiv (wrap64 (wrap32 (t136))) (wrap64 (wrap32 (t137))))) % 4294967296) t144), .int .i64 a2] rfl (by (try simp only [List.map_toArray, List.map_cons, List.map_nil]); first | done | rfl | (simp only [List.length_drop, List.length_take]; rfl)) ?_; (with_reducible refine (bits_Extend.calls (Go.bits .and .u32 ((wrap64 (Int.tdiv (wrap64 (wrap32 (t136))) (wrap64 (wrap32 (t137))))) % 4294967296) t144) a2 t145 _ A21.out).mono ?_); rintro e w' ⟨rfl, ⟨nd, rfl⟩⟩; refine ⟨_, rfl, ?_⟩; (try (rw [drewN_self w24]; generalize hq_ : World.drewN w24 _ = w24; have n0_ : Aside0 (w24.heap[gb135]? = some (.cells #[.bool false, .bool false, .bool false, .bool false] 29 (0, 0))) := ⟨by rw [← hq_]; exact (by (with_reducible repeat (first | refine blk_drewN ?_ _ | refine blk_drew ?_ | refine blk_alloc ?_ _)); exact BK135.out)⟩; have n1_ : Aside0 (Below w.heap.size w w24) := ⟨by rw [← hq_]; exact (by repeat (first | (with_reducible first | exact HB.out | apply below_alloc | apply pw_below_drewN | apply below_drew1 | refine below_set ?_ GE135.out) | exact HB.out))⟩; clear BK135 HB hq_; have BK135 := n0_; have HB := n1_; clear n0_ n1_))) | ((with_reducible refine gate_callee (f := 27) rfl ?_); refine goesL_ (some 50) rfl rfl Try.func27 (by kernel_rfl) rfl #[.int .u32 (Go.bits .and .u32 ((wrap64 (Int.tdiv (wrap64 (wrap32 (t136))) (wrap64 (wrap32 (t137))))) % 4294967296) t144), .int .i64 a2] rfl (by (try simp only [List.map_toArray, List.map_cons, List.map_nil]); first | done | rfl | (simp only [List.length_drop, List.length_take]; rfl)) ?_; (with_reducible refine (bits_Signs.calls (Go.bits .and .u32 ((wrap64 (Int.tdiv (wrap64 (wrap32 (t136))) (wrap64 (wrap32 (t137))))) % 4294967296) t144) a2 t146 t147 t148 t149 _ A23.out).mono ?_); rintro e w25 ⟨rfl, hb⟩; refine ⟨_, rfl, ?_⟩; have n0_ := Aside0.mk (blk_below (g := gb135) (o := .cells #[.bool false, .bool false, .bool false, .bool false] 29 (0, 0)) (by (with_reducible repeat (first | refine blk_drewN ?_ _ | refine blk_drew ?_ | refine blk_alloc ?_ _)); exact BK135.out) hb); have n1_ := Aside0.mk (below_step (by repeat (first | (with_reducible first | exact HB.out | apply below_alloc | apply pw_below_drewN | apply below_drew1 | refine below_set ?_ GE135.out) | exact HB.out)) hb); clear BK135; clear HB; have BK135 := n0_; have HB := n1_; clear n0_ n1_; (try clear hb); (try clear hb2); (try clear hk); (try clear hi)) | ((with_reducible refine gate_dst (N := 15) rfl ?_); refine box_event ?hg (N := 15) ?hd (cs := #[.bool false, .bool false, .bool false, .bool false]) (t := 29) ?hr ?_; (case hd => rfl); (case hg => rfl); (case hr => first | (go_simp; done) | (go_simp; rfl)); intro gb150 hg w26 hbox hb; have n0_ := Aside0.mk (blk_below (g := gb135) (o := .cells #[.bool false, .bool false, .bool false, .bool false] 29 (0, 0)) (by (with_reducible repeat (first | refine blk_drewN ?_ _ | refine blk_drew ?_ | refine blk_alloc ?_ _)); exact BK135.out) hb); have n1_ := Aside0.mk (below_step (by repeat (first | (with_reducible first | exact HB.out | apply below_alloc | apply pw_below_drewN | apply below_drew1 | refine below_set ?_ GE135.out) | exact HB.out)) hb); have n2_ := Aside0.mk (hbox); have n3_ := Aside0.mk ((by rw [hg]; exact (below_size (by repeat (first | (with_reducible first | exact HB.out | apply below_alloc | apply pw_below_drewN | apply below_drew1 | refine below_set ?_ GE135.out) | exact HB.out))) : w.heap.size ≤ gb150)); have n4_ := Aside0.mk ((by rw [hg]; exact (below_size (by repeat (first | (with_reducible first | exact HB.out | apply below_alloc | apply pw_below_drewN | apply below_drew1 | refine below_set ?_ GE135.out) | exact HB.out))) : w.heap.size ≤ gb150)); have n5_ := Aside0.mk ((by rw [hg]; exact Nat.ne_of_lt (blk_lt (g := gb135) (o := .cells #[.bool false, .bool false, .bool false, .bool false] 29 (0, 0)) (by (with_reducible repeat (first | refine blk_drewN ?_ _ | refine blk_drew ?_ | refine blk_alloc ?_ _)); exact BK135.out)) : gb135 ≠ gb150)); have n6_ := Aside0.mk ((by rw [hg]; exact Nat.ne_of_gt (blk_lt (g := gb135) (o := .cells #[.bool false, .bool false, .bool false, .bool false] 29 (0, 0)) (by (with_reducible repeat (first | refine blk_drewN ?_ _ | refine blk_drew ?_ | refine blk_alloc ?_ _)); exact BK135.out)) : gb150 ≠ gb135)); clear BK135; clear HB; have BK135 := n0_; have HB := n1_; have BK150 := n2_; have GW150 := n3_; have GE150 := n4_; have NB135_150 := n5_; have NB150_135 := n6_; clear n0_ n1_ n2_ n3_ n4_ n5_ n6_; clear hb hbox hg; have hnb27 := NB150_135.out; have hnc27 := NB135_150.out; have hcz28_0 : w26.cell? ⟨gb150, 0, none⟩ = some (.bool false) := (blk_cell BK150.out 0).trans rfl; have hcz28_1 : w26.cell? ⟨gb150, 1, none⟩ = some (.bool false) := (blk_cell BK150.out 1).trans rfl; have hcz28_2 : w26.cell? ⟨gb150, 2, none⟩ = some (.bool false) := (blk_cell BK150.out 2).trans rfl; have hcz28_3 : w26.cell? ⟨gb150, 3, none⟩ = some (.bool false) := (blk_cell BK150.out 3).trans rfl; have hfz28_0 := blk_frozen BK150.out 0; have hfz28_1 := blk_frozen BK150.out 1; have hfz28_2 := blk_frozen BK150.out 2; have hfz28_3 := blk_frozen BK150.out 3))
      have n0_ : Aside0 ((((((w26.setCell ⟨gb150, 0, none⟩ (.bool t146)).setCell ⟨gb150, 1, none⟩ (.bool t147)).setCell ⟨gb150, 2, none⟩ (.bool t148)).setCell ⟨gb150, 3, none⟩ (.bool t149)).setCell ⟨gb150, 2, none⟩ (.bool false)).heap[gb135]? = some (.cells #[.bool false, .bool false, .bool false, .bool false] 29 (0, 0))) := ⟨by (with_reducible repeat (first | refine blk_drewN ?_ _ | refine blk_drew ?_ | refine blk_alloc ?_ _)); refine blk_far ?_ NB135_150.out _; (with_reducible repeat (first | refine blk_drewN ?_ _ | refine blk_drew ?_ | refine blk_alloc ?_ _)); refine blk_far ?_ NB135_150.out _; (with_reducible repeat (first | refine blk_drewN ?_ _ | refine blk_drew ?_ | refine blk_alloc ?_ _)); refine blk_far ?_ NB135_150.out _; (with_reducible repeat (first | refine blk_drewN ?_ _ | refine blk_drew ?_ | refine blk_alloc ?_ _)); refine blk_far ?_ NB135_150.out _; (with_reducible repeat (first | refine blk_drewN ?_ _ | refine blk_drew ?_ | refine blk_alloc ?_ _)); refine blk_far ?_ NB135_150.out _; (with_reducible repeat (first | refine blk_drewN ?_ _ | refine blk_drew ?_ | refine blk_alloc ?_ _)); exact BK135.out⟩
      have n1_ : Aside0 ((((((w26.setCell ⟨gb150, 0, none⟩ (.bool t146)).setCell ⟨gb150, 1, none⟩ (.bool t147)).setCell ⟨gb150, 2, none⟩ (.bool t148)).setCell ⟨gb150, 3, none⟩ (.bool t149)).setCell ⟨gb150, 2, none⟩ (.bool false)).heap[gb150]? = some (.cells #[.bool t146, .bool t147, .bool false, .bool t149] 29 (0, 0))) := ⟨by (with_reducible repeat (first | refine blk_drewN ?_ _ | refine blk_drew ?_ | refine blk_alloc ?_ _)); refine blk_put (cs := #[.bool t146, .bool t147, .bool t148, .bool t149]) ?_ 2 _ rfl; (with_reducible repeat (first | refine blk_drewN ?_ _ | refine blk_drew ?_ | refine blk_alloc ?_ _)); refine blk_put (cs := #[.bool t146, .bool t147, .bool t148, .bool false]) ?_ 3 _ rfl; (with_reducible repeat (first | refine blk_drewN ?_ _ | refine blk_drew ?_ | refine blk_alloc ?_ _)); refine blk_put (cs := #[.bool t146, .bool t147, .bool false, .bool false]) ?_ 2 _ rfl; (with_reducible repeat (first | refine blk_drewN ?_ _ | refine blk_drew ?_ | refine blk_alloc ?_ _)); refine blk_put (cs := #[.bool t146, .bool false, .bool false, .bool false]) ?_ 1 _ rfl; (with_reducible repeat (first | refine blk_drewN ?_ _ | refine blk_drew ?_ | refine blk_alloc ?_ _)); refine blk_put (cs := #[.bool false, .bool false, .bool false, .bool false]) ?_ 0 _ rfl; (with_reducible repeat (first | refine blk_drewN ?_ _ | refine blk_drew ?_ | refine blk_alloc ?_ _)); exact BK150.out⟩
      have n2_ : Aside0 (Below w.heap.size w (((((w26.setCell ⟨gb150, 0, none⟩ (.bool t146)).setCell ⟨gb150, 1, none⟩ (.bool t147)).setCell ⟨gb150, 2, none⟩ (.bool t148)).setCell ⟨gb150, 3, none⟩ (.bool t149)).setCell ⟨gb150, 2, none⟩ (.bool false))) := ⟨by repeat (first | (with_reducible first | exact HB.out | apply below_alloc | apply pw_below_drewN | apply below_drew1 | refine below_set ?_ GE135.out | refine below_set ?_ GE150.out) | exact HB.out)⟩
      (try clear BK135)
      (try clear BK150)
      (try clear HB)
      (repeat rw [own_setCell_drewN]); (repeat rw [World.drewN_drewN])
      generalize (((((w26.setCell ⟨gb150, 0, none⟩ (.bool t146)).setCell ⟨gb150, 1, none⟩ (.bool t147)).setCell ⟨gb150, 2, none⟩ (.bool t148)).setCell ⟨gb150, 3, none⟩ (.bool t149)).setCell ⟨gb150, 2, none⟩ (.bool false)) = w29 at n0_ n1_ n2_ ⊢
      have BK135 := n0_
      have BK150 := n1_
      have HB := n2_
      clear n0_ n1_ n2_
      have n0_ := Aside0.mk (blk_drew BK135.out)
      have n1_ := Aside0.mk (blk_drew BK150.out)
      have n2_ := Aside0.mk (below_drew1 HB.out)
      clear BK135
      clear BK150
      clear HB
      have BK135 := n0_
      have BK150 := n1_
      have HB := n2_
      clear n0_ n1_ n2_
      refine start_ (n := 7) (S := fun w' => w'.cell? ⟨gb150, 0, none⟩ = some (.bool t146) ∧ w'.cell? ⟨gb150, 1, none⟩ = some (.bool t147) ∧ w'.cell? ⟨gb150, 2, none⟩ = some (.bool false) ∧ w'.cell? ⟨gb150, 3, none⟩ = some (.bool t149)) (ds := []) #[false, false, false, false, false, false, false] (by kernel_rfl) rfl rfl ⟨(blk_cell BK150.out 0).trans rfl, (blk_cell BK150.out 1).trans rfl, (blk_cell BK150.out 2).trans rfl, (blk_cell BK150.out 3).trans rfl⟩ (fun hHeld => ?_)
      generalize w29.drew = w30 at BK135 BK150 HB hHeld ⊢
      refine pure_ (i := 0) (N := some 53) (v := ?_) (a' := ?_) #[true, false, false, false, false, false, false] rfl rfl (by kernel_rfl) (fun _ _ _ h => h) (Or.inl ⟨by rfl, ?_⟩) ?_ ?_
      rotate_left
      · intro w'
        go_simp
        with_reducible rfl
      rotate_left
      · simp only [Act.put, List.setIfInBounds_toArray, List.set_cons_zero, List.set_cons_succ, i64_w, i32_w]
        rfl
      refine pure_ (i := 2) (N := some 55) (v := ?_) (a' := ?_) #[true, false, true, false, false, false, false] rfl rfl (by kernel_rfl) (fun _ _ _ h => h) (Or.inl ⟨by rfl, ?_⟩) ?_ ?_
      rotate_left
      · intro w'
        go_simp
        with_reducible rfl
      rotate_left
      · simp only [Act.put, List.setIfInBounds_toArray, List.set_cons_zero, List.set_cons_succ, i64_w, i32_w]
        rfl
      refine pure_ (i := 3) (N := some 56) (v := ?_) (a' := ?_) #[true, false, true, true, false, false, false] rfl rfl (by kernel_rfl) (fun _ _ _ h => h) (Or.inl ⟨by rfl, ?_⟩) ?_ ?_
      rotate_left
      · intro w'
        go_simp
        with_reducible rfl
      rotate_left
      · simp only [Act.put, List.setIfInBounds_toArray, List.set_cons_zero, List.set_cons_succ, i64_w, i32_w]
        rfl
      refine pure_ (i := 4) (N := some 6) (v := ?_) (a' := ?_) #[true, false, true, true, true, false, false] rfl rfl (by kernel_rfl) (fun _ _ _ h => h) (Or.inl ⟨by rfl, ?_⟩) ?_ ?_
      rotate_left
      · intro w'
        go_simp
        with_reducible rfl
      rotate_left
      · simp only [Act.put, List.setIfInBounds_toArray, List.set_cons_zero, List.set_cons_succ, i64_w, i32_w]
        rfl
      refine take_ (i := 1) (N := some 54) (v := ?_) (a' := ?_) #[true, true, true, true, true, false, false] rfl rfl (by kernel_rfl) (fun _ _ _ h => h) (Or.inl ⟨by rfl, ?_⟩) hHeld ?_ ?_
      rotate_left
      · rintro w' ⟨s0, s1, s2, s3⟩
        go_simp
        with_reducible rfl
      rotate_left
      · simp only [Act.put, List.setIfInBounds_toArray, List.set_cons_zero, List.set_cons_succ, i64_w, i32_w]
        rfl
      refine one_ (i := 5) (N := none) #[true, true, true, true, true, true, false] rfl rfl (by kernel_rfl) (by decide) (fun K hK => ?_)
      have hs31 : w30.cell? ⟨gb135, 0, none⟩ = some (.bool false) := (blk_cell BK135.out 0).trans rfl
      have hfs31 := blk_frozen BK135.out 0
      have hns31_1 := NB150_135.out
      have hms31_1 := NB135_150.out
      have hs32 : w30.cell? ⟨gb135, 1, none⟩ = some (.bool false) := (blk_cell BK135.out 1).trans rfl
      have hfs32 := blk_frozen BK135.out 1
      have hns32_1 := NB150_135.out
      have hms32_1 := NB135_150.out
      have hs33 : w30.cell? ⟨gb135, 2, none⟩ = some (.bool false) := (blk_cell BK135.out 2).trans rfl
      have hfs33 := blk_frozen BK135.out 2
      have hns33_1 := NB150_135.out
      have hms33_1 := NB135_150.out
      have hs34 : w30.cell? ⟨gb135, 3, none⟩ = some (.bool false) := (blk_cell BK135.out 3).trans rfl
      have hfs34 := blk_frozen BK135.out 3
      have hns34_1 := NB150_135.out
      have hms34_1 := NB135_150.out
      refine skip_ (w1 := ?_) (by rfl) rfl ?_ ?_
      rotate_left
      · go_simp
        rfl
      refine hK.out _ _ ⟨((cell_far (p := ⟨gb135, _, none⟩) NB150_135.out _).trans (((cell_far (p := ⟨gb135, _, none⟩) NB150_135.out _).trans (((cell_far (p := ⟨gb135, _, none⟩) NB150_135.out _).trans (((cell_far (p := ⟨gb135, _, none⟩) NB150_135.out _).trans (hHeld.1)))))))), ((cell_far (p := ⟨gb135, _, none⟩) NB150_135.out _).trans (((cell_far (p := ⟨gb135, _, none⟩) NB150_135.out _).trans (((cell_far (p := ⟨gb135, _, none⟩) NB150_135.out _).trans (((cell_far (p := ⟨gb135, _, none⟩) NB150_135.out _).trans (hHeld.2.1)))))))), ((cell_far (p := ⟨gb135, _, none⟩) NB150_135.out _).trans (((cell_far (p := ⟨gb135, _, none⟩) NB150_135.out _).trans (((cell_far (p := ⟨gb135, _, none⟩) NB150_135.out _).trans (((cell_far (p := ⟨gb135, _, none⟩) NB150_135.out _).trans (hHeld.2.2.1)))))))), ((cell_far (p := ⟨gb135, _, none⟩) NB150_135.out _).trans (((cell_far (p := ⟨gb135, _, none⟩) NB150_135.out _).trans (((cell_far (p := ⟨gb135, _, none⟩) NB150_135.out _).trans (((cell_far (p := ⟨gb135, _, none⟩) NB150_135.out _).trans (hHeld.2.2.2))))))))⟩ (fun hHeld => ?_)
      clear hK K
      refine pure_ (i := 6) (N := some 8) (v := ?_) (a' := ?_) #[true, true, true, true, true, true, true] rfl rfl (by kernel_rfl) (fun _ _ _ h => h) (Or.inl ⟨by rfl, ?_⟩) ?_ ?_
      rotate_left
      · intro w'
        go_simp
        with_reducible rfl
      rotate_left
      · simp only [Act.put, List.setIfInBounds_toArray, List.set_cons_zero, List.set_cons_succ, i64_w, i32_w]
        rfl
      refine done_ (by kernel_rfl) ?_
      try go_wp2
      refine bodyPost_ret (results_list (rs := [.tmp 6, .cell 7 29, .tmp 8]) rfl (by simp) (.tmp (.cell gb135 29 #[.bool t146, .bool t147, .bool false, .bool t149] (0, 0) _ rfl (by (with_reducible repeat (first | refine blk_drewN ?_ _ | refine blk_drew ?_ | refine blk_alloc ?_ _)); refine blk_put (cs := #[.bool t146, .bool t147, .bool false, .bool false]) ?_ 3 _ rfl; (with_reducible repeat (first | refine blk_drewN ?_ _ | refine blk_drew ?_ | refine blk_alloc ?_ _)); refine blk_put (cs := #[.bool t146, .bool t147, .bool false, .bool false]) ?_ 2 _ rfl; (with_reducible repeat (first | refine blk_drewN ?_ _ | refine blk_drew ?_ | refine blk_alloc ?_ _)); refine blk_put (cs := #[.bool t146, .bool false, .bool false, .bool false]) ?_ 1 _ rfl; (with_reducible repeat (first | refine blk_drewN ?_ _ | refine blk_drew ?_ | refine blk_alloc ?_ _)); refine blk_put (cs := #[.bool false, .bool false, .bool false, .bool false]) ?_ 0 _ rfl; (with_reducible repeat (first | refine blk_drewN ?_ _ | refine blk_drew ?_ | refine blk_alloc ?_ _)); exact BK135.out) Try.underlying29 rfl (by kernel_rfl) (.tmp .nil)))) rfl ?_
      exact ⟨by first | rfl | (simp [errW_none, errW_some] <;> rfl) | (simp [*, errW_none, errW_some] <;> rfl), by repeat (first | (with_reducible first | exact HB.out | apply below_alloc | apply pw_below_drewN | apply below_drew1 | refine below_set ?_ GE135.out | refine below_set ?_ GE150.out) | exact HB.out)⟩
    · rw [if_neg c22] at H
      have c22b0 : ((wrap64 (wrap32 (t145))) == (wrap64 (Int.tdiv (wrap64 (wrap32 (t136))) (wrap64 (wrap32 (t137)))))) = false := beq_eq_false_iff_ne.mpr c22
      have c22b1 : ((wrap64 (wrap32 (t145))) != (wrap64 (Int.tdiv (wrap64 (wrap32 (t136))) (wrap64 (wrap32 (t137)))))) = true := bne_iff_ne.mpr c22
      replace H := Option.bind_eq_some_iff.mp H
      obtain ⟨⟨t151, t152, t153, t154⟩, A350, H⟩ := H
      replace H : (some (Go.bits .and .u32 a0 t138, t151, t152, true, t154, ((wrap64 (wrap32 (t137))) != 0))) = some (r1, r2, r3, r4, r5, r6) := H
      have A35 := Aside0.mk A350
      clear A350
      simp only [Option.some.injEq, Prod.mk.injEq] at H
      obtain ⟨rfl, rfl, rfl, rfl, rfl, rfl⟩ := H
      go_enter Try.func38, Try.ntmps38
      try go_wp2_with (first | ((with_reducible refine gate_dst (N := 7) rfl ?_); refine box_event ?hg (N := 7) ?hd (cs := #[.bool false, .bool false, .bool false, .bool false]) (t := 29) ?hr ?_; (case hd => rfl); (case hg => rfl); (case hr => first | (go_simp; done) | (go_simp; rfl)); intro gb135 hg w36 hbox hb; have n0_ := Aside0.mk (below_step (by repeat (first | (with_reducible first | exact HB.out | apply below_alloc | apply pw_below_drewN | apply below_drew1) | exact HB.out)) hb); have n1_ := Aside0.mk (hbox); have n2_ := Aside0.mk ((by rw [hg]; exact (below_size (by repeat (first | (with_reducible first | exact HB.out | apply below_alloc | apply pw_below_drewN | apply below_drew1) | exact HB.out))) : w.heap.size ≤ gb135)); have n3_ := Aside0.mk ((by rw [hg]; exact (below_size (by repeat (first | (with_reducible first | exact HB.out | apply below_alloc | apply pw_below_drewN | apply below_drew1) | exact HB.out))) : w.heap.size ≤ gb135)); clear HB; have HB := n0_; have BK135 := n1_; have GW135 := n2_; have GE135 := n3_; clear n0_ n1_ n2_ n3_; clear hb hbox hg) | ((with_reducible refine gate_callee (f := 25) rfl ?_); refine goesL_ (some 18) rfl rfl Try.func25 (by kernel_rfl) rfl #[.int .u32 a0, .int .i64 a2] rfl (by (try simp only [List.map_toArray, List.map_cons, List.map_nil]); first | done | rfl | (simp only [List.length_drop, List.length_take]; rfl)) ?_; (with_reducible refine (bits_Extend.calls a0 a2 t136 _ A4.out).mono ?_); rintro e w' ⟨rfl, ⟨nd, rfl⟩⟩; refine ⟨_, rfl, ?_⟩; (try (rw [drewN_self w36]; generalize hq_ : World.drewN w36 _ = w36; have n0_ : Aside0 (w36.heap[gb135]? = some (.cells #[.bool false, .bool false, .bool false, .bool false] 29 (0, 0))) := ⟨by rw [← hq_]; exact (by (with_reducible repeat (first | refine blk_drewN ?_ _ | refine blk_drew ?_ | refine blk_alloc ?_ _)); exact BK135.out)⟩; have n1_ : Aside0 (Below w.heap.size w w36) := ⟨by rw [← hq_]; exact (by repeat (first | (with_reducible first | exact HB.out | apply below_alloc | apply pw_below_drewN | apply below_drew1 | refine below_set ?_ GE135.out) | exact HB.out))⟩; clear BK135 HB hq_; have BK135 := n0_; have HB := n1_; clear n0_ n1_))) | ((with_reducible refine gate_callee (f := 25) rfl ?_); refine goesL_ (some 23) rfl rfl Try.func25 (by kernel_rfl) rfl #[.int .u32 a1, .int .i64 a2] rfl (by (try simp only [List.map_toArray, List.map_cons, List.map_nil]); first | done | rfl | (simp only [List.length_drop, List.length_take]; rfl)) ?_; (with_reducible refine (bits_Extend.calls a1 a2 t137 _ A5.out).mono ?_); rintro e w' ⟨rfl, ⟨nd, rfl⟩⟩; refine ⟨_, rfl, ?_⟩; (try (rw [drewN_self w36]; generalize hq_ : World.drewN w36 _ = w36; have n0_ : Aside0 (w36.heap[gb135]? = some (.cells #[.bool false, .bool false, .bool false, .bool false] 29 (0, 0))) := ⟨by rw [← hq_]; exact (by (with_reducible repeat (first | refine blk_drewN ?_ _ | refine blk_drew ?_ | refine blk_alloc ?_ _)); exact BK135.out)⟩; have n1_ : Aside0 (Below w.heap.size w w36) := ⟨by rw [← hq_]; exact (by repeat (first | (with_reducible first | exact HB.out | apply below_alloc | apply pw_below_drewN | apply below_drew1 | refine below_set ?_ GE135.out) | exact HB.out))⟩; clear BK135 HB hq_; have BK135 := n0_; have HB := n1_; clear n0_ n1_))) | ((with_reducible refine gate_callee (f := 19) rfl ?_); refine goesL_ (some 28) rfl rfl Try.func19 (by kernel_rfl) rfl #[.int .i64 a2] rfl (by (try simp only [List.map_toArray, List.map_cons, List.map_nil]); first | done | rfl | (simp only [List.length_drop, List.length_take]; rfl)) ?_; (with_reducible refine (bits_Mask.calls a2 t138 _ A6.out).mono ?_); rintro e w' ⟨rfl, ⟨nd, rfl⟩⟩; refine ⟨_, rfl, ?_⟩; (try (rw [drewN_self w36]; generalize hq_ : World.drewN w36 _ = w36; have n0_ : Aside0 (w36.heap[gb135]? = some (.cells #[.bool false, .bool false, .bool false, .bool false] 29 (0, 0))) := ⟨by rw [← hq_]; exact (by (with_reducible repeat (first | refine blk_drewN ?_ _ | refine blk_drew ?_ | refine blk_alloc ?_ _)); exact BK135.out)⟩; have n1_ : Aside0 (Below w.heap.size w w36) := ⟨by rw [← hq_]; exact (by repeat (first | (with_reducible first | exact HB.out | apply below_alloc | apply pw_below_drewN | apply below_drew1 | refine below_set ?_ GE135.out) | exact HB.out))⟩; clear BK135 HB hq_; have BK135 := n0_; have HB := n1_; clear n0_ n1_))) | ((with_reducible refine gate_callee (f := 19) rfl ?_); refine goesL_ (some 38) rfl rfl Try.func19 (by kernel_rfl) rfl #[.int .i64 a2] rfl (by (try simp only [List.map_toArray, List.map_cons, List.map_nil]); first | done | rfl | (simp only [List.length_drop, List.length_take]; rfl)) ?_; (with_reducible refine (bits_Mask.calls a2 t144 _ A20.out).mono ?_); rintro e w' ⟨rfl, ⟨nd, rfl⟩⟩; refine ⟨_, rfl, ?_⟩; (try (rw [drewN_self w36]; generalize hq_ : World.drewN w36 _ = w36; have n0_ : Aside0 (w36.heap[gb135]? = some (.cells #[.bool false, .bool false, .bool false, .bool false] 29 (0, 0))) := ⟨by rw [← hq_]; exact (by (with_reducible repeat (first | refine blk_drewN ?_ _ | refine blk_drew ?_ | refine blk_alloc ?_ _)); exact BK135.out)⟩; have n1_ : Aside0 (Below w.heap.size w w36) := ⟨by rw [← hq_]; exact (by repeat (first | (with_reducible first | exact HB.out | apply below_alloc | apply pw_below_drewN | apply below_drew1 | refine below_set ?_ GE135.out) | exact HB.out))⟩; clear BK135 HB hq_; have BK135 := n0_; have HB := n1_; clear n0_ n1_))) | ((with_reducible refine gate_callee (f := 25) rfl ?_); refine goesL_ (some 42) rfl rfl Try.func25 (by kernel_rfl) rfl #[.int .u32 (Go.bits .and .u32 ((wrap64 (Int.tdiv (wrap64 (wrap32 (t136))) (wrap64 (wrap32 (t137))))) % 4294967296) t144), .int .i64 a2] rfl (by (try simp only [List.map_toArray, List.map_cons, List.map_nil]); first | done | rfl | (simp only [List.length_drop, List.length_take]; rfl)) ?_; (with_reducible refine (bits_Extend.calls (Go.bits .and .u32 ((wrap64 (Int.tdiv (wrap64 (wrap32 (t136))) (wrap64 (wrap32 (t137))))) % 4294967296) t144) a2 t145 _ A21.out).mono ?_); rintro e w' ⟨rfl, ⟨nd, rfl⟩⟩; refine ⟨_, rfl, ?_⟩; (try (rw [drewN_self w36]; generalize hq_ : World.drewN w36 _ = w36; have n0_ : Aside0 (w36.heap[gb135]? = some (.cells #[.bool false, .bool false, .bool false, .bool false] 29 (0, 0))) := ⟨by rw [← hq_]; exact (by (with_reducible repeat (first | refine blk_drewN ?_ _ | refine blk_drew ?_ | refine blk_alloc ?_ _)); exact BK135.out)⟩; have n1_ : Aside0 (Below w.heap.size w w36) := ⟨by rw [← hq_]; exact (by repeat (first | (with_reducible first | exact HB.out | apply below_alloc | apply pw_below_drewN | apply below_drew1 | refine below_set ?_ GE135.out) | exact HB.out))⟩; clear BK135 HB hq_; have BK135 := n0_; have HB := n1_; clear n0_ n1_))) | ((with_reducible refine gate_callee (f := 27) rfl ?_); refine goesL_ (some 50) rfl rfl Try.func27 (by kernel_rfl) rfl #[.int .u32 (Go.bits .and .u32 a0 t138), .int .i64 a2] rfl (by (try simp only [List.map_toArray, List.map_cons, List.map_nil]); first | done | rfl | (simp only [List.length_drop, List.length_take]; rfl)) ?_; (with_reducible refine (bits_Signs.calls (Go.bits .and .u32 a0 t138) a2 t151 t152 t153 t154 _ A35.out).mono ?_); rintro e w37 ⟨rfl, hb⟩; refine ⟨_, rfl, ?_⟩; have n0_ := Aside0.mk (blk_below (g := gb135) (o := .cells #[.bool false, .bool false, .bool false, .bool false] 29 (0, 0)) (by (with_reducible repeat (first | refine blk_drewN ?_ _ | refine blk_drew ?_ | refine blk_alloc ?_ _)); exact BK135.out) hb); have n1_ := Aside0.mk (below_step (by repeat (first | (with_reducible first | exact HB.out | apply below_alloc | apply pw_below_drewN | apply below_drew1 | refine below_set ?_ GE135.out) | exact HB.out)) hb); clear BK135; clear HB; have BK135 := n0_; have HB := n1_; clear n0_ n1_; (try clear hb); (try clear hb2); (try clear hk); (try clear hi)) | ((with_reducible refine gate_dst (N := 15) rfl ?_); refine box_event ?hg (N := 15) ?hd (cs := #[.bool false, .bool false, .bool false, .bool false]) (t := 29) ?hr ?_; (case hd => rfl); (case hg => rfl); (case hr => first | (go_simp; done) | (go_simp; rfl)); intro gb155 hg w38 hbox hb; have n0_ := Aside0.mk (blk_below (g := gb135) (o := .cells #[.bool false, .bool false, .bool false, .bool false] 29 (0, 0)) (by (with_reducible repeat (first | refine blk_drewN ?_ _ | refine blk_drew ?_ | refine blk_alloc ?_ _)); exact BK135.out) hb); have n1_ := Aside0.mk (below_step (by repeat (first | (with_reducible first | exact HB.out | apply below_alloc | apply pw_below_drewN | apply below_drew1 | refine below_set ?_ GE135.out) | exact HB.out)) hb); have n2_ := Aside0.mk (hbox); have n3_ := Aside0.mk ((by rw [hg]; exact (below_size (by repeat (first | (with_reducible first | exact HB.out | apply below_alloc | apply pw_below_drewN | apply below_drew1 | refine below_set ?_ GE135.out) | exact HB.out))) : w.heap.size ≤ gb155)); have n4_ := Aside0.mk ((by rw [hg]; exact (below_size (by repeat (first | (with_reducible first | exact HB.out | apply below_alloc | apply pw_below_drewN | apply below_drew1 | refine below_set ?_ GE135.out) | exact HB.out))) : w.heap.size ≤ gb155)); have n5_ := Aside0.mk ((by rw [hg]; exact Nat.ne_of_lt (blk_lt (g := gb135) (o := .cells #[.bool false, .bool false, .bool false, .bool false] 29 (0, 0)) (by (with_reducible repeat (first | refine blk_drewN ?_ _ | refine blk_drew ?_ | refine blk_alloc ?_ _)); exact BK135.out)) : gb135 ≠ gb155)); have n6_ := Aside0.mk ((by rw [hg]; exact Nat.ne_of_gt (blk_lt (g := gb135) (o := .cells #[.bool false, .bool false, .bool false, .bool false] 29 (0, 0)) (by (with_reducible repeat (first | refine blk_drewN ?_ _ | refine blk_drew ?_ | refine blk_alloc ?_ _)); exact BK135.out)) : gb155 ≠ gb135)); clear BK135; clear HB; have BK135 := n0_; have HB := n1_; have BK155 := n2_; have GW155 := n3_; have GE155 := n4_; have NB135_155 := n5_; have NB155_135 := n6_; clear n0_ n1_ n2_ n3_ n4_ n5_ n6_; clear hb hbox hg; have hnb39 := NB155_135.out; have hnc39 := NB135_155.out; have hcz40_0 : w38.cell? ⟨gb155, 0, none⟩ = some (.bool false) := (blk_cell BK155.out 0).trans rfl; have hcz40_1 : w38.cell? ⟨gb155, 1, none⟩ = some (.bool false) := (blk_cell BK155.out 1).trans rfl; have hcz40_2 : w38.cell? ⟨gb155, 2, none⟩ = some (.bool false) := (blk_cell BK155.out 2).trans rfl; have hcz40_3 : w38.cell? ⟨gb155, 3, none⟩ = some (.bool false) := (blk_cell BK155.out 3).trans rfl; have hfz40_0 := blk_frozen BK155.out 0; have hfz40_1 := blk_frozen BK155.out 1; have hfz40_2 := blk_frozen BK155.out 2; have hfz40_3 := blk_frozen BK155.out 3))
      have n0_ : Aside0 ((((((w38.setCell ⟨gb155, 0, none⟩ (.bool t151)).setCell ⟨gb155, 1, none⟩ (.bool t152)).setCell ⟨gb155, 2, none⟩ (.bool t153)).setCell ⟨gb155, 3, none⟩ (.bool t154)).setCell ⟨gb155, 2, none⟩ (.bool true)).heap[gb135]? = some (.cells #[.bool false, .bool false, .bool false, .bool false] 29 (0, 0))) := ⟨by (with_reducible repeat (first | refine blk_drewN ?_ _ | refine blk_drew ?_ | refine blk_alloc ?_ _)); refine blk_far ?_ NB135_155.out _; (with_reducible repeat (first | refine blk_drewN ?_ _ | refine blk_drew ?_ | refine blk_alloc ?_ _)); refine blk_far ?_ NB135_155.out _; (with_reducible repeat (first | refine blk_drewN ?_ _ | refine blk_drew ?_ | refine blk_alloc ?_ _)); refine blk_far ?_ NB135_155.out _; (with_reducible repeat (first | refine blk_drewN ?_ _ | refine blk_drew ?_ | refine blk_alloc ?_ _)); refine blk_far ?_ NB135_155.out _; (with_reducible repeat (first | refine blk_drewN ?_ _ | refine blk_drew ?_ | refine blk_alloc ?_ _)); refine blk_far ?_ NB135_155.out _; (with_reducible repeat (first | refine blk_drewN ?_ _ | refine blk_drew ?_ | refine blk_alloc ?_ _)); exact BK135.out⟩
      have n1_ : Aside0 ((((((w38.setCell ⟨gb155, 0, none⟩ (.bool t151)).setCell ⟨gb155, 1, none⟩ (.bool t152)).setCell ⟨gb155, 2, none⟩ (.bool t153)).setCell ⟨gb155, 3, none⟩ (.bool t154)).setCell ⟨gb155, 2, none⟩ (.bool true)).heap[gb155]? = some (.cells #[.bool t151, .bool t152, .bool true, .bool t154] 29 (0, 0))) := ⟨by (with_reducible repeat (first | refine blk_drewN ?_ _ | refine blk_drew ?_ | refine blk_alloc ?_ _)); refine blk_put (cs := #[.bool t151, .bool t152, .bool t153, .bool t154]) ?_ 2 _ rfl; (with_reducible repeat (first | refine blk_drewN ?_ _ | refine blk_drew ?_ | refine blk_alloc ?_ _)); refine blk_put (cs := #[.bool t151, .bool t152, .bool t153, .bool false]) ?_ 3 _ rfl; (with_reducible repeat (first | refine blk_drewN ?_ _ | refine blk_drew ?_ | refine blk_alloc ?_ _)); refine blk_put (cs := #[.bool t151, .bool t152, .bool false, .bool false]) ?_ 2 _ rfl; (with_reducible repeat (first | refine blk_drewN ?_ _ | refine blk_drew ?_ | refine blk_alloc ?_ _)); refine blk_put (cs := #[.bool t151, .bool false, .bool false, .bool false]) ?_ 1 _ rfl; (with_reducible repeat (first | refine blk_drewN ?_ _ | refine blk_drew ?_ | refine blk_alloc ?_ _)); refine blk_put (cs := #[.bool false, .bool false, .bool false, .bool false]) ?_ 0 _ rfl; (with_reducible repeat (first | refine blk_drewN ?_ _ | refine blk_drew ?_ | refine blk_alloc ?_ _)); exact BK155.out⟩
      have n2_ : Aside0 (Below w.heap.size w (((((w38.setCell ⟨gb155, 0, none⟩ (.bool t151)).setCell ⟨gb155, 1, none⟩ (.bool t152)).setCell ⟨gb155, 2, none⟩ (.bool t153)).setCell ⟨gb155, 3, none⟩ (.bool t154)).setCell ⟨gb155, 2, none⟩ (.bool true))) := ⟨by repeat (first | (with_reducible first | exact HB.out | apply below_alloc | apply pw_below_drewN | apply below_drew1 | refine below_set ?_ GE135.out | refine below_set ?_ GE155.out) | exact HB.out)⟩
      (try clear BK135)
      (try clear BK155)
      (try clear HB)
      (repeat rw [own_setCell_drewN]); (repeat rw [World.drewN_drewN])
      generalize (((((w38.setCell ⟨gb155, 0, none⟩ (.bool t151)).setCell ⟨gb155, 1, none⟩ (.bool t152)).setCell ⟨gb155, 2, none⟩ (.bool t153)).setCell ⟨gb155, 3, none⟩ (.bool t154)).setCell ⟨gb155, 2, none⟩ (.bool true)) = w41 at n0_ n1_ n2_ ⊢
      have BK135 := n0_
      have BK155 := n1_
      have HB := n2_
      clear n0_ n1_ n2_
      have n0_ := Aside0.mk (blk_drew BK135.out)
      have n1_ := Aside0.mk (blk_drew BK155.out)
      have n2_ := Aside0.mk (below_drew1 HB.out)
      clear BK135
      clear BK155
      clear HB
      have BK135 := n0_
      have BK155 := n1_
      have HB := n2_
      clear n0_ n1_ n2_
      refine start_ (n := 7) (S := fun w' => w'.cell? ⟨gb155, 0, none⟩ = some (.bool t151) ∧ w'.cell? ⟨gb155, 1, none⟩ = some (.bool t152) ∧ w'.cell? ⟨gb155, 2, none⟩ = some (.bool true) ∧ w'.cell? ⟨gb155, 3, none⟩ = some (.bool t154)) (ds := []) #[false, false, false, false, false, false, false] (by kernel_rfl) rfl rfl ⟨(blk_cell BK155.out 0).trans rfl, (blk_cell BK155.out 1).trans rfl, (blk_cell BK155.out 2).trans rfl, (blk_cell BK155.out 3).trans rfl⟩ (fun hHeld => ?_)
      generalize w41.drew = w42 at BK135 BK155 HB hHeld ⊢
      refine pure_ (i := 0) (N := some 53) (v := ?_) (a' := ?_) #[true, false, false, false, false, false, false] rfl rfl (by kernel_rfl) (fun _ _ _ h => h) (Or.inl ⟨by rfl, ?_⟩) ?_ ?_
      rotate_left
      · intro w'
        go_simp
        with_reducible rfl
      rotate_left
      · simp only [Act.put, List.setIfInBounds_toArray, List.set_cons_zero, List.set_cons_succ, i64_w, i32_w]
        rfl
      refine pure_ (i := 2) (N := some 55) (v := ?_) (a' := ?_) #[true, false, true, false, false, false, false] rfl rfl (by kernel_rfl) (fun _ _ _ h => h) (Or.inl ⟨by rfl, ?_⟩) ?_ ?_
      rotate_left
      · intro w'
        go_simp
        with_reducible rfl
      rotate_left
      · simp only [Act.put, List.setIfInBounds_toArray, List.set_cons_zero, List.set_cons_succ, i64_w, i32_w]
        rfl
      refine pure_ (i := 3) (N := some 56) (v := ?_) (a' := ?_) #[true, false, true, true, false, false, false] rfl rfl (by kernel_rfl) (fun _ _ _ h => h) (Or.inl ⟨by rfl, ?_⟩) ?_ ?_
      rotate_left
      · intro w'
        go_simp
        with_reducible rfl
      rotate_left
      · simp only [Act.put, List.setIfInBounds_toArray, List.set_cons_zero, List.set_cons_succ, i64_w, i32_w]
        rfl
      refine pure_ (i := 4) (N := some 6) (v := ?_) (a' := ?_) #[true, false, true, true, true, false, false] rfl rfl (by kernel_rfl) (fun _ _ _ h => h) (Or.inl ⟨by rfl, ?_⟩) ?_ ?_
      rotate_left
      · intro w'
        go_simp
        with_reducible rfl
      rotate_left
      · simp only [Act.put, List.setIfInBounds_toArray, List.set_cons_zero, List.set_cons_succ, i64_w, i32_w]
        rfl
      refine take_ (i := 1) (N := some 54) (v := ?_) (a' := ?_) #[true, true, true, true, true, false, false] rfl rfl (by kernel_rfl) (fun _ _ _ h => h) (Or.inl ⟨by rfl, ?_⟩) hHeld ?_ ?_
      rotate_left
      · rintro w' ⟨s0, s1, s2, s3⟩
        go_simp
        with_reducible rfl
      rotate_left
      · simp only [Act.put, List.setIfInBounds_toArray, List.set_cons_zero, List.set_cons_succ, i64_w, i32_w]
        rfl
      refine one_ (i := 5) (N := none) #[true, true, true, true, true, true, false] rfl rfl (by kernel_rfl) (by decide) (fun K hK => ?_)
      have hs43 : w42.cell? ⟨gb135, 0, none⟩ = some (.bool false) := (blk_cell BK135.out 0).trans rfl
      have hfs43 := blk_frozen BK135.out 0
      have hns43_1 := NB155_135.out
      have hms43_1 := NB135_155.out
      have hs44 : w42.cell? ⟨gb135, 1, none⟩ = some (.bool false) := (blk_cell BK135.out 1).trans rfl
      have hfs44 := blk_frozen BK135.out 1
      have hns44_1 := NB155_135.out
      have hms44_1 := NB135_155.out
      have hs45 : w42.cell? ⟨gb135, 2, none⟩ = some (.bool false) := (blk_cell BK135.out 2).trans rfl
      have hfs45 := blk_frozen BK135.out 2
      have hns45_1 := NB155_135.out
      have hms45_1 := NB135_155.out
      have hs46 : w42.cell? ⟨gb135, 3, none⟩ = some (.bool false) := (blk_cell BK135.out 3).trans rfl
      have hfs46 := blk_frozen BK135.out 3
      have hns46_1 := NB155_135.out
      have hms46_1 := NB135_155.out
      refine skip_ (w1 := ?_) (by rfl) rfl ?_ ?_
      rotate_left
      · go_simp
        rfl
      refine hK.out _ _ ⟨((cell_far (p := ⟨gb135, _, none⟩) NB155_135.out _).trans (((cell_far (p := ⟨gb135, _, none⟩) NB155_135.out _).trans (((cell_far (p := ⟨gb135, _, none⟩) NB155_135.out _).trans (((cell_far (p := ⟨gb135, _, none⟩) NB155_135.out _).trans (hHeld.1)))))))), ((cell_far (p := ⟨gb135, _, none⟩) NB155_135.out _).trans (((cell_far (p := ⟨gb135, _, none⟩) NB155_135.out _).trans (((cell_far (p := ⟨gb135, _, none⟩) NB155_135.out _).trans (((cell_far (p := ⟨gb135, _, none⟩) NB155_135.out _).trans (hHeld.2.1)))))))), ((cell_far (p := ⟨gb135, _, none⟩) NB155_135.out _).trans (((cell_far (p := ⟨gb135, _, none⟩) NB155_135.out _).trans (((cell_far (p := ⟨gb135, _, none⟩) NB155_135.out _).trans (((cell_far (p := ⟨gb135, _, none⟩) NB155_135.out _).trans (hHeld.2.2.1)))))))), ((cell_far (p := ⟨gb135, _, none⟩) NB155_135.out _).trans (((cell_far (p := ⟨gb135, _, none⟩) NB155_135.out _).trans (((cell_far (p := ⟨gb135, _, none⟩) NB155_135.out _).trans (((cell_far (p := ⟨gb135, _, none⟩) NB155_135.out _).trans (hHeld.2.2.2))))))))⟩ (fun hHeld => ?_)
      clear hK K
      refine pure_ (i := 6) (N := some 8) (v := ?_) (a' := ?_) #[true, true, true, true, true, true, true] rfl rfl (by kernel_rfl) (fun _ _ _ h => h) (Or.inl ⟨by rfl, ?_⟩) ?_ ?_
      rotate_left
      · intro w'
        go_simp
        with_reducible rfl
      rotate_left
      · simp only [Act.put, List.setIfInBounds_toArray, List.set_cons_zero, List.set_cons_succ, i64_w, i32_w]
        rfl
      refine done_ (by kernel_rfl) ?_
      try go_wp2
      refine bodyPost_ret (results_list (rs := [.tmp 6, .cell 7 29, .tmp 8]) rfl (by simp) (.tmp (.cell gb135 29 #[.bool t151, .bool t152, .bool true, .bool t154] (0, 0) _ rfl (by (with_reducible repeat (first | refine blk_drewN ?_ _ | refine blk_drew ?_ | refine blk_alloc ?_ _)); refine blk_put (cs := #[.bool t151, .bool t152, .bool true, .bool false]) ?_ 3 _ rfl; (with_reducible repeat (first | refine blk_drewN ?_ _ | refine blk_drew ?_ | refine blk_alloc ?_ _)); refine blk_put (cs := #[.bool t151, .bool t152, .bool false, .bool false]) ?_ 2 _ rfl; (with_reducible repeat (first | refine blk_drewN ?_ _ | refine blk_drew ?_ | refine blk_alloc ?_ _)); refine blk_put (cs := #[.bool t151, .bool false, .bool false, .bool false]) ?_ 1 _ rfl; (with_reducible repeat (first | refine blk_drewN ?_ _ | refine blk_drew ?_ | refine blk_alloc ?_ _)); refine blk_put (cs := #[.bool false, .bool false, .bool false, .bool false]) ?_ 0 _ rfl; (with_reducible repeat (first | refine blk_drewN ?_ _ | refine blk_drew ?_ | refine blk_alloc ?_ _)); exact BK135.out) Try.underlying29 rfl (by kernel_rfl) (.tmp .nil)))) rfl ?_
      exact ⟨by first | rfl | (simp [errW_none, errW_some] <;> rfl) | (simp [*, errW_none, errW_some] <;> rfl), by repeat (first | (with_reducible first | exact HB.out | apply below_alloc | apply pw_below_drewN | apply below_drew1 | refine below_set ?_ GE135.out | refine below_set ?_ GE155.out) | exact HB.out)⟩

end Go.Proofs.Ytmmmifgddkfehaa.PAlu
