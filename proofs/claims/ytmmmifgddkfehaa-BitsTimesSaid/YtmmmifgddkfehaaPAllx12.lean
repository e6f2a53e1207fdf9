-- Written by wip/oprint.py, a program of this session's repo, out of the translation. Not trusted: Lean checks it.
import Derived.Test.YtmmmifgddkfehaaPAllx0
import Derived.Test.YtmmmifgddkfehaaPAllx2
import Derived.Test.YtmmmifgddkfehaaPAllx4
import Derived.Test.YtmmmifgddkfehaaPAllx8
namespace Go.Proofs.Ytmmmifgddkfehaa.PAll
open Go.RowKit Go.Proofs.YtmmmifgddkfehaaW.PrintWords Go.Proofs.YtmmmifgddkfehaaW.PrintLast Go.Proofs.YtmmmifgddkfehaaW.PrintMore
attribute [local go_sem] max2_int min2_int max_two min_two max_three min_three max_four min_four   -- for this text's walks alone
set_option linter.unusedVariables false
set_option linter.unusedSimpArgs false

/-! ### bits_Mul: function 36 -/
def bits_Mul.f (a0 : Int) (a1 : Int) (a2 : Int) : Option (Int × Bool × Bool × Bool × Bool) := (bits_Extend.f a0 a2).bind fun t278 => ((bits_Extend.f a1 a2).bind fun t279 => ((bits_Mask.f a2).bind fun t280 => ((bits_Signs.f (Go.bits .and .u32 ((wrap64 ((wrap64 (wrap32 (t278))) * (wrap64 (wrap32 (t279))))) % 4294967296) t280) a2).bind fun bt281 => ((bits_Extend.f (Go.bits .and .u32 ((wrap64 ((wrap64 (wrap32 (t278))) * (wrap64 (wrap32 (t279))))) % 4294967296) t280) a2).bind fun t286 => (some (Go.bits .and .u32 ((wrap64 ((wrap64 (wrap32 (t278))) * (wrap64 (wrap32 (t279))))) % 4294967296) t280, bt281.1, bt281.2.1, ((wrap64 (wrap32 (t286))) != (wrap64 ((wrap64 (wrap32 (t278))) * (wrap64 (wrap32 (t279)))))), bt281.2.2.2))))))
set_option maxHeartbeats 8000000 in
set_option maxRecDepth 100000 in
theorem bits_Mul.calls (a0 : Int) (a1 : Int) (a2 : Int) (r1 : Int) (r2 : Bool) (r3 : Bool) (r4 : Bool) (r5 : Bool) (w : World) (h : bits_Mul.f a0 a1 a2 = some (r1, r2, r3, r4, r5)) :
    Calls Try.prog 36 #[.int .u32 a0, .int .u32 a1, .int .i64 a2] w fun e w' => e = .returned (.tuple #[.int .u32 r1, .agg #[.bool r2, .bool r3, .bool r4, .bool r5]]) ∧ Below w.heap.size w w' := by
  have hu29 := Try.underlying29
  have HB := Aside0.mk (Below.refl w.heap.size w)
  have H : ((bits_Extend.f a0 a2).bind fun t278 => ((bits_Extend.f a1 a2).bind fun t279 => ((bits_Mask.f a2).bind fun t280 => ((bits_Signs.f (Go.bits .and .u32 ((wrap64 ((wrap64 (wrap32 (t278))) * (wrap64 (wrap32 (t279))))) % 4294967296) t280) a2).bind fun bt281 => ((bits_Extend.f (Go.bits .and .u32 ((wrap64 ((wrap64 (wrap32 (t278))) * (wrap64 (wrap32 (t279))))) % 4294967296) t280) a2).bind fun t286 => (some (Go.bits .and .u32 ((wrap64 ((wrap64 (wrap32 (t278))) * (wrap64 (wrap32 (t279))))) % 4294967296) t280, bt281.1, bt281.2.1, ((wrap64 (wrap32 (t286))) != (wrap64 ((wrap64 (wrap32 (t278))) * (wrap64 (wrap32 (t279)))))), bt281.2.2.2))))))) = some (r1, r2, r3, r4, r5) := h
  clear h
  replace H := Option.bind_eq_some_iff.mp H
  obtain ⟨t278, A40, H⟩ := H
  replace H : ((bits_Extend.f a1 a2).bind fun t279 => ((bits_Mask.f a2).bind fun t280 => ((bits_Signs.f (Go.bits .and .u32 ((wrap64 ((wrap64 (wrap32 (t278))) * (wrap64 (wrap32 (t279))))) % 4294967296) t280) a2).bind fun bt281 => ((bits_Extend.f (Go.bits .and .u32 ((wrap64 ((wrap64 (wrap32 (t278))) * (wrap64 (wrap32 (t279))))) % 4294967296) t280) a2).bind fun t286 => (some (Go.bits .and .u32 ((wrap64 ((wrap64 (wrap32 (t278))) * (wrap64 (wrap32 (t279))))) % 4294967296) t280, bt281.1, bt281.2.1, ((wrap64 (wrap32 (t286))) != (wrap64 ((wrap64 (wrap32 (t278))) * (wrap64 (wrap32 (t279)))))), bt281.2.2.2)))))) = some (r1, r2, r3, r4, r5) := H
  have A4 := Aside0.mk A40
  clear A40
  replace H := Option.bind_eq_some_iff.mp H
  obtain ⟨t279, A50, H⟩ := H
  replace H : ((bits_Mask.f a2).bind fun t280 => ((bits_Signs.f (Go.bits .and .u32 ((wrap64 ((wrap64 (wrap32 (t278))) * (wrap64 (wrap32 (t279))))) % 4294967296) t280) a2).bind fun bt281 => ((bits_Extend.f (Go.bits .and .u32 ((wrap64 ((wrap64 (wrap32 (t278))) * (wrap64 (wrap32 (t279))))) % 4294967296) t280) a2).bind fun t286 => (some (Go.bits .and .u32 ((wrap64 ((wrap64 (wrap32 (t278))) * (wrap64 (wrap32 (t279))))) % 4294967296) t280, bt281.1, bt281.2.1, ((wrap64 (wrap32 (t286))) != (wrap64 ((wrap64 (wrap32 (t278))) * (wrap64 (wrap32 (t279)))))), bt281.2.2.2))))) = some (r1, r2, r3, r4, r5) := H
  have A5 := Aside0.mk A50
  clear A50
  replace H := Option.bind_eq_some_iff.mp H
  obtain ⟨t280, A60, H⟩ := H
  replace H : ((bits_Signs.f (Go.bits .and .u32 ((wrap64 ((wrap64 (wrap32 (t278))) * (wrap64 (wrap32 (t279))))) % 4294967296) t280) a2).bind fun bt281 => ((bits_Extend.f (Go.bits .and .u32 ((wrap64 ((wrap64 (wrap32 (t278))) * (wrap64 (wrap32 (t279))))) % 4294967296) t280) a2).bind fun t286 => (some (Go.bits .and .u32 ((wrap64 ((wrap64 (wrap32 (t278))) * (wrap64 (wrap32 (t279))))) % 4294967296) t280, bt281.1, bt281.2.1, ((wrap64 (wrap32 (t286))) != (wrap64 ((wrap64 (wrap32 (t278))) * (wrap64 (wrap32 (t279)))))), bt281.2.2.2)))) = some (r1, r2, r3, r4, r5) := H
  have A6 := Aside0.mk A60
  clear A60
  replace H := Option.bind_eq_some_iff.mp H
  obtain ⟨⟨t281, t282, t283, t284⟩, A70, H⟩ := H
  replace H : ((bits_Extend.f (Go.bits .and .u32 ((wrap64 ((wrap64 (wrap32 (t278))) * (wrap64 (wrap32 (t279))))) % 4294967296) t280) a2).bind fun t286 => (some (Go.bits .and .u32 ((wrap64 ((wrap64 (wrap32 (t278))) * (wrap64 (wrap32 (t279))))) % 4294967296) t280, t281, t282, ((wrap64 (wrap32 (t286))) != (wrap64 ((wrap64 (wrap32 (t278))) * (wrap64 (wrap32 (t279)))))), t284))) = some (r1, r2, r3, r4, r5) := H
  have A7 := Aside0.mk A70
  clear A70
  replace H := Option.bind_eq_some_iff.mp H
  obtain ⟨t286, A80, H⟩ := H
  replace H : (some (Go.bits .and .u32 ((wrap64 ((wrap64 (wrap32 (t278))) * (wrap64 (wrap32 (t279))))) % 4294967296) t280, t281, t282, ((wrap64 (wrap32 (t286))) != (wrap64 ((wrap64 (wrap32 (t278))) * (wrap64 (wrap32 (t279)))))), t284)) = some (r1, r2, r3, r4, r5) := H
  have A8 := Aside0.mk A80
  clear A80
  simp only [Option.some.injEq, Prod.mk.injEq] at H
  obtain ⟨rfl, rfl, rfl, rfl, rfl⟩ := H
  go_enter Try.func36, Try.ntmps36
  try go_wp2_with (first | ((with_reducible refine gate_dst (N := 7) rfl ?_); refine box_event ?hg (N := 7) ?hd (cs := #[.bool false, .bool false, .bool false, .bool false]) (t := 29) ?hr ?_; (case hd => rfl); (case hg => rfl); (case hr => first | (go_simp; done) | (go_simp; rfl)); intro gb277 hg w9 hbox hb; have n0_ := Aside0.mk (below_step (by repeat (first | (with_reducible first | exact HB.out | apply below_alloc | apply pw_below_drewN | apply below_drew1) | exact HB.out)) hb); have n1_ := Aside0.mk (hbox); have n2_ := Aside0.mk ((by rw [hg]; exact (below_size (by repeat (first | (with_reducible first | exact HB.out | apply below_alloc | apply pw_below_drewN | apply below_drew1) | exact HB.out))) : w.heap.size ≤ gb277)); have n3_ := Aside0.mk ((by rw [hg]; exact (below_size (by repeat (first | (with_reducible first | exact HB.out | apply below_alloc | apply pw_below_drewN | apply below_drew1) | exact HB.out))) : w.heap.size ≤ gb277)); clear HB; have HB := n0_; have BK277 := n1_; have GW277 := n2_; have GE277 := n3_; clear n0_ n1_ n2_ n3_; clear hb hbox hg) | ((with_reducible refine gate_callee (f := 25) rfl ?_); refine goesL_ (some 13) rfl rfl Try.func25 (by kernel_rfl) rfl #[.int .u32 a0, .int .i64 a2] rfl (by (try simp only [List.map_toArray, List.map_cons, List.map_nil]); first | done | rfl | (simp only [List.length_drop, List.length_take]; rfl)) ?_; (with_reducible refine (bits_Extend.calls a0 a2 t278 _ A4.out).mono ?_); rintro e w' ⟨rfl, ⟨nd, rfl⟩⟩; refine ⟨_, rfl, ?_⟩; (try (rw [drewN_self w9]; generalize hq_ : World.drewN w9 _ = w9; have n0_ : Aside0 (w9.heap[gb277]? = some (.cells #[.bool false, .bool false, .bool false, .bool false] 29 (0, 0))) := ⟨by rw [← hq_]; exact (by (with_reducible repeat (first | refine blk_drewN ?_ _ | refine blk_drew ?_ | refine blk_alloc ?_ _)); exact BK277.out)⟩; have n1_ : Aside0 (Below w.heap.size w w9) := ⟨by rw [← hq_]; exact (by repeat (first | (with_reducible first | exact HB.out | apply below_alloc | apply pw_below_drewN | apply below_drew1 | refine below_set ?_ GE277.out) | exact HB.out))⟩; clear BK277 HB hq_; have BK277 := n0_; have HB := n1_; clear n0_ n1_))) | ((with_reducible refine gate_callee (f := 25) rfl ?_); refine goesL_ (some 18) rfl rfl Try.func25 (by kernel_rfl) rfl #[.int .u32 a1, .int .i64 a2] rfl (by (try simp only [List.map_toArray, List.map_cons, List.map_nil]); first | done | rfl | (simp only [List.length_drop, List.length_take]; rfl)) ?_; (with_reducible refine (bits_Extend.calls a1 a2 t279 _ A5.out).mono ?_); rintro e w' ⟨rfl, ⟨nd, rfl⟩⟩; refine ⟨_, rfl, ?_⟩; (try (rw [drewN_self w9]; generalize hq_ : World.drewN w9 _ = w9; have n0_ : Aside0 (w9.heap[gb277]? = some (.cells #[.bool false, .bool false, .bool false, .bool false] 29 (0, 0))) := ⟨by rw [← hq_]; exact (by (with_reducible repeat (first | refine blk_drewN ?_ _ | refine blk_drew ?_ | refine blk_alloc ?_ _)); exact BK277.out)⟩; have n1_ : Aside0 (Below w.heap.size w w9) := ⟨by rw [← hq_]; exact (by repeat (first | (with_reducible first | exact HB.out | apply below_alloc | apply pw_below_drewN | apply below_drew1 | refine below_set ?_ GE277.out) | exact HB.out))⟩; clear BK277 HB hq_; have BK277 := n0_; have HB := n1_; clear n0_ n1_))) | ((with_reducible refine gate_callee (f := 19) rfl ?_); refine goesL_ (some 25) rfl rfl Try.func19 (by kernel_rfl) rfl #[.int .i64 a2] rfl (by (try simp only [List.map_toArray, List.map_cons, List.map_nil]); first | done | rfl | (simp only [List.length_drop, List.length_take]; rfl)) ?_; (with_reducible refine (bits_Mask.calls a2 t280 _ A6.out).mono ?_); rintro e w' ⟨rfl, ⟨nd, rfl⟩⟩; refine ⟨_, rfl, ?_⟩; (try (rw [drewN_self w9]; generalize hq_ : World.drewN w9 _ = w9; have n0_ : Aside0 (w9.heap[gb277]? = some (.cells #[.bool false, .bool false, .bool false, .bool false] 29 (0, 0))) := ⟨by rw [← hq_]; exact (by (with_reducible repeat (first | refine blk_drewN ?_ _ | refine blk_drew ?_ | refine blk_alloc ?_ _)); exact BK277.out)⟩; have n1_ : Aside0 (Below w.heap.size w w9) := ⟨by rw [← hq_]; exact (by repeat (first | (with_reducible first | exact HB.out | apply below_alloc | apply pw_below_drewN | apply below_drew1 | refine below_set ?_ GE277.out) | exact HB.out))⟩; clear BK277 HB hq_; have BK277 := n0_; have HB := n1_; clear n0_ n1_))) | ((with_reducible refine gate_callee (f := 27) rfl ?_); refine goesL_ (some 29) rfl rfl Try.func27 (by kernel_rfl) rfl #[.int .u32 (Go.bits .and .u32 ((wrap64 ((wrap64 (wrap32 (t278))) * (wrap64 (wrap32 (t279))))) % 4294967296) t280), .int .i64 a2] rfl (by (try simp only [List.map_toArray, List.map_cons, List.map_nil]); first | done | rfl | (simp only [List.length_drop, List.length_take]; rfl)) ?_; (with_reducible refine (bits_Signs.calls (Go.bits .and .u32 ((wrap64 ((wrap64 (wrap32 (t278))) * (wrap64 (wrap32 (t279))))) % 4294967296) t280) a2 t281 t282 t283 t284 _ A7.out).mono ?_); rintro e w10 ⟨rfl, hb⟩; refine ⟨_, rfl, ?_⟩; have n0_ := Aside0.mk (blk_below (g := gb277) (o := .cells #[.bool false, .bool false, .bool false, .bool false] 29 (0, 0)) (by (with_reducible repeat (first | refine blk_drewN ?_ _ | refine blk_drew ?_ | refine blk_alloc ?_ _)); exact BK277.out) hb); have n1_ := Aside0.mk (below_step (by repeat (first | (with_reducible first | exact HB.out | apply below_alloc | apply pw_below_drewN | apply below_drew1 | refine below_set ?_ GE277.out) | exact HB.out)) hb); clear BK277; clear HB; have BK277 := n0_; have HB := n1_; clear n0_ n1_; (try clear hb); (try clear hb2); (try clear hk); (try clear hi)) | ((with_reducible refine gate_dst (N := 10) rfl ?_); refine box_event ?hg (N := 10) ?hd (cs := #[.bool false, .bool false, .bool false, .bool false]) (t := 29) ?hr ?_; (case hd => rfl); (case hg => rfl); (case hr => first | (go_simp; done) | (go_simp; rfl)); intro gb285 hg w11 hbox hb; have n0_ := Aside0.mk (blk_below (g := gb277) (o := .cells #[.bool false, .bool false, .bool false, .bool false] 29 (0, 0)) (by (with_reducible repeat (first | refine blk_drewN ?_ _ | refine blk_drew ?_ | refine blk_alloc ?_ _)); exact BK277.out) hb); have n1_ := Aside0.mk (below_step (by repeat (first | (with_reducible first | exact HB.out | apply below_alloc | apply pw_below_drewN | apply below_drew1 | refine below_set ?_ GE277.out) | exact HB.out)) hb); have n2_ := Aside0.mk (hbox); have n3_ := Aside0.mk ((by rw [hg]; exact (below_size (by repeat (first | (with_reducible first | exact HB.out | apply below_alloc | apply pw_below_drewN | apply below_drew1 | refine below_set ?_ GE277.out) | exact HB.out))) : w.heap.size ≤ gb285)); have n4_ := Aside0.mk ((by rw [hg]; exact (below_size (by repeat (first | (with_reducible first | exact HB.out | apply below_alloc | apply pw_below_drewN | apply below_drew1 | refine below_set ?_ GE277.out) | exact HB.out))) : w.heap.size ≤ gb285)); have n5_ := Aside0.mk ((by rw [hg]; exact Nat.ne_of_lt (blk_lt (g := gb277) (o := .cells #[.bool false, .bool false, .bool false, .bool false] 29 (0, 0)) (by (with_reducible repeat (first | refine blk_drewN ?_ _ | refine blk_drew ?_ | refine blk_alloc ?_ _)); exact BK277.out)) : gb277 ≠ gb285)); have n6_ := Aside0.mk ((by rw [hg]; exact Nat.ne_of_gt (blk_lt (g := gb277) (o := .cells #[.bool false, .bool false, .bool false, .bool false] 29 (0, 0)) (by (with_reducible repeat (first | refine blk_drewN ?_ _ | refine blk_drew ?_ | refine blk_alloc ?_ _)); exact BK277.out)) : gb285 ≠ gb277)); clear BK277; clear HB; have BK277 := n0_; have HB := n1_; have BK285 := n2_; have GW285 := n3_; have GE285 := n4_; have NB277_285 := n5_; have NB285_277 := n6_; clear n0_ n1_ n2_ n3_ n4_ n5_ n6_; clear hb hbox hg; have hnb12 := NB285_277.out; have hnc12 := NB277_285.out; have hcz13_0 : w11.cell? ⟨gb285, 0, none⟩ = some (.bool false) := (blk_cell BK285.out 0).trans rfl; have hcz13_1 : w11.cell? ⟨gb285, 1, none⟩ = some (.bool false) := (blk_cell BK285.out 1).trans rfl; have hcz13_2 : w11.cell? ⟨gb285, 2, none⟩ = some (.bool false) := (blk_cell BK285.out 2).trans rfl; have hcz13_3 : w11.cell? ⟨gb285, 3, none⟩ = some (.bool false) := (blk_cell BK285.out 3).trans rfl; have hfz13_0 := blk_frozen BK285.out 0; have hfz13_1 := blk_frozen BK285.out 1; have hfz13_2 := blk_frozen BK285.out 2; have hfz13_3 := blk_frozen BK285.out 3) | ((with_reducible refine gate_callee (f := 25) rfl ?_); refine goesL_ (some 32) rfl rfl Try.func25 (by kernel_rfl) rfl #[.int .u32 (Go.bits .and .u32 ((wrap64 ((wrap64 (wrap32 (t278))) * (wrap64 (wrap32 (t279))))) % 4294967296) t280), .int .i64 a2] rfl (by (try simp only [List.map_toArray, List.map_cons, List.map_nil]); first | done | rfl | (simp only [List.length_drop, List.length_take]; rfl)) ?_; (with_reducible refine (bits_Extend.calls (Go.bits .and .u32 ((wrap64 ((wrap64 (wrap32 (t278))) * (wrap64 (wrap32 (t279))))) % 4294967296) t280) a2 t286 _ A8.out).mono ?_); rintro e w' ⟨rfl, ⟨nd, rfl⟩⟩; refine ⟨_, rfl, ?_⟩))
  have n0_ : Aside0 ((((((w11.setCell ⟨gb285, 0, none⟩ (.bool t281)).setCell ⟨gb285, 1, none⟩ (.bool t282)).setCell ⟨gb285, 2, none⟩ (.bool t283)).setCell ⟨gb285, 3, none⟩ (.bool t284)).setCell ⟨gb285, 2, none⟩ (.bool ((wrap64 (wrap32 (t286))) != (wrap64 ((wrap64 (wrap32 (t278))) * (wrap64 (wrap32 (t279)))))))).heap[gb277]? = some (.cells #[.bool false, .bool false, .bool false, .bool false] 29 (0, 0))) := ⟨by (with_reducible repeat (first | refine blk_drewN ?_ _ | refine blk_drew ?_ | refine blk_alloc ?_ _)); refine blk_far ?_ NB277_285.out _; (with_reducible repeat (first | refine blk_drewN ?_ _ | refine blk_drew ?_ | refine blk_alloc ?_ _)); refine blk_far ?_ NB277_285.out _; (with_reducible repeat (first | refine blk_drewN ?_ _ | refine blk_drew ?_ | refine blk_alloc ?_ _)); refine blk_far ?_ NB277_285.out _; (with_reducible repeat (first | refine blk_drewN ?_ _ | refine blk_drew ?_ | refine blk_alloc ?_ _)); refine blk_far ?_ NB277_285.out _; (with_reducible repeat (first | refine blk_drewN ?_ _ | refine blk_drew ?_ | refine blk_alloc ?_ _)); refine blk_far ?_ NB277_285.out _; (with_reducible repeat (first | refine blk_drewN ?_ _ | refine blk_drew ?_ | refine blk_alloc ?_ _)); exact BK277.out⟩
  have n1_ : Aside0 ((((((w11.setCell ⟨gb285, 0, none⟩ (.bool t281)).setCell ⟨gb285, 1, none⟩ (.bool t282)).setCell ⟨gb285, 2, none⟩ (.bool t283)).setCell ⟨gb285, 3, none⟩ (.bool t284)).setCell ⟨gb285, 2, none⟩ (.bool ((wrap64 (wrap32 (t286))) != (wrap64 ((wrap64 (wrap32 (t278))) * (wrap64 (wrap32 (t279)))))))).heap[gb285]? = some (.cells #[.bool t281, .bool t282, .bool ((wrap64 (wrap32 (t286))) != (wrap64 ((wrap64 (wrap32 (t278))) * (wrap64 (wrap32 (t279)))))), .bool t284] 29 (0, 0))) := ⟨by (with_reducible repeat (first | refine blk_drewN ?_ _ | refine blk_drew ?_ | refine blk_alloc ?_ _)); refine blk_put (cs := #[.bool t281, .bool t282, .bool t283, .bool t284]) ?_ 2 _ rfl; (with_reducible repeat (first | refine blk_drewN ?_ _ | refine blk_drew ?_ | refine blk_alloc ?_ _)); refine blk_put (cs := #[.bool t281, .bool t282, .bool t283, .bool false]) ?_ 3 _ rfl; (with_reducible repeat (first | refine blk_drewN ?_ _ | refine blk_drew ?_ | refine blk_alloc ?_ _)); refine blk_put (cs := #[.bool t281, .bool t282, .bool false, .bool false]) ?_ 2 _ rfl; (with_reducible repeat (first | refine blk_drewN ?_ _ | refine blk_drew ?_ | refine blk_alloc ?_ _)); refine blk_put (cs := #[.bool t281, .bool false, .bool false, .bool false]) ?_ 1 _ rfl; (with_reducible repeat (first | refine blk_drewN ?_ _ | refine blk_drew ?_ | refine blk_alloc ?_ _)); refine blk_put (cs := #[.bool false, .bool false, .bool false, .bool false]) ?_ 0 _ rfl; (with_reducible repeat (first | refine blk_drewN ?_ _ | refine blk_drew ?_ | refine blk_alloc ?_ _)); exact BK285.out⟩
  have n2_ : Aside0 (Below w.heap.size w (((((w11.setCell ⟨gb285, 0, none⟩ (.bool t281)).setCell ⟨gb285, 1, none⟩ (.bool t282)).setCell ⟨gb285, 2, none⟩ (.bool t283)).setCell ⟨gb285, 3, none⟩ (.bool t284)).setCell ⟨gb285, 2, none⟩ (.bool ((wrap64 (wrap32 (t286))) != (wrap64 ((wrap64 (wrap32 (t278))) * (wrap64 (wrap32 (t279))))))))) := ⟨by repeat (first | (with_reducible first | exact HB.out | apply below_alloc | apply pw_below_drewN | apply below_drew1 | refine below_set ?_ GE277.out | refine below_set ?_ GE285.out) | exact HB.out)⟩
  (try clear BK277)
  (try clear BK285)
  (try clear HB)
  (repeat rw [own_setCell_drewN]); (repeat rw [World.drewN_drewN])
  generalize (((((w11.setCell ⟨gb285, 0, none⟩ (.bool t281)).setCell ⟨gb285, 1, none⟩ (.bool t282)).setCell ⟨gb285, 2, none⟩ (.bool t283)).setCell ⟨gb285, 3, none⟩ (.bool t284)).setCell ⟨gb285, 2, none⟩ (.bool ((wrap64 (wrap32 (t286))) != (wrap64 ((wrap64 (wrap32 (t278))) * (wrap64 (wrap32 (t279)))))))) = w14 at n0_ n1_ n2_ ⊢
  have BK277 := n0_
  have BK285 := n1_
  have HB := n2_
  clear n0_ n1_ n2_
  (try (rw [drewN_self w14]; generalize hq_ : World.drewN w14 _ = w14; have n0_ : Aside0 (w14.heap[gb277]? = some (.cells #[.bool false, .bool false, .bool false, .bool false] 29 (0, 0))) := ⟨by rw [← hq_]; exact (by (with_reducible repeat (first | refine blk_drewN ?_ _ | refine blk_drew ?_ | refine blk_alloc ?_ _)); exact BK277.out)⟩; have n1_ : Aside0 (w14.heap[gb285]? = some (.cells #[.bool t281, .bool t282, .bool ((wrap64 (wrap32 (t286))) != (wrap64 ((wrap64 (wrap32 (t278))) * (wrap64 (wrap32 (t279)))))), .bool t284] 29 (0, 0))) := ⟨by rw [← hq_]; exact (by (with_reducible repeat (first | refine blk_drewN ?_ _ | refine blk_drew ?_ | refine blk_alloc ?_ _)); exact BK285.out)⟩; have n2_ : Aside0 (Below w.heap.size w w14) := ⟨by rw [← hq_]; exact (by repeat (first | (with_reducible first | exact HB.out | apply below_alloc | apply pw_below_drewN | apply below_drew1 | refine below_set ?_ GE277.out | refine below_set ?_ GE285.out) | exact HB.out))⟩; clear BK277 BK285 HB hq_; have BK277 := n0_; have BK285 := n1_; have HB := n2_; clear n0_ n1_ n2_))
  have n0_ := Aside0.mk (blk_drew BK277.out)
  have n1_ := Aside0.mk (blk_drew BK285.out)
  have n2_ := Aside0.mk (below_drew1 HB.out)
  clear BK277
  clear BK285
  clear HB
  have BK277 := n0_
  have BK285 := n1_
  have HB := n2_
  clear n0_ n1_ n2_
  refine start_ (n := 4) (S := fun w' => w'.cell? ⟨gb285, 0, none⟩ = some (.bool t281) ∧ w'.cell? ⟨gb285, 1, none⟩ = some (.bool t282) ∧ w'.cell? ⟨gb285, 2, none⟩ = some (.bool ((wrap64 (wrap32 (t286))) != (wrap64 ((wrap64 (wrap32 (t278))) * (wrap64 (wrap32 (t279))))))) ∧ w'.cell? ⟨gb285, 3, none⟩ = some (.bool t284)) (ds := []) #[false, false, false, false] (by kernel_rfl) rfl rfl ⟨(blk_cell BK285.out 0).trans rfl, (blk_cell BK285.out 1).trans rfl, (blk_cell BK285.out 2).trans rfl, (blk_cell BK285.out 3).trans rfl⟩ (fun hHeld => ?_)
  generalize w14.drew = w15 at BK277 BK285 HB hHeld ⊢
  refine pure_ (i := 0) (N := some 38) (v := ?_) (a' := ?_) #[true, false, false, false] rfl rfl (by kernel_rfl) (fun _ _ _ h => h) (Or.inl ⟨by rfl, ?_⟩) ?_ ?_
  rotate_left
  · intro w'
    go_simp
    with_reducible rfl
  rotate_left
  · simp only [Act.put, List.setIfInBounds_toArray, List.set_cons_zero, List.set_cons_succ, i64_w, i32_w]
    rfl
  refine pure_ (i := 2) (N := some 6) (v := ?_) (a' := ?_) #[true, false, true, false] rfl rfl (by kernel_rfl) (fun _ _ _ h => h) (Or.inl ⟨by rfl, ?_⟩) ?_ ?_
  rotate_left
  · intro w'
    go_simp
    with_reducible rfl
  rotate_left
  · simp only [Act.put, List.setIfInBounds_toArray, List.set_cons_zero, List.set_cons_succ, i64_w, i32_w]
    rfl
  refine take_ (i := 1) (N := some 39) (v := ?_) (a' := ?_) #[true, true, true, false] rfl rfl (by kernel_rfl) (fun _ _ _ h => h) (Or.inl ⟨by rfl, ?_⟩) hHeld ?_ ?_
  rotate_left
  · rintro w' ⟨s0, s1, s2, s3⟩
    go_simp
    with_reducible rfl
  rotate_left
  · simp only [Act.put, List.setIfInBounds_toArray, List.set_cons_zero, List.set_cons_succ, i64_w, i32_w]
    rfl
  refine one_ (i := 3) (N := none) #[true, true, true, true] rfl rfl (by kernel_rfl) (by decide) (fun K hK => ?_)
  have hs16 : w15.cell? ⟨gb277, 0, none⟩ = some (.bool false) := (blk_cell BK277.out 0).trans rfl
  have hfs16 := blk_frozen BK277.out 0
  have hns16_1 := NB285_277.out
  have hms16_1 := NB277_285.out
  have hs17 : w15.cell? ⟨gb277, 1, none⟩ = some (.bool false) := (blk_cell BK277.out 1).trans rfl
  have hfs17 := blk_frozen BK277.out 1
  have hns17_1 := NB285_277.out
  have hms17_1 := NB277_285.out
  have hs18 : w15.cell? ⟨gb277, 2, none⟩ = some (.bool false) := (blk_cell BK277.out 2).trans rfl
  have hfs18 := blk_frozen BK277.out 2
  have hns18_1 := NB285_277.out
  have hms18_1 := NB277_285.out
  have hs19 : w15.cell? ⟨gb277, 3, none⟩ = some (.bool false) := (blk_cell BK277.out 3).trans rfl
  have hfs19 := blk_frozen BK277.out 3
  have hns19_1 := NB285_277.out
  have hms19_1 := NB277_285.out
  refine skip_ (w1 := ?_) (by rfl) rfl ?_ ?_
  rotate_left
  · go_simp
    rfl
  refine hK.out _ _ ⟨((cell_far (p := ⟨gb277, _, none⟩) NB285_277.out _).trans (((cell_far (p := ⟨gb277, _, none⟩) NB285_277.out _).trans (((cell_far (p := ⟨gb277, _, none⟩) NB285_277.out _).trans (((cell_far (p := ⟨gb277, _, none⟩) NB285_277.out _).trans (hHeld.1)))))))), ((cell_far (p := ⟨gb277, _, none⟩) NB285_277.out _).trans (((cell_far (p := ⟨gb277, _, none⟩) NB285_277.out _).trans (((cell_far (p := ⟨gb277, _, none⟩) NB285_277.out _).trans (((cell_far (p := ⟨gb277, _, none⟩) NB285_277.out _).trans (hHeld.2.1)))))))), ((cell_far (p := ⟨gb277, _, none⟩) NB285_277.out _).trans (((cell_far (p := ⟨gb277, _, none⟩) NB285_277.out _).trans (((cell_far (p := ⟨gb277, _, none⟩) NB285_277.out _).trans (((cell_far (p := ⟨gb277, _, none⟩) NB285_277.out _).trans (hHeld.2.2.1)))))))), ((cell_far (p := ⟨gb277, _, none⟩) NB285_277.out _).trans (((cell_far (p := ⟨gb277, _, none⟩) NB285_277.out _).trans (((cell_far (p := ⟨gb277, _, none⟩) NB285_277.out _).trans (((cell_far (p := ⟨gb277, _, none⟩) NB285_277.out _).trans (hHeld.2.2.2))))))))⟩ (fun hHeld => ?_)
  clear hK K
  refine done_ (by kernel_rfl) ?_
  try go_wp2
  refine bodyPost_ret (results_tc rfl _ _ gb277 29 #[.bool t281, .bool t282, .bool ((wrap64 (wrap32 (t286))) != (wrap64 ((wrap64 (wrap32 (t278))) * (wrap64 (wrap32 (t279)))))), .bool t284] (0, 0) _ rfl (by (with_reducible repeat (first | refine blk_drewN ?_ _ | refine blk_drew ?_ | refine blk_alloc ?_ _)); refine blk_put (cs := #[.bool t281, .bool t282, .bool ((wrap64 (wrap32 (t286))) != (wrap64 ((wrap64 (wrap32 (t278))) * (wrap64 (wrap32 (t279)))))), .bool false]) ?_ 3 _ rfl; (with_reducible repeat (first | refine blk_drewN ?_ _ | refine blk_drew ?_ | refine blk_alloc ?_ _)); refine blk_put (cs := #[.bool t281, .bool t282, .bool false, .bool false]) ?_ 2 _ rfl; (with_reducible repeat (first | refine blk_drewN ?_ _ | refine blk_drew ?_ | refine blk_alloc ?_ _)); refine blk_put (cs := #[.bool t281, .bool false, .bool false, .bool false]) ?_ 1 _ rfl; (with_reducible repeat (first | refine blk_drewN ?_ _ | refine blk_drew ?_ | refine blk_alloc ?_ _)); refine blk_put (cs := #[.bool false, .bool false, .bool false, .bool false]) ?_ 0 _ rfl; (with_reducible repeat (first | refine blk_drewN ?_ _ | refine blk_drew ?_ | refine blk_alloc ?_ _)); exact BK277.out) Try.underlying29 rfl (by kernel_rfl)) rfl ?_
  exact ⟨by first | rfl | (simp [errW_none, errW_some] <;> rfl) | (simp [*, errW_none, errW_some] <;> rfl), by repeat (first | (with_reducible first | exact HB.out | apply below_alloc | apply pw_below_drewN | apply below_drew1 | refine below_set ?_ GE277.out | refine below_set ?_ GE285.out) | exact HB.out)⟩

/-! ### camshaftref01_Mul: function 37 -/
def camshaftref01_Mul.f (a0 : Int) (a1 : Int) (a2 : Int) : Option (Int × Bool × Bool × Bool × Bool) := (camshaftref01_Signed.f a0 a2).bind fun t288 => ((camshaftref01_Signed.f a1 a2).bind fun t289 => ((camshaftref01_Bits.f (wrap64 (t288 * t289)) a2).bind fun t290 => ((camshaftref01_Signs.f t290 a2).bind fun bt291 => ((camshaftref01_Fits.f (wrap64 (t288 * t289)) a2).bind fun t296 => (some (t290, bt291.1, bt291.2.1, !t296, bt291.2.2.2))))))
set_option maxHeartbeats 8000000 in
set_option maxRecDepth 100000 in
theorem camshaftref01_Mul.calls (a0 : Int) (a1 : Int) (a2 : Int) (r1 : Int) (r2 : Bool) (r3 : Bool) (r4 : Bool) (r5 : Bool) (w : World) (h : camshaftref01_Mul.f a0 a1 a2 = some (r1, r2, r3, r4, r5)) :
    Calls Try.prog 37 #[.int .u32 a0, .int .u32 a1, .int .i64 a2] w fun e w' => e = .returned (.tuple #[.int .u32 r1, .agg #[.bool r2, .bool r3, .bool r4, .bool r5]]) ∧ Below w.heap.size w w' := by
  have hu29 := Try.underlying29
  have HB := Aside0.mk (Below.refl w.heap.size w)
  have H : ((camshaftref01_Signed.f a0 a2).bind fun t288 => ((camshaftref01_Signed.f a1 a2).bind fun t289 => ((camshaftref01_Bits.f (wrap64 (t288 * t289)) a2).bind fun t290 => ((camshaftref01_Signs.f t290 a2).bind fun bt291 => ((camshaftref01_Fits.f (wrap64 (t288 * t289)) a2).bind fun t296 => (some (t290, bt291.1, bt291.2.1, !t296, bt291.2.2.2))))))) = some (r1, r2, r3, r4, r5) := h
  clear h
  replace H := Option.bind_eq_some_iff.mp H
  obtain ⟨t288, A40, H⟩ := H
  replace H : ((camshaftref01_Signed.f a1 a2).bind fun t289 => ((camshaftref01_Bits.f (wrap64 (t288 * t289)) a2).bind fun t290 => ((camshaftref01_Signs.f t290 a2).bind fun bt291 => ((camshaftref01_Fits.f (wrap64 (t288 * t289)) a2).bind fun t296 => (some (t290, bt291.1, bt291.2.1, !t296, bt291.2.2.2)))))) = some (r1, r2, r3, r4, r5) := H
  have A4 := Aside0.mk A40
  clear A40
  replace H := Option.bind_eq_some_iff.mp H
  obtain ⟨t289, A50, H⟩ := H
  replace H : ((camshaftref01_Bits.f (wrap64 (t288 * t289)) a2).bind fun t290 => ((camshaftref01_Signs.f t290 a2).bind fun bt291 => ((camshaftref01_Fits.f (wrap64 (t288 * t289)) a2).bind fun t296 => (some (t290, bt291.1, bt291.2.1, !t296, bt291.2.2.2))))) = some (r1, r2, r3, r4, r5) := H
  have A5 := Aside0.mk A50
  clear A50
  replace H := Option.bind_eq_some_iff.mp H
  obtain ⟨t290, A60, H⟩ := H
  replace H : ((camshaftref01_Signs.f t290 a2).bind fun bt291 => ((camshaftref01_Fits.f (wrap64 (t288 * t289)) a2).bind fun t296 => (some (t290, bt291.1, bt291.2.1, !t296, bt291.2.2.2)))) = some (r1, r2, r3, r4, r5) := H
  have A6 := Aside0.mk A60
  clear A60
  replace H := Option.bind_eq_some_iff.mp H
  obtain ⟨⟨t291, t292, t293, t294⟩, A70, H⟩ := H
  replace H : ((camshaftref01_Fits.f (wrap64 (t288 * t289)) a2).bind fun t296 => (some (t290, t291, t292, !t296, t294))) = some (r1, r2, r3, r4, r5) := H
  have A7 := Aside0.mk A70
  clear A70
  replace H := Option.bind_eq_some_iff.mp H
  obtain ⟨t296, A80, H⟩ := H
  replace H : (some (t290, t291, t292, !t296, t294)) = some (r1, r2, r3, r4, r5) := H
  have A8 := Aside0.mk A80
  clear A80
  simp only [Option.some.injEq, Prod.mk.injEq] at H
  obtain ⟨rfl, rfl, rfl, rfl, rfl⟩ := H
  go_enter Try.func37, Try.ntmps37
  try go_wp2_with (first | ((with_reducible refine gate_dst (N := 7) rfl ?_); refine box_event ?hg (N := 7) ?hd (cs := #[.bool false, .bool false, .bool false, .bool false]) (t := 29) ?hr ?_; (case hd => rfl); (case hg => rfl); (case hr => first | (go_simp; done) | (go_simp; rfl)); intro gb287 hg w9 hbox hb; have n0_ := Aside0.mk (below_step (by repeat (first | (with_reducible first | exact HB.out | apply below_alloc | apply pw_below_drewN | apply below_drew1) | exact HB.out)) hb); have n1_ := Aside0.mk (hbox); have n2_ := Aside0.mk ((by rw [hg]; exact (below_size (by repeat (first | (with_reducible first | exact HB.out | apply below_alloc | apply pw_below_drewN | apply below_drew1) | exact HB.out))) : w.heap.size ≤ gb287)); have n3_ := Aside0.mk ((by rw [hg]; exact (below_size (by repeat (first | (with_reducible first | exact HB.out | apply below_alloc | apply pw_below_drewN | apply below_drew1) | exact HB.out))) : w.heap.size ≤ gb287)); clear HB; have HB := n0_; have BK287 := n1_; have GW287 := n2_; have GE287 := n3_; clear n0_ n1_ n2_ n3_; clear hb hbox hg) | ((with_reducible refine gate_callee (f := 26) rfl ?_); refine goesL_ (some 13) rfl rfl Try.func26 (by kernel_rfl) rfl #[.int .u32 a0, .int .i64 a2] rfl (by (try simp only [List.map_toArray, List.map_cons, List.map_nil]); first | done | rfl | (simp only [List.length_drop, List.length_take]; rfl)) ?_; (with_reducible refine (camshaftref01_Signed.calls a0 a2 t288 _ A4.out).mono ?_); rintro e w' ⟨rfl, ⟨nd, rfl⟩⟩; refine ⟨_, rfl, ?_⟩; (try (rw [drewN_self w9]; generalize hq_ : World.drewN w9 _ = w9; have n0_ : Aside0 (w9.heap[gb287]? = some (.cells #[.bool false, .bool false, .bool false, .bool false] 29 (0, 0))) := ⟨by rw [← hq_]; exact (by (with_reducible repeat (first | refine blk_drewN ?_ _ | refine blk_drew ?_ | refine blk_alloc ?_ _)); exact BK287.out)⟩; have n1_ : Aside0 (Below w.heap.size w w9) := ⟨by rw [← hq_]; exact (by repeat (first | (with_reducible first | exact HB.out | apply below_alloc | apply pw_below_drewN | apply below_drew1 | refine below_set ?_ GE287.out) | exact HB.out))⟩; clear BK287 HB hq_; have BK287 := n0_; have HB := n1_; clear n0_ n1_))) | ((with_reducible refine gate_callee (f := 26) rfl ?_); refine goesL_ (some 16) rfl rfl Try.func26 (by kernel_rfl) rfl #[.int .u32 a1, .int .i64 a2] rfl (by (try simp only [List.map_toArray, List.map_cons, List.map_nil]); first | done | rfl | (simp only [List.length_drop, List.length_take]; rfl)) ?_; (with_reducible refine (camshaftref01_Signed.calls a1 a2 t289 _ A5.out).mono ?_); rintro e w' ⟨rfl, ⟨nd, rfl⟩⟩; refine ⟨_, rfl, ?_⟩; (try (rw [drewN_self w9]; generalize hq_ : World.drewN w9 _ = w9; have n0_ : Aside0 (w9.heap[gb287]? = some (.cells #[.bool false, .bool false, .bool false, .bool false] 29 (0, 0))) := ⟨by rw [← hq_]; exact (by (with_reducible repeat (first | refine blk_drewN ?_ _ | refine blk_drew ?_ | refine blk_alloc ?_ _)); exact BK287.out)⟩; have n1_ : Aside0 (Below w.heap.size w w9) := ⟨by rw [← hq_]; exact (by repeat (first | (with_reducible first | exact HB.out | apply below_alloc | apply pw_below_drewN | apply below_drew1 | refine below_set ?_ GE287.out) | exact HB.out))⟩; clear BK287 HB hq_; have BK287 := n0_; have HB := n1_; clear n0_ n1_))) | ((with_reducible refine gate_callee (f := 30) rfl ?_); refine goesL_ (some 20) rfl rfl Try.func30 (by kernel_rfl) rfl #[.int .i64 (wrap64 (t288 * t289)), .int .i64 a2] rfl (by (try simp only [List.map_toArray, List.map_cons, List.map_nil]); first | done | rfl | (simp only [List.length_drop, List.length_take]; rfl)) ?_; (with_reducible refine (camshaftref01_Bits.calls (wrap64 (t288 * t289)) a2 t290 _ A6.out).mono ?_); rintro e w' ⟨rfl, ⟨nd, rfl⟩⟩; refine ⟨_, rfl, ?_⟩; (try (rw [drewN_self w9]; generalize hq_ : World.drewN w9 _ = w9; have n0_ : Aside0 (w9.heap[gb287]? = some (.cells #[.bool false, .bool false, .bool false, .bool false] 29 (0, 0))) := ⟨by rw [← hq_]; exact (by (with_reducible repeat (first | refine blk_drewN ?_ _ | refine blk_drew ?_ | refine blk_alloc ?_ _)); exact BK287.out)⟩; have n1_ : Aside0 (Below w.heap.size w w9) := ⟨by rw [← hq_]; exact (by repeat (first | (with_reducible first | exact HB.out | apply below_alloc | apply pw_below_drewN | apply below_drew1 | refine below_set ?_ GE287.out) | exact HB.out))⟩; clear BK287 HB hq_; have BK287 := n0_; have HB := n1_; clear n0_ n1_))) | ((with_reducible refine gate_callee (f := 31) rfl ?_); refine goesL_ (some 23) rfl rfl Try.func31 (by kernel_rfl) rfl #[.int .u32 t290, .int .i64 a2] rfl (by (try simp only [List.map_toArray, List.map_cons, List.map_nil]); first | done | rfl | (simp only [List.length_drop, List.length_take]; rfl)) ?_; (with_reducible refine (camshaftref01_Signs.calls t290 a2 t291 t292 t293 t294 _ A7.out).mono ?_); rintro e w10 ⟨rfl, hb⟩; refine ⟨_, rfl, ?_⟩; have n0_ := Aside0.mk (blk_below (g := gb287) (o := .cells #[.bool false, .bool false, .bool false, .bool false] 29 (0, 0)) (by (with_reducible repeat (first | refine blk_drewN ?_ _ | refine blk_drew ?_ | refine blk_alloc ?_ _)); exact BK287.out) hb); have n1_ := Aside0.mk (below_step (by repeat (first | (with_reducible first | exact HB.out | apply below_alloc | apply pw_below_drewN | apply below_drew1 | refine below_set ?_ GE287.out) | exact HB.out)) hb); clear BK287; clear HB; have BK287 := n0_; have HB := n1_; clear n0_ n1_; (try clear hb); (try clear hb2); (try clear hk); (try clear hi)) | ((with_reducible refine gate_dst (N := 10) rfl ?_); refine box_event ?hg (N := 10) ?hd (cs := #[.bool false, .bool false, .bool false, .bool false]) (t := 29) ?hr ?_; (case hd => rfl); (case hg => rfl); (case hr => first | (go_simp; done) | (go_simp; rfl)); intro gb295 hg w11 hbox hb; have n0_ := Aside0.mk (blk_below (g := gb287) (o := .cells #[.bool false, .bool false, .bool false, .bool false] 29 (0, 0)) (by (with_reducible repeat (first | refine blk_drewN ?_ _ | refine blk_drew ?_ | refine blk_alloc ?_ _)); exact BK287.out) hb); have n1_ := Aside0.mk (below_step (by repeat (first | (with_reducible first | exact HB.out | apply below_alloc | apply pw_below_drewN | apply below_drew1 | refine below_set ?_ GE287.out) | exact HB.out)) hb); have n2_ := Aside0.mk (hbox); have n3_ := Aside0.mk ((by rw [hg]; exact (below_size (by repeat (first | (with_reducible first | exact HB.out | apply below_alloc | apply pw_below_drewN | apply below_drew1 | refine below_set ?_ GE287.out) | exact HB.out))) : w.heap.size ≤ gb295)); have n4_ := Aside0.mk ((by rw [hg]; exact (below_size (by repeat (first | (with_reducible first | exact HB.out | apply below_alloc | apply pw_below_drewN | apply below_drew1 | refine below_set ?_ GE287.out) | exact HB.out))) : w.heap.size ≤ gb295)); have n5_ := Aside0.mk ((by rw [hg]; exact Nat.ne_of_lt (blk_lt (g := gb287) (o := .cells #[.bool false, .bool false, .bool false, .bool false] 29 (0, 0)) (by (with_reducible repeat (first | refine blk_drewN ?_ _ | refine blk_drew ?_ | refine blk_alloc ?_ _)); exact BK287.out)) : gb287 ≠ gb295)); have n6_ := Aside0.mk ((by rw [hg]; exact Nat.ne_of_gt (blk_lt (g := gb287) (o := .cells #[.bool false, .bool false, .bool false, .bool false] 29 (0, 0)) (by (with_reducible repeat (first | refine blk_drewN ?_ _ | refine blk_drew ?_ | refine blk_alloc ?_ _)); exact BK287.out)) : gb295 ≠ gb287)); clear BK287; clear HB; have BK287 := n0_; have HB := n1_; have BK295 := n2_; have GW295 := n3_; have GE295 := n4_; have NB287_295 := n5_; have NB295_287 := n6_; clear n0_ n1_ n2_ n3_ n4_ n5_ n6_; clear hb hbox hg; have hnb12 := NB295_287.out; have hnc12 := NB287_295.out; have hcz13_0 : w11.cell? ⟨gb295, 0, none⟩ = some (.bool false) := (blk_cell BK295.out 0).trans rfl; have hcz13_1 : w11.cell? ⟨gb295, 1, none⟩ = some (.bool false) := (blk_cell BK295.out 1).trans rfl; have hcz13_2 : w11.cell? ⟨gb295, 2, none⟩ = some (.bool false) := (blk_cell BK295.out 2).trans rfl; have hcz13_3 : w11.cell? ⟨gb295, 3, none⟩ = some (.bool false) := (blk_cell BK295.out 3).trans rfl; have hfz13_0 := blk_frozen BK295.out 0; have hfz13_1 := blk_frozen BK295.out 1; have hfz13_2 := blk_frozen BK295.out 2; have hfz13_3 := blk_frozen BK295.out 3) | ((with_reducible refine gate_callee (f := 49) rfl ?_); refine goesL_ (some 26) rfl rfl Try.func49 (by kernel_rfl) rfl #[.int .i64 (wrap64 (t288 * t289)), .int .i64 a2] rfl (by (try simp only [List.map_toArray, List.map_cons, List.map_nil]); first | done | rfl | (simp only [List.length_drop, List.length_take]; rfl)) ?_; (with_reducible refine (camshaftref01_Fits.calls (wrap64 (t288 * t289)) a2 t296 _ A8.out).mono ?_); rintro e w' ⟨rfl, ⟨nd, rfl⟩⟩; refine ⟨_, rfl, ?_⟩))
  have n0_ : Aside0 ((((((w11.setCell ⟨gb295, 0, none⟩ (.bool t291)).setCell ⟨gb295, 1, none⟩ (.bool t292)).setCell ⟨gb295, 2, none⟩ (.bool t293)).setCell ⟨gb295, 3, none⟩ (.bool t294)).setCell ⟨gb295, 2, none⟩ (.bool (!t296))).heap[gb287]? = some (.cells #[.bool false, .bool false, .bool false, .bool false] 29 (0, 0))) := ⟨by (with_reducible repeat (first | refine blk_drewN ?_ _ | refine blk_drew ?_ | refine blk_alloc ?_ _)); refine blk_far ?_ NB287_295.out _; (with_reducible repeat (first | refine blk_drewN ?_ _ | refine blk_drew ?_ | refine blk_alloc ?_ _)); refine blk_far ?_ NB287_295.out _; (with_reducible repeat (first | refine blk_drewN ?_ _ | refine blk_drew ?_ | refine blk_alloc ?_ _)); refine blk_far ?_ NB287_295.out _; (with_reducible repeat (first | refine blk_drewN ?_ _ | refine blk_drew ?_ | refine blk_alloc ?_ _)); refine blk_far ?_ NB287_295.out _; (with_reducible repeat (first | refine blk_drewN ?_ _ | refine blk_drew ?_ | refine blk_alloc ?_ _)); refine blk_far ?_ NB287_295.out _; (with_reducible repeat (first | refine blk_drewN ?_ _ | refine blk_drew ?_ | refine blk_alloc ?_ _)); exact BK287.out⟩
  have n1_ : Aside0 ((((((w11.setCell ⟨gb295, 0, none⟩ (.bool t291)).setCell ⟨gb295, 1, none⟩ (.bool t292)).setCell ⟨gb295, 2, none⟩ (.bool t293)).setCell ⟨gb295, 3, none⟩ (.bool t294)).setCell ⟨gb295, 2, none⟩ (.bool (!t296))).heap[gb295]? = some (.cells #[.bool t291, .bool t292, .bool (!t296), .bool t294] 29 (0, 0))) := ⟨by (with_reducible repeat (first | refine blk_drewN ?_ _ | refine blk_drew ?_ | refine blk_alloc ?_ _)); refine blk_put (cs := #[.bool t291, .bool t292, .bool t293, .bool t294]) ?_ 2 _ rfl; (with_reducible repeat (first | refine blk_drewN ?_ _ | refine blk_drew ?_ | refine blk_alloc ?_ _)); refine blk_put (cs := #[.bool t291, .bool t292, .bool t293, .bool false]) ?_ 3 _ rfl; (with_reducible repeat (first | refine blk_drewN ?_ _ | refine blk_drew ?_ | refine blk_alloc ?_ _)); refine blk_put (cs := #[.bool t291, .bool t292, .bool false, .bool false]) ?_ 2 _ rfl; (with_reducible repeat (first | refine blk_drewN ?_ _ | refine blk_drew ?_ | refine blk_alloc ?_ _)); refine blk_put (cs := #[.bool t291, .bool false, .bool false, .bool false]) ?_ 1 _ rfl; (with_reducible repeat (first | refine blk_drewN ?_ _ | refine blk_drew ?_ | refine blk_alloc ?_ _)); refine blk_put (cs := #[.bool false, .bool false, .bool false, .bool false]) ?_ 0 _ rfl; (with_reducible repeat (first | refine blk_drewN ?_ _ | refine blk_drew ?_ | refine blk_alloc ?_ _)); exact BK295.out⟩
  have n2_ : Aside0 (Below w.heap.size w (((((w11.setCell ⟨gb295, 0, none⟩ (.bool t291)).setCell ⟨gb295, 1, none⟩ (.bool t292)).setCell ⟨gb295, 2, none⟩ (.bool t293)).setCell ⟨gb295, 3, none⟩ (.bool t294)).setCell ⟨gb295, 2, none⟩ (.bool (!t296)))) := ⟨by repeat (first | (with_reducible first | exact HB.out | apply below_alloc | apply pw_below_drewN | apply below_drew1 | refine below_set ?_ GE287.out | refine below_set ?_ GE295.out) | exact HB.out)⟩
  (try clear BK287)
  (try clear BK295)
  (try clear HB)
  (repeat rw [own_setCell_drewN]); (repeat rw [World.drewN_drewN])
  generalize (((((w11.setCell ⟨gb295, 0, none⟩ (.bool t291)).setCell ⟨gb295, 1, none⟩ (.bool t292)).setCell ⟨gb295, 2, none⟩ (.bool t293)).setCell ⟨gb295, 3, none⟩ (.bool t294)).setCell ⟨gb295, 2, none⟩ (.bool (!t296))) = w14 at n0_ n1_ n2_ ⊢
  have BK287 := n0_
  have BK295 := n1_
  have HB := n2_
  clear n0_ n1_ n2_
  (try (rw [drewN_self w14]; generalize hq_ : World.drewN w14 _ = w14; have n0_ : Aside0 (w14.heap[gb287]? = some (.cells #[.bool false, .bool false, .bool false, .bool false] 29 (0, 0))) := ⟨by rw [← hq_]; exact (by (with_reducible repeat (first | refine blk_drewN ?_ _ | refine blk_drew ?_ | refine blk_alloc ?_ _)); exact BK287.out)⟩; have n1_ : Aside0 (w14.heap[gb295]? = some (.cells #[.bool t291, .bool t292, .bool (!t296), .bool t294] 29 (0, 0))) := ⟨by rw [← hq_]; exact (by (with_reducible repeat (first | refine blk_drewN ?_ _ | refine blk_drew ?_ | refine blk_alloc ?_ _)); exact BK295.out)⟩; have n2_ : Aside0 (Below w.heap.size w w14) := ⟨by rw [← hq_]; exact (by repeat (first | (with_reducible first | exact HB.out | apply below_alloc | apply pw_below_drewN | apply below_drew1 | refine below_set ?_ GE287.out | refine below_set ?_ GE295.out) | exact HB.out))⟩; clear BK287 BK295 HB hq_; have BK287 := n0_; have BK295 := n1_; have HB := n2_; clear n0_ n1_ n2_))
  have n0_ := Aside0.mk (blk_drew BK287.out)
  have n1_ := Aside0.mk (blk_drew BK295.out)
  have n2_ := Aside0.mk (below_drew1 HB.out)
  clear BK287
  clear BK295
  clear HB
  have BK287 := n0_
  have BK295 := n1_
  have HB := n2_
  clear n0_ n1_ n2_
  refine start_ (n := 4) (S := fun w' => w'.cell? ⟨gb295, 0, none⟩ = some (.bool t291) ∧ w'.cell? ⟨gb295, 1, none⟩ = some (.bool t292) ∧ w'.cell? ⟨gb295, 2, none⟩ = some (.bool (!t296)) ∧ w'.cell? ⟨gb295, 3, none⟩ = some (.bool t294)) (ds := []) #[false, false, false, false] (by kernel_rfl) rfl rfl ⟨(blk_cell BK295.out 0).trans rfl, (blk_cell BK295.out 1).trans rfl, (blk_cell BK295.out 2).trans rfl, (blk_cell BK295.out 3).trans rfl⟩ (fun hHeld => ?_)
  generalize w14.drew = w15 at BK287 BK295 HB hHeld ⊢
  refine pure_ (i := 0) (N := some 29) (v := ?_) (a' := ?_) #[true, false, false, false] rfl rfl (by kernel_rfl) (fun _ _ _ h => h) (Or.inl ⟨by rfl, ?_⟩) ?_ ?_
  rotate_left
  · intro w'
    go_simp
    with_reducible rfl
  rotate_left
  · simp only [Act.put, List.setIfInBounds_toArray, List.set_cons_zero, List.set_cons_succ, i64_w, i32_w]
    rfl
  refine pure_ (i := 2) (N := some 6) (v := ?_) (a' := ?_) #[true, false, true, false] rfl rfl (by kernel_rfl) (fun _ _ _ h => h) (Or.inl ⟨by rfl, ?_⟩) ?_ ?_
  rotate_left
  · intro w'
    go_simp
    with_reducible rfl
  rotate_left
  · simp only [Act.put, List.setIfInBounds_toArray, List.set_cons_zero, List.set_cons_succ, i64_w, i32_w]
    rfl
  refine take_ (i := 1) (N := some 30) (v := ?_) (a' := ?_) #[true, true, true, false] rfl rfl (by kernel_rfl) (fun _ _ _ h => h) (Or.inl ⟨by rfl, ?_⟩) hHeld ?_ ?_
  rotate_left
  · rintro w' ⟨s0, s1, s2, s3⟩
    go_simp
    with_reducible rfl
  rotate_left
  · simp only [Act.put, List.setIfInBounds_toArray, List.set_cons_zero, List.set_cons_succ, i64_w, i32_w]
    rfl
  refine one_ (i := 3) (N := none) #[true, true, true, true] rfl rfl (by kernel_rfl) (by decide) (fun K hK => ?_)
  have hs16 : w15.cell? ⟨gb287, 0, none⟩ = some (.bool false) := (blk_cell BK287.out 0).trans rfl
  have hfs16 := blk_frozen BK287.out 0
  have hns16_1 := NB295_287.out
  have hms16_1 := NB287_295.out
  have hs17 : w15.cell? ⟨gb287, 1, none⟩ = some (.bool false) := (blk_cell BK287.out 1).trans rfl
  have hfs17 := blk_frozen BK287.out 1
  have hns17_1 := NB295_287.out
  have hms17_1 := NB287_295.out
  have hs18 : w15.cell? ⟨gb287, 2, none⟩ = some (.bool false) := (blk_cell BK287.out 2).trans rfl
  have hfs18 := blk_frozen BK287.out 2
  have hns18_1 := NB295_287.out
  have hms18_1 := NB287_295.out
  have hs19 : w15.cell? ⟨gb287, 3, none⟩ = some (.bool false) := (blk_cell BK287.out 3).trans rfl
  have hfs19 := blk_frozen BK287.out 3
  have hns19_1 := NB295_287.out
  have hms19_1 := NB287_295.out
  refine skip_ (w1 := ?_) (by rfl) rfl ?_ ?_
  rotate_left
  · go_simp
    rfl
  refine hK.out _ _ ⟨((cell_far (p := ⟨gb287, _, none⟩) NB295_287.out _).trans (((cell_far (p := ⟨gb287, _, none⟩) NB295_287.out _).trans (((cell_far (p := ⟨gb287, _, none⟩) NB295_287.out _).trans (((cell_far (p := ⟨gb287, _, none⟩) NB295_287.out _).trans (hHeld.1)))))))), ((cell_far (p := ⟨gb287, _, none⟩) NB295_287.out _).trans (((cell_far (p := ⟨gb287, _, none⟩) NB295_287.out _).trans (((cell_far (p := ⟨gb287, _, none⟩) NB295_287.out _).trans (((cell_far (p := ⟨gb287, _, none⟩) NB295_287.out _).trans (hHeld.2.1)))))))), ((cell_far (p := ⟨gb287, _, none⟩) NB295_287.out _).trans (((cell_far (p := ⟨gb287, _, none⟩) NB295_287.out _).trans (((cell_far (p := ⟨gb287, _, none⟩) NB295_287.out _).trans (((cell_far (p := ⟨gb287, _, none⟩) NB295_287.out _).trans (hHeld.2.2.1)))))))), ((cell_far (p := ⟨gb287, _, none⟩) NB295_287.out _).trans (((cell_far (p := ⟨gb287, _, none⟩) NB295_287.out _).trans (((cell_far (p := ⟨gb287, _, none⟩) NB295_287.out _).trans (((cell_far (p := ⟨gb287, _, none⟩) NB295_287.out _).trans (hHeld.2.2.2))))))))⟩ (fun hHeld => ?_)
  clear hK K
  refine done_ (by kernel_rfl) ?_
  try go_wp2
  refine bodyPost_ret (results_tc rfl _ _ gb287 29 #[.bool t291, .bool t292, .bool (!t296), .bool t294] (0, 0) _ rfl (by (with_reducible repeat (first | refine blk_drewN ?_ _ | refine blk_drew ?_ | refine blk_alloc ?_ _)); refine blk_put (cs := #[.bool t291, .bool t292, .bool (!t296), .bool false]) ?_ 3 _ rfl; (with_reducible repeat (first | refine blk_drewN ?_ _ | refine blk_drew ?_ | refine blk_alloc ?_ _)); refine blk_put (cs := #[.bool t291, .bool t292, .bool false, .bool false]) ?_ 2 _ rfl; (with_reducible repeat (first | refine blk_drewN ?_ _ | refine blk_drew ?_ | refine blk_alloc ?_ _)); refine blk_put (cs := #[.bool t291, .bool false, .bool false, .bool false]) ?_ 1 _ rfl; (with_reducible repeat (first | refine blk_drewN ?_ _ | refine blk_drew ?_ | refine blk_alloc ?_ _)); refine blk_put (cs := #[.bool false, .bool false, .bool false, .bool false]) ?_ 0 _ rfl; (with_reducible repeat (first | refine blk_drewN ?_ _ | refine blk_drew ?_ | refine blk_alloc ?_ _)); exact BK287.out) Try.underlying29 rfl (by kernel_rfl)) rfl ?_
  exact ⟨by first | rfl | (simp [errW_none, errW_some] <;> rfl) | (simp [*, errW_none, errW_some] <;> rfl), by repeat (first | (with_reducible first | exact HB.out | apply below_alloc | apply pw_below_drewN | apply below_drew1 | refine below_set ?_ GE287.out | refine below_set ?_ GE295.out) | exact HB.out)⟩

end Go.Proofs.Ytmmmifgddkfehaa.PAll
