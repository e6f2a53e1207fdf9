-- Written by wip/oprint.py, a program of this session's repo, out of the translation. Not trusted: Lean checks it.
import Derived.Test.YtmmmifgddkfehaaPAlux0
import Derived.Test.YtmmmifgddkfehaaPAlux2
import Derived.Test.YtmmmifgddkfehaaPAlux3
import Derived.Test.YtmmmifgddkfehaaPAlux5
namespace Go.Proofs.Ytmmmifgddkfehaa.PAlu
open Go.RowKit Go.Proofs.YtmmmifgddkfehaaW.PrintWords Go.Proofs.YtmmmifgddkfehaaW.PrintLast
set_option linter.unusedVariables false
set_option linter.unusedSimpArgs false

/-! ### bits_Mul: function 36 -/
def bits_Mul.f (a0 : Int) (a1 : Int) (a2 : Int) : Option (Int × Bool × Bool × Bool × Bool) := (bits_Extend.f a0 a2).bind fun t126 => ((bits_Extend.f a1 a2).bind fun t127 => ((bits_Mask.f a2).bind fun t128 => ((bits_Signs.f (Go.bits .and .u32 ((wrap64 ((wrap64 (wrap32 (t126))) * (wrap64 (wrap32 (t127))))) % 4294967296) t128) a2).bind fun bt129 => ((bits_Extend.f (Go.bits .and .u32 ((wrap64 ((wrap64 (wrap32 (t126))) * (wrap64 (wrap32 (t127))))) % 4294967296) t128) a2).bind fun t134 => (some (Go.bits .and .u32 ((wrap64 ((wrap64 (wrap32 (t126))) * (wrap64 (wrap32 (t127))))) % 4294967296) t128, bt129.1, bt129.2.1, ((wrap64 (wrap32 (t134))) != (wrap64 ((wrap64 (wrap32 (t126))) * (wrap64 (wrap32 (t127)))))), bt129.2.2.2))))))
set_option maxHeartbeats 8000000 in
set_option maxRecDepth 100000 in
theorem bits_Mul.calls (a0 : Int) (a1 : Int) (a2 : Int) (r1 : Int) (r2 : Bool) (r3 : Bool) (r4 : Bool) (r5 : Bool) (w : World) (h : bits_Mul.f a0 a1 a2 = some (r1, r2, r3, r4, r5)) :
    Calls Try.prog 36 #[.int .u32 a0, .int .u32 a1, .int .i64 a2] w fun e w' => e = .returned (.tuple #[.int .u32 r1, .agg #[.bool r2, .bool r3, .bool r4, .bool r5]]) ∧ Below w.heap.size w w' := by
  have hu29 := Try.underlying29
  have HB := Aside0.mk (Below.refl w.heap.size w)
  have H : ((bits_Extend.f a0 a2).bind fun t126 => ((bits_Extend.f a1 a2).bind fun t127 => ((bits_Mask.f a2).bind fun t128 => ((bits_Signs.f (Go.bits .and .u32 ((wrap64 ((wrap64 (wrap32 (t126))) * (wrap64 (wrap32 (t127))))) % 4294967296) t128) a2).bind fun bt129 => ((bits_Extend.f (Go.bits .and .u32 ((wrap64 ((wrap64 (wrap32 (t126))) * (wrap64 (wrap32 (t127))))) % 4294967296) t128) a2).bind fun t134 => (some (Go.bits .and .u32 ((wrap64 ((wrap64 (wrap32 (t126))) * (wrap64 (wrap32 (t127))))) % 4294967296) t128, bt129.1, bt129.2.1, ((wrap64 (wrap32 (t134))) != (wrap64 ((wrap64 (wrap32 (t126))) * (wrap64 (wrap32 (t127)))))), bt129.2.2.2))))))) = some (r1, r2, r3, r4, r5) := h
  clear h
  replace H := Option.bind_eq_some_iff.mp H
  obtain ⟨t126, A40, H⟩ := H
  replace H : ((bits_Extend.f a1 a2).bind fun t127 => ((bits_Mask.f a2).bind fun t128 => ((bits_Signs.f (Go.bits .and .u32 ((wrap64 ((wrap64 (wrap32 (t126))) * (wrap64 (wrap32 (t127))))) % 4294967296) t128) a2).bind fun bt129 => ((bits_Extend.f (Go.bits .and .u32 ((wrap64 ((wrap64 (wrap32 (t126))) * (wrap64 (wrap32 (t127))))) % 4294967296) t128) a2).bind fun t134 => (some (Go.bits .and .u32 ((wrap64 ((wrap64 (wrap32 (t126))) * (wrap64 (wrap32 (t127))))) % 4294967296) t128, bt129.1, bt129.2.1, ((wrap64 (wrap32 (t134))) != (wrap64 ((wrap64 (wrap32 (t126))) * (wrap64 (wrap32 (t127)))))), bt129.2.2.2)))))) = some (r1, r2, r3, r4, r5) := H
  have A4 := Aside0.mk A40
  clear A40
  replace H := Option.bind_eq_some_iff.mp H
  obtain ⟨t127, A50, H⟩ := H
  replace H : ((bits_Mask.f a2).bind fun t128 => ((bits_Signs.f (Go.bits .and .u32 ((wrap64 ((wrap64 (wrap32 (t126))) * (wrap64 (wrap32 (t127))))) % 4294967296) t128) a2).bind fun bt129 => ((bits_Extend.f (Go.bits .and .u32 ((wrap64 ((wrap64 (wrap32 (t126))) * (wrap64 (wrap32 (t127))))) % 4294967296) t128) a2).bind fun t134 => (some (Go.bits .and .u32 ((wrap64 ((wrap64 (wrap32 (t126))) * (wrap64 (wrap32 (t127))))) % 4294967296) t128, bt129.1, bt129.2.1, ((wrap64 (wrap32 (t134))) != (wrap64 ((wrap64 (wrap32 (t126))) * (wrap64 (wrap32 (t127)))))), bt129.2.2.2))))) = some (r1, r2, r3, r4, r5) := H
  have A5 := Aside0.mk A50
  clear A50
  replace H := Option.bind_eq_some_iff.mp H
  obtain ⟨t128, A60, H⟩ := H
  replace H : ((bits_Signs.f (Go.bits .and .u32 ((wrap64 ((wrap64 (wrap32 (t126))) * (wrap64 (wrap32 (t127))))) % 4294967296) t128) a2).bind fun bt129 => ((bits_Extend.f (Go.bits .and .u32 ((wrap64 ((wrap64 (wrap32 (t126))) * (wrap64 (wrap32 (t127))))) % 4294967296) t128) a2).bind fun t134 => (some (Go.bits .and .u32 ((wrap64 ((wrap64 (wrap32 (t126))) * (wrap64 (wrap32 (t127))))) % 4294967296) t128, bt129.1, bt129.2.1, ((wrap64 (wrap32 (t134))) != (wrap64 ((wrap64 (wrap32 (t126))) * (wrap64 (wrap32 (t127)))))), bt129.2.2.2)))) = some (r1, r2, r3, r4, r5) := H
  have A6 := Aside0.mk A60
  clear A60
  replace H := Option.bind_eq_some_iff.mp H
  obtain ⟨⟨t129, t130, t131, t132⟩, A70, H⟩ := H
  replace H : ((bits_Extend.f (Go.bits .and .u32 ((wrap64 ((wrap64 (wrap32 (t126))) * (wrap64 (wrap32 (t127))))) % 4294967296) t128) a2).bind fun t134 => (some (Go.bits .and .u32 ((wrap64 ((wrap64 (wrap32 (t126))) * (wrap64 (wrap32 (t127))))) % 4294967296) t128, t129, t130, ((wrap64 (wrap32 (t134))) != (wrap64 ((wrap64 (wrap32 (t126))) * (wrap64 (wrap32 (t127)))))), t132))) = some (r1, r2, r3, r4, r5) := H
  have A7 := Aside0.mk A70
  clear A70
  replace H := Option.bind_eq_some_iff.mp H
  obtain ⟨t134, A80, H⟩ := H
  replace H : (some (Go.bits .and .u32 ((wrap64 ((wrap64 (wrap32 (t126))) * (wrap64 (wrap32 (t127))))) % 4294967296) t128, t129, t130, ((wrap64 (wrap32 (t134))) != (wrap64 ((wrap64 (wrap32 (t126))) * (wrap64 (wrap32 (t127)))))), t132)) = some (r1, r2, r3, r4, r5) := H
  have A8 := Aside0.mk A80
  clear A80
  simp only [Option.some.injEq, Prod.mk.injEq] at H
  obtain ⟨rfl, rfl, rfl, rfl, rfl⟩ := H
  go_enter Try.func36, Try.ntmps36
  try go_wp2_with (first | ((with_reducible refine gate_dst (N := 7) rfl ?_); refine box_event ?hg (N := 7) ?hd (cs := #[.bool false, .bool false, .bool false, .bool false]) (t := 29) ?hr ?_; (case hd => rfl); (case hg => rfl); (case hr => first | (go_simp; done) | (go_simp; rfl)); intro gb125 hg w9 hbox hb; have n0_ := Aside0.mk (below_step (by repeat (first | (with_reducible first | exact HB.out | apply below_alloc | apply pw_below_drewN | apply below_drew1) | exact HB.out)) hb); have n1_ := Aside0.mk (hbox); have n2_ := Aside0.mk ((by rw [hg]; exact (below_size (by repeat (first | (with_reducible first | exact HB.out | apply below_alloc | apply pw_below_drewN | apply below_drew1) | exact HB.out))) : w.heap.size ≤ gb125)); have n3_ := Aside0.mk ((by rw [hg]; exact (below_size (by repeat (first | (with_reducible first | exact HB.out | apply below_alloc | apply pw_below_drewN | apply below_drew1) | exact HB.out))) : w.heap.size ≤ gb125)); clear HB; have HB := n0_; have BK125 := n1_; have GW125 := n2_; have GE125 := n3_; clear n0_ n1_ n2_ n3_; clear hb hbox hg) | ((with_reducible refine gate_callee (f := 25) rfl ?_); refine goesL_ (some 13) rfl rfl Try.func25 (by kernel_rfl) rfl #[.int .u32 a0, .int .i64 a2] rfl (by (try simp only [List.map_toArray, List.map_cons, List.map_nil]); first | done | rfl | (simp only [List.length_drop, List.length_take]; rfl)) ?_; (with_reducible refine (bits_Extend.calls a0 a2 t126 _ A4.out).mono ?_); rintro e w' ⟨rfl, ⟨nd, rfl⟩⟩; refine ⟨_, rfl, ?_⟩; (try (rw [drewN_self w9]; generalize hq_ : World.drewN w9 _ = w9; have n0_ : Aside0 (w9.heap[gb125]? = some (.cells #[.bool false, .bool false, .bool false, .bool false] 29 (0, 0))) := ⟨by rw [← hq_]; exact (by (with_reducible repeat (first | refine blk_drewN ?_ _ | refine blk_drew ?_ | refine blk_alloc ?_ _)); exact BK125.out)⟩; have n1_ : Aside0 (Below w.heap.size w w9) := ⟨by rw [← hq_]; exact (by repeat (first | (with_reducible first | exact HB.out | apply below_alloc | apply pw_below_drewN | apply below_drew1 | refine below_set ?_ GE125.out) | exact HB.out))⟩; clear BK125 HB hq_; have BK125 := n0_; have HB := n1_; clear n0_ n1_))) | ((with_reducible refine gate_callee (f := 25) rfl ?_); refine goesL_ (some 18) rfl rfl Try.func25 (by kernel_rfl) rfl #[.int .u32 a1, .int .i64 a2] rfl (by (try simp only [List.map_toArray, List.map_cons, List.map_nil]); first | done | rfl | (simp only [List.length_drop, List.length_take]; rfl)) ?_; (with_reducible refine (bits_Extend.calls a1 a2 t127 _ A5.out).mono ?_); rintro e w' ⟨rfl, ⟨nd, rfl⟩⟩; refine ⟨_, rfl, ?_⟩; (try (rw [drewN_self w9]; generalize hq_ : World.drewN w9 _ = w9; have n0_ : Aside0 (w9.heap[gb125]? = some (.cells #[.bool false, .bool false, .bool false, .bool false] 29 (0, 0))) := ⟨by rw [← hq_]; exact (by (with_reducible repeat (first | refine blk_drewN ?_ _ | refine blk_drew ?_ | refine blk_alloc ?_ _)); exact BK125.out)⟩; have n1_ : Aside0 (Below w.heap.size w w9) := ⟨by rw [← hq_]; exact (by repeat (first | (with_reducible first | exact HB.out | apply below_alloc | apply pw_below_drewN | apply below_drew1 | refine below_set ?_ GE125.out) | exact HB.out))⟩; clear BK125 HB hq_; have BK125 := n0_; have HB := n1_; clear n0_ n1_))) | ((with_reducible refine gate_callee (f := 19) rfl ?_); refine goesL_ (some 25) rfl rfl Try.func19 (by kernel_rfl) rfl #[.int .i64 a2] rfl (by (try simp only [List.map_toArray, List.map_cons, List.map_nil]); first | done | rfl | (simp only [List.length_drop, List.length_take]; rfl)) ?_; (with_reducible refine (bits_Mask.calls a2 t128 _ A6.out).mono ?_); rintro e w' ⟨rfl, ⟨nd, rfl⟩⟩; refine ⟨_, rfl, ?_⟩; (try (rw [drewN_self w9]; generalize hq_ : World.drewN w9 _ = w9; have n0_ : Aside0 (w9.heap[gb125]? = some (.cells #[.bool false, .bool false, .bool false, .bool false] 29 (0, 0))) := ⟨by rw [← hq_]; exact (by (with_reducible repeat (first | refine blk_drewN ?_ _ | refine blk_drew ?_ | refine blk_alloc ?_ _)); exact BK125.out)⟩; have n1_ : Aside0 (Below w.heap.size w w9) := ⟨by rw [← hq_]; exact (by repeat (first | (with_reducible first | exact HB.out | apply below_alloc | apply pw_below_drewN | apply below_drew1 | refine below_set ?_ GE125.out) | exact HB.out))⟩; clear BK125 HB hq_; have BK125 := n0_; have HB := n1_; clear n0_ n1_))) | ((with_reducible refine gate_callee (f := 27) rfl ?_); refine goesL_ (some 29) rfl rfl Try.func27 (by kernel_rfl) rfl #[.int .u32 (Go.bits .and .u32 ((wrap64 ((wrap64 (wrap32 (t126))) * (wrap64 (wrap32 (t127))))) % 4294967296) t128), .int .i64 a2] rfl (by (try simp only [List.map_toArray, List.map_cons, List.map_nil]); first | done | rfl | (simp only [List.length_drop, List.length_take]; rfl)) ?_; (with_reducible refine (bits_Signs.calls (Go.bits .and .u32 ((wrap64 ((wrap64 (wrap32 (t126))) * (wrap64 (wrap32 (t127))))) % 4294967296) t128) a2 t129 t130 t131 t132 _ A7.out).mono ?_); rintro e w10 ⟨rfl, hb⟩; refine ⟨_, rfl, ?_⟩; have n0_ := Aside0.mk (blk_below (g := gb125) (o := .cells #[.bool false, .bool false, .bool false, .bool false] 29 (0, 0)) (by (with_reducible repeat (first | refine blk_drewN ?_ _ | refine blk_drew ?_ | refine blk_alloc ?_ _)); exact BK125.out) hb); have n1_ := Aside0.mk (below_step (by repeat (first | (with_reducible first | exact HB.out | apply below_alloc | apply pw_below_drewN | apply below_drew1 | refine below_set ?_ GE125.out) | exact HB.out)) hb); clear BK125; clear HB; have BK125 := n0_; have HB := n1_; clear n0_ n1_; (try clear hb); (try clear hb2); (try clear hk); (try clear hi)) | ((with_reducible refine gate_dst (N := 10) rfl ?_); refine box_event ?hg (N := 10) ?hd (cs := #[.bool false, .bool false, .bool false, .bool false]) (t := 29) ?hr ?_; (case hd => rfl); (case hg => rfl); (case hr => first | (go_simp; done) | (go_simp; rfl)); intro gb133 hg w11 hbox hb; have n0_ := Aside0.mk (blk_below (g := gb125) (o := .cells #[.bool false, .bool false, .bool false, .bool false] 29 (0, 0)) (by (with_reducible repeat (first | refine blk_drewN ?_ _ | refine blk_drew ?_ | refine blk_alloc ?_ _)); exact BK125.out) hb); have n1_ := Aside0.mk (below_step (by repeat (first | (with_reducible first | exact HB.out | apply below_alloc | apply pw_below_drewN | apply below_drew1 | refine below_set ?_ GE125.out) | exact HB.out)) hb); have n2_ := Aside0.mk (hbox); have n3_ := Aside0.mk ((by rw [hg]; exact (below_size (by repeat (first | (with_reducible first | exact HB.out | apply below_alloc | apply pw_below_drewN | apply below_drew1 | refine below_set ?_ GE125.out) | exact HB.out))) : w.heap.size ≤ gb133)); have n4_ := Aside0.mk ((by rw [hg]; exact (below_size (by repeat (first | (with_reducible first | exact HB.out | apply below_alloc | apply pw_below_drewN | apply below_drew1 | refine below_set ?_ GE125.out) | exact HB.out))) : w.heap.size ≤ gb133)); have n5_ := Aside0.mk ((by rw [hg]; exact Nat.ne_of_lt (blk_lt (g := gb125) (o := .cells #[.bool false, .bool false, .bool false, .bool false] 29 (0, 0)) (by (with_reducible repeat (first | refine blk_drewN ?_ _ | refine blk_drew ?_ | refine blk_alloc ?_ _)); exact BK125.out)) : gb125 ≠ gb133)); have n6_ := Aside0.mk ((by rw [hg]; exact Nat.ne_of_gt (blk_lt (g := gb125) (o := .cells #[.bool false, .bool false, .bool false, .bool false] 29 (0, 0)) (by (with_reducible repeat (first | refine blk_drewN ?_ _ | refine blk_drew ?_ | refine blk_alloc ?_ _)); exact BK125.out)) : gb133 ≠ gb125)); clear BK125; clear HB; have BK125 := n0_; have HB := n1_; have BK133 := n2_; have GW133 := n3_; have GE133 := n4_; have NB125_133 := n5_; have NB133_125 := n6_; clear n0_ n1_ n2_ n3_ n4_ n5_ n6_; clear hb hbox hg; have hnb12 := NB133_125.out; have hnc12 := NB125_133.out; have hcz13_0 : w11.cell? ⟨gb133, 0, none⟩ = some (.bool false) := (blk_cell BK133.out 0).trans rfl; have hcz13_1 : w11.cell? ⟨gb133, 1, none⟩ = some (.bool false) := (blk_cell BK133.out 1).trans rfl; have hcz13_2 : w11.cell? ⟨gb133, 2, none⟩ = some (.bool false) := (blk_cell BK133.out 2).trans rfl; have hcz13_3 : w11.cell? ⟨gb133, 3, none⟩ = some (.bool false) := (blk_cell BK133.out 3).trans rfl; have hfz13_0 := blk_frozen BK133.out 0; have hfz13_1 := blk_frozen BK133.out 1; have hfz13_2 := blk_frozen BK133.out 2; have hfz13_3 := blk_frozen BK133.out 3) | ((with_reducible refine gate_callee (f := 25) rfl ?_); refine goesL_ (some 32) rfl rfl Try.func25 (by kernel_rfl) rfl #[.int .u32 (Go.bits .and .u32 ((wrap64 ((wrap64 (wrap32 (t126))) * (wrap64 (wrap32 (t127))))) % 4294967296) t128), .int .i64 a2] rfl (by (try simp only [List.map_toArray, List.map_cons, List.map_nil]); first | done | rfl | (simp only [List.length_drop, List.length_take]; rfl)) ?_; (with_reducible refine (bits_Extend.calls (Go.bits .and .u32 ((wrap64 ((wrap64 (wrap32 (t126))) * (wrap64 (wrap32 (t127))))) % 4294967296) t128) a2 t134 _ A8.out).mono ?_); rintro e w' ⟨rfl, ⟨nd, rfl⟩⟩; refine ⟨_, rfl, ?_⟩))
  have n0_ : Aside0 ((((((w11.setCell ⟨gb133, 0, none⟩ (.bool t129)).setCell ⟨gb133, 1, none⟩ (.bool t130)).setCell ⟨gb133, 2, none⟩ (.bool t131)).setCell ⟨gb133, 3, none⟩ (.bool t132)).setCell ⟨gb133, 2, none⟩ (.bool ((wrap64 (wrap32 (t134))) != (wrap64 ((wrap64 (wrap32 (t126))) * (wrap64 (wrap32 (t127)))))))).heap[gb125]? = some (.cells #[.bool false, .bool false, .bool false, .bool false] 29 (0, 0))) := ⟨by (with_reducible repeat (first | refine blk_drewN ?_ _ | refine blk_drew ?_ | refine blk_alloc ?_ _)); refine blk_far ?_ NB125_133.out _; (with_reducible repeat (first | refine blk_drewN ?_ _ | refine blk_drew ?_ | refine blk_alloc ?_ _)); refine blk_far ?_ NB125_133.out _; (with_reducible repeat (first | refine blk_drewN ?_ _ | refine blk_drew ?_ | refine blk_alloc ?_ _)); refine blk_far ?_ NB125_133.out _; (with_reducible repeat (first | refine blk_drewN ?_ _ | refine blk_drew ?_ | refine blk_alloc ?_ _)); refine blk_far ?_ NB125_133.out _; (with_reducible repeat (first | refine blk_drewN ?_ _ | refine blk_drew ?_ | refine blk_alloc ?_ _)); refine blk_far ?_ NB125_133.out _; (with_reducible repeat (first | refine blk_drewN ?_ _ | refine blk_drew ?_ | refine blk_alloc ?_ _)); exact BK125.out⟩
  have n1_ : Aside0 ((((((w11.setCell ⟨gb133, 0, none⟩ (.bool t129)).setCell ⟨gb133, 1, none⟩ (.bool t130)).setCell ⟨gb133, 2, none⟩ (.bool t131)).setCell ⟨gb133, 3, none⟩ (.bool t132)).setCell ⟨gb133, 2, none⟩ (.bool ((wrap64 (wrap32 (t134))) != (wrap64 ((wrap64 (wrap32 (t126))) * (wrap64 (wrap32 (t127)))))))).heap[gb133]? = some (.cells #[.bool t129, .bool t130, .bool ((wrap64 (wrap32 (t134))) != (wrap64 ((wrap64 (wrap32 (t126))) * (wrap64 (wrap32 (t127)))))), .bool t132] 29 (0, 0))) := ⟨by (with_reducible repeat (first | refine blk_drewN ?_ _ | refine blk_drew ?_ | refine blk_alloc ?_ _)); refine blk_put (cs := #[.bool t129, .bool t130, .bool t131, .bool t132]) ?_ 2 _ rfl; (with_reducible repeat (first | refine blk_drewN ?_ _ | refine blk_drew ?_ | refine blk_alloc ?_ _)); refine blk_put (cs := #[.bool t129, .bool t130, .bool t131, .bool false]) ?_ 3 _ rfl; (with_reducible repeat (first | refine blk_drewN ?_ _ | refine blk_drew ?_ | refine blk_alloc ?_ _)); refine blk_put (cs := #[.bool t129, .bool t130, .bool false, .bool false]) ?_ 2 _ rfl; (with_reducible repeat (first | refine blk_drewN ?_ _ | refine blk_drew ?_ | refine blk_alloc ?_ _)); refine blk_put (cs := #[.bool t129, .bool false, .bool false, .bool false]) ?_ 1 _ rfl; (with_reducible repeat (first | refine blk_drewN ?_ _ | refine blk_drew ?_ | refine blk_alloc ?_ _)); refine blk_put (cs := #[.bool false, .bool false, .bool false, .bool false]) ?_ 0 _ rfl; (with_reducible repeat (first | refine blk_drewN ?_ _ | refine blk_drew ?_ | refine blk_alloc ?_ _)); exact BK133.out⟩
  have n2_ : Aside0 (Below w.heap.size w (((((w11.setCell ⟨gb133, 0, none⟩ (.bool t129)).setCell ⟨gb133, 1, none⟩ (.bool t130)).setCell ⟨gb133, 2, none⟩ (.bool t131)).setCell ⟨gb133, 3, none⟩ (.bool t132)).setCell ⟨gb133, 2, none⟩ (.bool ((wrap64 (wrap32 (t134))) != (wrap64 ((wrap64 (wrap32 (t126))) * (wrap64 (wrap32 (t127))))))))) := ⟨by repeat (first | (with_reducible first | exact HB.out | apply below_alloc | apply pw_below_drewN | apply below_drew1 | refine below_set ?_ GE125.out | refine below_set ?_ GE133.out) | exact HB.out)⟩
  (try clear BK125)
  (try clear BK133)
  (try clear HB)
  (repeat rw [own_setCell_drewN]); (repeat rw [World.drewN_drewN])
  generalize (((((w11.setCell ⟨gb133, 0, none⟩ (.bool t129)).setCell ⟨gb133, 1, none⟩ (.bool t130)).setCell ⟨gb133, 2, none⟩ (.bool t131)).setCell ⟨gb133, 3, none⟩ (.bool t132)).setCell ⟨gb133, 2, none⟩ (.bool ((wrap64 (wrap32 (t134))) != (wrap64 ((wrap64 (wrap32 (t126))) * (wrap64 (wrap32 (t127)))))))) = w14 at n0_ n1_ n2_ ⊢
  have BK125 := n0_
  have BK133 := n1_
  have HB := n2_
  clear n0_ n1_ n2_
  (try (rw [drewN_self w14]; generalize hq_ : World.drewN w14 _ = w14; have n0_ : Aside0 (w14.heap[gb125]? = some (.cells #[.bool false, .bool false, .bool false, .bool false] 29 (0, 0))) := ⟨by rw [← hq_]; exact (by (with_reducible repeat (first | refine blk_drewN ?_ _ | refine blk_drew ?_ | refine blk_alloc ?_ _)); exact BK125.out)⟩; have n1_ : Aside0 (w14.heap[gb133]? = some (.cells #[.bool t129, .bool t130, .bool ((wrap64 (wrap32 (t134))) != (wrap64 ((wrap64 (wrap32 (t126))) * (wrap64 (wrap32 (t127)))))), .bool t132] 29 (0, 0))) := ⟨by rw [← hq_]; exact (by (with_reducible repeat (first | refine blk_drewN ?_ _ | refine blk_drew ?_ | refine blk_alloc ?_ _)); exact BK133.out)⟩; have n2_ : Aside0 (Below w.heap.size w w14) := ⟨by rw [← hq_]; exact (by repeat (first | (with_reducible first | exact HB.out | apply below_alloc | apply pw_below_drewN | apply below_drew1 | refine below_set ?_ GE125.out | refine below_set ?_ GE133.out) | exact HB.out))⟩; clear BK125 BK133 HB hq_; have BK125 := n0_; have BK133 := n1_; have HB := n2_; clear n0_ n1_ n2_))
  have n0_ := Aside0.mk (blk_drew BK125.out)
  have n1_ := Aside0.mk (blk_drew BK133.out)
  have n2_ := Aside0.mk (below_drew1 HB.out)
  clear BK125
  clear BK133
  clear HB
  have BK125 := n0_
  have BK133 := n1_
  have HB := n2_
  clear n0_ n1_ n2_
  refine start_ (n := 4) (S := fun w' => w'.cell? ⟨gb133, 0, none⟩ = some (.bool t129) ∧ w'.cell? ⟨gb133, 1, none⟩ = some (.bool t130) ∧ w'.cell? ⟨gb133, 2, none⟩ = some (.bool ((wrap64 (wrap32 (t134))) != (wrap64 ((wrap64 (wrap32 (t126))) * (wrap64 (wrap32 (t127))))))) ∧ w'.cell? ⟨gb133, 3, none⟩ = some (.bool t132)) (ds := []) #[false, false, false, false] (by kernel_rfl) rfl rfl ⟨(blk_cell BK133.out 0).trans rfl, (blk_cell BK133.out 1).trans rfl, (blk_cell BK133.out 2).trans rfl, (blk_cell BK133.out 3).trans rfl⟩ (fun hHeld => ?_)
  generalize w14.drew = w15 at BK125 BK133 HB hHeld ⊢
  refine pure_ (i := 0) (N := some 38) (v := ?_) (a' := ?_) #[true, false, false, false] rfl rfl (by kernel_rfl) (fun _ _ _ h => h) (Or.inl ⟨by rfl, ?_⟩) ?_ ?_
  rotate_left
  · intro w'
    go_simp
    with_reducible rfl
  rotate_left
  · simp only [Act.put, List.setIfInBounds_toArray, List.set_cons_zero, List.set_cons_succ, i64_w, i32_w]
    rfl
  refine pure_ (i := 2) (N := some 6) (v := ?_) (a' := ?_) #[true, false, true, false] rfl rfl (by kernel_rfl) (fun _ _ _ h => h) (Or.inl ⟨by rfl, ?_⟩) ?_ ?_
  rotate_left
  · intro w'
    go_simp
    with_reducible rfl
  rotate_left
  · simp only [Act.put, List.setIfInBounds_toArray, List.set_cons_zero, List.set_cons_succ, i64_w, i32_w]
    rfl
  refine take_ (i := 1) (N := some 39) (v := ?_) (a' := ?_) #[true, true, true, false] rfl rfl (by kernel_rfl) (fun _ _ _ h => h) (Or.inl ⟨by rfl, ?_⟩) hHeld ?_ ?_
  rotate_left
  · rintro w' ⟨s0, s1, s2, s3⟩
    go_simp
    with_reducible rfl
  rotate_left
  · simp only [Act.put, List.setIfInBounds_toArray, List.set_cons_zero, List.set_cons_succ, i64_w, i32_w]
    rfl
  refine one_ (i := 3) (N := none) #[true, true, true, true] rfl rfl (by kernel_rfl) (by decide) (fun K hK => ?_)
  have hs16 : w15.cell? ⟨gb125, 0, none⟩ = some (.bool false) := (blk_cell BK125.out 0).trans rfl
  have hfs16 := blk_frozen BK125.out 0
  have hns16_1 := NB133_125.out
  have hms16_1 := NB125_133.out
  have hs17 : w15.cell? ⟨gb125, 1, none⟩ = some (.bool false) := (blk_cell BK125.out 1).trans rfl
  have hfs17 := blk_frozen BK125.out 1
  have hns17_1 := NB133_125.out
  have hms17_1 := NB125_133.out
  have hs18 : w15.cell? ⟨gb125, 2, none⟩ = some (.bool false) := (blk_cell BK125.out 2).trans rfl
  have hfs18 := blk_frozen BK125.out 2
  have hns18_1 := NB133_125.out
  have hms18_1 := NB125_133.out
  have hs19 : w15.cell? ⟨gb125, 3, none⟩ = some (.bool false) := (blk_cell BK125.out 3).trans rfl
  have hfs19 := blk_frozen BK125.out 3
  have hns19_1 := NB133_125.out
  have hms19_1 := NB125_133.out
  refine skip_ (w1 := ?_) (by rfl) rfl ?_ ?_
  rotate_left
  · go_simp
    rfl
  refine hK.out _ _ ⟨((cell_far (p := ⟨gb125, _, none⟩) NB133_125.out _).trans (((cell_far (p := ⟨gb125, _, none⟩) NB133_125.out _).trans (((cell_far (p := ⟨gb125, _, none⟩) NB133_125.out _).trans (((cell_far (p := ⟨gb125, _, none⟩) NB133_125.out _).trans (hHeld.1)))))))), ((cell_far (p := ⟨gb125, _, none⟩) NB133_125.out _).trans (((cell_far (p := ⟨gb125, _, none⟩) NB133_125.out _).trans (((cell_far (p := ⟨gb125, _, none⟩) NB133_125.out _).trans (((cell_far (p := ⟨gb125, _, none⟩) NB133_125.out _).trans (hHeld.2.1)))))))), ((cell_far (p := ⟨gb125, _, none⟩) NB133_125.out _).trans (((cell_far (p := ⟨gb125, _, none⟩) NB133_125.out _).trans (((cell_far (p := ⟨gb125, _, none⟩) NB133_125.out _).trans (((cell_far (p := ⟨gb125, _, none⟩) NB133_125.out _).trans (hHeld.2.2.1)))))))), ((cell_far (p := ⟨gb125, _, none⟩) NB133_125.out _).trans (((cell_far (p := ⟨gb125, _, none⟩) NB133_125.out _).trans (((cell_far (p := ⟨gb125, _, none⟩) NB133_125.out _).trans (((cell_far (p := ⟨gb125, _, none⟩) NB133_125.out _).trans (hHeld.2.2.2))))))))⟩ (fun hHeld => ?_)
  clear hK K
  refine done_ (by kernel_rfl) ?_
  try go_wp2
  refine bodyPost_ret (results_tc rfl _ _ gb125 29 #[.bool t129, .bool t130, .bool ((wrap64 (wrap32 (t134))) != (wrap64 ((wrap64 (wrap32 (t126))) * (wrap64 (wrap32 (t127)))))), .bool t132] (0, 0) _ rfl (by (with_reducible repeat (first | refine blk_drewN ?_ _ | refine blk_drew ?_ | refine blk_alloc ?_ _)); refine blk_put (cs := #[.bool t129, .bool t130, .bool ((wrap64 (wrap32 (t134))) != (wrap64 ((wrap64 (wrap32 (t126))) * (wrap64 (wrap32 (t127)))))), .bool false]) ?_ 3 _ rfl; (with_reducible repeat (first | refine blk_drewN ?_ _ | refine blk_drew ?_ | refine blk_alloc ?_ _)); refine blk_put (cs := #[.bool t129, .bool t130, .bool false, .bool false]) ?_ 2 _ rfl; (with_reducible repeat (first | refine blk_drewN ?_ _ | refine blk_drew ?_ | refine blk_alloc ?_ _)); refine blk_put (cs := #[.bool t129, .bool false, .bool false, .bool false]) ?_ 1 _ rfl; (with_reducible repeat (first | refine blk_drewN ?_ _ | refine blk_drew ?_ | refine blk_alloc ?_ _)); refine blk_put (cs := #[.bool false, .bool false, .bool false, .bool false]) ?_ 0 _ rfl; (with_reducible repeat (first | refine blk_drewN ?_ _ | refine blk_drew ?_ | refine blk_alloc ?_ _)); exact BK125.out) Try.underlying29 rfl (by kernel_rfl)) rfl ?_
  exact ⟨by first | rfl | (simp [errW_none, errW_some] <;> rfl) | (simp [*, errW_none, errW_some] <;> rfl), by repeat (first | (with_reducible first | exact HB.out | apply below_alloc | apply pw_below_drewN | apply below_drew1 | refine below_set ?_ GE125.out | refine below_set ?_ GE133.out) | exact HB.out)⟩

end Go.Proofs.Ytmmmifgddkfehaa.PAlu
