-- Written by wip/oprint.py, a program of this session's repo, out of the translation. Not trusted: Lean checks it.
import Derived.Test.YtmmmifgddkfehaaPAlux0
import Derived.Test.YtmmmifgddkfehaaPAlux11
import Derived.Test.YtmmmifgddkfehaaPAlux12
import Derived.Test.YtmmmifgddkfehaaPAlux13
namespace Go.Proofs.Ytmmmifgddkfehaa.PAlu
open Go.RowKit Go.Proofs.YtmmmifgddkfehaaW.PrintWords Go.Proofs.YtmmmifgddkfehaaW.PrintLast
set_option linter.unusedVariables false
set_option linter.unusedSimpArgs false

/-! ### camshaftref01_Add: function 22 -/
def camshaftref01_Add.f (a0 : Int) (a1 : Int) (a2 : Bool) (a3 : Int) : Option (Int × Bool × Bool × Bool × Bool) := (camshaftref01_Rest.f a0 a3).bind fun t241 => ((camshaftref01_Rest.f a1 a3).bind fun t242 => ((camshaftref01_one.f a2).bind fun t243 => ((camshaftref01_Bits.f (wrap64 ((wrap64 (t241 + t242)) + t243)) a3).bind fun t244 => ((camshaftref01_Signs.f t244 a3).bind fun bt245 => ((camshaftref01_Wide.f a3).bind fun t250 => ((camshaftref01_Signed.f a0 a3).bind fun t251 => ((camshaftref01_Signed.f a1 a3).bind fun t252 => ((camshaftref01_one.f a2).bind fun t253 => ((camshaftref01_Fits.f (wrap64 ((wrap64 (t251 + t252)) + t253)) a3).bind fun t254 => (some (t244, bt245.1, bt245.2.1, !t254, decide ((wrap64 ((wrap64 (t241 + t242)) + t243)) ≥ t250))))))))))))
set_option maxHeartbeats 8000000 in
set_option maxRecDepth 100000 in
theorem camshaftref01_Add.calls (a0 : Int) (a1 : Int) (a2 : Bool) (a3 : Int) (r1 : Int) (r2 : Bool) (r3 : Bool) (r4 : Bool) (r5 : Bool) (w : World) (h : camshaftref01_Add.f a0 a1 a2 a3 = some (r1, r2, r3, r4, r5)) :
    Calls Try.prog 22 #[.int .u32 a0, .int .u32 a1, .bool a2, .int .i64 a3] w fun e w' => e = .returned (.tuple #[.int .u32 r1, .agg #[.bool r2, .bool r3, .bool r4, .bool r5]]) ∧ Below w.heap.size w w' := by
  have hu29 := Try.underlying29
  have HB := Aside0.mk (Below.refl w.heap.size w)
  have H : ((camshaftref01_Rest.f a0 a3).bind fun t241 => ((camshaftref01_Rest.f a1 a3).bind fun t242 => ((camshaftref01_one.f a2).bind fun t243 => ((camshaftref01_Bits.f (wrap64 ((wrap64 (t241 + t242)) + t243)) a3).bind fun t244 => ((camshaftref01_Signs.f t244 a3).bind fun bt245 => ((camshaftref01_Wide.f a3).bind fun t250 => ((camshaftref01_Signed.f a0 a3).bind fun t251 => ((camshaftref01_Signed.f a1 a3).bind fun t252 => ((camshaftref01_one.f a2).bind fun t253 => ((camshaftref01_Fits.f (wrap64 ((wrap64 (t251 + t252)) + t253)) a3).bind fun t254 => (some (t244, bt245.1, bt245.2.1, !t254, decide ((wrap64 ((wrap64 (t241 + t242)) + t243)) ≥ t250))))))))))))) = some (r1, r2, r3, r4, r5) := h
  clear h
  replace H := Option.bind_eq_some_iff.mp H
  obtain ⟨t241, A50, H⟩ := H
  replace H : ((camshaftref01_Rest.f a1 a3).bind fun t242 => ((camshaftref01_one.f a2).bind fun t243 => ((camshaftref01_Bits.f (wrap64 ((wrap64 (t241 + t242)) + t243)) a3).bind fun t244 => ((camshaftref01_Signs.f t244 a3).bind fun bt245 => ((camshaftref01_Wide.f a3).bind fun t250 => ((camshaftref01_Signed.f a0 a3).bind fun t251 => ((camshaftref01_Signed.f a1 a3).bind fun t252 => ((camshaftref01_one.f a2).bind fun t253 => ((camshaftref01_Fits.f (wrap64 ((wrap64 (t251 + t252)) + t253)) a3).bind fun t254 => (some (t244, bt245.1, bt245.2.1, !t254, decide ((wrap64 ((wrap64 (t241 + t242)) + t243)) ≥ t250)))))))))))) = some (r1, r2, r3, r4, r5) := H
  have A5 := Aside0.mk A50
  clear A50
  replace H := Option.bind_eq_some_iff.mp H
  obtain ⟨t242, A60, H⟩ := H
  replace H : ((camshaftref01_one.f a2).bind fun t243 => ((camshaftref01_Bits.f (wrap64 ((wrap64 (t241 + t242)) + t243)) a3).bind fun t244 => ((camshaftref01_Signs.f t244 a3).bind fun bt245 => ((camshaftref01_Wide.f a3).bind fun t250 => ((camshaftref01_Signed.f a0 a3).bind fun t251 => ((camshaftref01_Signed.f a1 a3).bind fun t252 => ((camshaftref01_one.f a2).bind fun t253 => ((camshaftref01_Fits.f (wrap64 ((wrap64 (t251 + t252)) + t253)) a3).bind fun t254 => (some (t244, bt245.1, bt245.2.1, !t254, decide ((wrap64 ((wrap64 (t241 + t242)) + t243)) ≥ t250))))))))))) = some (r1, r2, r3, r4, r5) := H
  have A6 := Aside0.mk A60
  clear A60
  replace H := Option.bind_eq_some_iff.mp H
  obtain ⟨t243, A70, H⟩ := H
  replace H : ((camshaftref01_Bits.f (wrap64 ((wrap64 (t241 + t242)) + t243)) a3).bind fun t244 => ((camshaftref01_Signs.f t244 a3).bind fun bt245 => ((camshaftref01_Wide.f a3).bind fun t250 => ((camshaftref01_Signed.f a0 a3).bind fun t251 => ((camshaftref01_Signed.f a1 a3).bind fun t252 => ((camshaftref01_one.f a2).bind fun t253 => ((camshaftref01_Fits.f (wrap64 ((wrap64 (t251 + t252)) + t253)) a3).bind fun t254 => (some (t244, bt245.1, bt245.2.1, !t254, decide ((wrap64 ((wrap64 (t241 + t242)) + t243)) ≥ t250)))))))))) = some (r1, r2, r3, r4, r5) := H
  have A7 := Aside0.mk A70
  clear A70
  replace H := Option.bind_eq_some_iff.mp H
  obtain ⟨t244, A80, H⟩ := H
  replace H : ((camshaftref01_Signs.f t244 a3).bind fun bt245 => ((camshaftref01_Wide.f a3).bind fun t250 => ((camshaftref01_Signed.f a0 a3).bind fun t251 => ((camshaftref01_Signed.f a1 a3).bind fun t252 => ((camshaftref01_one.f a2).bind fun t253 => ((camshaftref01_Fits.f (wrap64 ((wrap64 (t251 + t252)) + t253)) a3).bind fun t254 => (some (t244, bt245.1, bt245.2.1, !t254, decide ((wrap64 ((wrap64 (t241 + t242)) + t243)) ≥ t250))))))))) = some (r1, r2, r3, r4, r5) := H
  have A8 := Aside0.mk A80
  clear A80
  replace H := Option.bind_eq_some_iff.mp H
  obtain ⟨⟨t245, t246, t247, t248⟩, A90, H⟩ := H
  replace H : ((camshaftref01_Wide.f a3).bind fun t250 => ((camshaftref01_Signed.f a0 a3).bind fun t251 => ((camshaftref01_Signed.f a1 a3).bind fun t252 => ((camshaftref01_one.f a2).bind fun t253 => ((camshaftref01_Fits.f (wrap64 ((wrap64 (t251 + t252)) + t253)) a3).bind fun t254 => (some (t244, t245, t246, !t254, decide ((wrap64 ((wrap64 (t241 + t242)) + t243)) ≥ t250)))))))) = some (r1, r2, r3, r4, r5) := H
  have A9 := Aside0.mk A90
  clear A90
  replace H := Option.bind_eq_some_iff.mp H
  obtain ⟨t250, A100, H⟩ := H
  replace H : ((camshaftref01_Signed.f a0 a3).bind fun t251 => ((camshaftref01_Signed.f a1 a3).bind fun t252 => ((camshaftref01_one.f a2).bind fun t253 => ((camshaftref01_Fits.f (wrap64 ((wrap64 (t251 + t252)) + t253)) a3).bind fun t254 => (some (t244, t245, t246, !t254, decide ((wrap64 ((wrap64 (t241 + t242)) + t243)) ≥ t250))))))) = some (r1, r2, r3, r4, r5) := H
  have A10 := Aside0.mk A100
  clear A100
  replace H := Option.bind_eq_some_iff.mp H
  obtain ⟨t251, A110, H⟩ := H
  replace H : ((camshaftref01_Signed.f a1 a3).bind fun t252 => ((camshaftref01_one.f a2).bind fun t253 => ((camshaftref01_Fits.f (wrap64 ((wrap64 (t251 + t252)) + t253)) a3).bind fun t254 => (some (t244, t245, t246, !t254, decide ((wrap64 ((wrap64 (t241 + t242)) + t243)) ≥ t250)))))) = some (r1, r2, r3, r4, r5) := H
  have A11 := Aside0.mk A110
  clear A110
  replace H := Option.bind_eq_some_iff.mp H
  obtain ⟨t252, A120, H⟩ := H
  replace H : ((camshaftref01_one.f a2).bind fun t253 => ((camshaftref01_Fits.f (wrap64 ((wrap64 (t251 + t252)) + t253)) a3).bind fun t254 => (some (t244, t245, t246, !t254, decide ((wrap64 ((wrap64 (t241 + t242)) + t243)) ≥ t250))))) = some (r1, r2, r3, r4, r5) := H
  have A12 := Aside0.mk A120
  clear A120
  replace H := Option.bind_eq_some_iff.mp H
  obtain ⟨t253, A130, H⟩ := H
  replace H : ((camshaftref01_Fits.f (wrap64 ((wrap64 (t251 + t252)) + t253)) a3).bind fun t254 => (some (t244, t245, t246, !t254, decide ((wrap64 ((wrap64 (t241 + t242)) + t243)) ≥ t250)))) = some (r1, r2, r3, r4, r5) := H
  have A13 := Aside0.mk A130
  clear A130
  replace H := Option.bind_eq_some_iff.mp H
  obtain ⟨t254, A140, H⟩ := H
  replace H : (some (t244, t245, t246, !t254, decide ((wrap64 ((wrap64 (t241 + t242)) + t243)) ≥ t250))) = some (r1, r2, r3, r4, r5) := H
  have A14 := Aside0.mk A140
  clear A140
  simp only [Option.some.injEq, Prod.mk.injEq] at H
  obtain ⟨rfl, rfl, rfl, rfl, rfl⟩ := H
  go_enter Try.func22, Try.ntmps22
  try go_wp2_with (first | ((with_reducible refine gate_dst (N := 9) rfl ?_); refine box_event ?hg (N := 9) ?hd (cs := #[.bool false, .bool false, .bool false, .bool false]) (t := 29) ?hr ?_; (case hd => rfl); (case hg => rfl); (case hr => first | (go_simp; done) | (go_simp; rfl)); intro gb240 hg w15 hbox hb; have n0_ := Aside0.mk (below_step (by repeat (first | (with_reducible first | exact HB.out | apply below_alloc | apply pw_below_drewN | apply below_drew1) | exact HB.out)) hb); have n1_ := Aside0.mk (hbox); have n2_ := Aside0.mk ((by rw [hg]; exact (below_size (by repeat (first | (with_reducible first | exact HB.out | apply below_alloc | apply pw_below_drewN | apply below_drew1) | exact HB.out))) : w.heap.size ≤ gb240)); have n3_ := Aside0.mk ((by rw [hg]; exact (below_size (by repeat (first | (with_reducible first | exact HB.out | apply below_alloc | apply pw_below_drewN | apply below_drew1) | exact HB.out))) : w.heap.size ≤ gb240)); clear HB; have HB := n0_; have BK240 := n1_; have GW240 := n2_; have GE240 := n3_; clear n0_ n1_ n2_ n3_; clear hb hbox hg) | ((with_reducible refine gate_callee (f := 45) rfl ?_); refine goesL_ (some 15) rfl rfl Try.func45 (by kernel_rfl) rfl #[.int .u32 a0, .int .i64 a3] rfl (by (try simp only [List.map_toArray, List.map_cons, List.map_nil]); first | done | rfl | (simp only [List.length_drop, List.length_take]; rfl)) ?_; (with_reducible refine (camshaftref01_Rest.calls a0 a3 t241 _ A5.out).mono ?_); rintro e w' ⟨rfl, ⟨nd, rfl⟩⟩; refine ⟨_, rfl, ?_⟩; (try (rw [drewN_self w15]; generalize hq_ : World.drewN w15 _ = w15; have n0_ : Aside0 (w15.heap[gb240]? = some (.cells #[.bool false, .bool false, .bool false, .bool false] 29 (0, 0))) := ⟨by rw [← hq_]; exact (by (with_reducible repeat (first | refine blk_drewN ?_ _ | refine blk_drew ?_ | refine blk_alloc ?_ _)); exact BK240.out)⟩; have n1_ : Aside0 (Below w.heap.size w w15) := ⟨by rw [← hq_]; exact (by repeat (first | (with_reducible first | exact HB.out | apply below_alloc | apply pw_below_drewN | apply below_drew1 | refine below_set ?_ GE240.out) | exact HB.out))⟩; clear BK240 HB hq_; have BK240 := n0_; have HB := n1_; clear n0_ n1_))) | ((with_reducible refine gate_callee (f := 45) rfl ?_); refine goesL_ (some 18) rfl rfl Try.func45 (by kernel_rfl) rfl #[.int .u32 a1, .int .i64 a3] rfl (by (try simp only [List.map_toArray, List.map_cons, List.map_nil]); first | done | rfl | (simp only [List.length_drop, List.length_take]; rfl)) ?_; (with_reducible refine (camshaftref01_Rest.calls a1 a3 t242 _ A6.out).mono ?_); rintro e w' ⟨rfl, ⟨nd, rfl⟩⟩; refine ⟨_, rfl, ?_⟩; (try (rw [drewN_self w15]; generalize hq_ : World.drewN w15 _ = w15; have n0_ : Aside0 (w15.heap[gb240]? = some (.cells #[.bool false, .bool false, .bool false, .bool false] 29 (0, 0))) := ⟨by rw [← hq_]; exact (by (with_reducible repeat (first | refine blk_drewN ?_ _ | refine blk_drew ?_ | refine blk_alloc ?_ _)); exact BK240.out)⟩; have n1_ : Aside0 (Below w.heap.size w w15) := ⟨by rw [← hq_]; exact (by repeat (first | (with_reducible first | exact HB.out | apply below_alloc | apply pw_below_drewN | apply below_drew1 | refine below_set ?_ GE240.out) | exact HB.out))⟩; clear BK240 HB hq_; have BK240 := n0_; have HB := n1_; clear n0_ n1_))) | ((with_reducible refine gate_callee (f := 48) rfl ?_); refine goesL_ (some 21) rfl rfl Try.func48 (by kernel_rfl) rfl #[.bool a2] rfl (by (try simp only [List.map_toArray, List.map_cons, List.map_nil]); first | done | rfl | (simp only [List.length_drop, List.length_take]; rfl)) ?_; (with_reducible refine (camshaftref01_one.calls a2 t243 _ A7.out).mono ?_); rintro e w' ⟨rfl, ⟨nd, rfl⟩⟩; refine ⟨_, rfl, ?_⟩; (try (rw [drewN_self w15]; generalize hq_ : World.drewN w15 _ = w15; have n0_ : Aside0 (w15.heap[gb240]? = some (.cells #[.bool false, .bool false, .bool false, .bool false] 29 (0, 0))) := ⟨by rw [← hq_]; exact (by (with_reducible repeat (first | refine blk_drewN ?_ _ | refine blk_drew ?_ | refine blk_alloc ?_ _)); exact BK240.out)⟩; have n1_ : Aside0 (Below w.heap.size w w15) := ⟨by rw [← hq_]; exact (by repeat (first | (with_reducible first | exact HB.out | apply below_alloc | apply pw_below_drewN | apply below_drew1 | refine below_set ?_ GE240.out) | exact HB.out))⟩; clear BK240 HB hq_; have BK240 := n0_; have HB := n1_; clear n0_ n1_))) | ((with_reducible refine gate_callee (f := 30) rfl ?_); refine goesL_ (some 25) rfl rfl Try.func30 (by kernel_rfl) rfl #[.int .i64 (wrap64 ((wrap64 (t241 + t242)) + t243)), .int .i64 a3] rfl (by (try simp only [List.map_toArray, List.map_cons, List.map_nil]); first | done | rfl | (simp only [List.length_drop, List.length_take]; rfl)) ?_; (with_reducible refine (camshaftref01_Bits.calls (wrap64 ((wrap64 (t241 + t242)) + t243)) a3 t244 _ A8.out).mono ?_); rintro e w' ⟨rfl, ⟨nd, rfl⟩⟩; refine ⟨_, rfl, ?_⟩; (try (rw [drewN_self w15]; generalize hq_ : World.drewN w15 _ = w15; have n0_ : Aside0 (w15.heap[gb240]? = some (.cells #[.bool false, .bool false, .bool false, .bool false] 29 (0, 0))) := ⟨by rw [← hq_]; exact (by (with_reducible repeat (first | refine blk_drewN ?_ _ | refine blk_drew ?_ | refine blk_alloc ?_ _)); exact BK240.out)⟩; have n1_ : Aside0 (Below w.heap.size w w15) := ⟨by rw [← hq_]; exact (by repeat (first | (with_reducible first | exact HB.out | apply below_alloc | apply pw_below_drewN | apply below_drew1 | refine below_set ?_ GE240.out) | exact HB.out))⟩; clear BK240 HB hq_; have BK240 := n0_; have HB := n1_; clear n0_ n1_))) | ((with_reducible refine gate_callee (f := 31) rfl ?_); refine goesL_ (some 28) rfl rfl Try.func31 (by kernel_rfl) rfl #[.int .u32 t244, .int .i64 a3] rfl (by (try simp only [List.map_toArray, List.map_cons, List.map_nil]); first | done | rfl | (simp only [List.length_drop, List.length_take]; rfl)) ?_; (with_reducible refine (camshaftref01_Signs.calls t244 a3 t245 t246 t247 t248 _ A9.out).mono ?_); rintro e w16 ⟨rfl, hb⟩; refine ⟨_, rfl, ?_⟩; have n0_ := Aside0.mk (blk_below (g := gb240) (o := .cells #[.bool false, .bool false, .bool false, .bool false] 29 (0, 0)) (by (with_reducible repeat (first | refine blk_drewN ?_ _ | refine blk_drew ?_ | refine blk_alloc ?_ _)); exact BK240.out) hb); have n1_ := Aside0.mk (below_step (by repeat (first | (with_reducible first | exact HB.out | apply below_alloc | apply pw_below_drewN | apply below_drew1 | refine below_set ?_ GE240.out) | exact HB.out)) hb); clear BK240; clear HB; have BK240 := n0_; have HB := n1_; clear n0_ n1_; (try clear hb); (try clear hb2); (try clear hk); (try clear hi)) | ((with_reducible refine gate_dst (N := 12) rfl ?_); refine box_event ?hg (N := 12) ?hd (cs := #[.bool false, .bool false, .bool false, .bool false]) (t := 29) ?hr ?_; (case hd => rfl); (case hg => rfl); (case hr => first | (go_simp; done) | (go_simp; rfl)); intro gb249 hg w17 hbox hb; have n0_ := Aside0.mk (blk_below (g := gb240) (o := .cells #[.bool false, .bool false, .bool false, .bool false] 29 (0, 0)) (by (with_reducible repeat (first | refine blk_drewN ?_ _ | refine blk_drew ?_ | refine blk_alloc ?_ _)); exact BK240.out) hb); have n1_ := Aside0.mk (below_step (by repeat (first | (with_reducible first | exact HB.out | apply below_alloc | apply pw_below_drewN | apply below_drew1 | refine below_set ?_ GE240.out) | exact HB.out)) hb); have n2_ := Aside0.mk (hbox); have n3_ := Aside0.mk ((by rw [hg]; exact (below_size (by repeat (first | (with_reducible first | exact HB.out | apply below_alloc | apply pw_below_drewN | apply below_drew1 | refine below_set ?_ GE240.out) | exact HB.out))) : w.heap.size ≤ gb249)); have n4_ := Aside0.mk ((by rw [hg]; exact (below_size (by repeat (first | (with_reducible first | exact HB.out | apply below_alloc | apply pw_below_drewN | apply below_drew1 | refine below_set ?_ GE240.out) | exact HB.out))) : w.heap.size ≤ gb249)); have n5_ := Aside0.mk ((by rw [hg]; exact Nat.ne_of_lt (blk_lt (g := gb240) (o := .cells #[.bool false, .bool false, .bool false, .bool false] 29 (0, 0)) (by (with_reducible repeat (first | refine blk_drewN ?_ _ | refine blk_drew ?_ | refine blk_alloc ?_ _)); exact BK240.out)) : gb240 ≠ gb249)); have n6_ := Aside0.mk ((by rw [hg]; exact Nat.ne_of_gt (blk_lt (g := gb240) (o := .cells #[.bool false, .bool false, .bool false, .bool false] 29 (0, 0)) (by (with_reducible repeat (first | refine blk_drewN ?_ _ | refine blk_drew ?_ | refine blk_alloc ?_ _)); exact BK240.out)) : gb249 ≠ gb240)); clear BK240; clear HB; have BK240 := n0_; have HB := n1_; have BK249 := n2_; have GW249 := n3_; have GE249 := n4_; have NB240_249 := n5_; have NB249_240 := n6_; clear n0_ n1_ n2_ n3_ n4_ n5_ n6_; clear hb hbox hg; have hnb18 := NB249_240.out; have hnc18 := NB240_249.out; have hcz19_0 : w17.cell? ⟨gb249, 0, none⟩ = some (.bool false) := (blk_cell BK249.out 0).trans rfl; have hcz19_1 : w17.cell? ⟨gb249, 1, none⟩ = some (.bool false) := (blk_cell BK249.out 1).trans rfl; have hcz19_2 : w17.cell? ⟨gb249, 2, none⟩ = some (.bool false) := (blk_cell BK249.out 2).trans rfl; have hcz19_3 : w17.cell? ⟨gb249, 3, none⟩ = some (.bool false) := (blk_cell BK249.out 3).trans rfl; have hfz19_0 := blk_frozen BK249.out 0; have hfz19_1 := blk_frozen BK249.out 1; have hfz19_2 := blk_frozen BK249.out 2; have hfz19_3 := blk_frozen BK249.out 3) | ((with_reducible refine gate_callee (f := 29) rfl ?_); refine goesL_ (some 31) rfl rfl Try.func29 (by kernel_rfl) rfl #[.int .i64 a3] rfl (by (try simp only [List.map_toArray, List.map_cons, List.map_nil]); first | done | rfl | (simp only [List.length_drop, List.length_take]; rfl)) ?_; (with_reducible refine (camshaftref01_Wide.calls a3 t250 _ A10.out).mono ?_); rintro e w' ⟨rfl, ⟨nd, rfl⟩⟩; refine ⟨_, rfl, ?_⟩) | ((with_reducible refine gate_callee (f := 26) rfl ?_); refine goesL_ (some 36) rfl rfl Try.func26 (by kernel_rfl) rfl #[.int .u32 a0, .int .i64 a3] rfl (by (try simp only [List.map_toArray, List.map_cons, List.map_nil]); first | done | rfl | (simp only [List.length_drop, List.length_take]; rfl)) ?_; (with_reducible refine (camshaftref01_Signed.calls a0 a3 t251 _ A11.out).mono ?_); rintro e w' ⟨rfl, ⟨nd, rfl⟩⟩; refine ⟨_, rfl, ?_⟩) | ((with_reducible refine gate_callee (f := 26) rfl ?_); refine goesL_ (some 39) rfl rfl Try.func26 (by kernel_rfl) rfl #[.int .u32 a1, .int .i64 a3] rfl (by (try simp only [List.map_toArray, List.map_cons, List.map_nil]); first | done | rfl | (simp only [List.length_drop, List.length_take]; rfl)) ?_; (with_reducible refine (camshaftref01_Signed.calls a1 a3 t252 _ A12.out).mono ?_); rintro e w' ⟨rfl, ⟨nd, rfl⟩⟩; refine ⟨_, rfl, ?_⟩) | ((with_reducible refine gate_callee (f := 48) rfl ?_); refine goesL_ (some 42) rfl rfl Try.func48 (by kernel_rfl) rfl #[.bool a2] rfl (by (try simp only [List.map_toArray, List.map_cons, List.map_nil]); first | done | rfl | (simp only [List.length_drop, List.length_take]; rfl)) ?_; (with_reducible refine (camshaftref01_one.calls a2 t253 _ A13.out).mono ?_); rintro e w' ⟨rfl, ⟨nd, rfl⟩⟩; refine ⟨_, rfl, ?_⟩) | ((with_reducible refine gate_callee (f := 49) rfl ?_); refine goesL_ (some 45) rfl rfl Try.func49 (by kernel_rfl) rfl #[.int .i64 (wrap64 ((wrap64 (t251 + t252)) + t253)), .int .i64 a3] rfl (by (try simp only [List.map_toArray, List.map_cons, List.map_nil]); first | done | rfl | (simp only [List.length_drop, List.length_take]; rfl)) ?_; (with_reducible refine (camshaftref01_Fits.calls (wrap64 ((wrap64 (t251 + t252)) + t253)) a3 t254 _ A14.out).mono ?_); rintro e w' ⟨rfl, ⟨nd, rfl⟩⟩; refine ⟨_, rfl, ?_⟩))
  have n0_ : Aside0 (((((((w17.setCell ⟨gb249, 0, none⟩ (.bool t245)).setCell ⟨gb249, 1, none⟩ (.bool t246)).setCell ⟨gb249, 2, none⟩ (.bool t247)).setCell ⟨gb249, 3, none⟩ (.bool t248)).setCell ⟨gb249, 3, none⟩ (.bool (decide ((wrap64 ((wrap64 (t241 + t242)) + t243)) ≥ t250)))).setCell ⟨gb249, 2, none⟩ (.bool (!t254))).heap[gb240]? = some (.cells #[.bool false, .bool false, .bool false, .bool false] 29 (0, 0))) := ⟨by (with_reducible repeat (first | refine blk_drewN ?_ _ | refine blk_drew ?_ | refine blk_alloc ?_ _)); refine blk_far ?_ NB240_249.out _; (with_reducible repeat (first | refine blk_drewN ?_ _ | refine blk_drew ?_ | refine blk_alloc ?_ _)); refine blk_far ?_ NB240_249.out _; (with_reducible repeat (first | refine blk_drewN ?_ _ | refine blk_drew ?_ | refine blk_alloc ?_ _)); refine blk_far ?_ NB240_249.out _; (with_reducible repeat (first | refine blk_drewN ?_ _ | refine blk_drew ?_ | refine blk_alloc ?_ _)); refine blk_far ?_ NB240_249.out _; (with_reducible repeat (first | refine blk_drewN ?_ _ | refine blk_drew ?_ | refine blk_alloc ?_ _)); refine blk_far ?_ NB240_249.out _; (with_reducible repeat (first | refine blk_drewN ?_ _ | refine blk_drew ?_ | refine blk_alloc ?_ _)); refine blk_far ?_ NB240_249.out _; (with_reducible repeat (first | refine blk_drewN ?_ _ | refine blk_drew ?_ | refine blk_alloc ?_ _)); exact BK240.out⟩
  have n1_ : Aside0 (((((((w17.setCell ⟨gb249, 0, none⟩ (.bool t245)).setCell ⟨gb249, 1, none⟩ (.bool t246)).setCell ⟨gb249, 2, none⟩ (.bool t247)).setCell ⟨gb249, 3, none⟩ (.bool t248)).setCell ⟨gb249, 3, none⟩ (.bool (decide ((wrap64 ((wrap64 (t241 + t242)) + t243)) ≥ t250)))).setCell ⟨gb249, 2, none⟩ (.bool (!t254))).heap[gb249]? = some (.cells #[.bool t245, .bool t246, .bool (!t254), .bool (decide ((wrap64 ((wrap64 (t241 + t242)) + t243)) ≥ t250))] 29 (0, 0))) := ⟨by (with_reducible repeat (first | refine blk_drewN ?_ _ | refine blk_drew ?_ | refine blk_alloc ?_ _)); refine blk_put (cs := #[.bool t245, .bool t246, .bool t247, .bool (decide ((wrap64 ((wrap64 (t241 + t242)) + t243)) ≥ t250))]) ?_ 2 _ rfl; (with_reducible repeat (first | refine blk_drewN ?_ _ | refine blk_drew ?_ | refine blk_alloc ?_ _)); refine blk_put (cs := #[.bool t245, .bool t246, .bool t247, .bool t248]) ?_ 3 _ rfl; (with_reducible repeat (first | refine blk_drewN ?_ _ | refine blk_drew ?_ | refine blk_alloc ?_ _)); refine blk_put (cs := #[.bool t245, .bool t246, .bool t247, .bool false]) ?_ 3 _ rfl; (with_reducible repeat (first | refine blk_drewN ?_ _ | refine blk_drew ?_ | refine blk_alloc ?_ _)); refine blk_put (cs := #[.bool t245, .bool t246, .bool false, .bool false]) ?_ 2 _ rfl; (with_reducible repeat (first | refine blk_drewN ?_ _ | refine blk_drew ?_ | refine blk_alloc ?_ _)); refine blk_put (cs := #[.bool t245, .bool false, .bool false, .bool false]) ?_ 1 _ rfl; (with_reducible repeat (first | refine blk_drewN ?_ _ | refine blk_drew ?_ | refine blk_alloc ?_ _)); refine blk_put (cs := #[.bool false, .bool false, .bool false, .bool false]) ?_ 0 _ rfl; (with_reducible repeat (first | refine blk_drewN ?_ _ | refine blk_drew ?_ | refine blk_alloc ?_ _)); exact BK249.out⟩
  have n2_ : Aside0 (Below w.heap.size w ((((((w17.setCell ⟨gb249, 0, none⟩ (.bool t245)).setCell ⟨gb249, 1, none⟩ (.bool t246)).setCell ⟨gb249, 2, none⟩ (.bool t247)).setCell ⟨gb249, 3, none⟩ (.bool t248)).setCell ⟨gb249, 3, none⟩ (.bool (decide ((wrap64 ((wrap64 (t241 + t242)) + t243)) ≥ t250)))).setCell ⟨gb249, 2, none⟩ (.bool (!t254)))) := ⟨by repeat (first | (with_reducible first | exact HB.out | apply below_alloc | apply pw_below_drewN | apply below_drew1 | refine below_set ?_ GE240.out | refine below_set ?_ GE249.out) | exact HB.out)⟩
  (try clear BK240)
  (try clear BK249)
  (try clear HB)
  (repeat rw [own_setCell_drewN]); (repeat rw [World.drewN_drewN])
  generalize ((((((w17.setCell ⟨gb249, 0, none⟩ (.bool t245)).setCell ⟨gb249, 1, none⟩ (.bool t246)).setCell ⟨gb249, 2, none⟩ (.bool t247)).setCell ⟨gb249, 3, none⟩ (.bool t248)).setCell ⟨gb249, 3, none⟩ (.bool (decide ((wrap64 ((wrap64 (t241 + t242)) + t243)) ≥ t250)))).setCell ⟨gb249, 2, none⟩ (.bool (!t254))) = w20 at n0_ n1_ n2_ ⊢
  have BK240 := n0_
  have BK249 := n1_
  have HB := n2_
  clear n0_ n1_ n2_
  (try (rw [drewN_self w20]; generalize hq_ : World.drewN w20 _ = w20; have n0_ : Aside0 (w20.heap[gb240]? = some (.cells #[.bool false, .bool false, .bool false, .bool false] 29 (0, 0))) := ⟨by rw [← hq_]; exact (by (with_reducible repeat (first | refine blk_drewN ?_ _ | refine blk_drew ?_ | refine blk_alloc ?_ _)); exact BK240.out)⟩; have n1_ : Aside0 (w20.heap[gb249]? = some (.cells #[.bool t245, .bool t246, .bool (!t254), .bool (decide ((wrap64 ((wrap64 (t241 + t242)) + t243)) ≥ t250))] 29 (0, 0))) := ⟨by rw [← hq_]; exact (by (with_reducible repeat (first | refine blk_drewN ?_ _ | refine blk_drew ?_ | refine blk_alloc ?_ _)); exact BK249.out)⟩; have n2_ : Aside0 (Below w.heap.size w w20) := ⟨by rw [← hq_]; exact (by repeat (first | (with_reducible first | exact HB.out | apply below_alloc | apply pw_below_drewN | apply below_drew1 | refine below_set ?_ GE240.out | refine below_set ?_ GE249.out) | exact HB.out))⟩; clear BK240 BK249 HB hq_; have BK240 := n0_; have BK249 := n1_; have HB := n2_; clear n0_ n1_ n2_))
  have n0_ := Aside0.mk (blk_drew BK240.out)
  have n1_ := Aside0.mk (blk_drew BK249.out)
  have n2_ := Aside0.mk (below_drew1 HB.out)
  clear BK240
  clear BK249
  clear HB
  have BK240 := n0_
  have BK249 := n1_
  have HB := n2_
  clear n0_ n1_ n2_
  refine start_ (n := 4) (S := fun w' => w'.cell? ⟨gb249, 0, none⟩ = some (.bool t245) ∧ w'.cell? ⟨gb249, 1, none⟩ = some (.bool t246) ∧ w'.cell? ⟨gb249, 2, none⟩ = some (.bool (!t254)) ∧ w'.cell? ⟨gb249, 3, none⟩ = some (.bool (decide ((wrap64 ((wrap64 (t241 + t242)) + t243)) ≥ t250)))) (ds := []) #[false, false, false, false] (by kernel_rfl) rfl rfl ⟨(blk_cell BK249.out 0).trans rfl, (blk_cell BK249.out 1).trans rfl, (blk_cell BK249.out 2).trans rfl, (blk_cell BK249.out 3).trans rfl⟩ (fun hHeld => ?_)
  generalize w20.drew = w21 at BK240 BK249 HB hHeld ⊢
  refine pure_ (i := 0) (N := some 48) (v := ?_) (a' := ?_) #[true, false, false, false] rfl rfl (by kernel_rfl) (fun _ _ _ h => h) (Or.inl ⟨by rfl, ?_⟩) ?_ ?_
  rotate_left
  · intro w'
    go_simp
    with_reducible rfl
  rotate_left
  · simp only [Act.put, List.setIfInBounds_toArray, List.set_cons_zero, List.set_cons_succ, i64_w, i32_w]
    rfl
  refine pure_ (i := 2) (N := some 8) (v := ?_) (a' := ?_) #[true, false, true, false] rfl rfl (by kernel_rfl) (fun _ _ _ h => h) (Or.inl ⟨by rfl, ?_⟩) ?_ ?_
  rotate_left
  · intro w'
    go_simp
    with_reducible rfl
  rotate_left
  · simp only [Act.put, List.setIfInBounds_toArray, List.set_cons_zero, List.set_cons_succ, i64_w, i32_w]
    rfl
  refine take_ (i := 1) (N := some 49) (v := ?_) (a' := ?_) #[true, true, true, false] rfl rfl (by kernel_rfl) (fun _ _ _ h => h) (Or.inl ⟨by rfl, ?_⟩) hHeld ?_ ?_
  rotate_left
  · rintro w' ⟨s0, s1, s2, s3⟩
    go_simp
    with_reducible rfl
  rotate_left
  · simp only [Act.put, List.setIfInBounds_toArray, List.set_cons_zero, List.set_cons_succ, i64_w, i32_w]
    rfl
  refine one_ (i := 3) (N := none) #[true, true, true, true] rfl rfl (by kernel_rfl) (by decide) (fun K hK => ?_)
  have hs22 : w21.cell? ⟨gb240, 0, none⟩ = some (.bool false) := (blk_cell BK240.out 0).trans rfl
  have hfs22 := blk_frozen BK240.out 0
  have hns22_1 := NB249_240.out
  have hms22_1 := NB240_249.out
  have hs23 : w21.cell? ⟨gb240, 1, none⟩ = some (.bool false) := (blk_cell BK240.out 1).trans rfl
  have hfs23 := blk_frozen BK240.out 1
  have hns23_1 := NB249_240.out
  have hms23_1 := NB240_249.out
  have hs24 : w21.cell? ⟨gb240, 2, none⟩ = some (.bool false) := (blk_cell BK240.out 2).trans rfl
  have hfs24 := blk_frozen BK240.out 2
  have hns24_1 := NB249_240.out
  have hms24_1 := NB240_249.out
  have hs25 : w21.cell? ⟨gb240, 3, none⟩ = some (.bool false) := (blk_cell BK240.out 3).trans rfl
  have hfs25 := blk_frozen BK240.out 3
  have hns25_1 := NB249_240.out
  have hms25_1 := NB240_249.out
  refine skip_ (w1 := ?_) (by rfl) rfl ?_ ?_
  rotate_left
  · go_simp
    rfl
  refine hK.out _ _ ⟨((cell_far (p := ⟨gb240, _, none⟩) NB249_240.out _).trans (((cell_far (p := ⟨gb240, _, none⟩) NB249_240.out _).trans (((cell_far (p := ⟨gb240, _, none⟩) NB249_240.out _).trans (((cell_far (p := ⟨gb240, _, none⟩) NB249_240.out _).trans (hHeld.1)))))))), ((cell_far (p := ⟨gb240, _, none⟩) NB249_240.out _).trans (((cell_far (p := ⟨gb240, _, none⟩) NB249_240.out _).trans (((cell_far (p := ⟨gb240, _, none⟩) NB249_240.out _).trans (((cell_far (p := ⟨gb240, _, none⟩) NB249_240.out _).trans (hHeld.2.1)))))))), ((cell_far (p := ⟨gb240, _, none⟩) NB249_240.out _).trans (((cell_far (p := ⟨gb240, _, none⟩) NB249_240.out _).trans (((cell_far (p := ⟨gb240, _, none⟩) NB249_240.out _).trans (((cell_far (p := ⟨gb240, _, none⟩) NB249_240.out _).trans (hHeld.2.2.1)))))))), ((cell_far (p := ⟨gb240, _, none⟩) NB249_240.out _).trans (((cell_far (p := ⟨gb240, _, none⟩) NB249_240.out _).trans (((cell_far (p := ⟨gb240, _, none⟩) NB249_240.out _).trans (((cell_far (p := ⟨gb240, _, none⟩) NB249_240.out _).trans (hHeld.2.2.2))))))))⟩ (fun hHeld => ?_)
  clear hK K
  refine done_ (by kernel_rfl) ?_
  try go_wp2
  refine bodyPost_ret (results_tc rfl _ _ gb240 29 #[.bool t245, .bool t246, .bool (!t254), .bool (decide ((wrap64 ((wrap64 (t241 + t242)) + t243)) ≥ t250))] (0, 0) _ rfl (by (with_reducible repeat (first | refine blk_drewN ?_ _ | refine blk_drew ?_ | refine blk_alloc ?_ _)); refine blk_put (cs := #[.bool t245, .bool t246, .bool (!t254), .bool false]) ?_ 3 _ rfl; (with_reducible repeat (first | refine blk_drewN ?_ _ | refine blk_drew ?_ | refine blk_alloc ?_ _)); refine blk_put (cs := #[.bool t245, .bool t246, .bool false, .bool false]) ?_ 2 _ rfl; (with_reducible repeat (first | refine blk_drewN ?_ _ | refine blk_drew ?_ | refine blk_alloc ?_ _)); refine blk_put (cs := #[.bool t245, .bool false, .bool false, .bool false]) ?_ 1 _ rfl; (with_reducible repeat (first | refine blk_drewN ?_ _ | refine blk_drew ?_ | refine blk_alloc ?_ _)); refine blk_put (cs := #[.bool false, .bool false, .bool false, .bool false]) ?_ 0 _ rfl; (with_reducible repeat (first | refine blk_drewN ?_ _ | refine blk_drew ?_ | refine blk_alloc ?_ _)); exact BK240.out) Try.underlying29 rfl (by kernel_rfl)) rfl ?_
  exact ⟨by first | rfl | (simp [errW_none, errW_some] <;> rfl) | (simp [*, errW_none, errW_some] <;> rfl), by repeat (first | (with_reducible first | exact HB.out | apply below_alloc | apply pw_below_drewN | apply below_drew1 | refine below_set ?_ GE240.out | refine below_set ?_ GE249.out) | exact HB.out)⟩

end Go.Proofs.Ytmmmifgddkfehaa.PAlu
