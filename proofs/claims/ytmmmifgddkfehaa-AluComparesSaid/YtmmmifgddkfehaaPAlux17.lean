-- Written by wip/oprint.py, a program of this session's repo, out of the translation. Not trusted: Lean checks it.
import Derived.Test.YtmmmifgddkfehaaPAlux0
import Derived.Test.YtmmmifgddkfehaaPAlux12
import Derived.Test.YtmmmifgddkfehaaPAlux13
namespace Go.Proofs.Ytmmmifgddkfehaa.PAlu
open Go.RowKit Go.Proofs.YtmmmifgddkfehaaW.PrintWords Go.Proofs.YtmmmifgddkfehaaW.PrintLast
set_option linter.unusedVariables false
set_option linter.unusedSimpArgs false

/-! ### camshaftref01_Mul: function 37 -/
def camshaftref01_Mul.f (a0 : Int) (a1 : Int) (a2 : Int) : Option (Int × Bool × Bool × Bool × Bool) := (camshaftref01_Signed.f a0 a2).bind fun t277 => ((camshaftref01_Signed.f a1 a2).bind fun t278 => ((camshaftref01_Bits.f (wrap64 (t277 * t278)) a2).bind fun t279 => ((camshaftref01_Signs.f t279 a2).bind fun bt280 => ((camshaftref01_Fits.f (wrap64 (t277 * t278)) a2).bind fun t285 => (some (t279, bt280.1, bt280.2.1, !t285, bt280.2.2.2))))))
set_option maxHeartbeats 8000000 in
set_option maxRecDepth 100000 in
theorem camshaftref01_Mul.calls (a0 : Int) (a1 : Int) (a2 : Int) (r1 : Int) (r2 : Bool) (r3 : Bool) (r4 : Bool) (r5 : Bool) (w : World) (h : camshaftref01_Mul.f a0 a1 a2 = some (r1, r2, r3, r4, r5)) :
    Calls Try.prog 37 #[.int .u32 a0, .int .u32 a1, .int .i64 a2] w fun e w' => e = .returned (.tuple #[.int .u32 r1, .agg #[.bool r2, .bool r3, .bool r4, .bool r5]]) ∧ Below w.heap.size w w' := by
  have hu29 := Try.underlying29
  have HB := Aside0.mk (Below.refl w.heap.size w)
  have H : ((camshaftref01_Signed.f a0 a2).bind fun t277 => ((camshaftref01_Signed.f a1 a2).bind fun t278 => ((camshaftref01_Bits.f (wrap64 (t277 * t278)) a2).bind fun t279 => ((camshaftref01_Signs.f t279 a2).bind fun bt280 => ((camshaftref01_Fits.f (wrap64 (t277 * t278)) a2).bind fun t285 => (some (t279, bt280.1, bt280.2.1, !t285, bt280.2.2.2))))))) = some (r1, r2, r3, r4, r5) := h
  clear h
  replace H := Option.bind_eq_some_iff.mp H
  obtain ⟨t277, A40, H⟩ := H
  replace H : ((camshaftref01_Signed.f a1 a2).bind fun t278 => ((camshaftref01_Bits.f (wrap64 (t277 * t278)) a2).bind fun t279 => ((camshaftref01_Signs.f t279 a2).bind fun bt280 => ((camshaftref01_Fits.f (wrap64 (t277 * t278)) a2).bind fun t285 => (some (t279, bt280.1, bt280.2.1, !t285, bt280.2.2.2)))))) = some (r1, r2, r3, r4, r5) := H
  have A4 := Aside0.mk A40
  clear A40
  replace H := Option.bind_eq_some_iff.mp H
  obtain ⟨t278, A50, H⟩ := H
  replace H : ((camshaftref01_Bits.f (wrap64 (t277 * t278)) a2).bind fun t279 => ((camshaftref01_Signs.f t279 a2).bind fun bt280 => ((camshaftref01_Fits.f (wrap64 (t277 * t278)) a2).bind fun t285 => (some (t279, bt280.1, bt280.2.1, !t285, bt280.2.2.2))))) = some (r1, r2, r3, r4, r5) := H
  have A5 := Aside0.mk A50
  clear A50
  replace H := Option.bind_eq_some_iff.mp H
  obtain ⟨t279, A60, H⟩ := H
  replace H : ((camshaftref01_Signs.f t279 a2).bind fun bt280 => ((camshaftref01_Fits.f (wrap64 (t277 * t278)) a2).bind fun t285 => (some (t279, bt280.1, bt280.2.1, !t285, bt280.2.2.2)))) = some (r1, r2, r3, r4, r5) := H
  have A6 := Aside0.mk A60
  clear A60
  replace H := Option.bind_eq_some_iff.mp H
  obtain ⟨⟨t280, t281, t282, t283⟩, A70, H⟩ := H
  replace H : ((camshaftref01_Fits.f (wrap64 (t277 * t278)) a2).bind fun t285 => (some (t279, t280, t281, !t285, t283))) = some (r1, r2, r3, r4, r5) := H
  have A7 := Aside0.mk A70
  clear A70
  replace H := Option.bind_eq_some_iff.mp H
  obtain ⟨t285, A80, H⟩ := H
  replace H : (some (t279, t280, t281, !t285, t283)) = some (r1, r2, r3, r4, r5) := H
  have A8 := Aside0.mk A80
  clear A80
  simp only [Option.some.injEq, Prod.mk.injEq] at H
  obtain ⟨rfl, rfl, rfl, rfl, rfl⟩ := H
  go_enter Try.func37, Try.ntmps37
  try go_wp2_with (first | ((with_reducible refine gate_dst (N := 7) rfl ?_); refine box_event ?hg (N := 7) ?hd (cs := #[.bool false, .bool false, .bool false, .bool false]) (t := 29) ?hr ?_; (case hd => rfl); (case hg => rfl); (case hr => first | (go_simp; done) | (go_simp; rfl)); intro gb276 hg w9 hbox hb; have n0_ := Aside0.mk (below_step (by repeat (first | (with_reducible first | exact HB.out | apply below_alloc | apply pw_below_drewN | apply below_drew1) | exact HB.out)) hb); have n1_ := Aside0.mk (hbox); have n2_ := Aside0.mk ((by rw [hg]; exact (below_size (by repeat (first | (with_reducible first | exact HB.out | apply below_alloc | apply pw_below_drewN | apply below_drew1) | exact HB.out))) : w.heap.size ≤ gb276)); have n3_ := Aside0.mk ((by rw [hg]; exact (below_size (by repeat (first | (with_reducible first | exact HB.out | apply below_alloc | apply pw_below_drewN | apply below_drew1) | exact HB.out))) : w.heap.size ≤ gb276)); clear HB; have HB := n0_; have BK276 := n1_; have GW276 := n2_; have GE276 := n3_; clear n0_ n1_ n2_ n3_; clear hb hbox hg) | ((with_reducible refine gate_callee (f := 26) rfl ?_); refine goesL_ (some 13) rfl rfl Try.func26 (by kernel_rfl) rfl #[.int .u32 a0, .int .i64 a2] rfl (by (try simp only [List.map_toArray, List.map_cons, List.map_nil]); first | done | rfl | (simp only [List.length_drop, List.length_take]; rfl)) ?_; (with_reducible refine (camshaftref01_Signed.calls a0 a2 t277 _ A4.out).mono ?_); rintro e w' ⟨rfl, ⟨nd, rfl⟩⟩; refine ⟨_, rfl, ?_⟩; (try (rw [drewN_self w9]; generalize hq_ : World.drewN w9 _ = w9; have n0_ : Aside0 (w9.heap[gb276]? = some (.cells #[.bool false, .bool false, .bool false, .bool false] 29 (0, 0))) := ⟨by rw [← hq_]; exact (by (with_reducible repeat (first | refine blk_drewN ?_ _ | refine blk_drew ?_ | refine blk_alloc ?_ _)); exact BK276.out)⟩; have n1_ : Aside0 (Below w.heap.size w w9) := ⟨by rw [← hq_]; exact (by repeat (first | (with_reducible first | exact HB.out | apply below_alloc | apply pw_below_drewN | apply below_drew1 | refine below_set ?_ GE276.out) | exact HB.out))⟩; clear BK276 HB hq_; have BK276 := n0_; have HB := n1_; clear n0_ n1_))) | ((with_reducible refine gate_callee (f := 26) rfl ?_); refine goesL_ (some 16) rfl rfl Try.func26 (by kernel_rfl) rfl #[.int .u32 a1, .int .i64 a2] rfl (by (try simp only [List.map_toArray, List.map_cons, List.map_nil]); first | done | rfl | (simp only [List.length_drop, List.length_take]; rfl)) ?_; (with_reducible refine (camshaftref01_Signed.calls a1 a2 t278 _ A5.out).mono ?_); rintro e w' ⟨rfl, ⟨nd, rfl⟩⟩; refine ⟨_, rfl, ?_⟩; (try (rw [drewN_self w9]; generalize hq_ : World.drewN w9 _ = w9; have n0_ : Aside0 (w9.heap[gb276]? = some (.cells #[.bool false, .bool false, .bool false, .bool false] 29 (0, 0))) := ⟨by rw [← hq_]; exact (by (with_reducible repeat (first | refine blk_drewN ?_ _ | refine blk_drew ?_ | refine blk_alloc ?_ _)); exact BK276.out)⟩; have n1_ : Aside0 (Below w.heap.size w w9) := ⟨by rw [← hq_]; exact (by repeat (first | (with_reducible first | exact HB.out | apply below_alloc | apply pw_below_drewN | apply below_drew1 | refine below_set ?_ GE276.out) | exact HB.out))⟩; clear BK276 HB hq_; have BK276 := n0_; have HB := n1_; clear n0_ n1_))) | ((with_reducible refine gate_callee (f := 30) rfl ?_); refine goesL_ (some 20) rfl rfl Try.func30 (by kernel_rfl) rfl #[.int .i64 (wrap64 (t277 * t278)), .int .i64 a2] rfl (by (try simp only [List.map_toArray, List.map_cons, List.map_nil]); first | done | rfl | (simp only [List.length_drop, List.length_take]; rfl)) ?_; (with_reducible refine (camshaftref01_Bits.calls (wrap64 (t277 * t278)) a2 t279 _ A6.out).mono ?_); rintro e w' ⟨rfl, ⟨nd, rfl⟩⟩; refine ⟨_, rfl, ?_⟩; (try (rw [drewN_self w9]; generalize hq_ : World.drewN w9 _ = w9; have n0_ : Aside0 (w9.heap[gb276]? = some (.cells #[.bool false, .bool false, .bool false, .bool false] 29 (0, 0))) := ⟨by rw [← hq_]; exact (by (with_reducible repeat (first | refine blk_drewN ?_ _ | refine blk_drew ?_ | refine blk_alloc ?_ _)); exact BK276.out)⟩; have n1_ : Aside0 (Below w.heap.size w w9) := ⟨by rw [← hq_]; exact (by repeat (first | (with_reducible first | exact HB.out | apply below_alloc | apply pw_below_drewN | apply below_drew1 | refine below_set ?_ GE276.out) | exact HB.out))⟩; clear BK276 HB hq_; have BK276 := n0_; have HB := n1_; clear n0_ n1_))) | ((with_reducible refine gate_callee (f := 31) rfl ?_); refine goesL_ (some 23) rfl rfl Try.func31 (by kernel_rfl) rfl #[.int .u32 t279, .int .i64 a2] rfl (by (try simp only [List.map_toArray, List.map_cons, List.map_nil]); first | done | rfl | (simp only [List.length_drop, List.length_take]; rfl)) ?_; (with_reducible refine (camshaftref01_Signs.calls t279 a2 t280 t281 t282 t283 _ A7.out).mono ?_); rintro e w10 ⟨rfl, hb⟩; refine ⟨_, rfl, ?_⟩; have n0_ := Aside0.mk (blk_below (g := gb276) (o := .cells #[.bool false, .bool false, .bool false, .bool false] 29 (0, 0)) (by (with_reducible repeat (first | refine blk_drewN ?_ _ | refine blk_drew ?_ | refine blk_alloc ?_ _)); exact BK276.out) hb); have n1_ := Aside0.mk (below_step (by repeat (first | (with_reducible first | exact HB.out | apply below_alloc | apply pw_below_drewN | apply below_drew1 | refine below_set ?_ GE276.out) | exact HB.out)) hb); clear BK276; clear HB; have BK276 := n0_; have HB := n1_; clear n0_ n1_; (try clear hb); (try clear hb2); (try clear hk); (try clear hi)) | ((with_reducible refine gate_dst (N := 10) rfl ?_); refine box_event ?hg (N := 10) ?hd (cs := #[.bool false, .bool false, .bool false, .bool false]) (t := 29) ?hr ?_; (case hd => rfl); (case hg => rfl); (case hr => first | (go_simp; done) | (go_simp; rfl)); intro gb284 hg w11 hbox hb; have n0_ := Aside0.mk (blk_below (g := gb276) (o := .cells #[.bool false, .bool false, .bool false, .bool false] 29 (0, 0)) (by (with_reducible repeat (first | refine blk_drewN ?_ _ | refine blk_drew ?_ | refine blk_alloc ?_ _)); exact BK276.out) hb); have n1_ := Aside0.mk (below_step (by repeat (first | (with_reducible first | exact HB.out | apply below_alloc | apply pw_below_drewN | apply below_drew1 | refine below_set ?_ GE276.out) | exact HB.out)) hb); have n2_ := Aside0.mk (hbox); have n3_ := Aside0.mk ((by rw [hg]; exact (below_size (by repeat (first | (with_reducible first | exact HB.out | apply below_alloc | apply pw_below_drewN | apply below_drew1 | refine below_set ?_ GE276.out) | exact HB.out))) : w.heap.size ≤ gb284)); have n4_ := Aside0.mk ((by rw [hg]; exact (below_size (by repeat (first | (with_reducible first | exact HB.out | apply below_alloc | apply pw_below_drewN | apply below_drew1 | refine below_set ?_ GE276.out) | exact HB.out))) : w.heap.size ≤ gb284)); have n5_ := Aside0.mk ((by rw [hg]; exact Nat.ne_of_lt (blk_lt (g := gb276) (o := .cells #[.bool false, .bool false, .bool false, .bool false] 29 (0, 0)) (by (with_reducible repeat (first | refine blk_drewN ?_ _ | refine blk_drew ?_ | refine blk_alloc ?_ _)); exact BK276.out)) : gb276 ≠ gb284)); have n6_ := Aside0.mk ((by rw [hg]; exact Nat.ne_of_gt (blk_lt (g := gb276) (o := .cells #[.bool false, .bool false, .bool false, .bool false] 29 (0, 0)) (by (with_reducible repeat (first | refine blk_drewN ?_ _ | refine blk_drew ?_ | refine blk_alloc ?_ _)); exact BK276.out)) : gb284 ≠ gb276)); clear BK276; clear HB; have BK276 := n0_; have HB := n1_; have BK284 := n2_; have GW284 := n3_; have GE284 := n4_; have NB276_284 := n5_; have NB284_276 := n6_; clear n0_ n1_ n2_ n3_ n4_ n5_ n6_; clear hb hbox hg; have hnb12 := NB284_276.out; have hnc12 := NB276_284.out; have hcz13_0 : w11.cell? ⟨gb284, 0, none⟩ = some (.bool false) := (blk_cell BK284.out 0).trans rfl; have hcz13_1 : w11.cell? ⟨gb284, 1, none⟩ = some (.bool false) := (blk_cell BK284.out 1).trans rfl; have hcz13_2 : w11.cell? ⟨gb284, 2, none⟩ = some (.bool false) := (blk_cell BK284.out 2).trans rfl; have hcz13_3 : w11.cell? ⟨gb284, 3, none⟩ = some (.bool false) := (blk_cell BK284.out 3).trans rfl; have hfz13_0 := blk_frozen BK284.out 0; have hfz13_1 := blk_frozen BK284.out 1; have hfz13_2 := blk_frozen BK284.out 2; have hfz13_3 := blk_frozen BK284.out 3) | ((with_reducible refine gate_callee (f := 49) rfl ?_); refine goesL_ (some 26) rfl rfl Try.func49 (by kernel_rfl) rfl #[.int .i64 (wrap64 (t277 * t278)), .int .i64 a2] rfl (by (try simp only [List.map_toArray, List.map_cons, List.map_nil]); first | done | rfl | (simp only [List.length_drop, List.length_take]; rfl)) ?_; (with_reducible refine (camshaftref01_Fits.calls (wrap64 (t277 * t278)) a2 t285 _ A8.out).mono ?_); rintro e w' ⟨rfl, ⟨nd, rfl⟩⟩; refine ⟨_, rfl, ?_⟩))
  have n0_ : Aside0 ((((((w11.setCell ⟨gb284, 0, none⟩ (.bool t280)).setCell ⟨gb284, 1, none⟩ (.bool t281)).setCell ⟨gb284, 2, none⟩ (.bool t282)).setCell ⟨gb284, 3, none⟩ (.bool t283)).setCell ⟨gb284, 2, none⟩ (.bool (!t285))).heap[gb276]? = some (.cells #[.bool false, .bool false, .bool false, .bool false] 29 (0, 0))) := ⟨by (with_reducible repeat (first | refine blk_drewN ?_ _ | refine blk_drew ?_ | refine blk_alloc ?_ _)); refine blk_far ?_ NB276_284.out _; (with_reducible repeat (first | refine blk_drewN ?_ _ | refine blk_drew ?_ | refine blk_alloc ?_ _)); refine blk_far ?_ NB276_284.out _; (with_reducible repeat (first | refine blk_drewN ?_ _ | refine blk_drew ?_ | refine blk_alloc ?_ _)); refine blk_far ?_ NB276_284.out _; (with_reducible repeat (first | refine blk_drewN ?_ _ | refine blk_drew ?_ | refine blk_alloc ?_ _)); refine blk_far ?_ NB276_284.out _; (with_reducible repeat (first | refine blk_drewN ?_ _ | refine blk_drew ?_ | refine blk_alloc ?_ _)); refine blk_far ?_ NB276_284.out _; (with_reducible repeat (first | refine blk_drewN ?_ _ | refine blk_drew ?_ | refine blk_alloc ?_ _)); exact BK276.out⟩
  have n1_ : Aside0 ((((((w11.setCell ⟨gb284, 0, none⟩ (.bool t280)).setCell ⟨gb284, 1, none⟩ (.bool t281)).setCell ⟨gb284, 2, none⟩ (.bool t282)).setCell ⟨gb284, 3, none⟩ (.bool t283)).setCell ⟨gb284, 2, none⟩ (.bool (!t285))).heap[gb284]? = some (.cells #[.bool t280, .bool t281, .bool (!t285), .bool t283] 29 (0, 0))) := ⟨by (with_reducible repeat (first | refine blk_drewN ?_ _ | refine blk_drew ?_ | refine blk_alloc ?_ _)); refine blk_put (cs := #[.bool t280, .bool t281, .bool t282, .bool t283]) ?_ 2 _ rfl; (with_reducible repeat (first | refine blk_drewN ?_ _ | refine blk_drew ?_ | refine blk_alloc ?_ _)); refine blk_put (cs := #[.bool t280, .bool t281, .bool t282, .bool false]) ?_ 3 _ rfl; (with_reducible repeat (first | refine blk_drewN ?_ _ | refine blk_drew ?_ | refine blk_alloc ?_ _)); refine blk_put (cs := #[.bool t280, .bool t281, .bool false, .bool false]) ?_ 2 _ rfl; (with_reducible repeat (first | refine blk_drewN ?_ _ | refine blk_drew ?_ | refine blk_alloc ?_ _)); refine blk_put (cs := #[.bool t280, .bool false, .bool false, .bool false]) ?_ 1 _ rfl; (with_reducible repeat (first | refine blk_drewN ?_ _ | refine blk_drew ?_ | refine blk_alloc ?_ _)); refine blk_put (cs := #[.bool false, .bool false, .bool false, .bool false]) ?_ 0 _ rfl; (with_reducible repeat (first | refine blk_drewN ?_ _ | refine blk_drew ?_ | refine blk_alloc ?_ _)); exact BK284.out⟩
  have n2_ : Aside0 (Below w.heap.size w (((((w11.setCell ⟨gb284, 0, none⟩ (.bool t280)).setCell ⟨gb284, 1, none⟩ (.bool t281)).setCell ⟨gb284, 2, none⟩ (.bool t282)).setCell ⟨gb284, 3, none⟩ (.bool t283)).setCell ⟨gb284, 2, none⟩ (.bool (!t285)))) := ⟨by repeat (first | (with_reducible first | exact HB.out | apply below_alloc | apply pw_below_drewN | apply below_drew1 | refine below_set ?_ GE276.out | refine below_set ?_ GE284.out) | exact HB.out)⟩
  (try clear BK276)
  (try clear BK284)
  (try clear HB)
  (repeat rw [own_setCell_drewN]); (repeat rw [World.drewN_drewN])
  generalize (((((w11.setCell ⟨gb284, 0, none⟩ (.bool t280)).setCell ⟨gb284, 1, none⟩ (.bool t281)).setCell ⟨gb284, 2, none⟩ (.bool t282)).setCell ⟨gb284, 3, none⟩ (.bool t283)).setCell ⟨gb284, 2, none⟩ (.bool (!t285))) = w14 at n0_ n1_ n2_ ⊢
  have BK276 := n0_
  have BK284 := n1_
  have HB := n2_
  clear n0_ n1_ n2_
  (try (rw [drewN_self w14]; generalize hq_ : World.drewN w14 _ = w14; have n0_ : Aside0 (w14.heap[gb276]? = some (.cells #[.bool false, .bool false, .bool false, .bool false] 29 (0, 0))) := ⟨by rw [← hq_]; exact (by (with_reducible repeat (first | refine blk_drewN ?_ _ | refine blk_drew ?_ | refine blk_alloc ?_ _)); exact BK276.out)⟩; have n1_ : Aside0 (w14.heap[gb284]? = some (.cells #[.bool t280, .bool t281, .bool (!t285), .bool t283] 29 (0, 0))) := ⟨by rw [← hq_]; exact (by (with_reducible repeat (first | refine blk_drewN ?_ _ | refine blk_drew ?_ | refine blk_alloc ?_ _)); exact BK284.out)⟩; have n2_ : Aside0 (Below w.heap.size w w14) := ⟨by rw [← hq_]; exact (by repeat (first | (with_reducible first | exact HB.out | apply below_alloc | apply pw_below_drewN | apply below_drew1 | refine below_set ?_ GE276.out | refine below_set ?_ GE284.out) | exact HB.out))⟩; clear BK276 BK284 HB hq_; have BK276 := n0_; have BK284 := n1_; have HB := n2_; clear n0_ n1_ n2_))
  have n0_ := Aside0.mk (blk_drew BK276.out)
  have n1_ := Aside0.mk (blk_drew BK284.out)
  have n2_ := Aside0.mk (below_drew1 HB.out)
  clear BK276
  clear BK284
  clear HB
  have BK276 := n0_
  have BK284 := n1_
  have HB := n2_
  clear n0_ n1_ n2_
  refine start_ (n := 4) (S := fun w' => w'.cell? ⟨gb284, 0, none⟩ = some (.bool t280) ∧ w'.cell? ⟨gb284, 1, none⟩ = some (.bool t281) ∧ w'.cell? ⟨gb284, 2, none⟩ = some (.bool (!t285)) ∧ w'.cell? ⟨gb284, 3, none⟩ = some (.bool t283)) (ds := []) #[false, false, false, false] (by kernel_rfl) rfl rfl ⟨(blk_cell BK284.out 0).trans rfl, (blk_cell BK284.out 1).trans rfl, (blk_cell BK284.out 2).trans rfl, (blk_cell BK284.out 3).trans rfl⟩ (fun hHeld => ?_)
  generalize w14.drew = w15 at BK276 BK284 HB hHeld ⊢
  refine pure_ (i := 0) (N := some 29) (v := ?_) (a' := ?_) #[true, false, false, false] rfl rfl (by kernel_rfl) (fun _ _ _ h => h) (Or.inl ⟨by rfl, ?_⟩) ?_ ?_
  rotate_left
  · intro w'
    go_simp
    with_reducible rfl
  rotate_left
  · simp only [Act.put, List.setIfInBounds_toArray, List.set_cons_zero, List.set_cons_succ, i64_w, i32_w]
    rfl
  refine pure_ (i := 2) (N := some 6) (v := ?_) (a' := ?_) #[true, false, true, false] rfl rfl (by kernel_rfl) (fun _ _ _ h => h) (Or.inl ⟨by rfl, ?_⟩) ?_ ?_
  rotate_left
  · intro w'
    go_simp
    with_reducible rfl
  rotate_left
  · simp only [Act.put, List.setIfInBounds_toArray, List.set_cons_zero, List.set_cons_succ, i64_w, i32_w]
    rfl
  refine take_ (i := 1) (N := some 30) (v := ?_) (a' := ?_) #[true, true, true, false] rfl rfl (by kernel_rfl) (fun _ _ _ h => h) (Or.inl ⟨by rfl, ?_⟩) hHeld ?_ ?_
  rotate_left
  · rintro w' ⟨s0, s1, s2, s3⟩
    go_simp
    with_reducible rfl
  rotate_left
  · simp only [Act.put, List.setIfInBounds_toArray, List.set_cons_zero, List.set_cons_succ, i64_w, i32_w]
    rfl
  refine one_ (i := 3) (N := none) #[true, true, true, true] rfl rfl (by kernel_rfl) (by decide) (fun K hK => ?_)
  have hs16 : w15.cell? ⟨gb276, 0, none⟩ = some (.bool false) := (blk_cell BK276.out 0).trans rfl
  have hfs16 := blk_frozen BK276.out 0
  have hns16_1 := NB284_276.out
  have hms16_1 := NB276_284.out
  have hs17 : w15.cell? ⟨gb276, 1, none⟩ = some (.bool false) := (blk_cell BK276.out 1).trans rfl
  have hfs17 := blk_frozen BK276.out 1
  have hns17_1 := NB284_276.out
  have hms17_1 := NB276_284.out
  have hs18 : w15.cell? ⟨gb276, 2, none⟩ = some (.bool false) := (blk_cell BK276.out 2).trans rfl
  have hfs18 := blk_frozen BK276.out 2
  have hns18_1 := NB284_276.out
  have hms18_1 := NB276_284.out
  have hs19 : w15.cell? ⟨gb276, 3, none⟩ = some (.bool false) := (blk_cell BK276.out 3).trans rfl
  have hfs19 := blk_frozen BK276.out 3
  have hns19_1 := NB284_276.out
  have hms19_1 := NB276_284.out
  refine skip_ (w1 := ?_) (by rfl) rfl ?_ ?_
  rotate_left
  · go_simp
    rfl
  refine hK.out _ _ ⟨((cell_far (p := ⟨gb276, _, none⟩) NB284_276.out _).trans (((cell_far (p := ⟨gb276, _, none⟩) NB284_276.out _).trans (((cell_far (p := ⟨gb276, _, none⟩) NB284_276.out _).trans (((cell_far (p := ⟨gb276, _, none⟩) NB284_276.out _).trans (hHeld.1)))))))), ((cell_far (p := ⟨gb276, _, none⟩) NB284_276.out _).trans (((cell_far (p := ⟨gb276, _, none⟩) NB284_276.out _).trans (((cell_far (p := ⟨gb276, _, none⟩) NB284_276.out _).trans (((cell_far (p := ⟨gb276, _, none⟩) NB284_276.out _).trans (hHeld.2.1)))))))), ((cell_far (p := ⟨gb276, _, none⟩) NB284_276.out _).trans (((cell_far (p := ⟨gb276, _, none⟩) NB284_276.out _).trans (((cell_far (p := ⟨gb276, _, none⟩) NB284_276.out _).trans (((cell_far (p := ⟨gb276, _, none⟩) NB284_276.out _).trans (hHeld.2.2.1)))))))), ((cell_far (p := ⟨gb276, _, none⟩) NB284_276.out _).trans (((cell_far (p := ⟨gb276, _, none⟩) NB284_276.out _).trans (((cell_far (p := ⟨gb276, _, none⟩) NB284_276.out _).trans (((cell_far (p := ⟨gb276, _, none⟩) NB284_276.out _).trans (hHeld.2.2.2))))))))⟩ (fun hHeld => ?_)
  clear hK K
  refine done_ (by kernel_rfl) ?_
  try go_wp2
  refine bodyPost_ret (results_tc rfl _ _ gb276 29 #[.bool t280, .bool t281, .bool (!t285), .bool t283] (0, 0) _ rfl (by (with_reducible repeat (first | refine blk_drewN ?_ _ | refine blk_drew ?_ | refine blk_alloc ?_ _)); refine blk_put (cs := #[.bool t280, .bool t281, .bool (!t285), .bool false]) ?_ 3 _ rfl; (with_reducible repeat (first | refine blk_drewN ?_ _ | refine blk_drew ?_ | refine blk_alloc ?_ _)); refine blk_put (cs := #[.bool t280, .bool t281, .bool false, .bool false]) ?_ 2 _ rfl; (with_reducible repeat (first | refine blk_drewN ?_ _ | refine blk_drew ?_ | refine blk_alloc ?_ _)); refine blk_put (cs := #[.bool t280, .bool false, .bool false, .bool false]) ?_ 1 _ rfl; (with_reducible repeat (first | refine blk_drewN ?_ _ | refine blk_drew ?_ | refine blk_alloc ?_ _)); refine blk_put (cs := #[.bool false, .bool false, .bool false, .bool false]) ?_ 0 _ rfl; (with_reducible repeat (first | refine blk_drewN ?_ _ | refine blk_drew ?_ | refine blk_alloc ?_ _)); exact BK276.out) Try.underlying29 rfl (by kernel_rfl)) rfl ?_
  exact ⟨by first | rfl | (simp [errW_none, errW_some] <;> rfl) | (simp [*, errW_none, errW_some] <;> rfl), by repeat (first | (with_reducible first | exact HB.out | apply below_alloc | apply pw_below_drewN | apply below_drew1 | refine below_set ?_ GE276.out | refine below_set ?_ GE284.out) | exact HB.out)⟩

end Go.Proofs.Ytmmmifgddkfehaa.PAlu
