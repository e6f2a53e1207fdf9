-- Written by wip/oprint.py, a program of this session's repo, out of the translation. Not trusted: Lean checks it.
import Derived.Test.YtmmmifgddkfehaaPAlux0
import Derived.Test.YtmmmifgddkfehaaPAlux11
import Derived.Test.YtmmmifgddkfehaaPAlux12
import Derived.Test.YtmmmifgddkfehaaPAlux13
namespace Go.Proofs.Ytmmmifgddkfehaa.PAlu
open Go.RowKit Go.Proofs.YtmmmifgddkfehaaW.PrintWords Go.Proofs.YtmmmifgddkfehaaW.PrintLast
set_option linter.unusedVariables false
set_option linter.unusedSimpArgs false

/-! ### camshaftref01_Sub: function 24 -/
def camshaftref01_Sub.f (a0 : Int) (a1 : Int) (a2 : Bool) (a3 : Int) : Option (Int × Bool × Bool × Bool × Bool) := (camshaftref01_Rest.f a0 a3).bind fun t256 => ((camshaftref01_Rest.f a1 a3).bind fun t257 => ((camshaftref01_one.f a2).bind fun t258 => ((camshaftref01_Bits.f (wrap64 ((wrap64 (t256 - t257)) - t258)) a3).bind fun t259 => ((camshaftref01_Signs.f t259 a3).bind fun bt260 => ((camshaftref01_Signed.f a0 a3).bind fun t265 => ((camshaftref01_Signed.f a1 a3).bind fun t266 => ((camshaftref01_one.f a2).bind fun t267 => ((camshaftref01_Fits.f (wrap64 ((wrap64 (t265 - t266)) - t267)) a3).bind fun t268 => (some (t259, bt260.1, bt260.2.1, !t268, decide ((wrap64 ((wrap64 (t256 - t257)) - t258)) < 0)))))))))))
set_option maxHeartbeats 8000000 in
set_option maxRecDepth 100000 in
theorem camshaftref01_Sub.calls (a0 : Int) (a1 : Int) (a2 : Bool) (a3 : Int) (r1 : Int) (r2 : Bool) (r3 : Bool) (r4 : Bool) (r5 : Bool) (w : World) (h : camshaftref01_Sub.f a0 a1 a2 a3 = some (r1, r2, r3, r4, r5)) :
    Calls Try.prog 24 #[.int .u32 a0, .int .u32 a1, .bool a2, .int .i64 a3] w fun e w' => e = .returned (.tuple #[.int .u32 r1, .agg #[.bool r2, .bool r3, .bool r4, .bool r5]]) ∧ Below w.heap.size w w' := by
  have hu29 := Try.underlying29
  have HB := Aside0.mk (Below.refl w.heap.size w)
  have H : ((camshaftref01_Rest.f a0 a3).bind fun t256 => ((camshaftref01_Rest.f a1 a3).bind fun t257 => ((camshaftref01_one.f a2).bind fun t258 => ((camshaftref01_Bits.f (wrap64 ((wrap64 (t256 - t257)) - t258)) a3).bind fun t259 => ((camshaftref01_Signs.f t259 a3).bind fun bt260 => ((camshaftref01_Signed.f a0 a3).bind fun t265 => ((camshaftref01_Signed.f a1 a3).bind fun t266 => ((camshaftref01_one.f a2).bind fun t267 => ((camshaftref01_Fits.f (wrap64 ((wrap64 (t265 - t266)) - t267)) a3).bind fun t268 => (some (t259, bt260.1, bt260.2.1, !t268, decide ((wrap64 ((wrap64 (t256 - t257)) - t258)) < 0)))))))))))) = some (r1, r2, r3, r4, r5) := h
  clear h
  replace H := Option.bind_eq_some_iff.mp H
  obtain ⟨t256, A50, H⟩ := H
  replace H : ((camshaftref01_Rest.f a1 a3).bind fun t257 => ((camshaftref01_one.f a2).bind fun t258 => ((camshaftref01_Bits.f (wrap64 ((wrap64 (t256 - t257)) - t258)) a3).bind fun t259 => ((camshaftref01_Signs.f t259 a3).bind fun bt260 => ((camshaftref01_Signed.f a0 a3).bind fun t265 => ((camshaftref01_Signed.f a1 a3).bind fun t266 => ((camshaftref01_one.f a2).bind fun t267 => ((camshaftref01_Fits.f (wrap64 ((wrap64 (t265 - t266)) - t267)) a3).bind fun t268 => (some (t259, bt260.1, bt260.2.1, !t268, decide ((wrap64 ((wrap64 (t256 - t257)) - t258)) < 0))))))))))) = some (r1, r2, r3, r4, r5) := H
  have A5 := Aside0.mk A50
  clear A50
  replace H := Option.bind_eq_some_iff.mp H
  obtain ⟨t257, A60, H⟩ := H
  replace H : ((camshaftref01_one.f a2).bind fun t258 => ((camshaftref01_Bits.f (wrap64 ((wrap64 (t256 - t257)) - t258)) a3).bind fun t259 => ((camshaftref01_Signs.f t259 a3).bind fun bt260 => ((camshaftref01_Signed.f a0 a3).bind fun t265 => ((camshaftref01_Signed.f a1 a3).bind fun t266 => ((camshaftref01_one.f a2).bind fun t267 => ((camshaftref01_Fits.f (wrap64 ((wrap64 (t265 - t266)) - t267)) a3).bind fun t268 => (some (t259, bt260.1, bt260.2.1, !t268, decide ((wrap64 ((wrap64 (t256 - t257)) - t258)) < 0)))))))))) = some (r1, r2, r3, r4, r5) := H
  have A6 := Aside0.mk A60
  clear A60
  replace H := Option.bind_eq_some_iff.mp H
  obtain ⟨t258, A70, H⟩ := H
  replace H : ((camshaftref01_Bits.f (wrap64 ((wrap64 (t256 - t257)) - t258)) a3).bind fun t259 => ((camshaftref01_Signs.f t259 a3).bind fun bt260 => ((camshaftref01_Signed.f a0 a3).bind fun t265 => ((camshaftref01_Signed.f a1 a3).bind fun t266 => ((camshaftref01_one.f a2).bind fun t267 => ((camshaftref01_Fits.f (wrap64 ((wrap64 (t265 - t266)) - t267)) a3).bind fun t268 => (some (t259, bt260.1, bt260.2.1, !t268, decide ((wrap64 ((wrap64 (t256 - t257)) - t258)) < 0))))))))) = some (r1, r2, r3, r4, r5) := H
  have A7 := Aside0.mk A70
  clear A70
  replace H := Option.bind_eq_some_iff.mp H
  obtain ⟨t259, A80, H⟩ := H
  replace H : ((camshaftref01_Signs.f t259 a3).bind fun bt260 => ((camshaftref01_Signed.f a0 a3).bind fun t265 => ((camshaftref01_Signed.f a1 a3).bind fun t266 => ((camshaftref01_one.f a2).bind fun t267 => ((camshaftref01_Fits.f (wrap64 ((wrap64 (t265 - t266)) - t267)) a3).bind fun t268 => (some (t259, bt260.1, bt260.2.1, !t268, decide ((wrap64 ((wrap64 (t256 - t257)) - t258)) < 0)))))))) = some (r1, r2, r3, r4, r5) := H
  have A8 := Aside0.mk A80
  clear A80
  replace H := Option.bind_eq_some_iff.mp H
  obtain ⟨⟨t260, t261, t262, t263⟩, A90, H⟩ := H
  replace H : ((camshaftref01_Signed.f a0 a3).bind fun t265 => ((camshaftref01_Signed.f a1 a3).bind fun t266 => ((camshaftref01_one.f a2).bind fun t267 => ((camshaftref01_Fits.f (wrap64 ((wrap64 (t265 - t266)) - t267)) a3).bind fun t268 => (some (t259, t260, t261, !t268, decide ((wrap64 ((wrap64 (t256 - t257)) - t258)) < 0))))))) = some (r1, r2, r3, r4, r5) := H
  have A9 := Aside0.mk A90
  clear A90
  replace H := Option.bind_eq_some_iff.mp H
  obtain ⟨t265, A100, H⟩ := H
  replace H : ((camshaftref01_Signed.f a1 a3).bind fun t266 => ((camshaftref01_one.f a2).bind fun t267 => ((camshaftref01_Fits.f (wrap64 ((wrap64 (t265 - t266)) - t267)) a3).bind fun t268 => (some (t259, t260, t261, !t268, decide ((wrap64 ((wrap64 (t256 - t257)) - t258)) < 0)))))) = some (r1, r2, r3, r4, r5) := H
  have A10 := Aside0.mk A100
  clear A100
  replace H := Option.bind_eq_some_iff.mp H
  obtain ⟨t266, A110, H⟩ := H
  replace H : ((camshaftref01_one.f a2).bind fun t267 => ((camshaftref01_Fits.f (wrap64 ((wrap64 (t265 - t266)) - t267)) a3).bind fun t268 => (some (t259, t260, t261, !t268, decide ((wrap64 ((wrap64 (t256 - t257)) - t258)) < 0))))) = some (r1, r2, r3, r4, r5) := H
  have A11 := Aside0.mk A110
  clear A110
  replace H := Option.bind_eq_some_iff.mp H
  obtain ⟨t267, A120, H⟩ := H
  replace H : ((camshaftref01_Fits.f (wrap64 ((wrap64 (t265 - t266)) - t267)) a3).bind fun t268 => (some (t259, t260, t261, !t268, decide ((wrap64 ((wrap64 (t256 - t257)) - t258)) < 0)))) = some (r1, r2, r3, r4, r5) := H
  have A12 := Aside0.mk A120
  clear A120
  replace H := Option.bind_eq_some_iff.mp H
  obtain ⟨t268, A130, H⟩ := H
  replace H : (some (t259, t260, t261, !t268, decide ((wrap64 ((wrap64 (t256 - t257)) - t258)) < 0))) = some (r1, r2, r3, r4, r5) := H
  have A13 := Aside0.mk A130
  clear A130
  simp only [Option.some.injEq, Prod.mk.injEq] at H
  obtain ⟨rfl, rfl, rfl, rfl, rfl⟩ := H
  go_enter Try.func24, Try.ntmps24
  try go_wp2_with (first | ((with_reducible refine gate_dst (N := 9) rfl ?_); refine box_event ?hg (N := 9) ?hd (cs := #[.bool false, .bool false, .bool false, .bool false]) (t := 29) ?hr ?_; (case hd => rfl); (case hg => rfl); (case hr => first | (go_simp; done) | (go_simp; rfl)); intro gb255 hg w14 hbox hb; have n0_ := Aside0.mk (below_step (by repeat (first | (with_reducible first | exact HB.out | apply below_alloc | apply pw_below_drewN | apply below_drew1) | exact HB.out)) hb); have n1_ := Aside0.mk (hbox); have n2_ := Aside0.mk ((by rw [hg]; exact (below_size (by repeat (first | (with_reducible first | exact HB.out | apply below_alloc | apply pw_below_drewN | apply below_drew1) | exact HB.out))) : w.heap.size ≤ gb255)); have n3_ := Aside0.mk ((by rw [hg]; exact (below_size (by repeat (first | (with_reducible first | exact HB.out | apply below_alloc | apply pw_below_drewN | apply below_drew1) | exact HB.out))) : w.heap.size ≤ gb255)); clear HB; have HB := n0_; have BK255 := n1_; have GW255 := n2_; have GE255 := n3_; clear n0_ n1_ n2_ n3_; clear hb hbox hg) | ((with_reducible refine gate_callee (f := 45) rfl ?_); refine goesL_ (some 15) rfl rfl Try.func45 (by kernel_rfl) rfl #[.int .u32 a0, .int .i64 a3] rfl (by (try simp only [List.map_toArray, List.map_cons, List.map_nil]); first | done | rfl | (simp only [List.length_drop, List.length_take]; rfl)) ?_; (with_reducible refine (camshaftref01_Rest.calls a0 a3 t256 _ A5.out).mono ?_); rintro e w' ⟨rfl, ⟨nd, rfl⟩⟩; refine ⟨_, rfl, ?_⟩; (try (rw [drewN_self w14]; generalize hq_ : World.drewN w14 _ = w14; have n0_ : Aside0 (w14.heap[gb255]? = some (.cells #[.bool false, .bool false, .bool false, .bool false] 29 (0, 0))) := ⟨by rw [← hq_]; exact (by (with_reducible repeat (first | refine blk_drewN ?_ _ | refine blk_drew ?_ | refine blk_alloc ?_ _)); exact BK255.out)⟩; have n1_ : Aside0 (Below w.heap.size w w14) := ⟨by rw [← hq_]; exact (by repeat (first | (with_reducible first | exact HB.out | apply below_alloc | apply pw_below_drewN | apply below_drew1 | refine below_set ?_ GE255.out) | exact HB.out))⟩; clear BK255 HB hq_; have BK255 := n0_; have HB := n1_; clear n0_ n1_))) | ((with_reducible refine gate_callee (f := 45) rfl ?_); refine goesL_ (some 18) rfl rfl Try.func45 (by kernel_rfl) rfl #[.int .u32 a1, .int .i64 a3] rfl (by (try simp only [List.map_toArray, List.map_cons, List.map_nil]); first | done | rfl | (simp only [List.length_drop, List.length_take]; rfl)) ?_; (with_reducible refine (camshaftref01_Rest.calls a1 a3 t257 _ A6.out).mono ?_); rintro e w' ⟨rfl, ⟨nd, rfl⟩⟩; refine ⟨_, rfl, ?_⟩; (try (rw [drewN_self w14]; generalize hq_ : World.drewN w14 _ = w14; have n0_ : Aside0 (w14.heap[gb255]? = some (.cells #[.bool false, .bool false, .bool false, .bool false] 29 (0, 0))) := ⟨by rw [← hq_]; exact (by (with_reducible repeat (first | refine blk_drewN ?_ _ | refine blk_drew ?_ | refine blk_alloc ?_ _)); exact BK255.out)⟩; have n1_ : Aside0 (Below w.heap.size w w14) := ⟨by rw [← hq_]; exact (by repeat (first | (with_reducible first | exact HB.out | apply below_alloc | apply pw_below_drewN | apply below_drew1 | refine below_set ?_ GE255.out) | exact HB.out))⟩; clear BK255 HB hq_; have BK255 := n0_; have HB := n1_; clear n0_ n1_))) | ((with_reducible refine gate_callee (f := 48) rfl ?_); refine goesL_ (some 21) rfl rfl Try.func48 (by kernel_rfl) rfl #[.bool a2] rfl (by (try simp only [List.map_toArray, List.map_cons, List.map_nil]); first | done | rfl | (simp only [List.length_drop, List.length_take]; rfl)) ?_; (with_reducible refine (camshaftref01_one.calls a2 t258 _ A7.out).mono ?_); rintro e w' ⟨rfl, ⟨nd, rfl⟩⟩; refine ⟨_, rfl, ?_⟩; (try (rw [drewN_self w14]; generalize hq_ : World.drewN w14 _ = w14; have n0_ : Aside0 (w14.heap[gb255]? = some (.cells #[.bool false, .bool false, .bool false, .bool false] 29 (0, 0))) := ⟨by rw [← hq_]; exact (by (with_reducible repeat (first | refine blk_drewN ?_ _ | refine blk_drew ?_ | refine blk_alloc ?_ _)); exact BK255.out)⟩; have n1_ : Aside0 (Below w.heap.size w w14) := ⟨by rw [← hq_]; exact (by repeat (first | (with_reducible first | exact HB.out | apply below_alloc | apply pw_below_drewN | apply below_drew1 | refine below_set ?_ GE255.out) | exact HB.out))⟩; clear BK255 HB hq_; have BK255 := n0_; have HB := n1_; clear n0_ n1_))) | ((with_reducible refine gate_callee (f := 30) rfl ?_); refine goesL_ (some 25) rfl rfl Try.func30 (by kernel_rfl) rfl #[.int .i64 (wrap64 ((wrap64 (t256 - t257)) - t258)), .int .i64 a3] rfl (by (try simp only [List.map_toArray, List.map_cons, List.map_nil]); first | done | rfl | (simp only [List.length_drop, List.length_take]; rfl)) ?_; (with_reducible refine (camshaftref01_Bits.calls (wrap64 ((wrap64 (t256 - t257)) - t258)) a3 t259 _ A8.out).mono ?_); rintro e w' ⟨rfl, ⟨nd, rfl⟩⟩; refine ⟨_, rfl, ?_⟩; (try (rw [drewN_self w14]; generalize hq_ : World.drewN w14 _ = w14; have n0_ : Aside0 (w14.heap[gb255]? = some (.cells #[.bool false, .bool false, .bool false, .bool false] 29 (0, 0))) := ⟨by rw [← hq_]; exact (by (with_reducible repeat (first | refine blk_drewN ?_ _ | refine blk_drew ?_ | refine blk_alloc ?_ _)); exact BK255.out)⟩; have n1_ : Aside0 (Below w.heap.size w w14) := ⟨by rw [← hq_]; exact (by repeat (first | (with_reducible first | exact HB.out | apply below_alloc | apply pw_below_drewN | apply below_drew1 | refine below_set ?_ GE255.out) | exact HB.out))⟩; clear BK255 HB hq_; have BK255 := n0_; have HB := n1_; clear n0_ n1_))) | ((with_reducible refine gate_callee (f := 31) rfl ?_); refine goesL_ (some 28) rfl rfl Try.func31 (by kernel_rfl) rfl #[.int .u32 t259, .int .i64 a3] rfl (by (try simp only [List.map_toArray, List.map_cons, List.map_nil]); first | done | rfl | (simp only [List.length_drop, List.length_take]; rfl)) ?_; (with_reducible refine (camshaftref01_Signs.calls t259 a3 t260 t261 t262 t263 _ A9.out).mono ?_); rintro e w15 ⟨rfl, hb⟩; refine ⟨_, rfl, ?_⟩; have n0_ := Aside0.mk (blk_below (g := gb255) (o := .cells #[.bool false, .bool false, .bool false, .bool false] 29 (0, 0)) (by (with_reducible repeat (first | refine blk_drewN ?_ _ | refine blk_drew ?_ | refine blk_alloc ?_ _)); exact BK255.out) hb); have n1_ := Aside0.mk (below_step (by repeat (first | (with_reducible first | exact HB.out | apply below_alloc | apply pw_below_drewN | apply below_drew1 | refine below_set ?_ GE255.out) | exact HB.out)) hb); clear BK255; clear HB; have BK255 := n0_; have HB := n1_; clear n0_ n1_; (try clear hb); (try clear hb2); (try clear hk); (try clear hi)) | ((with_reducible refine gate_dst (N := 12) rfl ?_); refine box_event ?hg (N := 12) ?hd (cs := #[.bool false, .bool false, .bool false, .bool false]) (t := 29) ?hr ?_; (case hd => rfl); (case hg => rfl); (case hr => first | (go_simp; done) | (go_simp; rfl)); intro gb264 hg w16 hbox hb; have n0_ := Aside0.mk (blk_below (g := gb255) (o := .cells #[.bool false, .bool false, .bool false, .bool false] 29 (0, 0)) (by (with_reducible repeat (first | refine blk_drewN ?_ _ | refine blk_drew ?_ | refine blk_alloc ?_ _)); exact BK255.out) hb); have n1_ := Aside0.mk (below_step (by repeat (first | (with_reducible first | exact HB.out | apply below_alloc | apply pw_below_drewN | apply below_drew1 | refine below_set ?_ GE255.out) | exact HB.out)) hb); have n2_ := Aside0.mk (hbox); have n3_ := Aside0.mk ((by rw [hg]; exact (below_size (by repeat (first | (with_reducible first | exact HB.out | apply below_alloc | apply pw_below_drewN | apply below_drew1 | refine below_set ?_ GE255.out) | exact HB.out))) : w.heap.size ≤ gb264)); have n4_ := Aside0.mk ((by rw [hg]; exact (below_size (by repeat (first | (with_reducible first | exact HB.out | apply below_alloc | apply pw_below_drewN | apply below_drew1 | refine below_set ?_ GE255.out) | exact HB.out))) : w.heap.size ≤ gb264)); have n5_ := Aside0.mk ((by rw [hg]; exact Nat.ne_of_lt (blk_lt (g := gb255) (o := .cells #[.bool false, .bool false, .bool false, .bool false] 29 (0, 0)) (by (with_reducible repeat (first | refine blk_drewN ?_ _ | refine blk_drew ?_ | refine blk_alloc ?_ _)); exact BK255.out)) : gb255 ≠ gb264)); have n6_ := Aside0.mk ((by rw [hg]; exact Nat.ne_of_gt (blk_lt (g := gb255) (o := .cells #[.bool false, .bool false, .bool false, .bool false] 29 (0, 0)) (by (with_reducible repeat (first | refine blk_drewN ?_ _ | refine blk_drew ?_ | refine blk_alloc ?_ _)); exact BK255.out)) : gb264 ≠ gb255)); clear BK255; clear HB; have BK255 := n0_; have HB := n1_; have BK264 := n2_; have GW264 := n3_; have GE264 := n4_; have NB255_264 := n5_; have NB264_255 := n6_; clear n0_ n1_ n2_ n3_ n4_ n5_ n6_; clear hb hbox hg; have hnb17 := NB264_255.out; have hnc17 := NB255_264.out; have hcz18_0 : w16.cell? ⟨gb264, 0, none⟩ = some (.bool false) := (blk_cell BK264.out 0).trans rfl; have hcz18_1 : w16.cell? ⟨gb264, 1, none⟩ = some (.bool false) := (blk_cell BK264.out 1).trans rfl; have hcz18_2 : w16.cell? ⟨gb264, 2, none⟩ = some (.bool false) := (blk_cell BK264.out 2).trans rfl; have hcz18_3 : w16.cell? ⟨gb264, 3, none⟩ = some (.bool false) := (blk_cell BK264.out 3).trans rfl; have hfz18_0 := blk_frozen BK264.out 0; have hfz18_1 := blk_frozen BK264.out 1; have hfz18_2 := blk_frozen BK264.out 2; have hfz18_3 := blk_frozen BK264.out 3) | ((with_reducible refine gate_callee (f := 26) rfl ?_); refine goesL_ (some 34) rfl rfl Try.func26 (by kernel_rfl) rfl #[.int .u32 a0, .int .i64 a3] rfl (by (try simp only [List.map_toArray, List.map_cons, List.map_nil]); first | done | rfl | (simp only [List.length_drop, List.length_take]; rfl)) ?_; (with_reducible refine (camshaftref01_Signed.calls a0 a3 t265 _ A10.out).mono ?_); rintro e w' ⟨rfl, ⟨nd, rfl⟩⟩; refine ⟨_, rfl, ?_⟩) | ((with_reducible refine gate_callee (f := 26) rfl ?_); refine goesL_ (some 37) rfl rfl Try.func26 (by kernel_rfl) rfl #[.int .u32 a1, .int .i64 a3] rfl (by (try simp only [List.map_toArray, List.map_cons, List.map_nil]); first | done | rfl | (simp only [List.length_drop, List.length_take]; rfl)) ?_; (with_reducible refine (camshaftref01_Signed.calls a1 a3 t266 _ A11.out).mono ?_); rintro e w' ⟨rfl, ⟨nd, rfl⟩⟩; refine ⟨_, rfl, ?_⟩) | ((with_reducible refine gate_callee (f := 48) rfl ?_); refine goesL_ (some 40) rfl rfl Try.func48 (by kernel_rfl) rfl #[.bool a2] rfl (by (try simp only [List.map_toArray, List.map_cons, List.map_nil]); first | done | rfl | (simp only [List.length_drop, List.length_take]; rfl)) ?_; (with_reducible refine (camshaftref01_one.calls a2 t267 _ A12.out).mono ?_); rintro e w' ⟨rfl, ⟨nd, rfl⟩⟩; refine ⟨_, rfl, ?_⟩) | ((with_reducible refine gate_callee (f := 49) rfl ?_); refine goesL_ (some 43) rfl rfl Try.func49 (by kernel_rfl) rfl #[.int .i64 (wrap64 ((wrap64 (t265 - t266)) - t267)), .int .i64 a3] rfl (by (try simp only [List.map_toArray, List.map_cons, List.map_nil]); first | done | rfl | (simp only [List.length_drop, List.length_take]; rfl)) ?_; (with_reducible refine (camshaftref01_Fits.calls (wrap64 ((wrap64 (t265 - t266)) - t267)) a3 t268 _ A13.out).mono ?_); rintro e w' ⟨rfl, ⟨nd, rfl⟩⟩; refine ⟨_, rfl, ?_⟩))
  have n0_ : Aside0 (((((((w16.setCell ⟨gb264, 0, none⟩ (.bool t260)).setCell ⟨gb264, 1, none⟩ (.bool t261)).setCell ⟨gb264, 2, none⟩ (.bool t262)).setCell ⟨gb264, 3, none⟩ (.bool t263)).setCell ⟨gb264, 3, none⟩ (.bool (decide ((wrap64 ((wrap64 (t256 - t257)) - t258)) < 0)))).setCell ⟨gb264, 2, none⟩ (.bool (!t268))).heap[gb255]? = some (.cells #[.bool false, .bool false, .bool false, .bool false] 29 (0, 0))) := ⟨by (with_reducible repeat (first | refine blk_drewN ?_ _ | refine blk_drew ?_ | refine blk_alloc ?_ _)); refine blk_far ?_ NB255_264.out _; (with_reducible repeat (first | refine blk_drewN ?_ _ | refine blk_drew ?_ | refine blk_alloc ?_ _)); refine blk_far ?_ NB255_264.out _; (with_reducible repeat (first | refine blk_drewN ?_ _ | refine blk_drew ?_ | refine blk_alloc ?_ _)); refine blk_far ?_ NB255_264.out _; (with_reducible repeat (first | refine blk_drewN ?_ _ | refine blk_drew ?_ | refine blk_alloc ?_ _)); refine blk_far ?_ NB255_264.out _; (with_reducible repeat (first | refine blk_drewN ?_ _ | refine blk_drew ?_ | refine blk_alloc ?_ _)); refine blk_far ?_ NB255_264.out _; (with_reducible repeat (first | refine blk_drewN ?_ _ | refine blk_drew ?_ | refine blk_alloc ?_ _)); refine blk_far ?_ NB255_264.out _; (with_reducible repeat (first | refine blk_drewN ?_ _ | refine blk_drew ?_ | refine blk_alloc ?_ _)); exact BK255.out⟩
  have n1_ : Aside0 (((((((w16.setCell ⟨gb264, 0, none⟩ (.bool t260)).setCell ⟨gb264, 1, none⟩ (.bool t261)).setCell ⟨gb264, 2, none⟩ (.bool t262)).setCell ⟨gb264, 3, none⟩ (.bool t263)).setCell ⟨gb264, 3, none⟩ (.bool (decide ((wrap64 ((wrap64 (t256 - t257)) - t258)) < 0)))).setCell ⟨gb264, 2, none⟩ (.bool (!t268))).heap[gb264]? = some (.cells #[.bool t260, .bool t261, .bool (!t268), .bool (decide ((wrap64 ((wrap64 (t256 - t257)) - t258)) < 0))] 29 (0, 0))) := ⟨by (with_reducible repeat (first | refine blk_drewN ?_ _ | refine blk_drew ?_ | refine blk_alloc ?_ _)); refine blk_put (cs := #[.bool t260, .bool t261, .bool t262, .bool (decide ((wrap64 ((wrap64 (t256 - t257)) - t258)) < 0))]) ?_ 2 _ rfl; (with_reducible repeat (first | refine blk_drewN ?_ _ | refine blk_drew ?_ | refine blk_alloc ?_ _)); refine blk_put (cs := #[.bool t260, .bool t261, .bool t262, .bool t263]) ?_ 3 _ rfl; (with_reducible repeat (first | refine blk_drewN ?_ _ | refine blk_drew ?_ | refine blk_alloc ?_ _)); refine blk_put (cs := #[.bool t260, .bool t261, .bool t262, .bool false]) ?_ 3 _ rfl; (with_reducible repeat (first | refine blk_drewN ?_ _ | refine blk_drew ?_ | refine blk_alloc ?_ _)); refine blk_put (cs := #[.bool t260, .bool t261, .bool false, .bool false]) ?_ 2 _ rfl; (with_reducible repeat (first | refine blk_drewN ?_ _ | refine blk_drew ?_ | refine blk_alloc ?_ _)); refine blk_put (cs := #[.bool t260, .bool false, .bool false, .bool false]) ?_ 1 _ rfl; (with_reducible repeat (first | refine blk_drewN ?_ _ | refine blk_drew ?_ | refine blk_alloc ?_ _)); refine blk_put (cs := #[.bool false, .bool false, .bool false, .bool false]) ?_ 0 _ rfl; (with_reducible repeat (first | refine blk_drewN ?_ _ | refine blk_drew ?_ | refine blk_alloc ?_ _)); exact BK264.out⟩
  have n2_ : Aside0 (Below w.heap.size w ((((((w16.setCell ⟨gb264, 0, none⟩ (.bool t260)).setCell ⟨gb264, 1, none⟩ (.bool t261)).setCell ⟨gb264, 2, none⟩ (.bool t262)).setCell ⟨gb264, 3, none⟩ (.bool t263)).setCell ⟨gb264, 3, none⟩ (.bool (decide ((wrap64 ((wrap64 (t256 - t257)) - t258)) < 0)))).setCell ⟨gb264, 2, none⟩ (.bool (!t268)))) := ⟨by repeat (first | (with_reducible first | exact HB.out | apply below_alloc | apply pw_below_drewN | apply below_drew1 | refine below_set ?_ GE255.out | refine below_set ?_ GE264.out) | exact HB.out)⟩
  (try clear BK255)
  (try clear BK264)
  (try clear HB)
  (repeat rw [own_setCell_drewN]); (repeat rw [World.drewN_drewN])
  generalize ((((((w16.setCell ⟨gb264, 0, none⟩ (.bool t260)).setCell ⟨gb264, 1, none⟩ (.bool t261)).setCell ⟨gb264, 2, none⟩ (.bool t262)).setCell ⟨gb264, 3, none⟩ (.bool t263)).setCell ⟨gb264, 3, none⟩ (.bool (decide ((wrap64 ((wrap64 (t256 - t257)) - t258)) < 0)))).setCell ⟨gb264, 2, none⟩ (.bool (!t268))) = w19 at n0_ n1_ n2_ ⊢
  have BK255 := n0_
  have BK264 := n1_
  have HB := n2_
  clear n0_ n1_ n2_
  (try (rw [drewN_self w19]; generalize hq_ : World.drewN w19 _ = w19; have n0_ : Aside0 (w19.heap[gb255]? = some (.cells #[.bool false, .bool false, .bool false, .bool false] 29 (0, 0))) := ⟨by rw [← hq_]; exact (by (with_reducible repeat (first | refine blk_drewN ?_ _ | refine blk_drew ?_ | refine blk_alloc ?_ _)); exact BK255.out)⟩; have n1_ : Aside0 (w19.heap[gb264]? = some (.cells #[.bool t260, .bool t261, .bool (!t268), .bool (decide ((wrap64 ((wrap64 (t256 - t257)) - t258)) < 0))] 29 (0, 0))) := ⟨by rw [← hq_]; exact (by (with_reducible repeat (first | refine blk_drewN ?_ _ | refine blk_drew ?_ | refine blk_alloc ?_ _)); exact BK264.out)⟩; have n2_ : Aside0 (Below w.heap.size w w19) := ⟨by rw [← hq_]; exact (by repeat (first | (with_reducible first | exact HB.out | apply below_alloc | apply pw_below_drewN | apply below_drew1 | refine below_set ?_ GE255.out | refine below_set ?_ GE264.out) | exact HB.out))⟩; clear BK255 BK264 HB hq_; have BK255 := n0_; have BK264 := n1_; have HB := n2_; clear n0_ n1_ n2_))
  have n0_ := Aside0.mk (blk_drew BK255.out)
  have n1_ := Aside0.mk (blk_drew BK264.out)
  have n2_ := Aside0.mk (below_drew1 HB.out)
  clear BK255
  clear BK264
  clear HB
  have BK255 := n0_
  have BK264 := n1_
  have HB := n2_
  clear n0_ n1_ n2_
  refine start_ (n := 4) (S := fun w' => w'.cell? ⟨gb264, 0, none⟩ = some (.bool t260) ∧ w'.cell? ⟨gb264, 1, none⟩ = some (.bool t261) ∧ w'.cell? ⟨gb264, 2, none⟩ = some (.bool (!t268)) ∧ w'.cell? ⟨gb264, 3, none⟩ = some (.bool (decide ((wrap64 ((wrap64 (t256 - t257)) - t258)) < 0)))) (ds := []) #[false, false, false, false] (by kernel_rfl) rfl rfl ⟨(blk_cell BK264.out 0).trans rfl, (blk_cell BK264.out 1).trans rfl, (blk_cell BK264.out 2).trans rfl, (blk_cell BK264.out 3).trans rfl⟩ (fun hHeld => ?_)
  generalize w19.drew = w20 at BK255 BK264 HB hHeld ⊢
  refine pure_ (i := 0) (N := some 46) (v := ?_) (a' := ?_) #[true, false, false, false] rfl rfl (by kernel_rfl) (fun _ _ _ h => h) (Or.inl ⟨by rfl, ?_⟩) ?_ ?_
  rotate_left
  · intro w'
    go_simp
    with_reducible rfl
  rotate_left
  · simp only [Act.put, List.setIfInBounds_toArray, List.set_cons_zero, List.set_cons_succ, i64_w, i32_w]
    rfl
  refine pure_ (i := 2) (N := some 8) (v := ?_) (a' := ?_) #[true, false, true, false] rfl rfl (by kernel_rfl) (fun _ _ _ h => h) (Or.inl ⟨by rfl, ?_⟩) ?_ ?_
  rotate_left
  · intro w'
    go_simp
    with_reducible rfl
  rotate_left
  · simp only [Act.put, List.setIfInBounds_toArray, List.set_cons_zero, List.set_cons_succ, i64_w, i32_w]
    rfl
  refine take_ (i := 1) (N := some 47) (v := ?_) (a' := ?_) #[true, true, true, false] rfl rfl (by kernel_rfl) (fun _ _ _ h => h) (Or.inl ⟨by rfl, ?_⟩) hHeld ?_ ?_
  rotate_left
  · rintro w' ⟨s0, s1, s2, s3⟩
    go_simp
    with_reducible rfl
  rotate_left
  · simp only [Act.put, List.setIfInBounds_toArray, List.set_cons_zero, List.set_cons_succ, i64_w, i32_w]
    rfl
  refine one_ (i := 3) (N := none) #[true, true, true, true] rfl rfl (by kernel_rfl) (by decide) (fun K hK => ?_)
  have hs21 : w20.cell? ⟨gb255, 0, none⟩ = some (.bool false) := (blk_cell BK255.out 0).trans rfl
  have hfs21 := blk_frozen BK255.out 0
  have hns21_1 := NB264_255.out
  have hms21_1 := NB255_264.out
  have hs22 : w20.cell? ⟨gb255, 1, none⟩ = some (.bool false) := (blk_cell BK255.out 1).trans rfl
  have hfs22 := blk_frozen BK255.out 1
  have hns22_1 := NB264_255.out
  have hms22_1 := NB255_264.out
  have hs23 : w20.cell? ⟨gb255, 2, none⟩ = some (.bool false) := (blk_cell BK255.out 2).trans rfl
  have hfs23 := blk_frozen BK255.out 2
  have hns23_1 := NB264_255.out
  have hms23_1 := NB255_264.out
  have hs24 : w20.cell? ⟨gb255, 3, none⟩ = some (.bool false) := (blk_cell BK255.out 3).trans rfl
  have hfs24 := blk_frozen BK255.out 3
  have hns24_1 := NB264_255.out
  have hms24_1 := NB255_264.out
  refine skip_ (w1 := ?_) (by rfl) rfl ?_ ?_
  rotate_left
  · go_simp
    rfl
  refine hK.out _ _ ⟨((cell_far (p := ⟨gb255, _, none⟩) NB264_255.out _).trans (((cell_far (p := ⟨gb255, _, none⟩) NB264_255.out _).trans (((cell_far (p := ⟨gb255, _, none⟩) NB264_255.out _).trans (((cell_far (p := ⟨gb255, _, none⟩) NB264_255.out _).trans (hHeld.1)))))))), ((cell_far (p := ⟨gb255, _, none⟩) NB264_255.out _).trans (((cell_far (p := ⟨gb255, _, none⟩) NB264_255.out _).trans (((cell_far (p := ⟨gb255, _, none⟩) NB264_255.out _).trans (((cell_far (p := ⟨gb255, _, none⟩) NB264_255.out _).trans (hHeld.2.1)))))))), ((cell_far (p := ⟨gb255, _, none⟩) NB264_255.out _).trans (((cell_far (p := ⟨gb255, _, none⟩) NB264_255.out _).trans (((cell_far (p := ⟨gb255, _, none⟩) NB264_255.out _).trans (((cell_far (p := ⟨gb255, _, none⟩) NB264_255.out _).trans (hHeld.2.2.1)))))))), ((cell_far (p := ⟨gb255, _, none⟩) NB264_255.out _).trans (((cell_far (p := ⟨gb255, _, none⟩) NB264_255.out _).trans (((cell_far (p := ⟨gb255, _, none⟩) NB264_255.out _).trans (((cell_far (p := ⟨gb255, _, none⟩) NB264_255.out _).trans (hHeld.2.2.2))))))))⟩ (fun hHeld => ?_)
  clear hK K
  refine done_ (by kernel_rfl) ?_
  try go_wp2
  refine bodyPost_ret (results_tc rfl _ _ gb255 29 #[.bool t260, .bool t261, .bool (!t268), .bool (decide ((wrap64 ((wrap64 (t256 - t257)) - t258)) < 0))] (0, 0) _ rfl (by (with_reducible repeat (first | refine blk_drewN ?_ _ | refine blk_drew ?_ | refine blk_alloc ?_ _)); refine blk_put (cs := #[.bool t260, .bool t261, .bool (!t268), .bool false]) ?_ 3 _ rfl; (with_reducible repeat (first | refine blk_drewN ?_ _ | refine blk_drew ?_ | refine blk_alloc ?_ _)); refine blk_put (cs := #[.bool t260, .bool t261, .bool false, .bool false]) ?_ 2 _ rfl; (with_reducible repeat (first | refine blk_drewN ?_ _ | refine blk_drew ?_ | refine blk_alloc ?_ _)); refine blk_put (cs := #[.bool t260, .bool false, .bool false, .bool false]) ?_ 1 _ rfl; (with_reducible repeat (first | refine blk_drewN ?_ _ | refine blk_drew ?_ | refine blk_alloc ?_ _)); refine blk_put (cs := #[.bool false, .bool false, .bool false, .bool false]) ?_ 0 _ rfl; (with_reducible repeat (first | refine blk_drewN ?_ _ | refine blk_drew ?_ | refine blk_alloc ?_ _)); exact BK255.out) Try.underlying29 rfl (by kernel_rfl)) rfl ?_
  exact ⟨by first | rfl | (simp [errW_none, errW_some] <;> rfl) | (simp [*, errW_none, errW_some] <;> rfl), by repeat (first | (with_reducible first | exact HB.out | apply below_alloc | apply pw_below_drewN | apply below_drew1 | refine below_set ?_ GE255.out | refine below_set ?_ GE264.out) | exact HB.out)⟩

end Go.Proofs.Ytmmmifgddkfehaa.PAlu
