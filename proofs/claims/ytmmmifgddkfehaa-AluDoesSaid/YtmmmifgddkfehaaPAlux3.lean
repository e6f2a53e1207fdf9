-- Written by wip/oprint.py, a program of this session's repo, out of the translation. Not trusted: Lean checks it.
import Derived.Test.YtmmmifgddkfehaaPAlux0
import Derived.Test.YtmmmifgddkfehaaPAlux2
namespace Go.Proofs.Ytmmmifgddkfehaa.PAlu
open Go.RowKit Go.Proofs.YtmmmifgddkfehaaW.PrintWords Go.Proofs.YtmmmifgddkfehaaW.PrintLast
set_option linter.unusedVariables false
set_option linter.unusedSimpArgs false

/-! ### bits_Signs: function 27 -/
def bits_Signs.f (a0 : Int) (a1 : Int) : Option (Bool × Bool × Bool × Bool) := (bits_Neg.f a0 a1).bind fun t105 => ((bits_Mask.f a1).bind fun t106 => (some (t105, ((Go.bits .and .u32 a0 t106) == 0), false, false)))
set_option maxHeartbeats 8000000 in
set_option maxRecDepth 100000 in
theorem bits_Signs.calls (a0 : Int) (a1 : Int) (r1 : Bool) (r2 : Bool) (r3 : Bool) (r4 : Bool) (w : World) (h : bits_Signs.f a0 a1 = some (r1, r2, r3, r4)) :
    Calls Try.prog 27 #[.int .u32 a0, .int .i64 a1] w fun e w' => e = .returned (.agg #[.bool r1, .bool r2, .bool r3, .bool r4]) ∧ Below w.heap.size w w' := by
  have hu29 := Try.underlying29
  have HB := Aside0.mk (Below.refl w.heap.size w)
  have H : ((bits_Neg.f a0 a1).bind fun t105 => ((bits_Mask.f a1).bind fun t106 => (some (t105, ((Go.bits .and .u32 a0 t106) == 0), false, false)))) = some (r1, r2, r3, r4) := h
  clear h
  replace H := Option.bind_eq_some_iff.mp H
  obtain ⟨t105, A30, H⟩ := H
  replace H : ((bits_Mask.f a1).bind fun t106 => (some (t105, ((Go.bits .and .u32 a0 t106) == 0), false, false))) = some (r1, r2, r3, r4) := H
  have A3 := Aside0.mk A30
  clear A30
  replace H := Option.bind_eq_some_iff.mp H
  obtain ⟨t106, A40, H⟩ := H
  replace H : (some (t105, ((Go.bits .and .u32 a0 t106) == 0), false, false)) = some (r1, r2, r3, r4) := H
  have A4 := Aside0.mk A40
  clear A40
  simp only [Option.some.injEq, Prod.mk.injEq] at H
  obtain ⟨rfl, rfl, rfl, rfl⟩ := H
  go_enter Try.func27, Try.ntmps27
  go_wp2_with (first | ((with_reducible refine gate_dst (N := 4) rfl ?_); refine box_event ?hg (N := 4) ?hd (cs := #[.bool false, .bool false, .bool false, .bool false]) (t := 29) ?hr ?_; (case hd => rfl); (case hg => rfl); (case hr => first | (go_simp; done) | (go_simp; rfl)); intro gb104 hg w5 hbox hb; have n0_ := Aside0.mk (below_step (by repeat (first | (with_reducible first | exact HB.out | apply below_alloc | apply pw_below_drewN | apply below_drew1) | exact HB.out)) hb); have n1_ := Aside0.mk (hbox); have n2_ := Aside0.mk ((by rw [hg]; exact (below_size (by repeat (first | (with_reducible first | exact HB.out | apply below_alloc | apply pw_below_drewN | apply below_drew1) | exact HB.out))) : w.heap.size ≤ gb104)); have n3_ := Aside0.mk ((by rw [hg]; exact (below_size (by repeat (first | (with_reducible first | exact HB.out | apply below_alloc | apply pw_below_drewN | apply below_drew1) | exact HB.out))) : w.heap.size ≤ gb104)); clear HB; have HB := n0_; have BK104 := n1_; have GW104 := n2_; have GE104 := n3_; clear n0_ n1_ n2_ n3_; clear hb hbox hg) | ((with_reducible refine gate_callee (f := 28) rfl ?_); refine goesL_ (some 7) rfl rfl Try.func28 (by kernel_rfl) rfl #[.int .u32 a0, .int .i64 a1] rfl (by (try simp only [List.map_toArray, List.map_cons, List.map_nil]); first | done | rfl | (simp only [List.length_drop, List.length_take]; rfl)) ?_; (with_reducible refine (bits_Neg.calls a0 a1 t105 _ A3.out).mono ?_); rintro e w' ⟨rfl, ⟨nd, rfl⟩⟩; refine ⟨_, rfl, ?_⟩; (try (rw [drewN_self w5]; generalize hq_ : World.drewN w5 _ = w5; have n0_ : Aside0 (w5.heap[gb104]? = some (.cells #[.bool false, .bool false, .bool false, .bool false] 29 (0, 0))) := ⟨by rw [← hq_]; exact (by (with_reducible repeat (first | refine blk_drewN ?_ _ | refine blk_drew ?_ | refine blk_alloc ?_ _)); exact BK104.out)⟩; have n1_ : Aside0 (Below w.heap.size w w5) := ⟨by rw [← hq_]; exact (by repeat (first | (with_reducible first | exact HB.out | apply below_alloc | apply pw_below_drewN | apply below_drew1 | refine below_set ?_ GE104.out) | exact HB.out))⟩; clear BK104 HB hq_; have BK104 := n0_; have HB := n1_; clear n0_ n1_))) | ((with_reducible refine gate_callee (f := 19) rfl ?_); refine goesL_ (some 10) rfl rfl Try.func19 (by kernel_rfl) rfl #[.int .i64 a1] rfl (by (try simp only [List.map_toArray, List.map_cons, List.map_nil]); first | done | rfl | (simp only [List.length_drop, List.length_take]; rfl)) ?_; (with_reducible refine (bits_Mask.calls a1 t106 _ A4.out).mono ?_); rintro e w' ⟨rfl, ⟨nd, rfl⟩⟩; refine ⟨_, rfl, ?_⟩; (try (rw [drewN_self w5]; generalize hq_ : World.drewN w5 _ = w5; have n0_ : Aside0 (w5.heap[gb104]? = some (.cells #[.bool false, .bool false, .bool false, .bool false] 29 (0, 0))) := ⟨by rw [← hq_]; exact (by (with_reducible repeat (first | refine blk_drewN ?_ _ | refine blk_drew ?_ | refine blk_alloc ?_ _)); exact BK104.out)⟩; have n1_ : Aside0 (Below w.heap.size w w5) := ⟨by rw [← hq_]; exact (by repeat (first | (with_reducible first | exact HB.out | apply below_alloc | apply pw_below_drewN | apply below_drew1 | refine below_set ?_ GE104.out) | exact HB.out))⟩; clear BK104 HB hq_; have BK104 := n0_; have HB := n1_; clear n0_ n1_)); have hcz6_0 : w5.cell? ⟨gb104, 0, none⟩ = some (.bool false) := (blk_cell BK104.out 0).trans rfl; have hcz6_1 : w5.cell? ⟨gb104, 1, none⟩ = some (.bool false) := (blk_cell BK104.out 1).trans rfl; have hcz6_2 : w5.cell? ⟨gb104, 2, none⟩ = some (.bool false) := (blk_cell BK104.out 2).trans rfl; have hcz6_3 : w5.cell? ⟨gb104, 3, none⟩ = some (.bool false) := (blk_cell BK104.out 3).trans rfl; have hfz6_0 := blk_frozen BK104.out 0; have hfz6_1 := blk_frozen BK104.out 1; have hfz6_2 := blk_frozen BK104.out 2; have hfz6_3 := blk_frozen BK104.out 3))
  refine bodyPost_ret (results_cell_row rfl _ _ gb104 29 #[.bool t105, .bool ((Go.bits .and .u32 a0 t106) == 0), .bool false, .bool false] (0, 0) _ rfl (by (with_reducible repeat (first | refine blk_drewN ?_ _ | refine blk_drew ?_ | refine blk_alloc ?_ _)); refine blk_put (cs := #[.bool t105, .bool ((Go.bits .and .u32 a0 t106) == 0), .bool false, .bool false]) ?_ 3 _ rfl; (with_reducible repeat (first | refine blk_drewN ?_ _ | refine blk_drew ?_ | refine blk_alloc ?_ _)); refine blk_put (cs := #[.bool t105, .bool ((Go.bits .and .u32 a0 t106) == 0), .bool false, .bool false]) ?_ 2 _ rfl; (with_reducible repeat (first | refine blk_drewN ?_ _ | refine blk_drew ?_ | refine blk_alloc ?_ _)); refine blk_put (cs := #[.bool t105, .bool false, .bool false, .bool false]) ?_ 1 _ rfl; (with_reducible repeat (first | refine blk_drewN ?_ _ | refine blk_drew ?_ | refine blk_alloc ?_ _)); refine blk_put (cs := #[.bool false, .bool false, .bool false, .bool false]) ?_ 0 _ rfl; (with_reducible repeat (first | refine blk_drewN ?_ _ | refine blk_drew ?_ | refine blk_alloc ?_ _)); exact BK104.out) Try.underlying29 rfl (by kernel_rfl)) rfl ?_
  exact ⟨by first | rfl | (simp [errW_none, errW_some] <;> rfl) | (simp [*, errW_none, errW_some] <;> rfl), by repeat (first | (with_reducible first | exact HB.out | apply below_alloc | apply pw_below_drewN | apply below_drew1 | refine below_set ?_ GE104.out) | exact HB.out)⟩

/-! ### bits_Add: function 21, by hand -/
def bits_Add.s (a b : Int) (c : Bool) (m : Int) : Int :=
  if c then IntKind.u64.wrap (IntKind.u64.wrap (bits BinOp.and IntKind.u64 (IntKind.u64.wrap a) (IntKind.u64.wrap m) + bits BinOp.and IntKind.u64 (IntKind.u64.wrap b) (IntKind.u64.wrap m)) + 1)
  else IntKind.u64.wrap (bits BinOp.and IntKind.u64 (IntKind.u64.wrap a) (IntKind.u64.wrap m) + bits BinOp.and IntKind.u64 (IntKind.u64.wrap b) (IntKind.u64.wrap m))
def bits_Add.f (a0 a1 : Int) (a2 : Bool) (a3 : Int) : Option (Int × Bool × Bool × Bool × Bool) :=
  (bits_Mask.f a3).bind fun m => 
  (some (bits_Add.s a0 a1 a2 m)).bind fun s =>
  (some (Go.bits .and .u64 s (IntKind.u64.wrap m) % 4294967296)).bind fun x =>
  (bits_Signs.f x a3).bind fun bt => 
  (if a3 = 0 then some false else bits_Neg.f (Go.bits .and .u32 (Go.bits .xor .u32 4294967295 (Go.bits .xor .u32 a0 a1)) (Go.bits .xor .u32 a0 x)) a3).bind fun v =>
  some (x, bt.1, bt.2.1, v, decide (s > (IntKind.u64.wrap m)))

theorem bits_Mask.any (n : Int) (w : World) (m : Int) (hm : Aside0 (bits_Mask.f n = some m)) : Calls Try.prog 19 #[.int .i64 n] w fun e w' => e = .returned (.int .u32 m) ∧ ∃ k, w' = w.drewN k := 
  (bits_Mask.calls n m w hm.out).mono fun e w' h => ⟨h.1, h.2.out⟩
theorem bits_Neg.any (x n : Int) (w : World) (m : Bool) (hm : Aside0 (bits_Neg.f x n = some m)) : Calls Try.prog 28 #[.int .u32 x, .int .i64 n] w fun e w' => e = .returned (.bool m) ∧ ∃ k, w' = w.drewN k := 
  (bits_Neg.calls x n m w hm.out).mono fun e w' h => ⟨h.1, h.2.out⟩
theorem bits_Signs.any (x n : Int) (w : World) (r : Bool × Bool × Bool × Bool) (hm : Aside0 (bits_Signs.f x n = some r)) : Calls Try.prog 27 #[.int .u32 x, .int .i64 n] w fun e w' => e = .returned (.agg #[.bool r.1, .bool r.2.1, .bool r.2.2.1, .bool r.2.2.2]) ∧ Below w.heap.size w w' := 
  (bits_Signs.calls x n _ _ _ _ w hm.out)
set_option maxHeartbeats 1000000 in
set_option maxRecDepth 100000 in
theorem bits_Add.calls (a0 : Int) (a1 : Int) (a2 : Bool) (a3 : Int) (r1 : Int) (r2 : Bool) (r3 : Bool) (r4 : Bool) (r5 : Bool) (w : World) (h : bits_Add.f a0 a1 a2 a3 = some (r1, r2, r3, r4, r5)) :
    Calls Try.prog 21 #[.int .u32 a0, .int .u32 a1, .bool a2, .int .i64 a3] w fun e w' => e = .returned (.tuple #[.int .u32 r1, .agg #[.bool r2, .bool r3, .bool r4, .bool r5]]) ∧ Below w.heap.size w w' := by
  unfold bits_Add.f at h
  simp only [Option.bind_eq_some_iff, Option.some.injEq, Prod.mk.injEq] at h
  obtain ⟨m, hm, s, hs, x, hx, bt, hbt, v, hv, rfl, rfl, rfl, rfl, rfl⟩ := h
  have HM := Aside0.mk hm
  have HT := Aside0.mk hbt
  have HX := Aside0.mk hx
  have HS := Aside0.mk hs
  clear hm hbt hx hs
  by_cases h0 : a3 = 0
  · rw [if_pos h0] at hv
    obtain rfl := Option.some.inj hv
    have hn : (a3 != 0) = false := by simpa using h0
    clear h0 hv
    cases a2
    all_goals
      go_enter Try.func21, Try.ntmps21
      go_wp2_with fail
      refine (bits_Mask.any _ _ m HM).mono ?_
      rintro e w1 ⟨rfl, nd, rfl⟩
      go_wp2_with fail
      have hs := HS.out
      simp only [bits_Add.s, Bool.false_eq_true, if_false, if_true] at hs
      rw [hs, HX.out]
      clear hs
      refine (bits_Signs.any _ _ _ bt HT).mono ?_
      rintro e w2 ⟨rfl, hb⟩
      have hk := Aside0.mk (blk_below (blk_drewN (blk_new w (.cells #[.bool false, .bool false, .bool false, .bool false] 29)) nd) hb)
      have c0 : w2.cell? ⟨w.heap.size, 0, none⟩ = some (.bool false) := (blk_cell hk.out 0).trans rfl
      have c1 : w2.cell? ⟨w.heap.size, 1, none⟩ = some (.bool false) := (blk_cell hk.out 1).trans rfl
      have c2 : w2.cell? ⟨w.heap.size, 2, none⟩ = some (.bool false) := (blk_cell hk.out 2).trans rfl
      have c3 : w2.cell? ⟨w.heap.size, 3, none⟩ = some (.bool false) := (blk_cell hk.out 3).trans rfl
      have f0 := blk_frozen hk.out 0
      have f1 := blk_frozen hk.out 1
      have f2 := blk_frozen hk.out 2
      have f3 := blk_frozen hk.out 3
      have hz : w.heap.size < w2.heap.size := by have := hb.size; simp at this; omega
      have HB := Aside0.mk (below_then (pw_below_drewN (below_alloc (Below.refl w.heap.size w) _) nd) (by simp) hb)
      clear hb hk
      go_wp2_with fail
      go_region
      go_wp2
      refine bodyPost_ret (v := .tuple #[.int .u32 x, .agg #[.bool bt.1, .bool bt.2.1, .bool false, .bool (decide (s > IntKind.u64.wrap m))]]) (by simp [results, Try.results21, go_sem, *]) rfl ⟨rfl, ?_⟩
      repeat (with_reducible first | exact HB.out | refine below_set ?_ (by omega) | refine below_drew1 ?_ | refine pw_below_drewN ?_ _ | refine below_alloc ?_ _)
  · rw [if_neg h0] at hv
    have HV := Aside0.mk hv
    clear hv
    have hn : (a3 != 0) = true := by simpa using h0
    clear h0
    cases a2
    all_goals
      go_enter Try.func21, Try.ntmps21
      go_wp2_with fail
      refine (bits_Mask.any _ _ m HM).mono ?_
      rintro e w1 ⟨rfl, nd, rfl⟩
      go_wp2_with fail
      have hs := HS.out
      simp only [bits_Add.s, Bool.false_eq_true, if_false, if_true] at hs
      rw [hs, HX.out]
      clear hs
      refine (bits_Signs.any _ _ _ bt HT).mono ?_
      rintro e w2 ⟨rfl, hb⟩
      have hk := Aside0.mk (blk_below (blk_drewN (blk_new w (.cells #[.bool false, .bool false, .bool false, .bool false] 29)) nd) hb)
      have c0 : w2.cell? ⟨w.heap.size, 0, none⟩ = some (.bool false) := (blk_cell hk.out 0).trans rfl
      have c1 : w2.cell? ⟨w.heap.size, 1, none⟩ = some (.bool false) := (blk_cell hk.out 1).trans rfl
      have c2 : w2.cell? ⟨w.heap.size, 2, none⟩ = some (.bool false) := (blk_cell hk.out 2).trans rfl
      have c3 : w2.cell? ⟨w.heap.size, 3, none⟩ = some (.bool false) := (blk_cell hk.out 3).trans rfl
      have f0 := blk_frozen hk.out 0
      have f1 := blk_frozen hk.out 1
      have f2 := blk_frozen hk.out 2
      have f3 := blk_frozen hk.out 3
      have hz : w.heap.size < w2.heap.size := by have := hb.size; simp at this; omega
      have HB := Aside0.mk (below_then (pw_below_drewN (below_alloc (Below.refl w.heap.size w) _) nd) (by simp) hb)
      clear hb hk
      go_wp2_with fail
      refine (bits_Neg.any _ _ _ v HV).mono ?_
      rintro e w3 ⟨rfl, nd3, rfl⟩
      go_wp2_with fail
      go_region
      go_wp2
      refine bodyPost_ret (v := .tuple #[.int .u32 x, .agg #[.bool bt.1, .bool bt.2.1, .bool v, .bool (decide (s > IntKind.u64.wrap m))]]) (by simp [results, Try.results21, go_sem, *]) rfl ⟨rfl, ?_⟩
      repeat (with_reducible first | exact HB.out | refine below_set ?_ (by omega) | refine below_drew1 ?_ | refine pw_below_drewN ?_ _ | refine below_alloc ?_ _)

end Go.Proofs.Ytmmmifgddkfehaa.PAlu
