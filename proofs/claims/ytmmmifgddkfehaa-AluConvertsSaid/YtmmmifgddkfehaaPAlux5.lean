-- Written by wip/oprint.py, a program of this session's repo, out of the translation. Not trusted: Lean checks it.
import Derived.Test.YtmmmifgddkfehaaPAlux0
import Derived.Test.YtmmmifgddkfehaaPAlux2
namespace Go.Proofs.Ytmmmifgddkfehaa.PAlu
open Go.RowKit Go.Proofs.YtmmmifgddkfehaaW.PrintWords Go.Proofs.YtmmmifgddkfehaaW.PrintLast
set_option linter.unusedVariables false
set_option linter.unusedSimpArgs false

/-! ### bits_Extend: function 25 -/
def bits_Extend.f (a0 : Int) (a1 : Int) : Option (Int) := (bits_Mask.f a1).bind fun t115 => ((bits_Neg.f (Go.bits .and .u32 a0 t115) a1).bind fun t116 => (if t116 = true then ((bits_Mask.f a1).bind fun t117 => (some (Go.bits .or .u32 (Go.bits .and .u32 a0 t115) (Go.bits .xor .u32 4294967295 t117)))) else (some (Go.bits .and .u32 a0 t115))))
set_option maxHeartbeats 8000000 in
set_option maxRecDepth 100000 in
theorem bits_Extend.calls (a0 : Int) (a1 : Int) (r : Int) (w : World) (h : bits_Extend.f a0 a1 = some r) :
    Calls Try.prog 25 #[.int .u32 a0, .int .i64 a1] w fun e w' => e = .returned (.int .u32 r) ∧ Drawn0 w w' := by
  have H : ((bits_Mask.f a1).bind fun t115 => ((bits_Neg.f (Go.bits .and .u32 a0 t115) a1).bind fun t116 => (if t116 = true then ((bits_Mask.f a1).bind fun t117 => (some (Go.bits .or .u32 (Go.bits .and .u32 a0 t115) (Go.bits .xor .u32 4294967295 t117)))) else (some (Go.bits .and .u32 a0 t115))))) = some r := h
  clear h
  replace H := Option.bind_eq_some_iff.mp H
  obtain ⟨t115, A30, H⟩ := H
  replace H : ((bits_Neg.f (Go.bits .and .u32 a0 t115) a1).bind fun t116 => (if t116 = true then ((bits_Mask.f a1).bind fun t117 => (some (Go.bits .or .u32 (Go.bits .and .u32 a0 t115) (Go.bits .xor .u32 4294967295 t117)))) else (some (Go.bits .and .u32 a0 t115)))) = some r := H
  have A3 := Aside0.mk A30
  clear A30
  replace H := Option.bind_eq_some_iff.mp H
  obtain ⟨t116, A40, H⟩ := H
  replace H : (if t116 = true then ((bits_Mask.f a1).bind fun t117 => (some (Go.bits .or .u32 (Go.bits .and .u32 a0 t115) (Go.bits .xor .u32 4294967295 t117)))) else (some (Go.bits .and .u32 a0 t115))) = some r := H
  have A4 := Aside0.mk A40
  clear A40
  by_cases c5 : t116 = true
  · subst c5
    have H1 : ((bits_Mask.f a1).bind fun t117 => (some (Go.bits .or .u32 (Go.bits .and .u32 a0 t115) (Go.bits .xor .u32 4294967295 t117)))) = some r := by rw [if_pos rfl] at H; exact H
    clear H
    have H := H1
    clear H1
    replace H := Option.bind_eq_some_iff.mp H
    obtain ⟨t117, A60, H⟩ := H
    replace H : (some (Go.bits .or .u32 (Go.bits .and .u32 a0 t115) (Go.bits .xor .u32 4294967295 t117))) = some r := H
    have A6 := Aside0.mk A60
    clear A60
    obtain rfl := Option.some.inj H
    go_enter Try.func25, Try.ntmps25
    go_wp2_with (first | ((with_reducible refine gate_callee (f := 19) rfl ?_); refine goesL_ (some 7) rfl rfl Try.func19 (by kernel_rfl) rfl #[.int .i64 a1] rfl (by (try simp only [List.map_toArray, List.map_cons, List.map_nil]); first | done | rfl | (simp only [List.length_drop, List.length_take]; rfl)) ?_; (with_reducible refine (bits_Mask.calls a1 t115 _ A3.out).mono ?_); rintro e w' ⟨rfl, ⟨nd, rfl⟩⟩; refine ⟨_, rfl, ?_⟩) | ((with_reducible refine gate_callee (f := 28) rfl ?_); refine goesL_ (some 11) rfl rfl Try.func28 (by kernel_rfl) rfl #[.int .u32 (Go.bits .and .u32 a0 t115), .int .i64 a1] rfl (by (try simp only [List.map_toArray, List.map_cons, List.map_nil]); first | done | rfl | (simp only [List.length_drop, List.length_take]; rfl)) ?_; (with_reducible refine (bits_Neg.calls (Go.bits .and .u32 a0 t115) a1 true _ A4.out).mono ?_); rintro e w' ⟨rfl, ⟨nd, rfl⟩⟩; refine ⟨_, rfl, ?_⟩) | ((with_reducible refine gate_callee (f := 19) rfl ?_); refine goesL_ (some 14) rfl rfl Try.func19 (by kernel_rfl) rfl #[.int .i64 a1] rfl (by (try simp only [List.map_toArray, List.map_cons, List.map_nil]); first | done | rfl | (simp only [List.length_drop, List.length_take]; rfl)) ?_; (with_reducible refine (bits_Mask.calls a1 t117 _ A6.out).mono ?_); rintro e w' ⟨rfl, ⟨nd, rfl⟩⟩; refine ⟨_, rfl, ?_⟩))
    go_ret
    exact ⟨by first | rfl | (simp; done) | (simp [*]; done), by repeat (first | exact Drawn0.refl _ | apply Drawn0.step)⟩
  · replace c5 := Bool.eq_false_iff.mpr c5
    subst c5
    have H1 : (some (Go.bits .and .u32 a0 t115)) = some r := by rw [if_neg (show ¬ (false = true) by decide)] at H; exact H
    clear H
    have H := H1
    clear H1
    obtain rfl := Option.some.inj H
    go_enter Try.func25, Try.ntmps25
    go_wp2_with (first | ((with_reducible refine gate_callee (f := 19) rfl ?_); refine goesL_ (some 7) rfl rfl Try.func19 (by kernel_rfl) rfl #[.int .i64 a1] rfl (by (try simp only [List.map_toArray, List.map_cons, List.map_nil]); first | done | rfl | (simp only [List.length_drop, List.length_take]; rfl)) ?_; (with_reducible refine (bits_Mask.calls a1 t115 _ A3.out).mono ?_); rintro e w' ⟨rfl, ⟨nd, rfl⟩⟩; refine ⟨_, rfl, ?_⟩) | ((with_reducible refine gate_callee (f := 28) rfl ?_); refine goesL_ (some 11) rfl rfl Try.func28 (by kernel_rfl) rfl #[.int .u32 (Go.bits .and .u32 a0 t115), .int .i64 a1] rfl (by (try simp only [List.map_toArray, List.map_cons, List.map_nil]); first | done | rfl | (simp only [List.length_drop, List.length_take]; rfl)) ?_; (with_reducible refine (bits_Neg.calls (Go.bits .and .u32 a0 t115) a1 false _ A4.out).mono ?_); rintro e w' ⟨rfl, ⟨nd, rfl⟩⟩; refine ⟨_, rfl, ?_⟩))
    go_ret
    exact ⟨by first | rfl | (simp; done) | (simp [*]; done), by repeat (first | exact Drawn0.refl _ | apply Drawn0.step)⟩

/-! ### bits_Less: function 34 -/
def bits_Less.f (a0 : Int) (a1 : Int) (a2 : Int) : Option (Bool × Bool) := (bits_Mask.f a2).bind fun t118 => ((bits_Extend.f a0 a2).bind fun t119 => ((bits_Extend.f a1 a2).bind fun t120 => (some (decide ((wrap32 (t119)) < (wrap32 (t120))), decide ((Go.bits .and .u32 a0 t118) < (Go.bits .and .u32 a1 t118))))))
set_option maxHeartbeats 8000000 in
set_option maxRecDepth 100000 in
theorem bits_Less.calls (a0 : Int) (a1 : Int) (a2 : Int) (r1 : Bool) (r2 : Bool) (w : World) (h : bits_Less.f a0 a1 a2 = some (r1, r2)) :
    Calls Try.prog 34 #[.int .u32 a0, .int .u32 a1, .int .i64 a2] w fun e w' => e = .returned (.tuple #[.bool r1, .bool r2]) ∧ Drawn0 w w' := by
  have H : ((bits_Mask.f a2).bind fun t118 => ((bits_Extend.f a0 a2).bind fun t119 => ((bits_Extend.f a1 a2).bind fun t120 => (some (decide ((wrap32 (t119)) < (wrap32 (t120))), decide ((Go.bits .and .u32 a0 t118) < (Go.bits .and .u32 a1 t118))))))) = some (r1, r2) := h
  clear h
  replace H := Option.bind_eq_some_iff.mp H
  obtain ⟨t118, A40, H⟩ := H
  replace H : ((bits_Extend.f a0 a2).bind fun t119 => ((bits_Extend.f a1 a2).bind fun t120 => (some (decide ((wrap32 (t119)) < (wrap32 (t120))), decide ((Go.bits .and .u32 a0 t118) < (Go.bits .and .u32 a1 t118)))))) = some (r1, r2) := H
  have A4 := Aside0.mk A40
  clear A40
  replace H := Option.bind_eq_some_iff.mp H
  obtain ⟨t119, A50, H⟩ := H
  replace H : ((bits_Extend.f a1 a2).bind fun t120 => (some (decide ((wrap32 (t119)) < (wrap32 (t120))), decide ((Go.bits .and .u32 a0 t118) < (Go.bits .and .u32 a1 t118))))) = some (r1, r2) := H
  have A5 := Aside0.mk A50
  clear A50
  replace H := Option.bind_eq_some_iff.mp H
  obtain ⟨t120, A60, H⟩ := H
  replace H : (some (decide ((wrap32 (t119)) < (wrap32 (t120))), decide ((Go.bits .and .u32 a0 t118) < (Go.bits .and .u32 a1 t118)))) = some (r1, r2) := H
  have A6 := Aside0.mk A60
  clear A60
  simp only [Option.some.injEq, Prod.mk.injEq] at H
  obtain ⟨rfl, rfl⟩ := H
  go_enter Try.func34, Try.ntmps34
  go_wp2_with (first | ((with_reducible refine gate_callee (f := 19) rfl ?_); refine goesL_ (some 10) rfl rfl Try.func19 (by kernel_rfl) rfl #[.int .i64 a2] rfl (by (try simp only [List.map_toArray, List.map_cons, List.map_nil]); first | done | rfl | (simp only [List.length_drop, List.length_take]; rfl)) ?_; (with_reducible refine (bits_Mask.calls a2 t118 _ A4.out).mono ?_); rintro e w' ⟨rfl, ⟨nd, rfl⟩⟩; refine ⟨_, rfl, ?_⟩) | ((with_reducible refine gate_callee (f := 25) rfl ?_); refine goesL_ (some 13) rfl rfl Try.func25 (by kernel_rfl) rfl #[.int .u32 a0, .int .i64 a2] rfl (by (try simp only [List.map_toArray, List.map_cons, List.map_nil]); first | done | rfl | (simp only [List.length_drop, List.length_take]; rfl)) ?_; (with_reducible refine (bits_Extend.calls a0 a2 t119 _ A5.out).mono ?_); rintro e w' ⟨rfl, ⟨nd, rfl⟩⟩; refine ⟨_, rfl, ?_⟩) | ((with_reducible refine gate_callee (f := 25) rfl ?_); refine goesL_ (some 17) rfl rfl Try.func25 (by kernel_rfl) rfl #[.int .u32 a1, .int .i64 a2] rfl (by (try simp only [List.map_toArray, List.map_cons, List.map_nil]); first | done | rfl | (simp only [List.length_drop, List.length_take]; rfl)) ?_; (with_reducible refine (bits_Extend.calls a1 a2 t120 _ A6.out).mono ?_); rintro e w' ⟨rfl, ⟨nd, rfl⟩⟩; refine ⟨_, rfl, ?_⟩))
  go_ret2
  exact ⟨by first | rfl | (simp; done) | (simp [*]; done), by repeat (first | exact Drawn0.refl _ | apply Drawn0.step)⟩

/-! ### bits_Compare: function 33 -/
def bits_Compare.f (a0 : Int) (a1 : Int) (a2 : Int) : Option (Bool × Bool × Bool × Bool) := (bits_Less.f a0 a1 a2).bind fun bt122 => ((bits_Mask.f a2).bind fun t124 => (some (bt122.1, ((Go.bits .and .u32 (Go.bits .xor .u32 a0 a1) t124) == 0), false, bt122.2)))
set_option maxHeartbeats 8000000 in
set_option maxRecDepth 100000 in
theorem bits_Compare.calls (a0 : Int) (a1 : Int) (a2 : Int) (r1 : Bool) (r2 : Bool) (r3 : Bool) (r4 : Bool) (w : World) (h : bits_Compare.f a0 a1 a2 = some (r1, r2, r3, r4)) :
    Calls Try.prog 33 #[.int .u32 a0, .int .u32 a1, .int .i64 a2] w fun e w' => e = .returned (.agg #[.bool r1, .bool r2, .bool r3, .bool r4]) ∧ Below w.heap.size w w' := by
  have hu29 := Try.underlying29
  have HB := Aside0.mk (Below.refl w.heap.size w)
  have H : ((bits_Less.f a0 a1 a2).bind fun bt122 => ((bits_Mask.f a2).bind fun t124 => (some (bt122.1, ((Go.bits .and .u32 (Go.bits .xor .u32 a0 a1) t124) == 0), false, bt122.2)))) = some (r1, r2, r3, r4) := h
  clear h
  replace H := Option.bind_eq_some_iff.mp H
  obtain ⟨⟨t122, t123⟩, A40, H⟩ := H
  replace H : ((bits_Mask.f a2).bind fun t124 => (some (t122, ((Go.bits .and .u32 (Go.bits .xor .u32 a0 a1) t124) == 0), false, t123))) = some (r1, r2, r3, r4) := H
  have A4 := Aside0.mk A40
  clear A40
  replace H := Option.bind_eq_some_iff.mp H
  obtain ⟨t124, A50, H⟩ := H
  replace H : (some (t122, ((Go.bits .and .u32 (Go.bits .xor .u32 a0 a1) t124) == 0), false, t123)) = some (r1, r2, r3, r4) := H
  have A5 := Aside0.mk A50
  clear A50
  simp only [Option.some.injEq, Prod.mk.injEq] at H
  obtain ⟨rfl, rfl, rfl, rfl⟩ := H
  go_enter Try.func33, Try.ntmps33
  go_wp2_with (first | ((with_reducible refine gate_dst (N := 6) rfl ?_); refine box_event ?hg (N := 6) ?hd (cs := #[.bool false, .bool false, .bool false, .bool false]) (t := 29) ?hr ?_; (case hd => rfl); (case hg => rfl); (case hr => first | (go_simp; done) | (go_simp; rfl)); intro gb121 hg w6 hbox hb; have n0_ := Aside0.mk (below_step (by repeat (first | (with_reducible first | exact HB.out | apply below_alloc | apply pw_below_drewN | apply below_drew1) | exact HB.out)) hb); have n1_ := Aside0.mk (hbox); have n2_ := Aside0.mk ((by rw [hg]; exact (below_size (by repeat (first | (with_reducible first | exact HB.out | apply below_alloc | apply pw_below_drewN | apply below_drew1) | exact HB.out))) : w.heap.size ≤ gb121)); have n3_ := Aside0.mk ((by rw [hg]; exact (below_size (by repeat (first | (with_reducible first | exact HB.out | apply below_alloc | apply pw_below_drewN | apply below_drew1) | exact HB.out))) : w.heap.size ≤ gb121)); clear HB; have HB := n0_; have BK121 := n1_; have GW121 := n2_; have GE121 := n3_; clear n0_ n1_ n2_ n3_; clear hb hbox hg) | ((with_reducible refine gate_callee (f := 34) rfl ?_); refine goesL_ (some 13) rfl rfl Try.func34 (by kernel_rfl) rfl #[.int .u32 a0, .int .u32 a1, .int .i64 a2] rfl (by (try simp only [List.map_toArray, List.map_cons, List.map_nil]); first | done | rfl | (simp only [List.length_drop, List.length_take]; rfl)) ?_; (with_reducible refine (bits_Less.calls a0 a1 a2 t122 t123 _ A4.out).mono ?_); rintro e w' ⟨rfl, ⟨nd, rfl⟩⟩; refine ⟨_, rfl, ?_⟩; (try (rw [drewN_self w6]; generalize hq_ : World.drewN w6 _ = w6; have n0_ : Aside0 (w6.heap[gb121]? = some (.cells #[.bool false, .bool false, .bool false, .bool false] 29 (0, 0))) := ⟨by rw [← hq_]; exact (by (with_reducible repeat (first | refine blk_drewN ?_ _ | refine blk_drew ?_ | refine blk_alloc ?_ _)); exact BK121.out)⟩; have n1_ : Aside0 (Below w.heap.size w w6) := ⟨by rw [← hq_]; exact (by repeat (first | (with_reducible first | exact HB.out | apply below_alloc | apply pw_below_drewN | apply below_drew1 | refine below_set ?_ GE121.out) | exact HB.out))⟩; clear BK121 HB hq_; have BK121 := n0_; have HB := n1_; clear n0_ n1_))) | ((with_reducible refine gate_callee (f := 19) rfl ?_); refine goesL_ (some 21) rfl rfl Try.func19 (by kernel_rfl) rfl #[.int .i64 a2] rfl (by (try simp only [List.map_toArray, List.map_cons, List.map_nil]); first | done | rfl | (simp only [List.length_drop, List.length_take]; rfl)) ?_; (with_reducible refine (bits_Mask.calls a2 t124 _ A5.out).mono ?_); rintro e w' ⟨rfl, ⟨nd, rfl⟩⟩; refine ⟨_, rfl, ?_⟩; (try (rw [drewN_self w6]; generalize hq_ : World.drewN w6 _ = w6; have n0_ : Aside0 (w6.heap[gb121]? = some (.cells #[.bool false, .bool false, .bool false, .bool false] 29 (0, 0))) := ⟨by rw [← hq_]; exact (by (with_reducible repeat (first | refine blk_drewN ?_ _ | refine blk_drew ?_ | refine blk_alloc ?_ _)); exact BK121.out)⟩; have n1_ : Aside0 (Below w.heap.size w w6) := ⟨by rw [← hq_]; exact (by repeat (first | (with_reducible first | exact HB.out | apply below_alloc | apply pw_below_drewN | apply below_drew1 | refine below_set ?_ GE121.out) | exact HB.out))⟩; clear BK121 HB hq_; have BK121 := n0_; have HB := n1_; clear n0_ n1_)); have hcz7_0 : w6.cell? ⟨gb121, 0, none⟩ = some (.bool false) := (blk_cell BK121.out 0).trans rfl; have hcz7_1 : w6.cell? ⟨gb121, 1, none⟩ = some (.bool false) := (blk_cell BK121.out 1).trans rfl; have hcz7_2 : w6.cell? ⟨gb121, 2, none⟩ = some (.bool false) := (blk_cell BK121.out 2).trans rfl; have hcz7_3 : w6.cell? ⟨gb121, 3, none⟩ = some (.bool false) := (blk_cell BK121.out 3).trans rfl; have hfz7_0 := blk_frozen BK121.out 0; have hfz7_1 := blk_frozen BK121.out 1; have hfz7_2 := blk_frozen BK121.out 2; have hfz7_3 := blk_frozen BK121.out 3))
  refine bodyPost_ret (results_cell_row rfl _ _ gb121 29 #[.bool t122, .bool ((Go.bits .and .u32 (Go.bits .xor .u32 a0 a1) t124) == 0), .bool false, .bool t123] (0, 0) _ rfl (by (with_reducible repeat (first | refine blk_drewN ?_ _ | refine blk_drew ?_ | refine blk_alloc ?_ _)); refine blk_put (cs := #[.bool t122, .bool ((Go.bits .and .u32 (Go.bits .xor .u32 a0 a1) t124) == 0), .bool false, .bool false]) ?_ 3 _ rfl; (with_reducible repeat (first | refine blk_drewN ?_ _ | refine blk_drew ?_ | refine blk_alloc ?_ _)); refine blk_put (cs := #[.bool t122, .bool ((Go.bits .and .u32 (Go.bits .xor .u32 a0 a1) t124) == 0), .bool false, .bool false]) ?_ 2 _ rfl; (with_reducible repeat (first | refine blk_drewN ?_ _ | refine blk_drew ?_ | refine blk_alloc ?_ _)); refine blk_put (cs := #[.bool t122, .bool false, .bool false, .bool false]) ?_ 1 _ rfl; (with_reducible repeat (first | refine blk_drewN ?_ _ | refine blk_drew ?_ | refine blk_alloc ?_ _)); refine blk_put (cs := #[.bool false, .bool false, .bool false, .bool false]) ?_ 0 _ rfl; (with_reducible repeat (first | refine blk_drewN ?_ _ | refine blk_drew ?_ | refine blk_alloc ?_ _)); exact BK121.out) Try.underlying29 rfl (by kernel_rfl)) rfl ?_
  exact ⟨by first | rfl | (simp [errW_none, errW_some] <;> rfl) | (simp [*, errW_none, errW_some] <;> rfl), by repeat (first | (with_reducible first | exact HB.out | apply below_alloc | apply pw_below_drewN | apply below_drew1 | refine below_set ?_ GE121.out) | exact HB.out)⟩

end Go.Proofs.Ytmmmifgddkfehaa.PAlu
