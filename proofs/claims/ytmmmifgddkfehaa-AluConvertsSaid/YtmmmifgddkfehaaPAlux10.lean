-- Written by wip/oprint.py, a program of this session's repo, out of the translation. Not trusted: Lean checks it.
import Derived.Test.YtmmmifgddkfehaaPAlux0
import Derived.Test.YtmmmifgddkfehaaPAlux2
import Derived.Test.YtmmmifgddkfehaaPAlux3
import Derived.Test.YtmmmifgddkfehaaPAlux4
import Derived.Test.YtmmmifgddkfehaaPAlux5
import Derived.Test.YtmmmifgddkfehaaPAlux6
import Derived.Test.YtmmmifgddkfehaaPAlux7
import Derived.Test.YtmmmifgddkfehaaPAlux8
import Derived.Test.YtmmmifgddkfehaaPAlux9
namespace Go.Proofs.Ytmmmifgddkfehaa.PAlu
open Go.RowKit Go.Proofs.YtmmmifgddkfehaaW.PrintWords Go.Proofs.YtmmmifgddkfehaaW.PrintLast
set_option linter.unusedVariables false
set_option linter.unusedSimpArgs false

/-! ### alu_Do: function 41 -/
def alu_Do.f (a0 : Int) (a1 : Int) (a2 : Int) (a3 : Bool) (a4 : Int) : Option (Int × Bool × Bool × Bool × Bool × Bool) := (alu_Logic.f a0).bind fun t157 => (if t157 = true then ((alu_logic.f a0 a1 a2).bind fun t158 => ((bits_Mask.f a4).bind fun t159 => ((bits_Signs.f (Go.bits .and .u32 t158 t159) a4).bind fun bt160 => (some (Go.bits .and .u32 t158 t159, bt160.1, bt160.2.1, bt160.2.2.1, a3, true))))) else (if a0 = 3 then ((bits_Sub.f 0 a1 false a4).bind fun bt166 => (some (bt166.1, bt166.2.1, bt166.2.2.1, bt166.2.2.2.1, bt166.2.2.2.2, true))) else (if a0 = 4 then ((bits_Add.f a1 1 false a4).bind fun bt171 => (some (bt171.1, bt171.2.1, bt171.2.2.1, bt171.2.2.2.1, bt171.2.2.2.2, true))) else (if a0 = 5 then ((bits_Sub.f a1 1 false a4).bind fun bt176 => (some (bt176.1, bt176.2.1, bt176.2.2.1, bt176.2.2.2.1, bt176.2.2.2.2, true))) else (if a0 = 6 then ((bits_Add.f a1 a2 false a4).bind fun bt181 => (some (bt181.1, bt181.2.1, bt181.2.2.1, bt181.2.2.2.1, bt181.2.2.2.2, true))) else (if a0 = 7 then ((bits_Sub.f a2 a1 false a4).bind fun bt186 => (some (bt186.1, bt186.2.1, bt186.2.2.1, bt186.2.2.2.1, bt186.2.2.2.2, true))) else (if a0 = 8 then ((bits_Add.f a1 a2 a3 a4).bind fun bt191 => (some (bt191.1, bt191.2.1, bt191.2.2.1, bt191.2.2.2.1, bt191.2.2.2.2, true))) else (if a0 = 9 then ((bits_Sub.f a2 a1 a3 a4).bind fun bt196 => (some (bt196.1, bt196.2.1, bt196.2.2.1, bt196.2.2.2.1, bt196.2.2.2.2, true))) else (if a0 = 10 then ((bits_Mul.f a1 a2 a4).bind fun bt201 => (some (bt201.1, bt201.2.1, bt201.2.2.1, bt201.2.2.2.1, bt201.2.2.2.2, true))) else (if a0 = 11 then ((bits_Div.f a2 a1 a4).bind fun bt206 => (some (bt206.1, bt206.2.1, bt206.2.2.1, bt206.2.2.2.1, bt206.2.2.2.2.1, bt206.2.2.2.2.2))) else (if a0 = 16 then ((bits_Mask.f a4).bind fun t212 => ((bits_Compare.f a1 a2 a4).bind fun bt213 => (some (Go.bits .and .u32 a1 t212, bt213.1, bt213.2.1, bt213.2.2.1, bt213.2.2.2, true)))) else (if a0 = 17 then ((bits_Mask.f a4).bind fun t217 => ((bits_Signs.f a1 a4).bind fun bt218 => (some (Go.bits .and .u32 a1 t217, bt218.1, bt218.2.1, bt218.2.2.1, bt218.2.2.2, true)))) else (some (0, false, false, false, false, false))))))))))))))
set_option maxHeartbeats 8000000 in
set_option maxRecDepth 100000 in
theorem alu_Do.calls (a0 : Int) (a1 : Int) (a2 : Int) (a3 : Bool) (a4 : Int) (r1 : Int) (r2 : Bool) (r3 : Bool) (r4 : Bool) (r5 : Bool) (r6 : Bool) (w : World) (h : alu_Do.f a0 a1 a2 a3 a4 = some (r1, r2, r3, r4, r5, r6)) :
    Calls Try.prog 41 #[.int .i64 a0, .int .u32 a1, .int .u32 a2, .bool a3, .int .i64 a4] w fun e w' => e = .returned (.tuple #[.int .u32 r1, .agg #[.bool r2, .bool r3, .bool r4, .bool r5], .bool r6]) ∧ Below w.heap.size w w' := by
  have hu29 := Try.underlying29
  have HB := Aside0.mk (Below.refl w.heap.size w)
  have H : ((alu_Logic.f a0).bind fun t157 => (if t157 = true then ((alu_logic.f a0 a1 a2).bind fun t158 => ((bits_Mask.f a4).bind fun t159 => ((bits_Signs.f (Go.bits .and .u32 t158 t159) a4).bind fun bt160 => (some (Go.bits .and .u32 t158 t159, bt160.1, bt160.2.1, bt160.2.2.1, a3, true))))) else (if a0 = 3 then ((bits_Sub.f 0 a1 false a4).bind fun bt166 => (some (bt166.1, bt166.2.1, bt166.2.2.1, bt166.2.2.2.1, bt166.2.2.2.2, true))) else (if a0 = 4 then ((bits_Add.f a1 1 false a4).bind fun bt171 => (some (bt171.1, bt171.2.1, bt171.2.2.1, bt171.2.2.2.1, bt171.2.2.2.2, true))) else (if a0 = 5 then ((bits_Sub.f a1 1 false a4).bind fun bt176 => (some (bt176.1, bt176.2.1, bt176.2.2.1, bt176.2.2.2.1, bt176.2.2.2.2, true))) else (if a0 = 6 then ((bits_Add.f a1 a2 false a4).bind fun bt181 => (some (bt181.1, bt181.2.1, bt181.2.2.1, bt181.2.2.2.1, bt181.2.2.2.2, true))) else (if a0 = 7 then ((bits_Sub.f a2 a1 false a4).bind fun bt186 => (some (bt186.1, bt186.2.1, bt186.2.2.1, bt186.2.2.2.1, bt186.2.2.2.2, true))) else (if a0 = 8 then ((bits_Add.f a1 a2 a3 a4).bind fun bt191 => (some (bt191.1, bt191.2.1, bt191.2.2.1, bt191.2.2.2.1, bt191.2.2.2.2, true))) else (if a0 = 9 then ((bits_Sub.f a2 a1 a3 a4).bind fun bt196 => (some (bt196.1, bt196.2.1, bt196.2.2.1, bt196.2.2.2.1, bt196.2.2.2.2, true))) else (if a0 = 10 then ((bits_Mul.f a1 a2 a4).bind fun bt201 => (some (bt201.1, bt201.2.1, bt201.2.2.1, bt201.2.2.2.1, bt201.2.2.2.2, true))) else (if a0 = 11 then ((bits_Div.f a2 a1 a4).bind fun bt206 => (some (bt206.1, bt206.2.1, bt206.2.2.1, bt206.2.2.2.1, bt206.2.2.2.2.1, bt206.2.2.2.2.2))) else (if a0 = 16 then ((bits_Mask.f a4).bind fun t212 => ((bits_Compare.f a1 a2 a4).bind fun bt213 => (some (Go.bits .and .u32 a1 t212, bt213.1, bt213.2.1, bt213.2.2.1, bt213.2.2.2, true)))) else (if a0 = 17 then ((bits_Mask.f a4).bind fun t217 => ((bits_Signs.f a1 a4).bind fun bt218 => (some (Go.bits .and .u32 a1 t217, bt218.1, bt218.2.1, bt218.2.2.1, bt218.2.2.2, true)))) else (some (0, false, false, false, false, false))))))))))))))) = some (r1, r2, r3, r4, r5, r6) := h
  clear h
  replace H := Option.bind_eq_some_iff.mp H
  obtain ⟨t157, A60, H⟩ := H
  replace H : (if t157 = true then ((alu_logic.f a0 a1 a2).bind fun t158 => ((bits_Mask.f a4).bind fun t159 => ((bits_Signs.f (Go.bits .and .u32 t158 t159) a4).bind fun bt160 => (some (Go.bits .and .u32 t158 t159, bt160.1, bt160.2.1, bt160.2.2.1, a3, true))))) else (if a0 = 3 then ((bits_Sub.f 0 a1 false a4).bind fun bt166 => (some (bt166.1, bt166.2.1, bt166.2.2.1, bt166.2.2.2.1, bt166.2.2.2.2, true))) else (if a0 = 4 then ((bits_Add.f a1 1 false a4).bind fun bt171 => (some (bt171.1, bt171.2.1, bt171.2.2.1, bt171.2.2.2.1, bt171.2.2.2.2, true))) else (if a0 = 5 then ((bits_Sub.f a1 1 false a4).bind fun bt176 => (some (bt176.1, bt176.2.1, bt176.2.2.1, bt176.2.2.2.1, bt176.2.2.2.2, true))) else (if a0 = 6 then ((bits_Add.f a1 a2 false a4).bind fun bt181 => (some (bt181.1, bt181.2.1, bt181.2.2.1, bt181.2.2.2.1, bt181.2.2.2.2, true))) else (if a0 = 7 then ((bits_Sub.f a2 a1 false a4).bind fun bt186 => (some (bt186.1, bt186.2.1, bt186.2.2.1, bt186.2.2.2.1, bt186.2.2.2.2, true))) else (if a0 = 8 then ((bits_Add.f a1 a2 a3 a4).bind fun bt191 => (some (bt191.1, bt191.2.1, bt191.2.2.1, bt191.2.2.2.1, bt191.2.2.2.2, true))) else (if a0 = 9 then ((bits_Sub.f a2 a1 a3 a4).bind fun bt196 => (some (bt196.1, bt196.2.1, bt196.2.2.1, bt196.2.2.2.1, bt196.2.2.2.2, true))) else (if a0 = 10 then ((bits_Mul.f a1 a2 a4).bind fun bt201 => (some (bt201.1, bt201.2.1, bt201.2.2.1, bt201.2.2.2.1, bt201.2.2.2.2, true))) else (if a0 = 11 then ((bits_Div.f a2 a1 a4).bind fun bt206 => (some (bt206.1, bt206.2.1, bt206.2.2.1, bt206.2.2.2.1, bt206.2.2.2.2.1, bt206.2.2.2.2.2))) else (if a0 = 16 then ((bits_Mask.f a4).bind fun t212 => ((bits_Compare.f a1 a2 a4).bind fun bt213 => (some (Go.bits .and .u32 a1 t212, bt213.1, bt213.2.1, bt213.2.2.1, bt213.2.2.2, true)))) else (if a0 = 17 then ((bits_Mask.f a4).bind fun t217 => ((bits_Signs.f a1 a4).bind fun bt218 => (some (Go.bits .and .u32 a1 t217, bt218.1, bt218.2.1, bt218.2.2.1, bt218.2.2.2, true)))) else (some (0, false, false, false, false, false)))))))))))))) = some (r1, r2, r3, r4, r5, r6) := H
  have A6 := Aside0.mk A60
  clear A60
  by_cases c7 : t157 = true
  · subst c7
    have H1 : ((alu_logic.f a0 a1 a2).bind fun t158 => ((bits_Mask.f a4).bind fun t159 => ((bits_Signs.f (Go.bits .and .u32 t158 t159) a4).bind fun bt160 => (some (Go.bits .and .u32 t158 t159, bt160.1, bt160.2.1, bt160.2.2.1, a3, true))))) = some (r1, r2, r3, r4, r5, r6) := by rw [if_pos rfl] at H; exact H
    clear H
    have H := H1
    clear H1
    replace H := Option.bind_eq_some_iff.mp H
    obtain ⟨t158, A80, H⟩ := H
    replace H : ((bits_Mask.f a4).bind fun t159 => ((bits_Signs.f (Go.bits .and .u32 t158 t159) a4).bind fun bt160 => (some (Go.bits .and .u32 t158 t159, bt160.1, bt160.2.1, bt160.2.2.1, a3, true)))) = some (r1, r2, r3, r4, r5, r6) := H
    have A8 := Aside0.mk A80
    clear A80
    replace H := Option.bind_eq_some_iff.mp H
    obtain ⟨t159, A90, H⟩ := H
    replace H : ((bits_Signs.f (Go.bits .and .u32 t158 t159) a4).bind fun bt160 => (some (Go.bits .and .u32 t158 t159, bt160.1, bt160.2.1, bt160.2.2.1, a3, true))) = some (r1, r2, r3, r4, r5, r6) := H
    have A9 := Aside0.mk A90
    clear A90
    replace H := Option.bind_eq_some_iff.mp H
    obtain ⟨⟨t160, t161, t162, t163⟩, A100, H⟩ := H
    replace H : (some (Go.bits .and .u32 t158 t159, t160, t161, t162, a3, true)) = some (r1, r2, r3, r4, r5, r6) := H
    have A10 := Aside0.mk A100
    clear A100
    simp only [Option.some.injEq, Prod.mk.injEq] at H
    obtain ⟨rfl, rfl, rfl, rfl, rfl, rfl⟩ := H
    go_enter Try.func41, Try.ntmps41
    try go_wp2_with (first | ((with_reducible refine gate_dst (N := 11) rfl ?_); refine box_event ?hg (N := 11) ?hd (cs := #[.bool false, .bool false, .bool false, .bool false]) (t := 29) ?hr ?_; (case hd => rfl); (case hg => rfl); (case hr => first | (go_simp; done) | (go_simp; rfl)); intro gb156 hg w11 hbox hb; have n0_ := Aside0.mk (below_step (by repeat (first | (with_reducible first | exact HB.out | apply below_alloc | apply pw_below_drewN | apply below_drew1) | exact HB.out)) hb); have n1_ := Aside0.mk (hbox); have n2_ := Aside0.mk ((by rw [hg]; exact (below_size (by repeat (first | (with_reducible first | exact HB.out | apply below_alloc | apply pw_below_drewN | apply below_drew1) | exact HB.out))) : w.heap.size ≤ gb156)); have n3_ := Aside0.mk ((by rw [hg]; exact (below_size (by repeat (first | (with_reducible first | exact HB.out | apply below_alloc | apply pw_below_drewN | apply below_drew1) | exact HB.out))) : w.heap.size ≤ gb156)); clear HB; have HB := n0_; have BK156 := n1_; have GW156 := n2_; have GE156 := n3_; clear n0_ n1_ n2_ n3_; clear hb hbox hg) | ((with_reducible refine gate_callee (f := 43) rfl ?_); refine goesL_ (some 19) rfl rfl Try.func43 (by kernel_rfl) rfl #[.int .i64 a0] rfl (by (try simp only [List.map_toArray, List.map_cons, List.map_nil]); first | done | rfl | (simp only [List.length_drop, List.length_take]; rfl)) ?_; (with_reducible refine (alu_Logic.calls a0 true _ A6.out).mono ?_); rintro e w' ⟨rfl, ⟨nd, rfl⟩⟩; refine ⟨_, rfl, ?_⟩; (try (rw [drewN_self w11]; generalize hq_ : World.drewN w11 _ = w11; have n0_ : Aside0 (w11.heap[gb156]? = some (.cells #[.bool false, .bool false, .bool false, .bool false] 29 (0, 0))) := ⟨by rw [← hq_]; exact (by (with_reducible repeat (first | refine blk_drewN ?_ _ | refine blk_drew ?_ | refine blk_alloc ?_ _)); exact BK156.out)⟩; have n1_ : Aside0 (Below w.heap.size w w11) := ⟨by rw [← hq_]; exact (by repeat (first | (with_reducible first | exact HB.out | apply below_alloc | apply pw_below_drewN | apply below_drew1 | refine below_set ?_ GE156.out) | exact HB.out))⟩; clear BK156 HB hq_; have BK156 := n0_; have HB := n1_; clear n0_ n1_))) | ((with_reducible refine gate_callee (f := 50) rfl ?_); refine goesL_ (some 23) rfl rfl Try.func50 (by kernel_rfl) rfl #[.int .i64 a0, .int .u32 a1, .int .u32 a2] rfl (by (try simp only [List.map_toArray, List.map_cons, List.map_nil]); first | done | rfl | (simp only [List.length_drop, List.length_take]; rfl)) ?_; (with_reducible refine (alu_logic.calls a0 a1 a2 t158 _ A8.out).mono ?_); rintro e w' ⟨rfl, ⟨nd, rfl⟩⟩; refine ⟨_, rfl, ?_⟩; (try (rw [drewN_self w11]; generalize hq_ : World.drewN w11 _ = w11; have n0_ : Aside0 (w11.heap[gb156]? = some (.cells #[.bool false, .bool false, .bool false, .bool false] 29 (0, 0))) := ⟨by rw [← hq_]; exact (by (with_reducible repeat (first | refine blk_drewN ?_ _ | refine blk_drew ?_ | refine blk_alloc ?_ _)); exact BK156.out)⟩; have n1_ : Aside0 (Below w.heap.size w w11) := ⟨by rw [← hq_]; exact (by repeat (first | (with_reducible first | exact HB.out | apply below_alloc | apply pw_below_drewN | apply below_drew1 | refine below_set ?_ GE156.out) | exact HB.out))⟩; clear BK156 HB hq_; have BK156 := n0_; have HB := n1_; clear n0_ n1_))) | ((with_reducible refine gate_callee (f := 19) rfl ?_); refine goesL_ (some 25) rfl rfl Try.func19 (by kernel_rfl) rfl #[.int .i64 a4] rfl (by (try simp only [List.map_toArray, List.map_cons, List.map_nil]); first | done | rfl | (simp only [List.length_drop, List.length_take]; rfl)) ?_; (with_reducible refine (bits_Mask.calls a4 t159 _ A9.out).mono ?_); rintro e w' ⟨rfl, ⟨nd, rfl⟩⟩; refine ⟨_, rfl, ?_⟩; (try (rw [drewN_self w11]; generalize hq_ : World.drewN w11 _ = w11; have n0_ : Aside0 (w11.heap[gb156]? = some (.cells #[.bool false, .bool false, .bool false, .bool false] 29 (0, 0))) := ⟨by rw [← hq_]; exact (by (with_reducible repeat (first | refine blk_drewN ?_ _ | refine blk_drew ?_ | refine blk_alloc ?_ _)); exact BK156.out)⟩; have n1_ : Aside0 (Below w.heap.size w w11) := ⟨by rw [← hq_]; exact (by repeat (first | (with_reducible first | exact HB.out | apply below_alloc | apply pw_below_drewN | apply below_drew1 | refine below_set ?_ GE156.out) | exact HB.out))⟩; clear BK156 HB hq_; have BK156 := n0_; have HB := n1_; clear n0_ n1_))) | ((with_reducible refine gate_callee (f := 27) rfl ?_); refine goesL_ (some 29) rfl rfl Try.func27 (by kernel_rfl) rfl #[.int .u32 (Go.bits .and .u32 t158 t159), .int .i64 a4] rfl (by (try simp only [List.map_toArray, List.map_cons, List.map_nil]); first | done | rfl | (simp only [List.length_drop, List.length_take]; rfl)) ?_; (with_reducible refine (bits_Signs.calls (Go.bits .and .u32 t158 t159) a4 t160 t161 t162 t163 _ A10.out).mono ?_); rintro e w12 ⟨rfl, hb⟩; refine ⟨_, rfl, ?_⟩; have n0_ := Aside0.mk (blk_below (g := gb156) (o := .cells #[.bool false, .bool false, .bool false, .bool false] 29 (0, 0)) (by (with_reducible repeat (first | refine blk_drewN ?_ _ | refine blk_drew ?_ | refine blk_alloc ?_ _)); exact BK156.out) hb); have n1_ := Aside0.mk (below_step (by repeat (first | (with_reducible first | exact HB.out | apply below_alloc | apply pw_below_drewN | apply below_drew1 | refine below_set ?_ GE156.out) | exact HB.out)) hb); clear BK156; clear HB; have BK156 := n0_; have HB := n1_; clear n0_ n1_; (try clear hb); (try clear hb2); (try clear hk); (try clear hi)) | ((with_reducible refine gate_dst (N := 14) rfl ?_); refine box_event ?hg (N := 14) ?hd (cs := #[.bool false, .bool false, .bool false, .bool false]) (t := 29) ?hr ?_; (case hd => rfl); (case hg => rfl); (case hr => first | (go_simp; done) | (go_simp; rfl)); intro gb164 hg w13 hbox hb; have n0_ := Aside0.mk (blk_below (g := gb156) (o := .cells #[.bool false, .bool false, .bool false, .bool false] 29 (0, 0)) (by (with_reducible repeat (first | refine blk_drewN ?_ _ | refine blk_drew ?_ | refine blk_alloc ?_ _)); exact BK156.out) hb); have n1_ := Aside0.mk (below_step (by repeat (first | (with_reducible first | exact HB.out | apply below_alloc | apply pw_below_drewN | apply below_drew1 | refine below_set ?_ GE156.out) | exact HB.out)) hb); have n2_ := Aside0.mk (hbox); have n3_ := Aside0.mk ((by rw [hg]; exact (below_size (by repeat (first | (with_reducible first | exact HB.out | apply below_alloc | apply pw_below_drewN | apply below_drew1 | refine below_set ?_ GE156.out) | exact HB.out))) : w.heap.size ≤ gb164)); have n4_ := Aside0.mk ((by rw [hg]; exact (below_size (by repeat (first | (with_reducible first | exact HB.out | apply below_alloc | apply pw_below_drewN | apply below_drew1 | refine below_set ?_ GE156.out) | exact HB.out))) : w.heap.size ≤ gb164)); have n5_ := Aside0.mk ((by rw [hg]; exact Nat.ne_of_lt (blk_lt (g := gb156) (o := .cells #[.bool false, .bool false, .bool false, .bool false] 29 (0, 0)) (by (with_reducible repeat (first | refine blk_drewN ?_ _ | refine blk_drew ?_ | refine blk_alloc ?_ _)); exact BK156.out)) : gb156 ≠ gb164)); have n6_ := Aside0.mk ((by rw [hg]; exact Nat.ne_of_gt (blk_lt (g := gb156) (o := .cells #[.bool false, .bool false, .bool false, .bool false] 29 (0, 0)) (by (with_reducible repeat (first | refine blk_drewN ?_ _ | refine blk_drew ?_ | refine blk_alloc ?_ _)); exact BK156.out)) : gb164 ≠ gb156)); clear BK156; clear HB; have BK156 := n0_; have HB := n1_; have BK164 := n2_; have GW164 := n3_; have GE164 := n4_; have NB156_164 := n5_; have NB164_156 := n6_; clear n0_ n1_ n2_ n3_ n4_ n5_ n6_; clear hb hbox hg; have hnb14 := NB164_156.out; have hnc14 := NB156_164.out; have hcz15_0 : w13.cell? ⟨gb164, 0, none⟩ = some (.bool false) := (blk_cell BK164.out 0).trans rfl; have hcz15_1 : w13.cell? ⟨gb164, 1, none⟩ = some (.bool false) := (blk_cell BK164.out 1).trans rfl; have hcz15_2 : w13.cell? ⟨gb164, 2, none⟩ = some (.bool false) := (blk_cell BK164.out 2).trans rfl; have hcz15_3 : w13.cell? ⟨gb164, 3, none⟩ = some (.bool false) := (blk_cell BK164.out 3).trans rfl; have hfz15_0 := blk_frozen BK164.out 0; have hfz15_1 := blk_frozen BK164.out 1; have hfz15_2 := blk_frozen BK164.out 2; have hfz15_3 := blk_frozen BK164.out 3))
    have n0_ : Aside0 ((((((w13.setCell ⟨gb164, 0, none⟩ (.bool t160)).setCell ⟨gb164, 1, none⟩ (.bool t161)).setCell ⟨gb164, 2, none⟩ (.bool t162)).setCell ⟨gb164, 3, none⟩ (.bool t163)).setCell ⟨gb164, 3, none⟩ (.bool a3)).heap[gb156]? = some (.cells #[.bool false, .bool false, .bool false, .bool false] 29 (0, 0))) := ⟨by (with_reducible repeat (first | refine blk_drewN ?_ _ | refine blk_drew ?_ | refine blk_alloc ?_ _)); refine blk_far ?_ NB156_164.out _; (with_reducible repeat (first | refine blk_drewN ?_ _ | refine blk_drew ?_ | refine blk_alloc ?_ _)); refine blk_far ?_ NB156_164.out _; (with_reducible repeat (first | refine blk_drewN ?_ _ | refine blk_drew ?_ | refine blk_alloc ?_ _)); refine blk_far ?_ NB156_164.out _; (with_reducible repeat (first | refine blk_drewN ?_ _ | refine blk_drew ?_ | refine blk_alloc ?_ _)); refine blk_far ?_ NB156_164.out _; (with_reducible repeat (first | refine blk_drewN ?_ _ | refine blk_drew ?_ | refine blk_alloc ?_ _)); refine blk_far ?_ NB156_164.out _; (with_reducible repeat (first | refine blk_drewN ?_ _ | refine blk_drew ?_ | refine blk_alloc ?_ _)); exact BK156.out⟩
    have n1_ : Aside0 ((((((w13.setCell ⟨gb164, 0, none⟩ (.bool t160)).setCell ⟨gb164, 1, none⟩ (.bool t161)).setCell ⟨gb164, 2, none⟩ (.bool t162)).setCell ⟨gb164, 3, none⟩ (.bool t163)).setCell ⟨gb164, 3, none⟩ (.bool a3)).heap[gb164]? = some (.cells #[.bool t160, .bool t161, .bool t162, .bool a3] 29 (0, 0))) := ⟨by (with_reducible repeat (first | refine blk_drewN ?_ _ | refine blk_drew ?_ | refine blk_alloc ?_ _)); refine blk_put (cs := #[.bool t160, .bool t161, .bool t162, .bool t163]) ?_ 3 _ rfl; (with_reducible repeat (first | refine blk_drewN ?_ _ | refine blk_drew ?_ | refine blk_alloc ?_ _)); refine blk_put (cs := #[.bool t160, .bool t161, .bool t162, .bool false]) ?_ 3 _ rfl; (with_reducible repeat (first | refine blk_drewN ?_ _ | refine blk_drew ?_ | refine blk_alloc ?_ _)); refine blk_put (cs := #[.bool t160, .bool t161, .bool false, .bool false]) ?_ 2 _ rfl; (with_reducible repeat (first | refine blk_drewN ?_ _ | refine blk_drew ?_ | refine blk_alloc ?_ _)); refine blk_put (cs := #[.bool t160, .bool false, .bool false, .bool false]) ?_ 1 _ rfl; (with_reducible repeat (first | refine blk_drewN ?_ _ | refine blk_drew ?_ | refine blk_alloc ?_ _)); refine blk_put (cs := #[.bool false, .bool false, .bool false, .bool false]) ?_ 0 _ rfl; (with_reducible repeat (first | refine blk_drewN ?_ _ | refine blk_drew ?_ | refine blk_alloc ?_ _)); exact BK164.out⟩
    have n2_ : Aside0 (Below w.heap.size w (((((w13.setCell ⟨gb164, 0, none⟩ (.bool t160)).setCell ⟨gb164, 1, none⟩ (.bool t161)).setCell ⟨gb164, 2, none⟩ (.bool t162)).setCell ⟨gb164, 3, none⟩ (.bool t163)).setCell ⟨gb164, 3, none⟩ (.bool a3))) := ⟨by repeat (first | (with_reducible first | exact HB.out | apply below_alloc | apply pw_below_drewN | apply below_drew1 | refine below_set ?_ GE156.out | refine below_set ?_ GE164.out) | exact HB.out)⟩
    (try clear BK156)
    (try clear BK164)
    (try clear HB)
    (repeat rw [own_setCell_drewN]); (repeat rw [World.drewN_drewN])
    generalize (((((w13.setCell ⟨gb164, 0, none⟩ (.bool t160)).setCell ⟨gb164, 1, none⟩ (.bool t161)).setCell ⟨gb164, 2, none⟩ (.bool t162)).setCell ⟨gb164, 3, none⟩ (.bool t163)).setCell ⟨gb164, 3, none⟩ (.bool a3)) = w16 at n0_ n1_ n2_ ⊢
    have BK156 := n0_
    have BK164 := n1_
    have HB := n2_
    clear n0_ n1_ n2_
    have n0_ := Aside0.mk (blk_drew BK156.out)
    have n1_ := Aside0.mk (blk_drew BK164.out)
    have n2_ := Aside0.mk (below_drew1 HB.out)
    clear BK156
    clear BK164
    clear HB
    have BK156 := n0_
    have BK164 := n1_
    have HB := n2_
    clear n0_ n1_ n2_
    refine start_ (n := 5) (S := fun w' => w'.cell? ⟨gb164, 0, none⟩ = some (.bool t160) ∧ w'.cell? ⟨gb164, 1, none⟩ = some (.bool t161) ∧ w'.cell? ⟨gb164, 2, none⟩ = some (.bool t162) ∧ w'.cell? ⟨gb164, 3, none⟩ = some (.bool a3)) (ds := []) #[false, false, false, false, false] (by kernel_rfl) rfl rfl ⟨(blk_cell BK164.out 0).trans rfl, (blk_cell BK164.out 1).trans rfl, (blk_cell BK164.out 2).trans rfl, (blk_cell BK164.out 3).trans rfl⟩ (fun hHeld => ?_)
    generalize w16.drew = w17 at BK156 BK164 HB hHeld ⊢
    refine pure_ (i := 0) (N := some 32) (v := ?_) (a' := ?_) #[true, false, false, false, false] rfl rfl (by kernel_rfl) (fun _ _ _ h => h) (Or.inl ⟨by rfl, ?_⟩) ?_ ?_
    rotate_left
    · intro w'
      go_simp
      with_reducible rfl
    rotate_left
    · simp only [Act.put, List.setIfInBounds_toArray, List.set_cons_zero, List.set_cons_succ, i64_w, i32_w]
      rfl
    refine pure_ (i := 2) (N := some 10) (v := ?_) (a' := ?_) #[true, false, true, false, false] rfl rfl (by kernel_rfl) (fun _ _ _ h => h) (Or.inl ⟨by rfl, ?_⟩) ?_ ?_
    rotate_left
    · intro w'
      go_simp
      with_reducible rfl
    rotate_left
    · simp only [Act.put, List.setIfInBounds_toArray, List.set_cons_zero, List.set_cons_succ, i64_w, i32_w]
      rfl
    refine take_ (i := 1) (N := some 33) (v := ?_) (a' := ?_) #[true, true, true, false, false] rfl rfl (by kernel_rfl) (fun _ _ _ h => h) (Or.inl ⟨by rfl, ?_⟩) hHeld ?_ ?_
    rotate_left
    · rintro w' ⟨s0, s1, s2, s3⟩
      go_simp
      with_reducible rfl
    rotate_left
    · simp only [Act.put, List.setIfInBounds_toArray, List.set_cons_zero, List.set_cons_succ, i64_w, i32_w]
      rfl
    refine one_ (i := 3) (N := none) #[true, true, true, true, false] rfl rfl (by kernel_rfl) (by decide) (fun K hK => ?_)
    have hs18 : w17.cell? ⟨gb156, 0, none⟩ = some (.bool false) := (blk_cell BK156.out 0).trans rfl
    have hfs18 := blk_frozen BK156.out 0
    have hns18_1 := NB164_156.out
    have hms18_1 := NB156_164.out
    have hs19 : w17.cell? ⟨gb156, 1, none⟩ = some (.bool false) := (blk_cell BK156.out 1).trans rfl
    have hfs19 := blk_frozen BK156.out 1
    have hns19_1 := NB164_156.out
    have hms19_1 := NB156_164.out
    have hs20 : w17.cell? ⟨gb156, 2, none⟩ = some (.bool false) := (blk_cell BK156.out 2).trans rfl
    have hfs20 := blk_frozen BK156.out 2
    have hns20_1 := NB164_156.out
    have hms20_1 := NB156_164.out
    have hs21 : w17.cell? ⟨gb156, 3, none⟩ = some (.bool false) := (blk_cell BK156.out 3).trans rfl
    have hfs21 := blk_frozen BK156.out 3
    have hns21_1 := NB164_156.out
    have hms21_1 := NB156_164.out
    refine skip_ (w1 := ?_) (by rfl) rfl ?_ ?_
    rotate_left
    · go_simp
      rfl
    refine hK.out _ _ ⟨((cell_far (p := ⟨gb156, _, none⟩) NB164_156.out _).trans (((cell_far (p := ⟨gb156, _, none⟩) NB164_156.out _).trans (((cell_far (p := ⟨gb156, _, none⟩) NB164_156.out _).trans (((cell_far (p := ⟨gb156, _, none⟩) NB164_156.out _).trans (hHeld.1)))))))), ((cell_far (p := ⟨gb156, _, none⟩) NB164_156.out _).trans (((cell_far (p := ⟨gb156, _, none⟩) NB164_156.out _).trans (((cell_far (p := ⟨gb156, _, none⟩) NB164_156.out _).trans (((cell_far (p := ⟨gb156, _, none⟩) NB164_156.out _).trans (hHeld.2.1)))))))), ((cell_far (p := ⟨gb156, _, none⟩) NB164_156.out _).trans (((cell_far (p := ⟨gb156, _, none⟩) NB164_156.out _).trans (((cell_far (p := ⟨gb156, _, none⟩) NB164_156.out _).trans (((cell_far (p := ⟨gb156, _, none⟩) NB164_156.out _).trans (hHeld.2.2.1)))))))), ((cell_far (p := ⟨gb156, _, none⟩) NB164_156.out _).trans (((cell_far (p := ⟨gb156, _, none⟩) NB164_156.out _).trans (((cell_far (p := ⟨gb156, _, none⟩) NB164_156.out _).trans (((cell_far (p := ⟨gb156, _, none⟩) NB164_156.out _).trans (hHeld.2.2.2))))))))⟩ (fun hHeld => ?_)
    clear hK K
    refine pure_ (i := 4) (N := some 12) (v := ?_) (a' := ?_) #[true, true, true, true, true] rfl rfl (by kernel_rfl) (fun _ _ _ h => h) (Or.inl ⟨by rfl, ?_⟩) ?_ ?_
    rotate_left
    · intro w'
      go_simp
      with_reducible rfl
    rotate_left
    · simp only [Act.put, List.setIfInBounds_toArray, List.set_cons_zero, List.set_cons_succ, i64_w, i32_w]
      rfl
    refine done_ (by kernel_rfl) ?_
    try go_wp2
    refine bodyPost_ret (results_list (rs := [.tmp 10, .cell 11 29, .tmp 12]) rfl (by simp) (.tmp (.cell gb156 29 #[.bool t160, .bool t161, .bool t162, .bool a3] (0, 0) _ rfl (by (with_reducible repeat (first | refine blk_drewN ?_ _ | refine blk_drew ?_ | refine blk_alloc ?_ _)); refine blk_put (cs := #[.bool t160, .bool t161, .bool t162, .bool false]) ?_ 3 _ rfl; (with_reducible repeat (first | refine blk_drewN ?_ _ | refine blk_drew ?_ | refine blk_alloc ?_ _)); refine blk_put (cs := #[.bool t160, .bool t161, .bool false, .bool false]) ?_ 2 _ rfl; (with_reducible repeat (first | refine blk_drewN ?_ _ | refine blk_drew ?_ | refine blk_alloc ?_ _)); refine blk_put (cs := #[.bool t160, .bool false, .bool false, .bool false]) ?_ 1 _ rfl; (with_reducible repeat (first | refine blk_drewN ?_ _ | refine blk_drew ?_ | refine blk_alloc ?_ _)); refine blk_put (cs := #[.bool false, .bool false, .bool false, .bool false]) ?_ 0 _ rfl; (with_reducible repeat (first | refine blk_drewN ?_ _ | refine blk_drew ?_ | refine blk_alloc ?_ _)); exact BK156.out) Try.underlying29 rfl (by kernel_rfl) (.tmp .nil)))) rfl ?_
    exact ⟨by first | rfl | (simp [errW_none, errW_some] <;> rfl) | (simp [*, errW_none, errW_some] <;> rfl), by repeat (first | (with_reducible first | exact HB.out | apply below_alloc | apply pw_below_drewN | apply below_drew1 | refine below_set ?_ GE156.out | refine below_set ?_ GE164.out) | exact HB.out)⟩
  · replace c7 := Bool.eq_false_iff.mpr c7
    subst c7
    have H1 : (if a0 = 3 then ((bits_Sub.f 0 a1 false a4).bind fun bt166 => (some (bt166.1, bt166.2.1, bt166.2.2.1, bt166.2.2.2.1, bt166.2.2.2.2, true))) else (if a0 = 4 then ((bits_Add.f a1 1 false a4).bind fun bt171 => (some (bt171.1, bt171.2.1, bt171.2.2.1, bt171.2.2.2.1, bt171.2.2.2.2, true))) else (if a0 = 5 then ((bits_Sub.f a1 1 false a4).bind fun bt176 => (some (bt176.1, bt176.2.1, bt176.2.2.1, bt176.2.2.2.1, bt176.2.2.2.2, true))) else (if a0 = 6 then ((bits_Add.f a1 a2 false a4).bind fun bt181 => (some (bt181.1, bt181.2.1, bt181.2.2.1, bt181.2.2.2.1, bt181.2.2.2.2, true))) else (if a0 = 7 then ((bits_Sub.f a2 a1 false a4).bind fun bt186 => (some (bt186.1, bt186.2.1, bt186.2.2.1, bt186.2.2.2.1, bt186.2.2.2.2, true))) else (if a0 = 8 then ((bits_Add.f a1 a2 a3 a4).bind fun bt191 => (some (bt191.1, bt191.2.1, bt191.2.2.1, bt191.2.2.2.1, bt191.2.2.2.2, true))) else (if a0 = 9 then ((bits_Sub.f a2 a1 a3 a4).bind fun bt196 => (some (bt196.1, bt196.2.1, bt196.2.2.1, bt196.2.2.2.1, bt196.2.2.2.2, true))) else (if a0 = 10 then ((bits_Mul.f a1 a2 a4).bind fun bt201 => (some (bt201.1, bt201.2.1, bt201.2.2.1, bt201.2.2.2.1, bt201.2.2.2.2, true))) else (if a0 = 11 then ((bits_Div.f a2 a1 a4).bind fun bt206 => (some (bt206.1, bt206.2.1, bt206.2.2.1, bt206.2.2.2.1, bt206.2.2.2.2.1, bt206.2.2.2.2.2))) else (if a0 = 16 then ((bits_Mask.f a4).bind fun t212 => ((bits_Compare.f a1 a2 a4).bind fun bt213 => (some (Go.bits .and .u32 a1 t212, bt213.1, bt213.2.1, bt213.2.2.1, bt213.2.2.2, true)))) else (if a0 = 17 then ((bits_Mask.f a4).bind fun t217 => ((bits_Signs.f a1 a4).bind fun bt218 => (some (Go.bits .and .u32 a1 t217, bt218.1, bt218.2.1, bt218.2.2.1, bt218.2.2.2, true)))) else (some (0, false, false, false, false, false))))))))))))) = some (r1, r2, r3, r4, r5, r6) := by rw [if_neg (show ¬ (false = true) by decide)] at H; exact H
    clear H
    have H := H1
    clear H1
    by_cases c22 : a0 = 3
    · rw [if_pos c22] at H
      have c22b0 : (a0 == 3) = true := beq_iff_eq.mpr c22
      have c22b1 : (a0 != 3) = false := bne_eq_false_iff_eq.mpr c22
      clear c22
      replace H := Option.bind_eq_some_iff.mp H
      obtain ⟨⟨t166, t167, t168, t169, t170⟩, A230, H⟩ := H
      replace H : (some (t166, t167, t168, t169, t170, true)) = some (r1, r2, r3, r4, r5, r6) := H
      have A23 := Aside0.mk A230
      clear A230
      simp only [Option.some.injEq, Prod.mk.injEq] at H
      obtain ⟨rfl, rfl, rfl, rfl, rfl, rfl⟩ := H
      go_enter Try.func41, Try.ntmps41
      try go_wp2_with (first | ((with_reducible refine gate_dst (N := 11) rfl ?_); refine box_event ?hg (N := 11) ?hd (cs := #[.bool false, .bool false, .bool false, .bool false]) (t := 29) ?hr ?_; (case hd => rfl); (case hg => rfl); (case hr => first | (go_simp; done) | (go_simp; rfl)); intro gb156 hg w24 hbox hb; have n0_ := Aside0.mk (below_step (by repeat (first | (with_reducible first | exact HB.out | apply below_alloc | apply pw_below_drewN | apply below_drew1) | exact HB.out)) hb); have n1_ := Aside0.mk (hbox); have n2_ := Aside0.mk ((by rw [hg]; exact (below_size (by repeat (first | (with_reducible first | exact HB.out | apply below_alloc | apply pw_below_drewN | apply below_drew1) | exact HB.out))) : w.heap.size ≤ gb156)); have n3_ := Aside0.mk ((by rw [hg]; exact (below_size (by repeat (first | (with_reducible first | exact HB.out | apply below_alloc | apply pw_below_drewN | apply below_drew1) | exact HB.out))) : w.heap.size ≤ gb156)); clear HB; have HB := n0_; have BK156 := n1_; have GW156 := n2_; have GE156 := n3_; clear n0_ n1_ n2_ n3_; clear hb hbox hg) | ((with_reducible refine gate_callee (f := 43) rfl ?_); refine goesL_ (some 19) rfl rfl Try.func43 (by kernel_rfl) rfl #[.int .i64 a0] rfl (by (try simp only [List.map_toArray, List.map_cons, List.map_nil]); first | done | rfl | (simp only [List.length_drop, List.length_take]; rfl)) ?_; (with_reducible refine (alu_Logic.calls a0 false _ A6.out).mono ?_); rintro e w' ⟨rfl, ⟨nd, rfl⟩⟩; refine ⟨_, rfl, ?_⟩; (try (rw [drewN_self w24]; generalize hq_ : World.drewN w24 _ = w24; have n0_ : Aside0 (w24.heap[gb156]? = some (.cells #[.bool false, .bool false, .bool false, .bool false] 29 (0, 0))) := ⟨by rw [← hq_]; exact (by (with_reducible repeat (first | refine blk_drewN ?_ _ | refine blk_drew ?_ | refine blk_alloc ?_ _)); exact BK156.out)⟩; have n1_ : Aside0 (Below w.heap.size w w24) := ⟨by rw [← hq_]; exact (by repeat (first | (with_reducible first | exact HB.out | apply below_alloc | apply pw_below_drewN | apply below_drew1 | refine below_set ?_ GE156.out) | exact HB.out))⟩; clear BK156 HB hq_; have BK156 := n0_; have HB := n1_; clear n0_ n1_))) | ((with_reducible refine gate_dst (N := 16) rfl ?_); refine box_event ?hg (N := 16) ?hd (cs := #[.bool false, .bool false, .bool false, .bool false]) (t := 29) ?hr ?_; (case hd => rfl); (case hg => rfl); (case hr => first | (go_simp; done) | (go_simp; rfl)); intro gb165 hg w25 hbox hb; have n0_ := Aside0.mk (blk_below (g := gb156) (o := .cells #[.bool false, .bool false, .bool false, .bool false] 29 (0, 0)) (by (with_reducible repeat (first | refine blk_drewN ?_ _ | refine blk_drew ?_ | refine blk_alloc ?_ _)); exact BK156.out) hb); have n1_ := Aside0.mk (below_step (by repeat (first | (with_reducible first | exact HB.out | apply below_alloc | apply pw_below_drewN | apply below_drew1 | refine below_set ?_ GE156.out) | exact HB.out)) hb); have n2_ := Aside0.mk (hbox); have n3_ := Aside0.mk ((by rw [hg]; exact (below_size (by repeat (first | (with_reducible first | exact HB.out | apply below_alloc | apply pw_below_drewN | apply below_drew1 | refine below_set ?_ GE156.out) | exact HB.out))) : w.heap.size ≤ gb165)); have n4_ := Aside0.mk ((by rw [hg]; exact (below_size (by repeat (first | (with_reducible first | exact HB.out | apply below_alloc | apply pw_below_drewN | apply below_drew1 | refine below_set ?_ GE156.out) | exact HB.out))) : w.heap.size ≤ gb165)); have n5_ := Aside0.mk ((by rw [hg]; exact Nat.ne_of_lt (blk_lt (g := gb156) (o := .cells #[.bool false, .bool false, .bool false, .bool false] 29 (0, 0)) (by (with_reducible repeat (first | refine blk_drewN ?_ _ | refine blk_drew ?_ | refine blk_alloc ?_ _)); exact BK156.out)) : gb156 ≠ gb165)); have n6_ := Aside0.mk ((by rw [hg]; exact Nat.ne_of_gt (blk_lt (g := gb156) (o := .cells #[.bool false, .bool false, .bool false, .bool false] 29 (0, 0)) (by (with_reducible repeat (first | refine blk_drewN ?_ _ | refine blk_drew ?_ | refine blk_alloc ?_ _)); exact BK156.out)) : gb165 ≠ gb156)); clear BK156; clear HB; have BK156 := n0_; have HB := n1_; have BK165 := n2_; have GW165 := n3_; have GE165 := n4_; have NB156_165 := n5_; have NB165_156 := n6_; clear n0_ n1_ n2_ n3_ n4_ n5_ n6_; clear hb hbox hg) | ((with_reducible refine gate_callee (f := 23) rfl ?_); refine goesL_ (some 41) rfl rfl Try.func23 (by kernel_rfl) rfl #[.int .u32 0, .int .u32 a1, .bool false, .int .i64 a4] rfl (by (try simp only [List.map_toArray, List.map_cons, List.map_nil]); first | done | rfl | (simp only [List.length_drop, List.length_take]; rfl)) ?_; (with_reducible refine (bits_Sub.calls 0 a1 false a4 t166 t167 t168 t169 t170 _ A23.out).mono ?_); rintro e w26 ⟨rfl, hb⟩; refine ⟨_, rfl, ?_⟩; have n0_ := Aside0.mk (blk_below (g := gb156) (o := .cells #[.bool false, .bool false, .bool false, .bool false] 29 (0, 0)) (by (with_reducible repeat (first | refine blk_drewN ?_ _ | refine blk_drew ?_ | refine blk_alloc ?_ _)); exact BK156.out) hb); have n1_ := Aside0.mk (blk_below (g := gb165) (o := .cells #[.bool false, .bool false, .bool false, .bool false] 29 (0, 0)) (by (with_reducible repeat (first | refine blk_drewN ?_ _ | refine blk_drew ?_ | refine blk_alloc ?_ _)); exact BK165.out) hb); have n2_ := Aside0.mk (below_step (by repeat (first | (with_reducible first | exact HB.out | apply below_alloc | apply pw_below_drewN | apply below_drew1 | refine below_set ?_ GE156.out | refine below_set ?_ GE165.out) | exact HB.out)) hb); clear BK156; clear BK165; clear HB; have BK156 := n0_; have BK165 := n1_; have HB := n2_; clear n0_ n1_ n2_; (try clear hb); (try clear hb2); (try clear hk); (try clear hi); have hnb27 := NB165_156.out; have hnc27 := NB156_165.out; have hcz28_0 : w26.cell? ⟨gb165, 0, none⟩ = some (.bool false) := (blk_cell BK165.out 0).trans rfl; have hcz28_1 : w26.cell? ⟨gb165, 1, none⟩ = some (.bool false) := (blk_cell BK165.out 1).trans rfl; have hcz28_2 : w26.cell? ⟨gb165, 2, none⟩ = some (.bool false) := (blk_cell BK165.out 2).trans rfl; have hcz28_3 : w26.cell? ⟨gb165, 3, none⟩ = some (.bool false) := (blk_cell BK165.out 3).trans rfl; have hfz28_0 := blk_frozen BK165.out 0; have hfz28_1 := blk_frozen BK165.out 1; have hfz28_2 := blk_frozen BK165.out 2; have hfz28_3 := blk_frozen BK165.out 3))
      have n0_ : Aside0 (((((w26.setCell ⟨gb165, 0, none⟩ (.bool t167)).setCell ⟨gb165, 1, none⟩ (.bool t168)).setCell ⟨gb165, 2, none⟩ (.bool t169)).setCell ⟨gb165, 3, none⟩ (.bool t170)).heap[gb156]? = some (.cells #[.bool false, .bool false, .bool false, .bool false] 29 (0, 0))) := ⟨by (with_reducible repeat (first | refine blk_drewN ?_ _ | refine blk_drew ?_ | refine blk_alloc ?_ _)); refine blk_far ?_ NB156_165.out _; (with_reducible repeat (first | refine blk_drewN ?_ _ | refine blk_drew ?_ | refine blk_alloc ?_ _)); refine blk_far ?_ NB156_165.out _; (with_reducible repeat (first | refine blk_drewN ?_ _ | refine blk_drew ?_ | refine blk_alloc ?_ _)); refine blk_far ?_ NB156_165.out _; (with_reducible repeat (first | refine blk_drewN ?_ _ | refine blk_drew ?_ | refine blk_alloc ?_ _)); refine blk_far ?_ NB156_165.out _; (with_reducible repeat (first | refine blk_drewN ?_ _ | refine blk_drew ?_ | refine blk_alloc ?_ _)); exact BK156.out⟩
      have n1_ : Aside0 (((((w26.setCell ⟨gb165, 0, none⟩ (.bool t167)).setCell ⟨gb165, 1, none⟩ (.bool t168)).setCell ⟨gb165, 2, none⟩ (.bool t169)).setCell ⟨gb165, 3, none⟩ (.bool t170)).heap[gb165]? = some (.cells #[.bool t167, .bool t168, .bool t169, .bool t170] 29 (0, 0))) := ⟨by (with_reducible repeat (first | refine blk_drewN ?_ _ | refine blk_drew ?_ | refine blk_alloc ?_ _)); refine blk_put (cs := #[.bool t167, .bool t168, .bool t169, .bool false]) ?_ 3 _ rfl; (with_reducible repeat (first | refine blk_drewN ?_ _ | refine blk_drew ?_ | refine blk_alloc ?_ _)); refine blk_put (cs := #[.bool t167, .bool t168, .bool false, .bool false]) ?_ 2 _ rfl; (with_reducible repeat (first | refine blk_drewN ?_ _ | refine blk_drew ?_ | refine blk_alloc ?_ _)); refine blk_put (cs := #[.bool t167, .bool false, .bool false, .bool false]) ?_ 1 _ rfl; (with_reducible repeat (first | refine blk_drewN ?_ _ | refine blk_drew ?_ | refine blk_alloc ?_ _)); refine blk_put (cs := #[.bool false, .bool false, .bool false, .bool false]) ?_ 0 _ rfl; (with_reducible repeat (first | refine blk_drewN ?_ _ | refine blk_drew ?_ | refine blk_alloc ?_ _)); exact BK165.out⟩
      have n2_ : Aside0 (Below w.heap.size w ((((w26.setCell ⟨gb165, 0, none⟩ (.bool t167)).setCell ⟨gb165, 1, none⟩ (.bool t168)).setCell ⟨gb165, 2, none⟩ (.bool t169)).setCell ⟨gb165, 3, none⟩ (.bool t170))) := ⟨by repeat (first | (with_reducible first | exact HB.out | apply below_alloc | apply pw_below_drewN | apply below_drew1 | refine below_set ?_ GE156.out | refine below_set ?_ GE165.out) | exact HB.out)⟩
      (try clear BK156)
      (try clear BK165)
      (try clear HB)
      (repeat rw [own_setCell_drewN]); (repeat rw [World.drewN_drewN])
      generalize ((((w26.setCell ⟨gb165, 0, none⟩ (.bool t167)).setCell ⟨gb165, 1, none⟩ (.bool t168)).setCell ⟨gb165, 2, none⟩ (.bool t169)).setCell ⟨gb165, 3, none⟩ (.bool t170)) = w29 at n0_ n1_ n2_ ⊢
      have BK156 := n0_
      have BK165 := n1_
      have HB := n2_
      clear n0_ n1_ n2_
      have n0_ := Aside0.mk (blk_drew BK156.out)
      have n1_ := Aside0.mk (blk_drew BK165.out)
      have n2_ := Aside0.mk (below_drew1 HB.out)
      clear BK156
      clear BK165
      clear HB
      have BK156 := n0_
      have BK165 := n1_
      have HB := n2_
      clear n0_ n1_ n2_
      refine start_ (n := 6) (S := fun w' => w'.cell? ⟨gb165, 0, none⟩ = some (.bool t167) ∧ w'.cell? ⟨gb165, 1, none⟩ = some (.bool t168) ∧ w'.cell? ⟨gb165, 2, none⟩ = some (.bool t169) ∧ w'.cell? ⟨gb165, 3, none⟩ = some (.bool t170)) (ds := []) #[false, false, false, false, false, false] (by kernel_rfl) rfl rfl ⟨(blk_cell BK165.out 0).trans rfl, (blk_cell BK165.out 1).trans rfl, (blk_cell BK165.out 2).trans rfl, (blk_cell BK165.out 3).trans rfl⟩ (fun hHeld => ?_)
      generalize w29.drew = w30 at BK156 BK165 HB hHeld ⊢
      refine pure_ (i := 0) (N := some 136) (v := ?_) (a' := ?_) #[true, false, false, false, false, false] rfl rfl (by kernel_rfl) (fun _ _ _ h => h) (Or.inl ⟨by rfl, ?_⟩) ?_ ?_
      rotate_left
      · intro w'
        go_simp
        with_reducible rfl
      rotate_left
      · simp only [Act.put, List.setIfInBounds_toArray, List.set_cons_zero, List.set_cons_succ, i64_w, i32_w]
        rfl
      refine pure_ (i := 2) (N := some 138) (v := ?_) (a' := ?_) #[true, false, true, false, false, false] rfl rfl (by kernel_rfl) (fun _ _ _ h => h) (Or.inl ⟨by rfl, ?_⟩) ?_ ?_
      rotate_left
      · intro w'
        go_simp
        with_reducible rfl
      rotate_left
      · simp only [Act.put, List.setIfInBounds_toArray, List.set_cons_zero, List.set_cons_succ, i64_w, i32_w]
        rfl
      refine pure_ (i := 3) (N := some 10) (v := ?_) (a' := ?_) #[true, false, true, true, false, false] rfl rfl (by kernel_rfl) (fun _ _ _ h => h) (Or.inl ⟨by rfl, ?_⟩) ?_ ?_
      rotate_left
      · intro w'
        go_simp
        with_reducible rfl
      rotate_left
      · simp only [Act.put, List.setIfInBounds_toArray, List.set_cons_zero, List.set_cons_succ, i64_w, i32_w]
        rfl
      refine take_ (i := 1) (N := some 137) (v := ?_) (a' := ?_) #[true, true, true, true, false, false] rfl rfl (by kernel_rfl) (fun _ _ _ h => h) (Or.inl ⟨by rfl, ?_⟩) hHeld ?_ ?_
      rotate_left
      · rintro w' ⟨s0, s1, s2, s3⟩
        go_simp
        with_reducible rfl
      rotate_left
      · simp only [Act.put, List.setIfInBounds_toArray, List.set_cons_zero, List.set_cons_succ, i64_w, i32_w]
        rfl
      refine one_ (i := 4) (N := none) #[true, true, true, true, true, false] rfl rfl (by kernel_rfl) (by decide) (fun K hK => ?_)
      have hs31 : w30.cell? ⟨gb156, 0, none⟩ = some (.bool false) := (blk_cell BK156.out 0).trans rfl
      have hfs31 := blk_frozen BK156.out 0
      have hns31_1 := NB165_156.out
      have hms31_1 := NB156_165.out
      have hs32 : w30.cell? ⟨gb156, 1, none⟩ = some (.bool false) := (blk_cell BK156.out 1).trans rfl
      have hfs32 := blk_frozen BK156.out 1
      have hns32_1 := NB165_156.out
      have hms32_1 := NB156_165.out
      have hs33 : w30.cell? ⟨gb156, 2, none⟩ = some (.bool false) := (blk_cell BK156.out 2).trans rfl
      have hfs33 := blk_frozen BK156.out 2
      have hns33_1 := NB165_156.out
      have hms33_1 := NB156_165.out
      have hs34 : w30.cell? ⟨gb156, 3, none⟩ = some (.bool false) := (blk_cell BK156.out 3).trans rfl
      have hfs34 := blk_frozen BK156.out 3
      have hns34_1 := NB165_156.out
      have hms34_1 := NB156_165.out
      refine skip_ (w1 := ?_) (by rfl) rfl ?_ ?_
      rotate_left
      · go_simp
        rfl
      refine hK.out _ _ ⟨((cell_far (p := ⟨gb156, _, none⟩) NB165_156.out _).trans (((cell_far (p := ⟨gb156, _, none⟩) NB165_156.out _).trans (((cell_far (p := ⟨gb156, _, none⟩) NB165_156.out _).trans (((cell_far (p := ⟨gb156, _, none⟩) NB165_156.out _).trans (hHeld.1)))))))), ((cell_far (p := ⟨gb156, _, none⟩) NB165_156.out _).trans (((cell_far (p := ⟨gb156, _, none⟩) NB165_156.out _).trans (((cell_far (p := ⟨gb156, _, none⟩) NB165_156.out _).trans (((cell_far (p := ⟨gb156, _, none⟩) NB165_156.out _).trans (hHeld.2.1)))))))), ((cell_far (p := ⟨gb156, _, none⟩) NB165_156.out _).trans (((cell_far (p := ⟨gb156, _, none⟩) NB165_156.out _).trans (((cell_far (p := ⟨gb156, _, none⟩) NB165_156.out _).trans (((cell_far (p := ⟨gb156, _, none⟩) NB165_156.out _).trans (hHeld.2.2.1)))))))), ((cell_far (p := ⟨gb156, _, none⟩) NB165_156.out _).trans (((cell_far (p := ⟨gb156, _, none⟩) NB165_156.out _).trans (((cell_far (p := ⟨gb156, _, none⟩) NB165_156.out _).trans (((cell_far (p := ⟨gb156, _, none⟩) NB165_156.out _).trans (hHeld.2.2.2))))))))⟩ (fun hHeld => ?_)
      clear hK K
      refine pure_ (i := 5) (N := some 12) (v := ?_) (a' := ?_) #[true, true, true, true, true, true] rfl rfl (by kernel_rfl) (fun _ _ _ h => h) (Or.inl ⟨by rfl, ?_⟩) ?_ ?_
      rotate_left
      · intro w'
        go_simp
        with_reducible rfl
      rotate_left
      · simp only [Act.put, List.setIfInBounds_toArray, List.set_cons_zero, List.set_cons_succ, i64_w, i32_w]
        rfl
      refine done_ (by kernel_rfl) ?_
      try go_wp2
      refine bodyPost_ret (results_list (rs := [.tmp 10, .cell 11 29, .tmp 12]) rfl (by simp) (.tmp (.cell gb156 29 #[.bool t167, .bool t168, .bool t169, .bool t170] (0, 0) _ rfl (by (with_reducible repeat (first | refine blk_drewN ?_ _ | refine blk_drew ?_ | refine blk_alloc ?_ _)); refine blk_put (cs := #[.bool t167, .bool t168, .bool t169, .bool false]) ?_ 3 _ rfl; (with_reducible repeat (first | refine blk_drewN ?_ _ | refine blk_drew ?_ | refine blk_alloc ?_ _)); refine blk_put (cs := #[.bool t167, .bool t168, .bool false, .bool false]) ?_ 2 _ rfl; (with_reducible repeat (first | refine blk_drewN ?_ _ | refine blk_drew ?_ | refine blk_alloc ?_ _)); refine blk_put (cs := #[.bool t167, .bool false, .bool false, .bool false]) ?_ 1 _ rfl; (with_reducible repeat (first | refine blk_drewN ?_ _ | refine blk_drew ?_ | refine blk_alloc ?_ _)); refine blk_put (cs := #[.bool false, .bool false, .bool false, .bool false]) ?_ 0 _ rfl; (with_reducible repeat (first | refine blk_drewN ?_ _ | refine blk_drew ?_ | refine blk_alloc ?_ _)); exact BK156.out) Try.underlying29 rfl (by kernel_rfl) (.tmp .nil)))) rfl ?_
      exact ⟨by first | rfl | (simp [errW_none, errW_some] <;> rfl) | (simp [*, errW_none, errW_some] <;> rfl), by repeat (first | (with_reducible first | exact HB.out | apply below_alloc | apply pw_below_drewN | apply below_drew1 | refine below_set ?_ GE156.out | refine below_set ?_ GE165.out) | exact HB.out)⟩
    · rw [if_neg c22] at H
      have c22b0 : (a0 == 3) = false := beq_eq_false_iff_ne.mpr c22
      have c22b1 : (a0 != 3) = true := bne_iff_ne.mpr c22
      by_cases c35 : a0 = 4
      · rw [if_pos c35] at H
        have c35b0 : (a0 == 4) = true := beq_iff_eq.mpr c35
        have c35b1 : (a0 != 4) = false := bne_eq_false_iff_eq.mpr c35
        clear c35
        replace H := Option.bind_eq_some_iff.mp H
        obtain ⟨⟨t171, t172, t173, t174, t175⟩, A360, H⟩ := H
        replace H : (some (t171, t172, t173, t174, t175, true)) = some (r1, r2, r3, r4, r5, r6) := H
        have A36 := Aside0.mk A360
        clear A360
        simp only [Option.some.injEq, Prod.mk.injEq] at H
        obtain ⟨rfl, rfl, rfl, rfl, rfl, rfl⟩ := H
        go_enter Try.func41, Try.ntmps41
        try go_wp2_with (first | ((with_reducible refine gate_dst (N := 11) rfl ?_); refine box_event ?hg (N := 11) ?hd (cs := #[.bool false, .bool false, .bool false, .bool false]) (t := 29) ?hr ?_; (case hd => rfl); (case hg => rfl); (case hr => first | (go_simp; done) | (go_simp; rfl)); intro gb156 hg w37 hbox hb; have n0_ := Aside0.mk (below_step (by repeat (first | (with_reducible first | exact HB.out | apply below_alloc | apply pw_below_drewN | apply below_drew1) | exact HB.out)) hb); have n1_ := Aside0.mk (hbox); have n2_ := Aside0.mk ((by rw [hg]; exact (below_size (by repeat (first | (with_reducible first | exact HB.out | apply below_alloc | apply pw_below_drewN | apply below_drew1) | exact HB.out))) : w.heap.size ≤ gb156)); have n3_ := Aside0.mk ((by rw [hg]; exact (below_size (by repeat (first | (with_reducible first | exact HB.out | apply below_alloc | apply pw_below_drewN | apply below_drew1) | exact HB.out))) : w.heap.size ≤ gb156)); clear HB; have HB := n0_; have BK156 := n1_; have GW156 := n2_; have GE156 := n3_; clear n0_ n1_ n2_ n3_; clear hb hbox hg) | ((with_reducible refine gate_callee (f := 43) rfl ?_); refine goesL_ (some 19) rfl rfl Try.func43 (by kernel_rfl) rfl #[.int .i64 a0] rfl (by (try simp only [List.map_toArray, List.map_cons, List.map_nil]); first | done | rfl | (simp only [List.length_drop, List.length_take]; rfl)) ?_; (with_reducible refine (alu_Logic.calls a0 false _ A6.out).mono ?_); rintro e w' ⟨rfl, ⟨nd, rfl⟩⟩; refine ⟨_, rfl, ?_⟩; (try (rw [drewN_self w37]; generalize hq_ : World.drewN w37 _ = w37; have n0_ : Aside0 (w37.heap[gb156]? = some (.cells #[.bool false, .bool false, .bool false, .bool false] 29 (0, 0))) := ⟨by rw [← hq_]; exact (by (with_reducible repeat (first | refine blk_drewN ?_ _ | refine blk_drew ?_ | refine blk_alloc ?_ _)); exact BK156.out)⟩; have n1_ : Aside0 (Below w.heap.size w w37) := ⟨by rw [← hq_]; exact (by repeat (first | (with_reducible first | exact HB.out | apply below_alloc | apply pw_below_drewN | apply below_drew1 | refine below_set ?_ GE156.out) | exact HB.out))⟩; clear BK156 HB hq_; have BK156 := n0_; have HB := n1_; clear n0_ n1_))) | ((with_reducible refine gate_dst (N := 16) rfl ?_); refine box_event ?hg (N := 16) ?hd (cs := #[.bool false, .bool false, .bool false, .bool false]) (t := 29) ?hr ?_; (case hd => rfl); (case hg => rfl); (case hr => first | (go_simp; done) | (go_simp; rfl)); intro gb165 hg w38 hbox hb; have n0_ := Aside0.mk (blk_below (g := gb156) (o := .cells #[.bool false, .bool false, .bool false, .bool false] 29 (0, 0)) (by (with_reducible repeat (first | refine blk_drewN ?_ _ | refine blk_drew ?_ | refine blk_alloc ?_ _)); exact BK156.out) hb); have n1_ := Aside0.mk (below_step (by repeat (first | (with_reducible first | exact HB.out | apply below_alloc | apply pw_below_drewN | apply below_drew1 | refine below_set ?_ GE156.out) | exact HB.out)) hb); have n2_ := Aside0.mk (hbox); have n3_ := Aside0.mk ((by rw [hg]; exact (below_size (by repeat (first | (with_reducible first | exact HB.out | apply below_alloc | apply pw_below_drewN | apply below_drew1 | refine below_set ?_ GE156.out) | exact HB.out))) : w.heap.size ≤ gb165)); have n4_ := Aside0.mk ((by rw [hg]; exact (below_size (by repeat (first | (with_reducible first | exact HB.out | apply below_alloc | apply pw_below_drewN | apply below_drew1 | refine below_set ?_ GE156.out) | exact HB.out))) : w.heap.size ≤ gb165)); have n5_ := Aside0.mk ((by rw [hg]; exact Nat.ne_of_lt (blk_lt (g := gb156) (o := .cells #[.bool false, .bool false, .bool false, .bool false] 29 (0, 0)) (by (with_reducible repeat (first | refine blk_drewN ?_ _ | refine blk_drew ?_ | refine blk_alloc ?_ _)); exact BK156.out)) : gb156 ≠ gb165)); have n6_ := Aside0.mk ((by rw [hg]; exact Nat.ne_of_gt (blk_lt (g := gb156) (o := .cells #[.bool false, .bool false, .bool false, .bool false] 29 (0, 0)) (by (with_reducible repeat (first | refine blk_drewN ?_ _ | refine blk_drew ?_ | refine blk_alloc ?_ _)); exact BK156.out)) : gb165 ≠ gb156)); clear BK156; clear HB; have BK156 := n0_; have HB := n1_; have BK165 := n2_; have GW165 := n3_; have GE165 := n4_; have NB156_165 := n5_; have NB165_156 := n6_; clear n0_ n1_ n2_ n3_ n4_ n5_ n6_; clear hb hbox hg) | ((with_reducible refine gate_callee (f := 21) rfl ?_); refine goesL_ (some 49) rfl rfl Try.func21 (by kernel_rfl) rfl #[.int .u32 a1, .int .u32 1, .bool false, .int .i64 a4] rfl (by (try simp only [List.map_toArray, List.map_cons, List.map_nil]); first | done | rfl | (simp only [List.length_drop, List.length_take]; rfl)) ?_; (with_reducible refine (bits_Add.calls a1 1 false a4 t171 t172 t173 t174 t175 _ A36.out).mono ?_); rintro e w39 ⟨rfl, hb⟩; refine ⟨_, rfl, ?_⟩; have n0_ := Aside0.mk (blk_below (g := gb156) (o := .cells #[.bool false, .bool false, .bool false, .bool false] 29 (0, 0)) (by (with_reducible repeat (first | refine blk_drewN ?_ _ | refine blk_drew ?_ | refine blk_alloc ?_ _)); exact BK156.out) hb); have n1_ := Aside0.mk (blk_below (g := gb165) (o := .cells #[.bool false, .bool false, .bool false, .bool false] 29 (0, 0)) (by (with_reducible repeat (first | refine blk_drewN ?_ _ | refine blk_drew ?_ | refine blk_alloc ?_ _)); exact BK165.out) hb); have n2_ := Aside0.mk (below_step (by repeat (first | (with_reducible first | exact HB.out | apply below_alloc | apply pw_below_drewN | apply below_drew1 | refine below_set ?_ GE156.out | refine below_set ?_ GE165.out) | exact HB.out)) hb); clear BK156; clear BK165; clear HB; have BK156 := n0_; have BK165 := n1_; have HB := n2_; clear n0_ n1_ n2_; (try clear hb); (try clear hb2); (try clear hk); (try clear hi); have hnb40 := NB165_156.out; have hnc40 := NB156_165.out; have hcz41_0 : w39.cell? ⟨gb165, 0, none⟩ = some (.bool false) := (blk_cell BK165.out 0).trans rfl; have hcz41_1 : w39.cell? ⟨gb165, 1, none⟩ = some (.bool false) := (blk_cell BK165.out 1).trans rfl; have hcz41_2 : w39.cell? ⟨gb165, 2, none⟩ = some (.bool false) := (blk_cell BK165.out 2).trans rfl; have hcz41_3 : w39.cell? ⟨gb165, 3, none⟩ = some (.bool false) := (blk_cell BK165.out 3).trans rfl; have hfz41_0 := blk_frozen BK165.out 0; have hfz41_1 := blk_frozen BK165.out 1; have hfz41_2 := blk_frozen BK165.out 2; have hfz41_3 := blk_frozen BK165.out 3))
        have n0_ : Aside0 (((((w39.setCell ⟨gb165, 0, none⟩ (.bool t172)).setCell ⟨gb165, 1, none⟩ (.bool t173)).setCell ⟨gb165, 2, none⟩ (.bool t174)).setCell ⟨gb165, 3, none⟩ (.bool t175)).heap[gb156]? = some (.cells #[.bool false, .bool false, .bool false, .bool false] 29 (0, 0))) := ⟨by (with_reducible repeat (first | refine blk_drewN ?_ _ | refine blk_drew ?_ | refine blk_alloc ?_ _)); refine blk_far ?_ NB156_165.out _; (with_reducible repeat (first | refine blk_drewN ?_ _ | refine blk_drew ?_ | refine blk_alloc ?_ _)); refine blk_far ?_ NB156_165.out _; (with_reducible repeat (first | refine blk_drewN ?_ _ | refine blk_drew ?_ | refine blk_alloc ?_ _)); refine blk_far ?_ NB156_165.out _; (with_reducible repeat (first | refine blk_drewN ?_ _ | refine blk_drew ?_ | refine blk_alloc ?_ _)); refine blk_far ?_ NB156_165.out _; (with_reducible repeat (first | refine blk_drewN ?_ _ | refine blk_drew ?_ | refine blk_alloc ?_ _)); exact BK156.out⟩
        have n1_ : Aside0 (((((w39.setCell ⟨gb165, 0, none⟩ (.bool t172)).setCell ⟨gb165, 1, none⟩ (.bool t173)).setCell ⟨gb165, 2, none⟩ (.bool t174)).setCell ⟨gb165, 3, none⟩ (.bool t175)).heap[gb165]? = some (.cells #[.bool t172, .bool t173, .bool t174, .bool t175] 29 (0, 0))) := ⟨by (with_reducible repeat (first | refine blk_drewN ?_ _ | refine blk_drew ?_ | refine blk_alloc ?_ _)); refine blk_put (cs := #[.bool t172, .bool t173, .bool t174, .bool false]) ?_ 3 _ rfl; (with_reducible repeat (first | refine blk_drewN ?_ _ | refine blk_drew ?_ | refine blk_alloc ?_ _)); refine blk_put (cs := #[.bool t172, .bool t173, .bool false, .bool false]) ?_ 2 _ rfl; (with_reducible repeat (first | refine blk_drewN ?_ _ | refine blk_drew ?_ | refine blk_alloc ?_ _)); refine blk_put (cs := #[.bool t172, .bool false, .bool false, .bool false]) ?_ 1 _ rfl; (with_reducible repeat (first | refine blk_drewN ?_ _ | refine blk_drew ?_ | refine blk_alloc ?_ _)); refine blk_put (cs := #[.bool false, .bool false, .bool false, .bool false]) ?_ 0 _ rfl; (with_reducible repeat (first | refine blk_drewN ?_ _ | refine blk_drew ?_ | refine blk_alloc ?_ _)); exact BK165.out⟩
        have n2_ : Aside0 (Below w.heap.size w ((((w39.setCell ⟨gb165, 0, none⟩ (.bool t172)).setCell ⟨gb165, 1, none⟩ (.bool t173)).setCell ⟨gb165, 2, none⟩ (.bool t174)).setCell ⟨gb165, 3, none⟩ (.bool t175))) := ⟨by repeat (first | (with_reducible first | exact HB.out | apply below_alloc | apply pw_below_drewN | apply below_drew1 | refine below_set ?_ GE156.out | refine below_set ?_ GE165.out) | exact HB.out)⟩
        (try clear BK156)
        (try clear BK165)
        (try clear HB)
        (repeat rw [own_setCell_drewN]); (repeat rw [World.drewN_drewN])
        generalize ((((w39.setCell ⟨gb165, 0, none⟩ (.bool t172)).setCell ⟨gb165, 1, none⟩ (.bool t173)).setCell ⟨gb165, 2, none⟩ (.bool t174)).setCell ⟨gb165, 3, none⟩ (.bool t175)) = w42 at n0_ n1_ n2_ ⊢
        have BK156 := n0_
        have BK165 := n1_
        have HB := n2_
        clear n0_ n1_ n2_
        have n0_ := Aside0.mk (blk_drew BK156.out)
        have n1_ := Aside0.mk (blk_drew BK165.out)
        have n2_ := Aside0.mk (below_drew1 HB.out)
        clear BK156
        clear BK165
        clear HB
        have BK156 := n0_
        have BK165 := n1_
        have HB := n2_
        clear n0_ n1_ n2_
        refine start_ (n := 6) (S := fun w' => w'.cell? ⟨gb165, 0, none⟩ = some (.bool t172) ∧ w'.cell? ⟨gb165, 1, none⟩ = some (.bool t173) ∧ w'.cell? ⟨gb165, 2, none⟩ = some (.bool t174) ∧ w'.cell? ⟨gb165, 3, none⟩ = some (.bool t175)) (ds := []) #[false, false, false, false, false, false] (by kernel_rfl) rfl rfl ⟨(blk_cell BK165.out 0).trans rfl, (blk_cell BK165.out 1).trans rfl, (blk_cell BK165.out 2).trans rfl, (blk_cell BK165.out 3).trans rfl⟩ (fun hHeld => ?_)
        generalize w42.drew = w43 at BK156 BK165 HB hHeld ⊢
        refine pure_ (i := 0) (N := some 136) (v := ?_) (a' := ?_) #[true, false, false, false, false, false] rfl rfl (by kernel_rfl) (fun _ _ _ h => h) (Or.inl ⟨by rfl, ?_⟩) ?_ ?_
        rotate_left
        · intro w'
          go_simp
          with_reducible rfl
        rotate_left
        · simp only [Act.put, List.setIfInBounds_toArray, List.set_cons_zero, List.set_cons_succ, i64_w, i32_w]
          rfl
        refine pure_ (i := 2) (N := some 138) (v := ?_) (a' := ?_) #[true, false, true, false, false, false] rfl rfl (by kernel_rfl) (fun _ _ _ h => h) (Or.inl ⟨by rfl, ?_⟩) ?_ ?_
        rotate_left
        · intro w'
          go_simp
          with_reducible rfl
        rotate_left
        · simp only [Act.put, List.setIfInBounds_toArray, List.set_cons_zero, List.set_cons_succ, i64_w, i32_w]
          rfl
        refine pure_ (i := 3) (N := some 10) (v := ?_) (a' := ?_) #[true, false, true, true, false, false] rfl rfl (by kernel_rfl) (fun _ _ _ h => h) (Or.inl ⟨by rfl, ?_⟩) ?_ ?_
        rotate_left
        · intro w'
          go_simp
          with_reducible rfl
        rotate_left
        · simp only [Act.put, List.setIfInBounds_toArray, List.set_cons_zero, List.set_cons_succ, i64_w, i32_w]
          rfl
        refine take_ (i := 1) (N := some 137) (v := ?_) (a' := ?_) #[true, true, true, true, false, false] rfl rfl (by kernel_rfl) (fun _ _ _ h => h) (Or.inl ⟨by rfl, ?_⟩) hHeld ?_ ?_
        rotate_left
        · rintro w' ⟨s0, s1, s2, s3⟩
          go_simp
          with_reducible rfl
        rotate_left
        · simp only [Act.put, List.setIfInBounds_toArray, List.set_cons_zero, List.set_cons_succ, i64_w, i32_w]
          rfl
        refine one_ (i := 4) (N := none) #[true, true, true, true, true, false] rfl rfl (by kernel_rfl) (by decide) (fun K hK => ?_)
        have hs44 : w43.cell? ⟨gb156, 0, none⟩ = some (.bool false) := (blk_cell BK156.out 0).trans rfl
        have hfs44 := blk_frozen BK156.out 0
        have hns44_1 := NB165_156.out
        have hms44_1 := NB156_165.out
        have hs45 : w43.cell? ⟨gb156, 1, none⟩ = some (.bool false) := (blk_cell BK156.out 1).trans rfl
        have hfs45 := blk_frozen BK156.out 1
        have hns45_1 := NB165_156.out
        have hms45_1 := NB156_165.out
        have hs46 : w43.cell? ⟨gb156, 2, none⟩ = some (.bool false) := (blk_cell BK156.out 2).trans rfl
        have hfs46 := blk_frozen BK156.out 2
        have hns46_1 := NB165_156.out
        have hms46_1 := NB156_165.out
        have hs47 : w43.cell? ⟨gb156, 3, none⟩ = some (.bool false) := (blk_cell BK156.out 3).trans rfl
        have hfs47 := blk_frozen BK156.out 3
        have hns47_1 := NB165_156.out
        have hms47_1 := NB156_165.out
        refine skip_ (w1 := ?_) (by rfl) rfl ?_ ?_
        rotate_left
        · go_simp
          rfl
        refine hK.out _ _ ⟨((cell_far (p := ⟨gb156, _, none⟩) NB165_156.out _).trans (((cell_far (p := ⟨gb156, _, none⟩) NB165_156.out _).trans (((cell_far (p := ⟨gb156, _, none⟩) NB165_156.out _).trans (((cell_far (p := ⟨gb156, _, none⟩) NB165_156.out _).trans (hHeld.1)))))))), ((cell_far (p := ⟨gb156, _, none⟩) NB165_156.out _).trans (((cell_far (p := ⟨gb156, _, none⟩) NB165_156.out _).trans (((cell_far (p := ⟨gb156, _, none⟩) NB165_156.out _).trans (((cell_far (p := ⟨gb156, _, none⟩) NB165_156.out _).trans (hHeld.2.1)))))))), ((cell_far (p := ⟨gb156, _, none⟩) NB165_156.out _).trans (((cell_far (p := ⟨gb156, _, none⟩) NB165_156.out _).trans (((cell_far (p := ⟨gb156, _, none⟩) NB165_156.out _).trans (((cell_far (p := ⟨gb156, _, none⟩) NB165_156.out _).trans (hHeld.2.2.1)))))))), ((cell_far (p := ⟨gb156, _, none⟩) NB165_156.out _).trans (((cell_far (p := ⟨gb156, _, none⟩) NB165_156.out _).trans (((cell_far (p := ⟨gb156, _, none⟩) NB165_156.out _).trans (((cell_far (p := ⟨gb156, _, none⟩) NB165_156.out _).trans (hHeld.2.2.2))))))))⟩ (fun hHeld => ?_)
        clear hK K
        refine pure_ (i := 5) (N := some 12) (v := ?_) (a' := ?_) #[true, true, true, true, true, true] rfl rfl (by kernel_rfl) (fun _ _ _ h => h) (Or.inl ⟨by rfl, ?_⟩) ?_ ?_
        rotate_left
        · intro w'
          go_simp
          with_reducible rfl
        rotate_left
        · simp only [Act.put, List.setIfInBounds_toArray, List.set_cons_zero, List.set_cons_succ, i64_w, i32_w]
          rfl
        refine done_ (by kernel_rfl) ?_
        try go_wp2
        refine bodyPost_ret (results_list (rs := [.tmp 10, .cell 11 29, .tmp 12]) rfl (by simp) (.tmp (.cell gb156 29 #[.bool t172, .bool t173, .bool t174, .bool t175] (0, 0) _ rfl (by (with_reducible repeat (first | refine blk_drewN ?_ _ | refine blk_drew ?_ | refine blk_alloc ?_ _)); refine blk_put (cs := #[.bool t172, .bool t173, .bool t174, .bool false]) ?_ 3 _ rfl; (with_reducible repeat (first | refine blk_drewN ?_ _ | refine blk_drew ?_ | refine blk_alloc ?_ _)); refine blk_put (cs := #[.bool t172, .bool t173, .bool false, .bool false]) ?_ 2 _ rfl; (with_reducible repeat (first | refine blk_drewN ?_ _ | refine blk_drew ?_ | refine blk_alloc ?_ _)); refine blk_put (cs := #[.bool t172, .bool false, .bool false, .bool false]) ?_ 1 _ rfl; (with_reducible repeat (first | refine blk_drewN ?_ _ | refine blk_drew ?_ | refine blk_alloc ?_ _)); refine blk_put (cs := #[.bool false, .bool false, .bool false, .bool false]) ?_ 0 _ rfl; (with_reducible repeat (first | refine blk_drewN ?_ _ | refine blk_drew ?_ | refine blk_alloc ?_ _)); exact BK156.out) Try.underlying29 rfl (by kernel_rfl) (.tmp .nil)))) rfl ?_
        exact ⟨by first | rfl | (simp [errW_none, errW_some] <;> rfl) | (simp [*, errW_none, errW_some] <;> rfl), by repeat (first | (with_reducible first | exact HB.out | apply below_alloc | apply pw_below_drewN | apply below_drew1 | refine below_set ?_ GE156.out | refine below_set ?_ GE165.out) | exact HB.out)⟩
      · rw [if_neg c35] at H
        have c35b0 : (a0 == 4) = false := beq_eq_false_iff_ne.mpr c35
        have c35b1 : (a0 != 4) = true := bne_iff_ne.mpr c35
        by_cases c48 : a0 = 5
        · rw [if_pos c48] at H
          have c48b0 : (a0 == 5) = true := beq_iff_eq.mpr c48
          have c48b1 : (a0 != 5) = false := bne_eq_false_iff_eq.mpr c48
          clear c48
          replace H := Option.bind_eq_some_iff.mp H
          obtain ⟨⟨t176, t177, t178, t179, t180⟩, A490, H⟩ := H
          replace H : (some (t176, t177, t178, t179, t180, true)) = some (r1, r2, r3, r4, r5, r6) := H
          have A49 := Aside0.mk A490
          clear A490
          simp only [Option.some.injEq, Prod.mk.injEq] at H
          obtain ⟨rfl, rfl, rfl, rfl, rfl, rfl⟩ := H
          go_enter Try.func41, Try.ntmps41
          try go_wp2_with (first | ((with_reducible refine gate_dst (N := 11) rfl ?_); refine box_event ?hg (N := 11) ?hd (cs := #[.bool false, .bool false, .bool false, .bool false]) (t := 29) ?hr ?_; (case hd => rfl); (case hg => rfl); (case hr => first | (go_simp; done) | (go_simp; rfl)); intro gb156 hg w50 hbox hb; have n0_ := Aside0.mk (below_step (by repeat (first | (with_reducible first | exact HB.out | apply below_alloc | apply pw_below_drewN | apply below_drew1) | exact HB.out)) hb); have n1_ := Aside0.mk (hbox); have n2_ := Aside0.mk ((by rw [hg]; exact (below_size (by repeat (first | (with_reducible first | exact HB.out | apply below_alloc | apply pw_below_drewN | apply below_drew1) | exact HB.out))) : w.heap.size ≤ gb156)); have n3_ := Aside0.mk ((by rw [hg]; exact (below_size (by repeat (first | (with_reducible first | exact HB.out | apply below_alloc | apply pw_below_drewN | apply below_drew1) | exact HB.out))) : w.heap.size ≤ gb156)); clear HB; have HB := n0_; have BK156 := n1_; have GW156 := n2_; have GE156 := n3_; clear n0_ n1_ n2_ n3_; clear hb hbox hg) | ((with_reducible refine gate_callee (f := 43) rfl ?_); refine goesL_ (some 19) rfl rfl Try.func43 (by kernel_rfl) rfl #[.int .i64 a0] rfl (by (try simp only [List.map_toArray, List.map_cons, List.map_nil]); first | done | rfl | (simp only [List.length_drop, List.length_take]; rfl)) ?_; (with_reducible refine (alu_Logic.calls a0 false _ A6.out).mono ?_); rintro e w' ⟨rfl, ⟨nd, rfl⟩⟩; refine ⟨_, rfl, ?_⟩; (try (rw [drewN_self w50]; generalize hq_ : World.drewN w50 _ = w50; have n0_ : Aside0 (w50.heap[gb156]? = some (.cells #[.bool false, .bool false, .bool false, .bool false] 29 (0, 0))) := ⟨by rw [← hq_]; exact (by (with_reducible repeat (first | refine blk_drewN ?_ _ | refine blk_drew ?_ | refine blk_alloc ?_ _)); exact BK156.out)⟩; have n1_ : Aside0 (Below w.heap.size w w50) := ⟨by rw [← hq_]; exact (by repeat (first | (with_reducible first | exact HB.out | apply below_alloc | apply pw_below_drewN | apply below_drew1 | refine below_set ?_ GE156.out) | exact HB.out))⟩; clear BK156 HB hq_; have BK156 := n0_; have HB := n1_; clear n0_ n1_))) | ((with_reducible refine gate_dst (N := 16) rfl ?_); refine box_event ?hg (N := 16) ?hd (cs := #[.bool false, .bool false, .bool false, .bool false]) (t := 29) ?hr ?_; (case hd => rfl); (case hg => rfl); (case hr => first | (go_simp; done) | (go_simp; rfl)); intro gb165 hg w51 hbox hb; have n0_ := Aside0.mk (blk_below (g := gb156) (o := .cells #[.bool false, .bool false, .bool false, .bool false] 29 (0, 0)) (by (with_reducible repeat (first | refine blk_drewN ?_ _ | refine blk_drew ?_ | refine blk_alloc ?_ _)); exact BK156.out) hb); have n1_ := Aside0.mk (below_step (by repeat (first | (with_reducible first | exact HB.out | apply below_alloc | apply pw_below_drewN | apply below_drew1 | refine below_set ?_ GE156.out) | exact HB.out)) hb); have n2_ := Aside0.mk (hbox); have n3_ := Aside0.mk ((by rw [hg]; exact (below_size (by repeat (first | (with_reducible first | exact HB.out | apply below_alloc | apply pw_below_drewN | apply below_drew1 | refine below_set ?_ GE156.out) | exact HB.out))) : w.heap.size ≤ gb165)); have n4_ := Aside0.mk ((by rw [hg]; exact (below_size (by repeat (first | (with_reducible first | exact HB.out | apply below_alloc | apply pw_below_drewN | apply below_drew1 | refine below_set ?_ GE156.out) | exact HB.out))) : w.heap.size ≤ gb165)); have n5_ := Aside0.mk ((by rw [hg]; exact Nat.ne_of_lt (blk_lt (g := gb156) (o := .cells #[.bool false, .bool false, .bool false, .bool false] 29 (0, 0)) (by (with_reducible repeat (first | refine blk_drewN ?_ _ | refine blk_drew ?_ | refine blk_alloc ?_ _)); exact BK156.out)) : gb156 ≠ gb165)); have n6_ := Aside0.mk ((by rw [hg]; exact Nat.ne_of_gt (blk_lt (g := gb156) (o := .cells #[.bool false, .bool false, .bool false, .bool false] 29 (0, 0)) (by (with_reducible repeat (first | refine blk_drewN ?_ _ | refine blk_drew ?_ | refine blk_alloc ?_ _)); exact BK156.out)) : gb165 ≠ gb156)); clear BK156; clear HB; have BK156 := n0_; have HB := n1_; have BK165 := n2_; have GW165 := n3_; have GE165 := n4_; have NB156_165 := n5_; have NB165_156 := n6_; clear n0_ n1_ n2_ n3_ n4_ n5_ n6_; clear hb hbox hg) | ((with_reducible refine gate_callee (f := 23) rfl ?_); refine goesL_ (some 57) rfl rfl Try.func23 (by kernel_rfl) rfl #[.int .u32 a1, .int .u32 1, .bool false, .int .i64 a4] rfl (by (try simp only [List.map_toArray, List.map_cons, List.map_nil]); first | done | rfl | (simp only [List.length_drop, List.length_take]; rfl)) ?_; (with_reducible refine (bits_Sub.calls a1 1 false a4 t176 t177 t178 t179 t180 _ A49.out).mono ?_); rintro e w52 ⟨rfl, hb⟩; refine ⟨_, rfl, ?_⟩; have n0_ := Aside0.mk (blk_below (g := gb156) (o := .cells #[.bool false, .bool false, .bool false, .bool false] 29 (0, 0)) (by (with_reducible repeat (first | refine blk_drewN ?_ _ | refine blk_drew ?_ | refine blk_alloc ?_ _)); exact BK156.out) hb); have n1_ := Aside0.mk (blk_below (g := gb165) (o := .cells #[.bool false, .bool false, .bool false, .bool false] 29 (0, 0)) (by (with_reducible repeat (first | refine blk_drewN ?_ _ | refine blk_drew ?_ | refine blk_alloc ?_ _)); exact BK165.out) hb); have n2_ := Aside0.mk (below_step (by repeat (first | (with_reducible first | exact HB.out | apply below_alloc | apply pw_below_drewN | apply below_drew1 | refine below_set ?_ GE156.out | refine below_set ?_ GE165.out) | exact HB.out)) hb); clear BK156; clear BK165; clear HB; have BK156 := n0_; have BK165 := n1_; have HB := n2_; clear n0_ n1_ n2_; (try clear hb); (try clear hb2); (try clear hk); (try clear hi); have hnb53 := NB165_156.out; have hnc53 := NB156_165.out; have hcz54_0 : w52.cell? ⟨gb165, 0, none⟩ = some (.bool false) := (blk_cell BK165.out 0).trans rfl; have hcz54_1 : w52.cell? ⟨gb165, 1, none⟩ = some (.bool false) := (blk_cell BK165.out 1).trans rfl; have hcz54_2 : w52.cell? ⟨gb165, 2, none⟩ = some (.bool false) := (blk_cell BK165.out 2).trans rfl; have hcz54_3 : w52.cell? ⟨gb165, 3, none⟩ = some (.bool false) := (blk_cell BK165.out 3).trans rfl; have hfz54_0 := blk_frozen BK165.out 0; have hfz54_1 := blk_frozen BK165.out 1; have hfz54_2 := blk_frozen BK165.out 2; have hfz54_3 := blk_frozen BK165.out 3))
          have n0_ : Aside0 (((((w52.setCell ⟨gb165, 0, none⟩ (.bool t177)).setCell ⟨gb165, 1, none⟩ (.bool t178)).setCell ⟨gb165, 2, none⟩ (.bool t179)).setCell ⟨gb165, 3, none⟩ (.bool t180)).heap[gb156]? = some (.cells #[.bool false, .bool false, .bool false, .bool false] 29 (0, 0))) := ⟨by (with_reducible repeat (first | refine blk_drewN ?_ _ | refine blk_drew ?_ | refine blk_alloc ?_ _)); refine blk_far ?_ NB156_165.out _; (with_reducible repeat (first | refine blk_drewN ?_ _ | refine blk_drew ?_ | refine blk_alloc ?_ _)); refine blk_far ?_ NB156_165.out _; (with_reducible repeat (first | refine blk_drewN ?_ _ | refine blk_drew ?_ | refine blk_alloc ?_ _)); refine blk_far ?_ NB156_165.out _; (with_reducible repeat (first | refine blk_drewN ?_ _ | refine blk_drew ?_ | refine blk_alloc ?_ _)); refine blk_far ?_ NB156_165.out _; (with_reducible repeat (first | refine blk_drewN ?_ _ | refine blk_drew ?_ | refine blk_alloc ?_ _)); exact BK156.out⟩
          have n1_ : Aside0 (((((w52.setCell ⟨gb165, 0, none⟩ (.bool t177)).setCell ⟨gb165, 1, none⟩ (.bool t178)).setCell ⟨gb165, 2, none⟩ (.bool t179)).setCell ⟨gb165, 3, none⟩ (.bool t180)).heap[gb165]? = some (.cells #[.bool t177, .bool t178, .bool t179, .bool t180] 29 (0, 0))) := ⟨by (with_reducible repeat (first | refine blk_drewN ?_ _ | refine blk_drew ?_ | refine blk_alloc ?_ _)); refine blk_put (cs := #[.bool t177, .bool t178, .bool t179, .bool false]) ?_ 3 _ rfl; (with_reducible repeat (first | refine blk_drewN ?_ _ | refine blk_drew ?_ | refine blk_alloc ?_ _)); refine blk_put (cs := #[.bool t177, .bool t178, .bool false, .bool false]) ?_ 2 _ rfl; (with_reducible repeat (first | refine blk_drewN ?_ _ | refine blk_drew ?_ | refine blk_alloc ?_ _)); refine blk_put (cs := #[.bool t177, .bool false, .bool false, .bool false]) ?_ 1 _ rfl; (with_reducible repeat (first | refine blk_drewN ?_ _ | refine blk_drew ?_ | refine blk_alloc ?_ _)); refine blk_put (cs := #[.bool false, .bool false, .bool false, .bool false]) ?_ 0 _ rfl; (with_reducible repeat (first | refine blk_drewN ?_ _ | refine blk_drew ?_ | refine blk_alloc ?_ _)); exact BK165.out⟩
          have n2_ : Aside0 (Below w.heap.size w ((((w52.setCell ⟨gb165, 0, none⟩ (.bool t177)).setCell ⟨gb165, 1, none⟩ (.bool t178)).setCell ⟨gb165, 2, none⟩ (.bool t179)).setCell ⟨gb165, 3, none⟩ (.bool t180))) := ⟨by repeat (first | (with_reducible first | exact HB.out | apply below_alloc | apply pw_below_drewN | apply below_drew1 | refine below_set ?_ GE156.out | refine below_set ?_ GE165.out) | exact HB.out)⟩
          (try clear BK156)
          (try clear BK165)
          (try clear HB)
          (repeat rw [own_setCell_drewN]); (repeat rw [World.drewN_drewN])
          generalize ((((w52.setCell ⟨gb165, 0, none⟩ (.bool t177)).setCell ⟨gb165, 1, none⟩ (.bool t178)).setCell ⟨gb165, 2, none⟩ (.bool t179)).setCell ⟨gb165, 3, none⟩ (.bool t180)) = w55 at n0_ n1_ n2_ ⊢
          have BK156 := n0_
          have BK165 := n1_
          have HB := n2_
          clear n0_ n1_ n2_
          have n0_ := Aside0.mk (blk_drew BK156.out)
          have n1_ := Aside0.mk (blk_drew BK165.out)
          have n2_ := Aside0.mk (below_drew1 HB.out)
          clear BK156
          clear BK165
          clear HB
          have BK156 := n0_
          have BK165 := n1_
          have HB := n2_
          clear n0_ n1_ n2_
          refine start_ (n := 6) (S := fun w' => w'.cell? ⟨gb165, 0, none⟩ = some (.bool t177) ∧ w'.cell? ⟨gb165, 1, none⟩ = some (.bool t178) ∧ w'.cell? ⟨gb165, 2, none⟩ = some (.bool t179) ∧ w'.cell? ⟨gb165, 3, none⟩ = some (.bool t180)) (ds := []) #[false, false, false, false, false, false] (by kernel_rfl) rfl rfl ⟨(blk_cell BK165.out 0).trans rfl, (blk_cell BK165.out 1).trans rfl, (blk_cell BK165.out 2).trans rfl, (blk_cell BK165.out 3).trans rfl⟩ (fun hHeld => ?_)
          generalize w55.drew = w56 at BK156 BK165 HB hHeld ⊢
          refine pure_ (i := 0) (N := some 136) (v := ?_) (a' := ?_) #[true, false, false, false, false, false] rfl rfl (by kernel_rfl) (fun _ _ _ h => h) (Or.inl ⟨by rfl, ?_⟩) ?_ ?_
          rotate_left
          · intro w'
            go_simp
            with_reducible rfl
          rotate_left
          · simp only [Act.put, List.setIfInBounds_toArray, List.set_cons_zero, List.set_cons_succ, i64_w, i32_w]
            rfl
          refine pure_ (i := 2) (N := some 138) (v := ?_) (a' := ?_) #[true, false, true, false, false, false] rfl rfl (by kernel_rfl) (fun _ _ _ h => h) (Or.inl ⟨by rfl, ?_⟩) ?_ ?_
          rotate_left
          · intro w'
            go_simp
            with_reducible rfl
          rotate_left
          · simp only [Act.put, List.setIfInBounds_toArray, List.set_cons_zero, List.set_cons_succ, i64_w, i32_w]
            rfl
          refine pure_ (i := 3) (N := some 10) (v := ?_) (a' := ?_) #[true, false, true, true, false, false] rfl rfl (by kernel_rfl) (fun _ _ _ h => h) (Or.inl ⟨by rfl, ?_⟩) ?_ ?_
          rotate_left
          · intro w'
            go_simp
            with_reducible rfl
          rotate_left
          · simp only [Act.put, List.setIfInBounds_toArray, List.set_cons_zero, List.set_cons_succ, i64_w, i32_w]
            rfl
          refine take_ (i := 1) (N := some 137) (v := ?_) (a' := ?_) #[true, true, true, true, false, false] rfl rfl (by kernel_rfl) (fun _ _ _ h => h) (Or.inl ⟨by rfl, ?_⟩) hHeld ?_ ?_
          rotate_left
          · rintro w' ⟨s0, s1, s2, s3⟩
            go_simp
            with_reducible rfl
          rotate_left
          · simp only [Act.put, List.setIfInBounds_toArray, List.set_cons_zero, List.set_cons_succ, i64_w, i32_w]
            rfl
          refine one_ (i := 4) (N := none) #[true, true, true, true, true, false] rfl rfl (by kernel_rfl) (by decide) (fun K hK => ?_)
          have hs57 : w56.cell? ⟨gb156, 0, none⟩ = some (.bool false) := (blk_cell BK156.out 0).trans rfl
          have hfs57 := blk_frozen BK156.out 0
          have hns57_1 := NB165_156.out
          have hms57_1 := NB156_165.out
          have hs58 : w56.cell? ⟨gb156, 1, none⟩ = some (.bool false) := (blk_cell BK156.out 1).trans rfl
          have hfs58 := blk_frozen BK156.out 1
          have hns58_1 := NB165_156.out
          have hms58_1 := NB156_165.out
          have hs59 : w56.cell? ⟨gb156, 2, none⟩ = some (.bool false) := (blk_cell BK156.out 2).trans rfl
          have hfs59 := blk_frozen BK156.out 2
          have hns59_1 := NB165_156.out
          have hms59_1 := NB156_165.out
          have hs60 : w56.cell? ⟨gb156, 3, none⟩ = some (.bool false) := (blk_cell BK156.out 3).trans rfl
          have hfs60 := blk_frozen BK156.out 3
          have hns60_1 := NB165_156.out
          have hms60_1 := NB156_165.out
          refine skip_ (w1 := ?_) (by rfl) rfl ?_ ?_
          rotate_left
          · go_simp
            rfl
          refine hK.out _ _ ⟨((cell_far (p := ⟨gb156, _, none⟩) NB165_156.out _).trans (((cell_far (p := ⟨gb156, _, none⟩) NB165_156.out _).trans (((cell_far (p := ⟨gb156, _, none⟩) NB165_156.out _).trans (((cell_far (p := ⟨gb156, _, none⟩) NB165_156.out _).trans (hHeld.1)))))))), ((cell_far (p := ⟨gb156, _, none⟩) NB165_156.out _).trans (((cell_far (p := ⟨gb156, _, none⟩) NB165_156.out _).trans (((cell_far (p := ⟨gb156, _, none⟩) NB165_156.out _).trans (((cell_far (p := ⟨gb156, _, none⟩) NB165_156.out _).trans (hHeld.2.1)))))))), ((cell_far (p := ⟨gb156, _, none⟩) NB165_156.out _).trans (((cell_far (p := ⟨gb156, _, none⟩) NB165_156.out _).trans (((cell_far (p := ⟨gb156, _, none⟩) NB165_156.out _).trans (((cell_far (p := ⟨gb156, _, none⟩) NB165_156.out _).trans (hHeld.2.2.1)))))))), ((cell_far (p := ⟨gb156, _, none⟩) NB165_156.out _).trans (((cell_far (p := ⟨gb156, _, none⟩) NB165_156.out _).trans (((cell_far (p := ⟨gb156, _, none⟩) NB165_156.out _).trans (((cell_far (p := ⟨gb156, _, none⟩) NB165_156.out _).trans (hHeld.2.2.2))))))))⟩ (fun hHeld => ?_)
          clear hK K
          refine pure_ (i := 5) (N := some 12) (v := ?_) (a' := ?_) #[true, true, true, true, true, true] rfl rfl (by kernel_rfl) (fun _ _ _ h => h) (Or.inl ⟨by rfl, ?_⟩) ?_ ?_
          rotate_left
          · intro w'
            go_simp
            with_reducible rfl
          rotate_left
          · simp only [Act.put, List.setIfInBounds_toArray, List.set_cons_zero, List.set_cons_succ, i64_w, i32_w]
            rfl
          refine done_ (by kernel_rfl) ?_
          try go_wp2
          refine bodyPost_ret (results_list (rs := [.tmp 10, .cell 11 29, .tmp 12]) rfl (by simp) (.tmp (.cell gb156 29 #[.bool t177, .bool t178, .bool t179, .bool t180] (0, 0) _ rfl (by (with_reducible repeat (first | refine blk_drewN ?_ _ | refine blk_drew ?_ | refine blk_alloc ?_ _)); refine blk_put (cs := #[.bool t177, .bool t178, .bool t179, .bool false]) ?_ 3 _ rfl; (with_reducible repeat (first | refine blk_drewN ?_ _ | refine blk_drew ?_ | refine blk_alloc ?_ _)); refine blk_put (cs := #[.bool t177, .bool t178, .bool false, .bool false]) ?_ 2 _ rfl; (with_reducible repeat (first | refine blk_drewN ?_ _ | refine blk_drew ?_ | refine blk_alloc ?_ _)); refine blk_put (cs := #[.bool t177, .bool false, .bool false, .bool false]) ?_ 1 _ rfl; (with_reducible repeat (first | refine blk_drewN ?_ _ | refine blk_drew ?_ | refine blk_alloc ?_ _)); refine blk_put (cs := #[.bool false, .bool false, .bool false, .bool false]) ?_ 0 _ rfl; (with_reducible repeat (first | refine blk_drewN ?_ _ | refine blk_drew ?_ | refine blk_alloc ?_ _)); exact BK156.out) Try.underlying29 rfl (by kernel_rfl) (.tmp .nil)))) rfl ?_
          exact ⟨by first | rfl | (simp [errW_none, errW_some] <;> rfl) | (simp [*, errW_none, errW_some] <;> rfl), by repeat (first | (with_reducible first | exact HB.out | apply below_alloc | apply pw_below_drewN | apply below_drew1 | refine below_set ?_ GE156.out | refine below_set ?_ GE165.out) | exact HB.out)⟩
        · rw [if_neg c48] at H
          have c48b0 : (a0 == 5) = false := beq_eq_false_iff_ne.mpr c48
          have c48b1 : (a0 != 5) = true := bne_iff_ne.mpr c48
          by_cases c61 : a0 = 6
          · rw [if_pos c61] at H
            have c61b0 : (a0 == 6) = true := beq_iff_eq.mpr c61
            have c61b1 : (a0 != 6) = false := bne_eq_false_iff_eq.mpr c61
            clear c61
            replace H := Option.bind_eq_some_iff.mp H
            obtain ⟨⟨t181, t182, t183, t184, t185⟩, A620, H⟩ := H
            replace H : (some (t181, t182, t183, t184, t185, true)) = some (r1, r2, r3, r4, r5, r6) := H
            have A62 := Aside0.mk A620
            clear A620
            simp only [Option.some.injEq, Prod.mk.injEq] at H
            obtain ⟨rfl, rfl, rfl, rfl, rfl, rfl⟩ := H
            go_enter Try.func41, Try.ntmps41
            try go_wp2_with (first | ((with_reducible refine gate_dst (N := 11) rfl ?_); refine box_event ?hg (N := 11) ?hd (cs := #[.bool false, .bool false, .bool false, .bool false]) (t := 29) ?hr ?_; (case hd => rfl); (case hg => rfl); (case hr => first | (go_simp; done) | (go_simp; rfl)); intro gb156 hg w63 hbox hb; have n0_ := Aside0.mk (below_step (by repeat (first | (with_reducible first | exact HB.out | apply below_alloc | apply pw_below_drewN | apply below_drew1) | exact HB.out)) hb); have n1_ := Aside0.mk (hbox); have n2_ := Aside0.mk ((by rw [hg]; exact (below_size (by repeat (first | (with_reducible first | exact HB.out | apply below_alloc | apply pw_below_drewN | apply below_drew1) | exact HB.out))) : w.heap.size ≤ gb156)); have n3_ := Aside0.mk ((by rw [hg]; exact (below_size (by repeat (first | (with_reducible first | exact HB.out | apply below_alloc | apply pw_below_drewN | apply below_drew1) | exact HB.out))) : w.heap.size ≤ gb156)); clear HB; have HB := n0_; have BK156 := n1_; have GW156 := n2_; have GE156 := n3_; clear n0_ n1_ n2_ n3_; clear hb hbox hg) | ((with_reducible refine gate_callee (f := 43) rfl ?_); refine goesL_ (some 19) rfl rfl Try.func43 (by kernel_rfl) rfl #[.int .i64 a0] rfl (by (try simp only [List.map_toArray, List.map_cons, List.map_nil]); first | done | rfl | (simp only [List.length_drop, List.length_take]; rfl)) ?_; (with_reducible refine (alu_Logic.calls a0 false _ A6.out).mono ?_); rintro e w' ⟨rfl, ⟨nd, rfl⟩⟩; refine ⟨_, rfl, ?_⟩; (try (rw [drewN_self w63]; generalize hq_ : World.drewN w63 _ = w63; have n0_ : Aside0 (w63.heap[gb156]? = some (.cells #[.bool false, .bool false, .bool false, .bool false] 29 (0, 0))) := ⟨by rw [← hq_]; exact (by (with_reducible repeat (first | refine blk_drewN ?_ _ | refine blk_drew ?_ | refine blk_alloc ?_ _)); exact BK156.out)⟩; have n1_ : Aside0 (Below w.heap.size w w63) := ⟨by rw [← hq_]; exact (by repeat (first | (with_reducible first | exact HB.out | apply below_alloc | apply pw_below_drewN | apply below_drew1 | refine below_set ?_ GE156.out) | exact HB.out))⟩; clear BK156 HB hq_; have BK156 := n0_; have HB := n1_; clear n0_ n1_))) | ((with_reducible refine gate_dst (N := 16) rfl ?_); refine box_event ?hg (N := 16) ?hd (cs := #[.bool false, .bool false, .bool false, .bool false]) (t := 29) ?hr ?_; (case hd => rfl); (case hg => rfl); (case hr => first | (go_simp; done) | (go_simp; rfl)); intro gb165 hg w64 hbox hb; have n0_ := Aside0.mk (blk_below (g := gb156) (o := .cells #[.bool false, .bool false, .bool false, .bool false] 29 (0, 0)) (by (with_reducible repeat (first | refine blk_drewN ?_ _ | refine blk_drew ?_ | refine blk_alloc ?_ _)); exact BK156.out) hb); have n1_ := Aside0.mk (below_step (by repeat (first | (with_reducible first | exact HB.out | apply below_alloc | apply pw_below_drewN | apply below_drew1 | refine below_set ?_ GE156.out) | exact HB.out)) hb); have n2_ := Aside0.mk (hbox); have n3_ := Aside0.mk ((by rw [hg]; exact (below_size (by repeat (first | (with_reducible first | exact HB.out | apply below_alloc | apply pw_below_drewN | apply below_drew1 | refine below_set ?_ GE156.out) | exact HB.out))) : w.heap.size ≤ gb165)); have n4_ := Aside0.mk ((by rw [hg]; exact (below_size (by repeat (first | (with_reducible first | exact HB.out | apply below_alloc | apply pw_below_drewN | apply below_drew1 | refine below_set ?_ GE156.out) | exact HB.out))) : w.heap.size ≤ gb165)); have n5_ := Aside0.mk ((by rw [hg]; exact Nat.ne_of_lt (blk_lt (g := gb156) (o := .cells #[.bool false, .bool false, .bool false, .bool false] 29 (0, 0)) (by (with_reducible repeat (first | refine blk_drewN ?_ _ | refine blk_drew ?_ | refine blk_alloc ?_ _)); exact BK156.out)) : gb156 ≠ gb165)); have n6_ := Aside0.mk ((by rw [hg]; exact Nat.ne_of_gt (blk_lt (g := gb156) (o := .cells #[.bool false, .bool false, .bool false, .bool false] 29 (0, 0)) (by (with_reducible repeat (first | refine blk_drewN ?_ _ | refine blk_drew ?_ | refine blk_alloc ?_ _)); exact BK156.out)) : gb165 ≠ gb156)); clear BK156; clear HB; have BK156 := n0_; have HB := n1_; have BK165 := n2_; have GW165 := n3_; have GE165 := n4_; have NB156_165 := n5_; have NB165_156 := n6_; clear n0_ n1_ n2_ n3_ n4_ n5_ n6_; clear hb hbox hg) | ((with_reducible refine gate_callee (f := 21) rfl ?_); refine goesL_ (some 66) rfl rfl Try.func21 (by kernel_rfl) rfl #[.int .u32 a1, .int .u32 a2, .bool false, .int .i64 a4] rfl (by (try simp only [List.map_toArray, List.map_cons, List.map_nil]); first | done | rfl | (simp only [List.length_drop, List.length_take]; rfl)) ?_; (with_reducible refine (bits_Add.calls a1 a2 false a4 t181 t182 t183 t184 t185 _ A62.out).mono ?_); rintro e w65 ⟨rfl, hb⟩; refine ⟨_, rfl, ?_⟩; have n0_ := Aside0.mk (blk_below (g := gb156) (o := .cells #[.bool false, .bool false, .bool false, .bool false] 29 (0, 0)) (by (with_reducible repeat (first | refine blk_drewN ?_ _ | refine blk_drew ?_ | refine blk_alloc ?_ _)); exact BK156.out) hb); have n1_ := Aside0.mk (blk_below (g := gb165) (o := .cells #[.bool false, .bool false, .bool false, .bool false] 29 (0, 0)) (by (with_reducible repeat (first | refine blk_drewN ?_ _ | refine blk_drew ?_ | refine blk_alloc ?_ _)); exact BK165.out) hb); have n2_ := Aside0.mk (below_step (by repeat (first | (with_reducible first | exact HB.out | apply below_alloc | apply pw_below_drewN | apply below_drew1 | refine below_set ?_ GE156.out | refine below_set ?_ GE165.out) | exact HB.out)) hb); clear BK156; clear BK165; clear HB; have BK156 := n0_; have BK165 := n1_; have HB := n2_; clear n0_ n1_ n2_; (try clear hb); (try clear hb2); (try clear hk); (try clear hi); have hnb66 := NB165_156.out; have hnc66 := NB156_165.out; have hcz67_0 : w65.cell? ⟨gb165, 0, none⟩ = some (.bool false) := (blk_cell BK165.out 0).trans rfl; have hcz67_1 : w65.cell? ⟨gb165, 1, none⟩ = some (.bool false) := (blk_cell BK165.out 1).trans rfl; have hcz67_2 : w65.cell? ⟨gb165, 2, none⟩ = some (.bool false) := (blk_cell BK165.out 2).trans rfl; have hcz67_3 : w65.cell? ⟨gb165, 3, none⟩ = some (.bool false) := (blk_cell BK165.out 3).trans rfl; have hfz67_0 := blk_frozen BK165.out 0; have hfz67_1 := blk_frozen BK165.out 1; have hfz67_2 := blk_frozen BK165.out 2; have hfz67_3 := blk_frozen BK165.out 3))
            have n0_ : Aside0 (((((w65.setCell ⟨gb165, 0, none⟩ (.bool t182)).setCell ⟨gb165, 1, none⟩ (.bool t183)).setCell ⟨gb165, 2, none⟩ (.bool t184)).setCell ⟨gb165, 3, none⟩ (.bool t185)).heap[gb156]? = some (.cells #[.bool false, .bool false, .bool false, .bool false] 29 (0, 0))) := ⟨by (with_reducible repeat (first | refine blk_drewN ?_ _ | refine blk_drew ?_ | refine blk_alloc ?_ _)); refine blk_far ?_ NB156_165.out _; (with_reducible repeat (first | refine blk_drewN ?_ _ | refine blk_drew ?_ | refine blk_alloc ?_ _)); refine blk_far ?_ NB156_165.out _; (with_reducible repeat (first | refine blk_drewN ?_ _ | refine blk_drew ?_ | refine blk_alloc ?_ _)); refine blk_far ?_ NB156_165.out _; (with_reducible repeat (first | refine blk_drewN ?_ _ | refine blk_drew ?_ | refine blk_alloc ?_ _)); refine blk_far ?_ NB156_165.out _; (with_reducible repeat (first | refine blk_drewN ?_ _ | refine blk_drew ?_ | refine blk_alloc ?_ _)); exact BK156.out⟩
            have n1_ : Aside0 (((((w65.setCell ⟨gb165, 0, none⟩ (.bool t182)).setCell ⟨gb165, 1, none⟩ (.bool t183)).setCell ⟨gb165, 2, none⟩ (.bool t184)).setCell ⟨gb165, 3, none⟩ (.bool t185)).heap[gb165]? = some (.cells #[.bool t182, .bool t183, .bool t184, .bool t185] 29 (0, 0))) := ⟨by (with_reducible repeat (first | refine blk_drewN ?_ _ | refine blk_drew ?_ | refine blk_alloc ?_ _)); refine blk_put (cs := #[.bool t182, .bool t183, .bool t184, .bool false]) ?_ 3 _ rfl; (with_reducible repeat (first | refine blk_drewN ?_ _ | refine blk_drew ?_ | refine blk_alloc ?_ _)); refine blk_put (cs := #[.bool t182, .bool t183, .bool false, .bool false]) ?_ 2 _ rfl; (with_reducible repeat (first | refine blk_drewN ?_ _ | refine blk_drew ?_ | refine blk_alloc ?_ _)); refine blk_put (cs := #[.bool t182, .bool false, .bool false, .bool false]) ?_ 1 _ rfl; (with_reducible repeat (first | refine blk_drewN ?_ _ | refine blk_drew ?_ | refine blk_alloc ?_ _)); refine blk_put (cs := #[.bool false, .bool false, .bool false, .bool false]) ?_ 0 _ rfl; (with_reducible repeat (first | refine blk_drewN ?_ _ | refine blk_drew ?_ | refine blk_alloc ?_ _)); exact BK165.out⟩
            have n2_ : Aside0 (Below w.heap.size w ((((w65.setCell ⟨gb165, 0, none⟩ (.bool t182)).setCell ⟨gb165, 1, none⟩ (.bool t183)).setCell ⟨gb165, 2, none⟩ (.bool t184)).setCell ⟨gb165, 3, none⟩ (.bool t185))) := ⟨by repeat (first | (with_reducible first | exact HB.out | apply below_alloc | apply pw_below_drewN | apply below_drew1 | refine below_set ?_ GE156.out | refine below_set ?_ GE165.out) | exact HB.out)⟩
            (try clear BK156)
            (try clear BK165)
            (try clear HB)
            (repeat rw [own_setCell_drewN]); (repeat rw [World.drewN_drewN])
            generalize ((((w65.setCell ⟨gb165, 0, none⟩ (.bool t182)).setCell ⟨gb165, 1, none⟩ (.bool t183)).setCell ⟨gb165, 2, none⟩ (.bool t184)).setCell ⟨gb165, 3, none⟩ (.bool t185)) = w68 at n0_ n1_ n2_ ⊢
            have BK156 := n0_
            have BK165 := n1_
            have HB := n2_
            clear n0_ n1_ n2_
            have n0_ := Aside0.mk (blk_drew BK156.out)
            have n1_ := Aside0.mk (blk_drew BK165.out)
            have n2_ := Aside0.mk (below_drew1 HB.out)
            clear BK156
            clear BK165
            clear HB
            have BK156 := n0_
            have BK165 := n1_
            have HB := n2_
            clear n0_ n1_ n2_
            refine start_ (n := 6) (S := fun w' => w'.cell? ⟨gb165, 0, none⟩ = some (.bool t182) ∧ w'.cell? ⟨gb165, 1, none⟩ = some (.bool t183) ∧ w'.cell? ⟨gb165, 2, none⟩ = some (.bool t184) ∧ w'.cell? ⟨gb165, 3, none⟩ = some (.bool t185)) (ds := []) #[false, false, false, false, false, false] (by kernel_rfl) rfl rfl ⟨(blk_cell BK165.out 0).trans rfl, (blk_cell BK165.out 1).trans rfl, (blk_cell BK165.out 2).trans rfl, (blk_cell BK165.out 3).trans rfl⟩ (fun hHeld => ?_)
            generalize w68.drew = w69 at BK156 BK165 HB hHeld ⊢
            refine pure_ (i := 0) (N := some 136) (v := ?_) (a' := ?_) #[true, false, false, false, false, false] rfl rfl (by kernel_rfl) (fun _ _ _ h => h) (Or.inl ⟨by rfl, ?_⟩) ?_ ?_
            rotate_left
            · intro w'
              go_simp
              with_reducible rfl
            rotate_left
            · simp only [Act.put, List.setIfInBounds_toArray, List.set_cons_zero, List.set_cons_succ, i64_w, i32_w]
              rfl
            refine pure_ (i := 2) (N := some 138) (v := ?_) (a' := ?_) #[true, false, true, false, false, false] rfl rfl (by kernel_rfl) (fun _ _ _ h => h) (Or.inl ⟨by rfl, ?_⟩) ?_ ?_
            rotate_left
            · intro w'
              go_simp
              with_reducible rfl
            rotate_left
            · simp only [Act.put, List.setIfInBounds_toArray, List.set_cons_zero, List.set_cons_succ, i64_w, i32_w]
              rfl
            refine pure_ (i := 3) (N := some 10) (v := ?_) (a' := ?_) #[true, false, true, true, false, false] rfl rfl (by kernel_rfl) (fun _ _ _ h => h) (Or.inl ⟨by rfl, ?_⟩) ?_ ?_
            rotate_left
            · intro w'
              go_simp
              with_reducible rfl
            rotate_left
            · simp only [Act.put, List.setIfInBounds_toArray, List.set_cons_zero, List.set_cons_succ, i64_w, i32_w]
              rfl
            refine take_ (i := 1) (N := some 137) (v := ?_) (a' := ?_) #[true, true, true, true, false, false] rfl rfl (by kernel_rfl) (fun _ _ _ h => h) (Or.inl ⟨by rfl, ?_⟩) hHeld ?_ ?_
            rotate_left
            · rintro w' ⟨s0, s1, s2, s3⟩
              go_simp
              with_reducible rfl
            rotate_left
            · simp only [Act.put, List.setIfInBounds_toArray, List.set_cons_zero, List.set_cons_succ, i64_w, i32_w]
              rfl
            refine one_ (i := 4) (N := none) #[true, true, true, true, true, false] rfl rfl (by kernel_rfl) (by decide) (fun K hK => ?_)
            have hs70 : w69.cell? ⟨gb156, 0, none⟩ = some (.bool false) := (blk_cell BK156.out 0).trans rfl
            have hfs70 := blk_frozen BK156.out 0
            have hns70_1 := NB165_156.out
            have hms70_1 := NB156_165.out
            have hs71 : w69.cell? ⟨gb156, 1, none⟩ = some (.bool false) := (blk_cell BK156.out 1).trans rfl
            have hfs71 := blk_frozen BK156.out 1
            have hns71_1 := NB165_156.out
            have hms71_1 := NB156_165.out
            have hs72 : w69.cell? ⟨gb156, 2, none⟩ = some (.bool false) := (blk_cell BK156.out 2).trans rfl
            have hfs72 := blk_frozen BK156.out 2
            have hns72_1 := NB165_156.out
            have hms72_1 := NB156_165.out
            have hs73 : w69.cell? ⟨gb156, 3, none⟩ = some (.bool false) := (blk_cell BK156.out 3).trans rfl
            have hfs73 := blk_frozen BK156.out 3
            have hns73_1 := NB165_156.out
            have hms73_1 := NB156_165.out
            refine skip_ (w1 := ?_) (by rfl) rfl ?_ ?_
            rotate_left
            · go_simp
              rfl
            refine hK.out _ _ ⟨((cell_far (p := ⟨gb156, _, none⟩) NB165_156.out _).trans (((cell_far (p := ⟨gb156, _, none⟩) NB165_156.out _).trans (((cell_far (p := ⟨gb156, _, none⟩) NB165_156.out _).trans (((cell_far (p := ⟨gb156, _, none⟩) NB165_156.out _).trans (hHeld.1)))))))), ((cell_far (p := ⟨gb156, _, none⟩) NB165_156.out _).trans (((cell_far (p := ⟨gb156, _, none⟩) NB165_156.out _).trans (((cell_far (p := ⟨gb156, _, none⟩) NB165_156.out _).trans (((cell_far (p := ⟨gb156, _, none⟩) NB165_156.out _).trans (hHeld.2.1)))))))), ((cell_far (p := ⟨gb156, _, none⟩) NB165_156.out _).trans (((cell_far (p := ⟨gb156, _, none⟩) NB165_156.out _).trans (((cell_far (p := ⟨gb156, _, none⟩) NB165_156.out _).trans (((cell_far (p := ⟨gb156, _, none⟩) NB165_156.out _).trans (hHeld.2.2.1)))))))), ((cell_far (p := ⟨gb156, _, none⟩) NB165_156.out _).trans (((cell_far (p := ⟨gb156, _, none⟩) NB165_156.out _).trans (((cell_far (p := ⟨gb156, _, none⟩) NB165_156.out _).trans (((cell_far (p := ⟨gb156, _, none⟩) NB165_156.out _).trans (hHeld.2.2.2))))))))⟩ (fun hHeld => ?_)
            clear hK K
            refine pure_ (i := 5) (N := some 12) (v := ?_) (a' := ?_) #[true, true, true, true, true, true] rfl rfl (by kernel_rfl) (fun _ _ _ h => h) (Or.inl ⟨by rfl, ?_⟩) ?_ ?_
            rotate_left
            · intro w'
              go_simp
              with_reducible rfl
            rotate_left
            · simp only [Act.put, List.setIfInBounds_toArray, List.set_cons_zero, List.set_cons_succ, i64_w, i32_w]
              rfl
            refine done_ (by kernel_rfl) ?_
            try go_wp2
            refine bodyPost_ret (results_list (rs := [.tmp 10, .cell 11 29, .tmp 12]) rfl (by simp) (.tmp (.cell gb156 29 #[.bool t182, .bool t183, .bool t184, .bool t185] (0, 0) _ rfl (by (with_reducible repeat (first | refine blk_drewN ?_ _ | refine blk_drew ?_ | refine blk_alloc ?_ _)); refine blk_put (cs := #[.bool t182, .bool t183, .bool t184, .bool false]) ?_ 3 _ rfl; (with_reducible repeat (first | refine blk_drewN ?_ _ | refine blk_drew ?_ | refine blk_alloc ?_ _)); refine blk_put (cs := #[.bool t182, .bool t183, .bool false, .bool false]) ?_ 2 _ rfl; (with_reducible repeat (first | refine blk_drewN ?_ _ | refine blk_drew ?_ | refine blk_alloc ?_ _)); refine blk_put (cs := #[.bool t182, .bool false, .bool false, .bool false]) ?_ 1 _ rfl; (with_reducible repeat (first | refine blk_drewN ?_ _ | refine blk_drew ?_ | refine blk_alloc ?_ _)); refine blk_put (cs := #[.bool false, .bool false, .bool false, .bool false]) ?_ 0 _ rfl; (with_reducible repeat (first | refine blk_drewN ?_ _ | refine blk_drew ?_ | refine blk_alloc ?_ _)); exact BK156.out) Try.underlying29 rfl (by kernel_rfl) (.tmp .nil)))) rfl ?_
            exact ⟨by first | rfl | (simp [errW_none, errW_some] <;> rfl) | (simp [*, errW_none, errW_some] <;> rfl), by repeat (first | (with_reducible first | exact HB.out | apply below_alloc | apply pw_below_drewN | apply below_drew1 | refine below_set ?_ GE156.out | refine below_set ?_ GE165.out) | exact HB.out)⟩
          · rw [if_neg c61] at H
            have c61b0 : (a0 == 6) = false := beq_eq_false_iff_ne.mpr c61
            have c61b1 : (a0 != 6) = true := bne_iff_ne.mpr c61
            by_cases c74 : a0 = 7
            · rw [if_pos c74] at H
              have c74b0 : (a0 == 7) = true := beq_iff_eq.mpr c74
              have c74b1 : (a0 != 7) = false := bne_eq_false_iff_eq.mpr c74
              clear c74
              replace H := Option.bind_eq_some_iff.mp H
              obtain ⟨⟨t186, t187, t188, t189, t190⟩, A750, H⟩ := H
              replace H : (some (t186, t187, t188, t189, t190, true)) = some (r1, r2, r3, r4, r5, r6) := H
              have A75 := Aside0.mk A750
              clear A750
              simp only [Option.some.injEq, Prod.mk.injEq] at H
              obtain ⟨rfl, rfl, rfl, rfl, rfl, rfl⟩ := H
              go_enter Try.func41, Try.ntmps41
              try go_wp2_with (first | ((with_reducible refine gate_dst (N := 11) rfl ?_); refine box_event ?hg (N := 11) ?hd (cs := #[.bool false, .bool false, .bool false, .bool false]) (t := 29) ?hr ?_; (case hd => rfl); (case hg => rfl); (case hr => first | (go_simp; done) | (go_simp; rfl)); intro gb156 hg w76 hbox hb; have n0_ := Aside0.mk (below_step (by repeat (first | (with_reducible first | exact HB.out | apply below_alloc | apply pw_below_drewN | apply below_drew1) | exact HB.out)) hb); have n1_ := Aside0.mk (hbox); have n2_ := Aside0.mk ((by rw [hg]; exact (below_size (by repeat (first | (with_reducible first | exact HB.out | apply below_alloc | apply pw_below_drewN | apply below_drew1) | exact HB.out))) : w.heap.size ≤ gb156)); have n3_ := Aside0.mk ((by rw [hg]; exact (below_size (by repeat (first | (with_reducible first | exact HB.out | apply below_alloc | apply pw_below_drewN | apply below_drew1) | exact HB.out))) : w.heap.size ≤ gb156)); clear HB; have HB := n0_; have BK156 := n1_; have GW156 := n2_; have GE156 := n3_; clear n0_ n1_ n2_ n3_; clear hb hbox hg) | ((with_reducible refine gate_callee (f := 43) rfl ?_); refine goesL_ (some 19) rfl rfl Try.func43 (by kernel_rfl) rfl #[.int .i64 a0] rfl (by (try simp only [List.map_toArray, List.map_cons, List.map_nil]); first | done | rfl | (simp only [List.length_drop, List.length_take]; rfl)) ?_; (with_reducible refine (alu_Logic.calls a0 false _ A6.out).mono ?_); rintro e w' ⟨rfl, ⟨nd, rfl⟩⟩; refine ⟨_, rfl, ?_⟩; (try (rw [drewN_self w76]; generalize hq_ : World.drewN w76 _ = w76; have n0_ : Aside0 (w76.heap[gb156]? = some (.cells #[.bool false, .bool false, .bool false, .bool false] 29 (0, 0))) := ⟨by rw [← hq_]; exact (by (with_reducible repeat (first | refine blk_drewN ?_ _ | refine blk_drew ?_ | refine blk_alloc ?_ _)); exact BK156.out)⟩; have n1_ : Aside0 (Below w.heap.size w w76) := ⟨by rw [← hq_]; exact (by repeat (first | (with_reducible first | exact HB.out | apply below_alloc | apply pw_below_drewN | apply below_drew1 | refine below_set ?_ GE156.out) | exact HB.out))⟩; clear BK156 HB hq_; have BK156 := n0_; have HB := n1_; clear n0_ n1_))) | ((with_reducible refine gate_dst (N := 16) rfl ?_); refine box_event ?hg (N := 16) ?hd (cs := #[.bool false, .bool false, .bool false, .bool false]) (t := 29) ?hr ?_; (case hd => rfl); (case hg => rfl); (case hr => first | (go_simp; done) | (go_simp; rfl)); intro gb165 hg w77 hbox hb; have n0_ := Aside0.mk (blk_below (g := gb156) (o := .cells #[.bool false, .bool false, .bool false, .bool false] 29 (0, 0)) (by (with_reducible repeat (first | refine blk_drewN ?_ _ | refine blk_drew ?_ | refine blk_alloc ?_ _)); exact BK156.out) hb); have n1_ := Aside0.mk (below_step (by repeat (first | (with_reducible first | exact HB.out | apply below_alloc | apply pw_below_drewN | apply below_drew1 | refine below_set ?_ GE156.out) | exact HB.out)) hb); have n2_ := Aside0.mk (hbox); have n3_ := Aside0.mk ((by rw [hg]; exact (below_size (by repeat (first | (with_reducible first | exact HB.out | apply below_alloc | apply pw_below_drewN | apply below_drew1 | refine below_set ?_ GE156.out) | exact HB.out))) : w.heap.size ≤ gb165)); have n4_ := Aside0.mk ((by rw [hg]; exact (below_size (by repeat (first | (with_reducible first | exact HB.out | apply below_alloc | apply pw_below_drewN | apply below_drew1 | refine below_set ?_ GE156.out) | exact HB.out))) : w.heap.size ≤ gb165)); have n5_ := Aside0.mk ((by rw [hg]; exact Nat.ne_of_lt (blk_lt (g := gb156) (o := .cells #[.bool false, .bool false, .bool false, .bool false] 29 (0, 0)) (by (with_reducible repeat (first | refine blk_drewN ?_ _ | refine blk_drew ?_ | refine blk_alloc ?_ _)); exact BK156.out)) : gb156 ≠ gb165)); have n6_ := Aside0.mk ((by rw [hg]; exact Nat.ne_of_gt (blk_lt (g := gb156) (o := .cells #[.bool false, .bool false, .bool false, .bool false] 29 (0, 0)) (by (with_reducible repeat (first | refine blk_drewN ?_ _ | refine blk_drew ?_ | refine blk_alloc ?_ _)); exact BK156.out)) : gb165 ≠ gb156)); clear BK156; clear HB; have BK156 := n0_; have HB := n1_; have BK165 := n2_; have GW165 := n3_; have GE165 := n4_; have NB156_165 := n5_; have NB165_156 := n6_; clear n0_ n1_ n2_ n3_ n4_ n5_ n6_; clear hb hbox hg) | ((with_reducible refine gate_callee (f := 23) rfl ?_); refine goesL_ (some 75) rfl rfl Try.func23 (by kernel_rfl) rfl #[.int .u32 a2, .int .u32 a1, .bool false, .int .i64 a4] rfl (by (try simp only [List.map_toArray, List.map_cons, List.map_nil]); first | done | rfl | (simp only [List.length_drop, List.length_take]; rfl)) ?_; (with_reducible refine (bits_Sub.calls a2 a1 false a4 t186 t187 t188 t189 t190 _ A75.out).mono ?_); rintro e w78 ⟨rfl, hb⟩; refine ⟨_, rfl, ?_⟩; have n0_ := Aside0.mk (blk_below (g := gb156) (o := .cells #[.bool false, .bool false, .bool false, .bool false] 29 (0, 0)) (by (with_reducible repeat (first | refine blk_drewN ?_ _ | refine blk_drew ?_ | refine blk_alloc ?_ _)); exact BK156.out) hb); have n1_ := Aside0.mk (blk_below (g := gb165) (o := .cells #[.bool false, .bool false, .bool false, .bool false] 29 (0, 0)) (by (with_reducible repeat (first | refine blk_drewN ?_ _ | refine blk_drew ?_ | refine blk_alloc ?_ _)); exact BK165.out) hb); have n2_ := Aside0.mk (below_step (by repeat (first | (with_reducible first | exact HB.out | apply below_alloc | apply pw_below_drewN | apply below_drew1 | refine below_set ?_ GE156.out | refine below_set ?_ GE165.out) | exact HB.out)) hb); clear BK156; clear BK165; clear HB; have BK156 := n0_; have BK165 := n1_; have HB := n2_; clear n0_ n1_ n2_; (try clear hb); (try clear hb2); (try clear hk); (try clear hi); have hnb79 := NB165_156.out; have hnc79 := NB156_165.out; have hcz80_0 : w78.cell? ⟨gb165, 0, none⟩ = some (.bool false) := (blk_cell BK165.out 0).trans rfl; have hcz80_1 : w78.cell? ⟨gb165, 1, none⟩ = some (.bool false) := (blk_cell BK165.out 1).trans rfl; have hcz80_2 : w78.cell? ⟨gb165, 2, none⟩ = some (.bool false) := (blk_cell BK165.out 2).trans rfl; have hcz80_3 : w78.cell? ⟨gb165, 3, none⟩ = some (.bool false) := (blk_cell BK165.out 3).trans rfl; have hfz80_0 := blk_frozen BK165.out 0; have hfz80_1 := blk_frozen BK165.out 1; have hfz80_2 := blk_frozen BK165.out 2; have hfz80_3 := blk_frozen BK165.out 3))
              have n0_ : Aside0 (((((w78.setCell ⟨gb165, 0, none⟩ (.bool t187)).setCell ⟨gb165, 1, none⟩ (.bool t188)).setCell ⟨gb165, 2, none⟩ (.bool t189)).setCell ⟨gb165, 3, none⟩ (.bool t190)).heap[gb156]? = some (.cells #[.bool false, .bool false, .bool false, .bool false] 29 (0, 0))) := ⟨by (with_reducible repeat (first | refine blk_drewN ?_ _ | refine blk_drew ?_ | refine blk_alloc ?_ _)); refine blk_far ?_ NB156_165.out _; (with_reducible repeat (first | refine blk_drewN ?_ _ | refine blk_drew ?_ | refine blk_alloc ?_ _)); refine blk_far ?_ NB156_165.out _; (with_reducible repeat (first | refine blk_drewN ?_ _ | refine blk_drew ?_ | refine blk_alloc ?_ _)); refine blk_far ?_ NB156_165.out _; (with_reducible repeat (first | refine blk_drewN ?_ _ | refine blk_drew ?_ | refine blk_alloc ?_ _)); refine blk_far ?_ NB156_165.out _; (with_reducible repeat (first | refine blk_drewN ?_ _ | refine blk_drew ?_ | refine blk_alloc ?_ _)); exact BK156.out⟩
              have n1_ : Aside0 (((((w78.setCell ⟨gb165, 0, none⟩ (.bool t187)).setCell ⟨gb165, 1, none⟩ (.bool t188)).setCell ⟨gb165, 2, none⟩ (.bool t189)).setCell ⟨gb165, 3, none⟩ (.bool t190)).heap[gb165]? = some (.cells #[.bool t187, .bool t188, .bool t189, .bool t190] 29 (0, 0))) := ⟨by (with_reducible repeat (first | refine blk_drewN ?_ _ | refine blk_drew ?_ | refine blk_alloc ?_ _)); refine blk_put (cs := #[.bool t187, .bool t188, .bool t189, .bool false]) ?_ 3 _ rfl; (with_reducible repeat (first | refine blk_drewN ?_ _ | refine blk_drew ?_ | refine blk_alloc ?_ _)); refine blk_put (cs := #[.bool t187, .bool t188, .bool false, .bool false]) ?_ 2 _ rfl; (with_reducible repeat (first | refine blk_drewN ?_ _ | refine blk_drew ?_ | refine blk_alloc ?_ _)); refine blk_put (cs := #[.bool t187, .bool false, .bool false, .bool false]) ?_ 1 _ rfl; (with_reducible repeat (first | refine blk_drewN ?_ _ | refine blk_drew ?_ | refine blk_alloc ?_ _)); refine blk_put (cs := #[.bool false, .bool false, .bool false, .bool false]) ?_ 0 _ rfl; (with_reducible repeat (first | refine blk_drewN ?_ _ | refine blk_drew ?_ | refine blk_alloc ?_ _)); exact BK165.out⟩
              have n2_ : Aside0 (Below w.heap.size w ((((w78.setCell ⟨gb165, 0, none⟩ (.bool t187)).setCell ⟨gb165, 1, none⟩ (.bool t188)).setCell ⟨gb165, 2, none⟩ (.bool t189)).setCell ⟨gb165, 3, none⟩ (.bool t190))) := ⟨by repeat (first | (with_reducible first | exact HB.out | apply below_alloc | apply pw_below_drewN | apply below_drew1 | refine below_set ?_ GE156.out | refine below_set ?_ GE165.out) | exact HB.out)⟩
              (try clear BK156)
              (try clear BK165)
              (try clear HB)
              (repeat rw [own_setCell_drewN]); (repeat rw [World.drewN_drewN])
              generalize ((((w78.setCell ⟨gb165, 0, none⟩ (.bool t187)).setCell ⟨gb165, 1, none⟩ (.bool t188)).setCell ⟨gb165, 2, none⟩ (.bool t189)).setCell ⟨gb165, 3, none⟩ (.bool t190)) = w81 at n0_ n1_ n2_ ⊢
              have BK156 := n0_
              have BK165 := n1_
              have HB := n2_
              clear n0_ n1_ n2_
              have n0_ := Aside0.mk (blk_drew BK156.out)
              have n1_ := Aside0.mk (blk_drew BK165.out)
              have n2_ := Aside0.mk (below_drew1 HB.out)
              clear BK156
              clear BK165
              clear HB
              have BK156 := n0_
              have BK165 := n1_
              have HB := n2_
              clear n0_ n1_ n2_
              refine start_ (n := 6) (S := fun w' => w'.cell? ⟨gb165, 0, none⟩ = some (.bool t187) ∧ w'.cell? ⟨gb165, 1, none⟩ = some (.bool t188) ∧ w'.cell? ⟨gb165, 2, none⟩ = some (.bool t189) ∧ w'.cell? ⟨gb165, 3, none⟩ = some (.bool t190)) (ds := []) #[false, false, false, false, false, false] (by kernel_rfl) rfl rfl ⟨(blk_cell BK165.out 0).trans rfl, (blk_cell BK165.out 1).trans rfl, (blk_cell BK165.out 2).trans rfl, (blk_cell BK165.out 3).trans rfl⟩ (fun hHeld => ?_)
              generalize w81.drew = w82 at BK156 BK165 HB hHeld ⊢
              refine pure_ (i := 0) (N := some 136) (v := ?_) (a' := ?_) #[true, false, false, false, false, false] rfl rfl (by kernel_rfl) (fun _ _ _ h => h) (Or.inl ⟨by rfl, ?_⟩) ?_ ?_
              rotate_left
              · intro w'
                go_simp
                with_reducible rfl
              rotate_left
              · simp only [Act.put, List.setIfInBounds_toArray, List.set_cons_zero, List.set_cons_succ, i64_w, i32_w]
                rfl
              refine pure_ (i := 2) (N := some 138) (v := ?_) (a' := ?_) #[true, false, true, false, false, false] rfl rfl (by kernel_rfl) (fun _ _ _ h => h) (Or.inl ⟨by rfl, ?_⟩) ?_ ?_
              rotate_left
              · intro w'
                go_simp
                with_reducible rfl
              rotate_left
              · simp only [Act.put, List.setIfInBounds_toArray, List.set_cons_zero, List.set_cons_succ, i64_w, i32_w]
                rfl
              refine pure_ (i := 3) (N := some 10) (v := ?_) (a' := ?_) #[true, false, true, true, false, false] rfl rfl (by kernel_rfl) (fun _ _ _ h => h) (Or.inl ⟨by rfl, ?_⟩) ?_ ?_
              rotate_left
              · intro w'
                go_simp
                with_reducible rfl
              rotate_left
              · simp only [Act.put, List.setIfInBounds_toArray, List.set_cons_zero, List.set_cons_succ, i64_w, i32_w]
                rfl
              refine take_ (i := 1) (N := some 137) (v := ?_) (a' := ?_) #[true, true, true, true, false, false] rfl rfl (by kernel_rfl) (fun _ _ _ h => h) (Or.inl ⟨by rfl, ?_⟩) hHeld ?_ ?_
              rotate_left
              · rintro w' ⟨s0, s1, s2, s3⟩
                go_simp
                with_reducible rfl
              rotate_left
              · simp only [Act.put, List.setIfInBounds_toArray, List.set_cons_zero, List.set_cons_succ, i64_w, i32_w]
                rfl
              refine one_ (i := 4) (N := none) #[true, true, true, true, true, false] rfl rfl (by kernel_rfl) (by decide) (fun K hK => ?_)
              have hs83 : w82.cell? ⟨gb156, 0, none⟩ = some (.bool false) := (blk_cell BK156.out 0).trans rfl
              have hfs83 := blk_frozen BK156.out 0
              have hns83_1 := NB165_156.out
              have hms83_1 := NB156_165.out
              have hs84 : w82.cell? ⟨gb156, 1, none⟩ = some (.bool false) := (blk_cell BK156.out 1).trans rfl
              have hfs84 := blk_frozen BK156.out 1
              have hns84_1 := NB165_156.out
              have hms84_1 := NB156_165.out
              have hs85 : w82.cell? ⟨gb156, 2, none⟩ = some (.bool false) := (blk_cell BK156.out 2).trans rfl
              have hfs85 := blk_frozen BK156.out 2
              have hns85_1 := NB165_156.out
              have hms85_1 := NB156_165.out
              have hs86 : w82.cell? ⟨gb156, 3, none⟩ = some (.bool false) := (blk_cell BK156.out 3).trans rfl
              have hfs86 := blk_frozen BK156.out 3
              have hns86_1 := NB165_156.out
              have hms86_1 := NB156_165.out
              refine skip_ (w1 := ?_) (by rfl) rfl ?_ ?_
              rotate_left
              · go_simp
                rfl
              refine hK.out _ _ ⟨((cell_far (p := ⟨gb156, _, none⟩) NB165_156.out _).trans (((cell_far (p := ⟨gb156, _, none⟩) NB165_156.out _).trans (((cell_far (p := ⟨gb156, _, none⟩) NB165_156.out _).trans (((cell_far (p := ⟨gb156, _, none⟩) NB165_156.out _).trans (hHeld.1)))))))), ((cell_far (p := ⟨gb156, _, none⟩) NB165_156.out _).trans (((cell_far (p := ⟨gb156, _, none⟩) NB165_156.out _).trans (((cell_far (p := ⟨gb156, _, none⟩) NB165_156.out _).trans (((cell_far (p := ⟨gb156, _, none⟩) NB165_156.out _).trans (hHeld.2.1)))))))), ((cell_far (p := ⟨gb156, _, none⟩) NB165_156.out _).trans (((cell_far (p := ⟨gb156, _, none⟩) NB165_156.out _).trans (((cell_far (p := ⟨gb156, _, none⟩) NB165_156.out _).trans (((cell_far (p := ⟨gb156, _, none⟩) NB165_156.out _).trans (hHeld.2.2.1)))))))), ((cell_far (p := ⟨gb156, _, none⟩) NB165_156.out _).trans (((cell_far (p := ⟨gb156, _, none⟩) NB165_156.out _).trans (((cell_far (p := ⟨gb156, _, none⟩) NB165_156.out _).trans (((cell_far (p := ⟨gb156, _, none⟩) NB165_156.out _).trans (hHeld.2.2.2))))))))⟩ (fun hHeld => ?_)
              clear hK K
              refine pure_ (i := 5) (N := some 12) (v := ?_) (a' := ?_) #[true, true, true, true, true, true] rfl rfl (by kernel_rfl) (fun _ _ _ h => h) (Or.inl ⟨by rfl, ?_⟩) ?_ ?_
              rotate_left
              · intro w'
                go_simp
                with_reducible rfl
              rotate_left
              · simp only [Act.put, List.setIfInBounds_toArray, List.set_cons_zero, List.set_cons_succ, i64_w, i32_w]
                rfl
              refine done_ (by kernel_rfl) ?_
              try go_wp2
              refine bodyPost_ret (results_list (rs := [.tmp 10, .cell 11 29, .tmp 12]) rfl (by simp) (.tmp (.cell gb156 29 #[.bool t187, .bool t188, .bool t189, .bool t190] (0, 0) _ rfl (by (with_reducible repeat (first | refine blk_drewN ?_ _ | refine blk_drew ?_ | refine blk_alloc ?_ _)); refine blk_put (cs := #[.bool t187, .bool t188, .bool t189, .bool false]) ?_ 3 _ rfl; (with_reducible repeat (first | refine blk_drewN ?_ _ | refine blk_drew ?_ | refine blk_alloc ?_ _)); refine blk_put (cs := #[.bool t187, .bool t188, .bool false, .bool false]) ?_ 2 _ rfl; (with_reducible repeat (first | refine blk_drewN ?_ _ | refine blk_drew ?_ | refine blk_alloc ?_ _)); refine blk_put (cs := #[.bool t187, .bool false, .bool false, .bool false]) ?_ 1 _ rfl; (with_reducible repeat (first | refine blk_drewN ?_ _ | refine blk_drew ?_ | refine blk_alloc ?_ _)); refine blk_put (cs := #[.bool false, .bool false, .bool false, .bool false]) ?_ 0 _ rfl; (with_reducible repeat (first | refine blk_drewN ?_ _ | refine blk_drew ?_ | refine blk_alloc ?_ _)); exact BK156.out) Try.underlying29 rfl (by kernel_rfl) (.tmp .nil)))) rfl ?_
              exact ⟨by first | rfl | (simp [errW_none, errW_some] <;> rfl) | (simp [*, errW_none, errW_some] <;> rfl), by repeat (first | (with_reducible first | exact HB.out | apply below_alloc | apply pw_below_drewN | apply below_drew1 | refine below_set ?_ GE156.out | refine below_set ?_ GE165.out) | exact HB.out)⟩
            · rw [if_neg c74] at H
              have c74b0 : (a0 == 7) = false := beq_eq_false_iff_ne.mpr c74
              have c74b1 : (a0 != 7) = true := bne_iff_ne.mpr c74
              by_cases c87 : a0 = 8
              · rw [if_pos c87] at H
                have c87b0 : (a0 == 8) = true := beq_iff_eq.mpr c87
                have c87b1 : (a0 != 8) = false := bne_eq_false_iff_eq.mpr c87
                clear c87
                replace H := Option.bind_eq_some_iff.mp H
                obtain ⟨⟨t191, t192, t193, t194, t195⟩, A880, H⟩ := H
                replace H : (some (t191, t192, t193, t194, t195, true)) = some (r1, r2, r3, r4, r5, r6) := H
                have A88 := Aside0.mk A880
                clear A880
                simp only [Option.some.injEq, Prod.mk.injEq] at H
                obtain ⟨rfl, rfl, rfl, rfl, rfl, rfl⟩ := H
                go_enter Try.func41, Try.ntmps41
                try go_wp2_with (first | ((with_reducible refine gate_dst (N := 11) rfl ?_); refine box_event ?hg (N := 11) ?hd (cs := #[.bool false, .bool false, .bool false, .bool false]) (t := 29) ?hr ?_; (case hd => rfl); (case hg => rfl); (case hr => first | (go_simp; done) | (go_simp; rfl)); intro gb156 hg w89 hbox hb; have n0_ := Aside0.mk (below_step (by repeat (first | (with_reducible first | exact HB.out | apply below_alloc | apply pw_below_drewN | apply below_drew1) | exact HB.out)) hb); have n1_ := Aside0.mk (hbox); have n2_ := Aside0.mk ((by rw [hg]; exact (below_size (by repeat (first | (with_reducible first | exact HB.out | apply below_alloc | apply pw_below_drewN | apply below_drew1) | exact HB.out))) : w.heap.size ≤ gb156)); have n3_ := Aside0.mk ((by rw [hg]; exact (below_size (by repeat (first | (with_reducible first | exact HB.out | apply below_alloc | apply pw_below_drewN | apply below_drew1) | exact HB.out))) : w.heap.size ≤ gb156)); clear HB; have HB := n0_; have BK156 := n1_; have GW156 := n2_; have GE156 := n3_; clear n0_ n1_ n2_ n3_; clear hb hbox hg) | ((with_reducible refine gate_callee (f := 43) rfl ?_); refine goesL_ (some 19) rfl rfl Try.func43 (by kernel_rfl) rfl #[.int .i64 a0] rfl (by (try simp only [List.map_toArray, List.map_cons, List.map_nil]); first | done | rfl | (simp only [List.length_drop, List.length_take]; rfl)) ?_; (with_reducible refine (alu_Logic.calls a0 false _ A6.out).mono ?_); rintro e w' ⟨rfl, ⟨nd, rfl⟩⟩; refine ⟨_, rfl, ?_⟩; (try (rw [drewN_self w89]; generalize hq_ : World.drewN w89 _ = w89; have n0_ : Aside0 (w89.heap[gb156]? = some (.cells #[.bool false, .bool false, .bool false, .bool false] 29 (0, 0))) := ⟨by rw [← hq_]; exact (by (with_reducible repeat (first | refine blk_drewN ?_ _ | refine blk_drew ?_ | refine blk_alloc ?_ _)); exact BK156.out)⟩; have n1_ : Aside0 (Below w.heap.size w w89) := ⟨by rw [← hq_]; exact (by repeat (first | (with_reducible first | exact HB.out | apply below_alloc | apply pw_below_drewN | apply below_drew1 | refine below_set ?_ GE156.out) | exact HB.out))⟩; clear BK156 HB hq_; have BK156 := n0_; have HB := n1_; clear n0_ n1_))) | ((with_reducible refine gate_dst (N := 16) rfl ?_); refine box_event ?hg (N := 16) ?hd (cs := #[.bool false, .bool false, .bool false, .bool false]) (t := 29) ?hr ?_; (case hd => rfl); (case hg => rfl); (case hr => first | (go_simp; done) | (go_simp; rfl)); intro gb165 hg w90 hbox hb; have n0_ := Aside0.mk (blk_below (g := gb156) (o := .cells #[.bool false, .bool false, .bool false, .bool false] 29 (0, 0)) (by (with_reducible repeat (first | refine blk_drewN ?_ _ | refine blk_drew ?_ | refine blk_alloc ?_ _)); exact BK156.out) hb); have n1_ := Aside0.mk (below_step (by repeat (first | (with_reducible first | exact HB.out | apply below_alloc | apply pw_below_drewN | apply below_drew1 | refine below_set ?_ GE156.out) | exact HB.out)) hb); have n2_ := Aside0.mk (hbox); have n3_ := Aside0.mk ((by rw [hg]; exact (below_size (by repeat (first | (with_reducible first | exact HB.out | apply below_alloc | apply pw_below_drewN | apply below_drew1 | refine below_set ?_ GE156.out) | exact HB.out))) : w.heap.size ≤ gb165)); have n4_ := Aside0.mk ((by rw [hg]; exact (below_size (by repeat (first | (with_reducible first | exact HB.out | apply below_alloc | apply pw_below_drewN | apply below_drew1 | refine below_set ?_ GE156.out) | exact HB.out))) : w.heap.size ≤ gb165)); have n5_ := Aside0.mk ((by rw [hg]; exact Nat.ne_of_lt (blk_lt (g := gb156) (o := .cells #[.bool false, .bool false, .bool false, .bool false] 29 (0, 0)) (by (with_reducible repeat (first | refine blk_drewN ?_ _ | refine blk_drew ?_ | refine blk_alloc ?_ _)); exact BK156.out)) : gb156 ≠ gb165)); have n6_ := Aside0.mk ((by rw [hg]; exact Nat.ne_of_gt (blk_lt (g := gb156) (o := .cells #[.bool false, .bool false, .bool false, .bool false] 29 (0, 0)) (by (with_reducible repeat (first | refine blk_drewN ?_ _ | refine blk_drew ?_ | refine blk_alloc ?_ _)); exact BK156.out)) : gb165 ≠ gb156)); clear BK156; clear HB; have BK156 := n0_; have HB := n1_; have BK165 := n2_; have GW165 := n3_; have GE165 := n4_; have NB156_165 := n5_; have NB165_156 := n6_; clear n0_ n1_ n2_ n3_ n4_ n5_ n6_; clear hb hbox hg) | ((with_reducible refine gate_callee (f := 21) rfl ?_); refine goesL_ (some 85) rfl rfl Try.func21 (by kernel_rfl) rfl #[.int .u32 a1, .int .u32 a2, .bool a3, .int .i64 a4] rfl (by (try simp only [List.map_toArray, List.map_cons, List.map_nil]); first | done | rfl | (simp only [List.length_drop, List.length_take]; rfl)) ?_; (with_reducible refine (bits_Add.calls a1 a2 a3 a4 t191 t192 t193 t194 t195 _ A88.out).mono ?_); rintro e w91 ⟨rfl, hb⟩; refine ⟨_, rfl, ?_⟩; have n0_ := Aside0.mk (blk_below (g := gb156) (o := .cells #[.bool false, .bool false, .bool false, .bool false] 29 (0, 0)) (by (with_reducible repeat (first | refine blk_drewN ?_ _ | refine blk_drew ?_ | refine blk_alloc ?_ _)); exact BK156.out) hb); have n1_ := Aside0.mk (blk_below (g := gb165) (o := .cells #[.bool false, .bool false, .bool false, .bool false] 29 (0, 0)) (by (with_reducible repeat (first | refine blk_drewN ?_ _ | refine blk_drew ?_ | refine blk_alloc ?_ _)); exact BK165.out) hb); have n2_ := Aside0.mk (below_step (by repeat (first | (with_reducible first | exact HB.out | apply below_alloc | apply pw_below_drewN | apply below_drew1 | refine below_set ?_ GE156.out | refine below_set ?_ GE165.out) | exact HB.out)) hb); clear BK156; clear BK165; clear HB; have BK156 := n0_; have BK165 := n1_; have HB := n2_; clear n0_ n1_ n2_; (try clear hb); (try clear hb2); (try clear hk); (try clear hi); have hnb92 := NB165_156.out; have hnc92 := NB156_165.out; have hcz93_0 : w91.cell? ⟨gb165, 0, none⟩ = some (.bool false) := (blk_cell BK165.out 0).trans rfl; have hcz93_1 : w91.cell? ⟨gb165, 1, none⟩ = some (.bool false) := (blk_cell BK165.out 1).trans rfl; have hcz93_2 : w91.cell? ⟨gb165, 2, none⟩ = some (.bool false) := (blk_cell BK165.out 2).trans rfl; have hcz93_3 : w91.cell? ⟨gb165, 3, none⟩ = some (.bool false) := (blk_cell BK165.out 3).trans rfl; have hfz93_0 := blk_frozen BK165.out 0; have hfz93_1 := blk_frozen BK165.out 1; have hfz93_2 := blk_frozen BK165.out 2; have hfz93_3 := blk_frozen BK165.out 3))
                have n0_ : Aside0 (((((w91.setCell ⟨gb165, 0, none⟩ (.bool t192)).setCell ⟨gb165, 1, none⟩ (.bool t193)).setCell ⟨gb165, 2, none⟩ (.bool t194)).setCell ⟨gb165, 3, none⟩ (.bool t195)).heap[gb156]? = some (.cells #[.bool false, .bool false, .bool false, .bool false] 29 (0, 0))) := ⟨by (with_reducible repeat (first | refine blk_drewN ?_ _ | refine blk_drew ?_ | refine blk_alloc ?_ _)); refine blk_far ?_ NB156_165.out _; (with_reducible repeat (first | refine blk_drewN ?_ _ | refine blk_drew ?_ | refine blk_alloc ?_ _)); refine blk_far ?_ NB156_165.out _; (with_reducible repeat (first | refine blk_drewN ?_ _ | refine blk_drew ?_ | refine blk_alloc ?_ _)); refine blk_far ?_ NB156_165.out _; (with_reducible repeat (first | refine blk_drewN ?_ _ | refine blk_drew ?_ | refine blk_alloc ?_ _)); refine blk_far ?_ NB156_165.out _; (with_reducible repeat (first | refine blk_drewN ?_ _ | refine blk_drew ?_ | refine blk_alloc ?_ _)); exact BK156.out⟩
                have n1_ : Aside0 (((((w91.setCell ⟨gb165, 0, none⟩ (.bool t192)).setCell ⟨gb165, 1, none⟩ (.bool t193)).setCell ⟨gb165, 2, none⟩ (.bool t194)).setCell ⟨gb165, 3, none⟩ (.bool t195)).heap[gb165]? = some (.cells #[.bool t192, .bool t193, .bool t194, .bool t195] 29 (0, 0))) := ⟨by (with_reducible repeat (first | refine blk_drewN ?_ _ | refine blk_drew ?_ | refine blk_alloc ?_ _)); refine blk_put (cs := #[.bool t192, .bool t193, .bool t194, .bool false]) ?_ 3 _ rfl; (with_reducible repeat (first | refine blk_drewN ?_ _ | refine blk_drew ?_ | refine blk_alloc ?_ _)); refine blk_put (cs := #[.bool t192, .bool t193, .bool false, .bool false]) ?_ 2 _ rfl; (with_reducible repeat (first | refine blk_drewN ?_ _ | refine blk_drew ?_ | refine blk_alloc ?_ _)); refine blk_put (cs := #[.bool t192, .bool false, .bool false, .bool false]) ?_ 1 _ rfl; (with_reducible repeat (first | refine blk_drewN ?_ _ | refine blk_drew ?_ | refine blk_alloc ?_ _)); refine blk_put (cs := #[.bool false, .bool false, .bool false, .bool false]) ?_ 0 _ rfl; (with_reducible repeat (first | refine blk_drewN ?_ _ | refine blk_drew ?_ | refine blk_alloc ?_ _)); exact BK165.out⟩
                have n2_ : Aside0 (Below w.heap.size w ((((w91.setCell ⟨gb165, 0, none⟩ (.bool t192)).setCell ⟨gb165, 1, none⟩ (.bool t193)).setCell ⟨gb165, 2, none⟩ (.bool t194)).setCell ⟨gb165, 3, none⟩ (.bool t195))) := ⟨by repeat (first | (with_reducible first | exact HB.out | apply below_alloc | apply pw_below_drewN | apply below_drew1 | refine below_set ?_ GE156.out | refine below_set ?_ GE165.out) | exact HB.out)⟩
                (try clear BK156)
                (try clear BK165)
                (try clear HB)
                (repeat rw [own_setCell_drewN]); (repeat rw [World.drewN_drewN])
                generalize ((((w91.setCell ⟨gb165, 0, none⟩ (.bool t192)).setCell ⟨gb165, 1, none⟩ (.bool t193)).setCell ⟨gb165, 2, none⟩ (.bool t194)).setCell ⟨gb165, 3, none⟩ (.bool t195)) = w94 at n0_ n1_ n2_ ⊢
                have BK156 := n0_
                have BK165 := n1_
                have HB := n2_
                clear n0_ n1_ n2_
                have n0_ := Aside0.mk (blk_drew BK156.out)
                have n1_ := Aside0.mk (blk_drew BK165.out)
                have n2_ := Aside0.mk (below_drew1 HB.out)
                clear BK156
                clear BK165
                clear HB
                have BK156 := n0_
                have BK165 := n1_
                have HB := n2_
                clear n0_ n1_ n2_
                refine start_ (n := 6) (S := fun w' => w'.cell? ⟨gb165, 0, none⟩ = some (.bool t192) ∧ w'.cell? ⟨gb165, 1, none⟩ = some (.bool t193) ∧ w'.cell? ⟨gb165, 2, none⟩ = some (.bool t194) ∧ w'.cell? ⟨gb165, 3, none⟩ = some (.bool t195)) (ds := []) #[false, false, false, false, false, false] (by kernel_rfl) rfl rfl ⟨(blk_cell BK165.out 0).trans rfl, (blk_cell BK165.out 1).trans rfl, (blk_cell BK165.out 2).trans rfl, (blk_cell BK165.out 3).trans rfl⟩ (fun hHeld => ?_)
                generalize w94.drew = w95 at BK156 BK165 HB hHeld ⊢
                refine pure_ (i := 0) (N := some 136) (v := ?_) (a' := ?_) #[true, false, false, false, false, false] rfl rfl (by kernel_rfl) (fun _ _ _ h => h) (Or.inl ⟨by rfl, ?_⟩) ?_ ?_
                rotate_left
                · intro w'
                  go_simp
                  with_reducible rfl
                rotate_left
                · simp only [Act.put, List.setIfInBounds_toArray, List.set_cons_zero, List.set_cons_succ, i64_w, i32_w]
                  rfl
                refine pure_ (i := 2) (N := some 138) (v := ?_) (a' := ?_) #[true, false, true, false, false, false] rfl rfl (by kernel_rfl) (fun _ _ _ h => h) (Or.inl ⟨by rfl, ?_⟩) ?_ ?_
                rotate_left
                · intro w'
                  go_simp
                  with_reducible rfl
                rotate_left
                · simp only [Act.put, List.setIfInBounds_toArray, List.set_cons_zero, List.set_cons_succ, i64_w, i32_w]
                  rfl
                refine pure_ (i := 3) (N := some 10) (v := ?_) (a' := ?_) #[true, false, true, true, false, false] rfl rfl (by kernel_rfl) (fun _ _ _ h => h) (Or.inl ⟨by rfl, ?_⟩) ?_ ?_
                rotate_left
                · intro w'
                  go_simp
                  with_reducible rfl
                rotate_left
                · simp only [Act.put, List.setIfInBounds_toArray, List.set_cons_zero, List.set_cons_succ, i64_w, i32_w]
                  rfl
                refine take_ (i := 1) (N := some 137) (v := ?_) (a' := ?_) #[true, true, true, true, false, false] rfl rfl (by kernel_rfl) (fun _ _ _ h => h) (Or.inl ⟨by rfl, ?_⟩) hHeld ?_ ?_
                rotate_left
                · rintro w' ⟨s0, s1, s2, s3⟩
                  go_simp
                  with_reducible rfl
                rotate_left
                · simp only [Act.put, List.setIfInBounds_toArray, List.set_cons_zero, List.set_cons_succ, i64_w, i32_w]
                  rfl
                refine one_ (i := 4) (N := none) #[true, true, true, true, true, false] rfl rfl (by kernel_rfl) (by decide) (fun K hK => ?_)
                have hs96 : w95.cell? ⟨gb156, 0, none⟩ = some (.bool false) := (blk_cell BK156.out 0).trans rfl
                have hfs96 := blk_frozen BK156.out 0
                have hns96_1 := NB165_156.out
                have hms96_1 := NB156_165.out
                have hs97 : w95.cell? ⟨gb156, 1, none⟩ = some (.bool false) := (blk_cell BK156.out 1).trans rfl
                have hfs97 := blk_frozen BK156.out 1
                have hns97_1 := NB165_156.out
                have hms97_1 := NB156_165.out
                have hs98 : w95.cell? ⟨gb156, 2, none⟩ = some (.bool false) := (blk_cell BK156.out 2).trans rfl
                have hfs98 := blk_frozen BK156.out 2
                have hns98_1 := NB165_156.out
                have hms98_1 := NB156_165.out
                have hs99 : w95.cell? ⟨gb156, 3, none⟩ = some (.bool false) := (blk_cell BK156.out 3).trans rfl
                have hfs99 := blk_frozen BK156.out 3
                have hns99_1 := NB165_156.out
                have hms99_1 := NB156_165.out
                refine skip_ (w1 := ?_) (by rfl) rfl ?_ ?_
                rotate_left
                · go_simp
                  rfl
                refine hK.out _ _ ⟨((cell_far (p := ⟨gb156, _, none⟩) NB165_156.out _).trans (((cell_far (p := ⟨gb156, _, none⟩) NB165_156.out _).trans (((cell_far (p := ⟨gb156, _, none⟩) NB165_156.out _).trans (((cell_far (p := ⟨gb156, _, none⟩) NB165_156.out _).trans (hHeld.1)))))))), ((cell_far (p := ⟨gb156, _, none⟩) NB165_156.out _).trans (((cell_far (p := ⟨gb156, _, none⟩) NB165_156.out _).trans (((cell_far (p := ⟨gb156, _, none⟩) NB165_156.out _).trans (((cell_far (p := ⟨gb156, _, none⟩) NB165_156.out _).trans (hHeld.2.1)))))))), ((cell_far (p := ⟨gb156, _, none⟩) NB165_156.out _).trans (((cell_far (p := ⟨gb156, _, none⟩) NB165_156.out _).trans (((cell_far (p := ⟨gb156, _, none⟩) NB165_156.out _).trans (((cell_far (p := ⟨gb156, _, none⟩) NB165_156.out _).trans (hHeld.2.2.1)))))))), ((cell_far (p := ⟨gb156, _, none⟩) NB165_156.out _).trans (((cell_far (p := ⟨gb156, _, none⟩) NB165_156.out _).trans (((cell_far (p := ⟨gb156, _, none⟩) NB165_156.out _).trans (((cell_far (p := ⟨gb156, _, none⟩) NB165_156.out _).trans (hHeld.2.2.2))))))))⟩ (fun hHeld => ?_)
                clear hK K
                refine pure_ (i := 5) (N := some 12) (v := ?_) (a' := ?_) #[true, true, true, true, true, true] rfl rfl (by kernel_rfl) (fun _ _ _ h => h) (Or.inl ⟨by rfl, ?_⟩) ?_ ?_
                rotate_left
                · intro w'
                  go_simp
                  with_reducible rfl
                rotate_left
                · simp only [Act.put, List.setIfInBounds_toArray, List.set_cons_zero, List.set_cons_succ, i64_w, i32_w]
                  rfl
                refine done_ (by kernel_rfl) ?_
                try go_wp2
                refine bodyPost_ret (results_list (rs := [.tmp 10, .cell 11 29, .tmp 12]) rfl (by simp) (.tmp (.cell gb156 29 #[.bool t192, .bool t193, .bool t194, .bool t195] (0, 0) _ rfl (by (with_reducible repeat (first | refine blk_drewN ?_ _ | refine blk_drew ?_ | refine blk_alloc ?_ _)); refine blk_put (cs := #[.bool t192, .bool t193, .bool t194, .bool false]) ?_ 3 _ rfl; (with_reducible repeat (first | refine blk_drewN ?_ _ | refine blk_drew ?_ | refine blk_alloc ?_ _)); refine blk_put (cs := #[.bool t192, .bool t193, .bool false, .bool false]) ?_ 2 _ rfl; (with_reducible repeat (first | refine blk_drewN ?_ _ | refine blk_drew ?_ | refine blk_alloc ?_ _)); refine blk_put (cs := #[.bool t192, .bool false, .bool false, .bool false]) ?_ 1 _ rfl; (with_reducible repeat (first | refine blk_drewN ?_ _ | refine blk_drew ?_ | refine blk_alloc ?_ _)); refine blk_put (cs := #[.bool false, .bool false, .bool false, .bool false]) ?_ 0 _ rfl; (with_reducible repeat (first | refine blk_drewN ?_ _ | refine blk_drew ?_ | refine blk_alloc ?_ _)); exact BK156.out) Try.underlying29 rfl (by kernel_rfl) (.tmp .nil)))) rfl ?_
                exact ⟨by first | rfl | (simp [errW_none, errW_some] <;> rfl) | (simp [*, errW_none, errW_some] <;> rfl), by repeat (first | (with_reducible first | exact HB.out | apply below_alloc | apply pw_below_drewN | apply below_drew1 | refine below_set ?_ GE156.out | refine below_set ?_ GE165.out) | exact HB.out)⟩
              · rw [if_neg c87] at H
                have c87b0 : (a0 == 8) = false := beq_eq_false_iff_ne.mpr c87
                have c87b1 : (a0 != 8) = true := bne_iff_ne.mpr c87
                by_cases c100 : a0 = 9
                · rw [if_pos c100] at H
                  have c100b0 : (a0 == 9) = true := beq_iff_eq.mpr c100
                  have c100b1 : (a0 != 9) = false := bne_eq_false_iff_eq.mpr c100
                  clear c100
                  replace H := Option.bind_eq_some_iff.mp H
                  obtain ⟨⟨t196, t197, t198, t199, t200⟩, A1010, H⟩ := H
                  replace H : (some (t196, t197, t198, t199, t200, true)) = some (r1, r2, r3, r4, r5, r6) := H
                  have A101 := Aside0.mk A1010
                  clear A1010
                  simp only [Option.some.injEq, Prod.mk.injEq] at H
                  obtain ⟨rfl, rfl, rfl, rfl, rfl, rfl⟩ := H
                  go_enter Try.func41, Try.ntmps41
                  try go_wp2_with (first | ((with_reducible refine gate_dst (N := 11) rfl ?_); refine box_event ?hg (N := 11) ?hd (cs := #[.bool false, .bool false, .bool false, .bool false]) (t := 29) ?hr ?_; (case hd => rfl); (case hg => rfl); (case hr => first | (go_simp; done) | (go_simp; rfl)); intro gb156 hg w102 hbox hb; have n0_ := Aside0.mk (below_step (by repeat (first | (with_reducible first | exact HB.out | apply below_alloc | apply pw_below_drewN | apply below_drew1) | exact HB.out)) hb); have n1_ := Aside0.mk (hbox); have n2_ := Aside0.mk ((by rw [hg]; exact (below_size (by repeat (first | (with_reducible first | exact HB.out | apply below_alloc | apply pw_below_drewN | apply below_drew1) | exact HB.out))) : w.heap.size ≤ gb156)); have n3_ := Aside0.mk ((by rw [hg]; exact (below_size (by repeat (first | (with_reducible first | exact HB.out | apply below_alloc | apply pw_below_drewN | apply below_drew1) | exact HB.out))) : w.heap.size ≤ gb156)); clear HB; have HB := n0_; have BK156 := n1_; have GW156 := n2_; have GE156 := n3_; clear n0_ n1_ n2_ n3_; clear hb hbox hg) | ((with_reducible refine gate_callee (f := 43) rfl ?_); refine goesL_ (some 19) rfl rfl Try.func43 (by kernel_rfl) rfl #[.int .i64 a0] rfl (by (try simp only [List.map_toArray, List.map_cons, List.map_nil]); first | done | rfl | (simp only [List.length_drop, List.length_take]; rfl)) ?_; (with_reducible refine (alu_Logic.calls a0 false _ A6.out).mono ?_); rintro e w' ⟨rfl, ⟨nd, rfl⟩⟩; refine ⟨_, rfl, ?_⟩; (try (rw [drewN_self w102]; generalize hq_ : World.drewN w102 _ = w102; have n0_ : Aside0 (w102.heap[gb156]? = some (.cells #[.bool false, .bool false, .bool false, .bool false] 29 (0, 0))) := ⟨by rw [← hq_]; exact (by (with_reducible repeat (first | refine blk_drewN ?_ _ | refine blk_drew ?_ | refine blk_alloc ?_ _)); exact BK156.out)⟩; have n1_ : Aside0 (Below w.heap.size w w102) := ⟨by rw [← hq_]; exact (by repeat (first | (with_reducible first | exact HB.out | apply below_alloc | apply pw_below_drewN | apply below_drew1 | refine below_set ?_ GE156.out) | exact HB.out))⟩; clear BK156 HB hq_; have BK156 := n0_; have HB := n1_; clear n0_ n1_))) | ((with_reducible refine gate_dst (N := 16) rfl ?_); refine box_event ?hg (N := 16) ?hd (cs := #[.bool false, .bool false, .bool false, .bool false]) (t := 29) ?hr ?_; (case hd => rfl); (case hg => rfl); (case hr => first | (go_simp; done) | (go_simp; rfl)); intro gb165 hg w103 hbox hb; have n0_ := Aside0.mk (blk_below (g := gb156) (o := .cells #[.bool false, .bool false, .bool false, .bool false] 29 (0, 0)) (by (with_reducible repeat (first | refine blk_drewN ?_ _ | refine blk_drew ?_ | refine blk_alloc ?_ _)); exact BK156.out) hb); have n1_ := Aside0.mk (below_step (by repeat (first | (with_reducible first | exact HB.out | apply below_alloc | apply pw_below_drewN | apply below_drew1 | refine below_set ?_ GE156.out) | exact HB.out)) hb); have n2_ := Aside0.mk (hbox); have n3_ := Aside0.mk ((by rw [hg]; exact (below_size (by repeat (first | (with_reducible first | exact HB.out | apply below_alloc | apply pw_below_drewN | apply below_drew1 | refine below_set ?_ GE156.out) | exact HB.out))) : w.heap.size ≤ gb165)); have n4_ := Aside0.mk ((by rw [hg]; exact (below_size (by repeat (first | (with_reducible first | exact HB.out | apply below_alloc | apply pw_below_drewN | apply below_drew1 | refine below_set ?_ GE156.out) | exact HB.out))) : w.heap.size ≤ gb165)); have n5_ := Aside0.mk ((by rw [hg]; exact Nat.ne_of_lt (blk_lt (g := gb156) (o := .cells #[.bool false, .bool false, .bool false, .bool false] 29 (0, 0)) (by (with_reducible repeat (first | refine blk_drewN ?_ _ | refine blk_drew ?_ | refine blk_alloc ?_ _)); exact BK156.out)) : gb156 ≠ gb165)); have n6_ := Aside0.mk ((by rw [hg]; exact Nat.ne_of_gt (blk_lt (g := gb156) (o := .cells #[.bool false, .bool false, .bool false, .bool false] 29 (0, 0)) (by (with_reducible repeat (first | refine blk_drewN ?_ _ | refine blk_drew ?_ | refine blk_alloc ?_ _)); exact BK156.out)) : gb165 ≠ gb156)); clear BK156; clear HB; have BK156 := n0_; have HB := n1_; have BK165 := n2_; have GW165 := n3_; have GE165 := n4_; have NB156_165 := n5_; have NB165_156 := n6_; clear n0_ n1_ n2_ n3_ n4_ n5_ n6_; clear hb hbox hg) | ((with_reducible refine gate_callee (f := 23) rfl ?_); refine goesL_ (some 95) rfl rfl Try.func23 (by kernel_rfl) rfl #[.int .u32 a2, .int .u32 a1, .bool a3, .int .i64 a4] rfl (by (try simp only [List.map_toArray, List.map_cons, List.map_nil]); first | done | rfl | (simp only [List.length_drop, List.length_take]; rfl)) ?_; (with_reducible refine (bits_Sub.calls a2 a1 a3 a4 t196 t197 t198 t199 t200 _ A101.out).mono ?_); rintro e w104 ⟨rfl, hb⟩; refine ⟨_, rfl, ?_⟩; have n0_ := Aside0.mk (blk_below (g := gb156) (o := .cells #[.bool false, .bool false, .bool false, .bool false] 29 (0, 0)) (by (with_reducible repeat (first | refine blk_drewN ?_ _ | refine blk_drew ?_ | refine blk_alloc ?_ _)); exact BK156.out) hb); have n1_ := Aside0.mk (blk_below (g := gb165) (o := .cells #[.bool false, .bool false, .bool false, .bool false] 29 (0, 0)) (by (with_reducible repeat (first | refine blk_drewN ?_ _ | refine blk_drew ?_ | refine blk_alloc ?_ _)); exact BK165.out) hb); have n2_ := Aside0.mk (below_step (by repeat (first | (with_reducible first | exact HB.out | apply below_alloc | apply pw_below_drewN | apply below_drew1 | refine below_set ?_ GE156.out | refine below_set ?_ GE165.out) | exact HB.out)) hb); clear BK156; clear BK165; clear HB; have BK156 := n0_; have BK165 := n1_; have HB := n2_; clear n0_ n1_ n2_; (try clear hb); (try clear hb2); (try clear hk); (try clear hi); have hnb105 := NB165_156.out; have hnc105 := NB156_165.out; have hcz106_0 : w104.cell? ⟨gb165, 0, none⟩ = some (.bool false) := (blk_cell BK165.out 0).trans rfl; have hcz106_1 : w104.cell? ⟨gb165, 1, none⟩ = some (.bool false) := (blk_cell BK165.out 1).trans rfl; have hcz106_2 : w104.cell? ⟨gb165, 2, none⟩ = some (.bool false) := (blk_cell BK165.out 2).trans rfl; have hcz106_3 : w104.cell? ⟨gb165, 3, none⟩ = some (.bool false) := (blk_cell BK165.out 3).trans rfl; have hfz106_0 := blk_frozen BK165.out 0; have hfz106_1 := blk_frozen BK165.out 1; have hfz106_2 := blk_frozen BK165.out 2; have hfz106_3 := blk_frozen BK165.out 3))
                  have n0_ : Aside0 (((((w104.setCell ⟨gb165, 0, none⟩ (.bool t197)).setCell ⟨gb165, 1, none⟩ (.bool t198)).setCell ⟨gb165, 2, none⟩ (.bool t199)).setCell ⟨gb165, 3, none⟩ (.bool t200)).heap[gb156]? = some (.cells #[.bool false, .bool false, .bool false, .bool false] 29 (0, 0))) := ⟨by (with_reducible repeat (first | refine blk_drewN ?_ _ | refine blk_drew ?_ | refine blk_alloc ?_ _)); refine blk_far ?_ NB156_165.out _; (with_reducible repeat (first | refine blk_drewN ?_ _ | refine blk_drew ?_ | refine blk_alloc ?_ _)); refine blk_far ?_ NB156_165.out _; (with_reducible repeat (first | refine blk_drewN ?_ _ | refine blk_drew ?_ | refine blk_alloc ?_ _)); refine blk_far ?_ NB156_165.out _; (with_reducible repeat (first | refine blk_drewN ?_ _ | refine blk_drew ?_ | refine blk_alloc ?_ _)); refine blk_far ?_ NB156_165.out _; (with_reducible repeat (first | refine blk_drewN ?_ _ | refine blk_drew ?_ | refine blk_alloc ?_ _)); exact BK156.out⟩
                  have n1_ : Aside0 (((((w104.setCell ⟨gb165, 0, none⟩ (.bool t197)).setCell ⟨gb165, 1, none⟩ (.bool t198)).setCell ⟨gb165, 2, none⟩ (.bool t199)).setCell ⟨gb165, 3, none⟩ (.bool t200)).heap[gb165]? = some (.cells #[.bool t197, .bool t198, .bool t199, .bool t200] 29 (0, 0))) := ⟨by (with_reducible repeat (first | refine blk_drewN ?_ _ | refine blk_drew ?_ | refine blk_alloc ?_ _)); refine blk_put (cs := #[.bool t197, .bool t198, .bool t199, .bool false]) ?_ 3 _ rfl; (with_reducible repeat (first | refine blk_drewN ?_ _ | refine blk_drew ?_ | refine blk_alloc ?_ _)); refine blk_put (cs := #[.bool t197, .bool t198, .bool false, .bool false]) ?_ 2 _ rfl; (with_reducible repeat (first | refine blk_drewN ?_ _ | refine blk_drew ?_ | refine blk_alloc ?_ _)); refine blk_put (cs := #[.bool t197, .bool false, .bool false, .bool false]) ?_ 1 _ rfl; (with_reducible repeat (first | refine blk_drewN ?_ _ | refine blk_drew ?_ | refine blk_alloc ?_ _)); refine blk_put (cs := #[.bool false, .bool false, .bool false, .bool false]) ?_ 0 _ rfl; (with_reducible repeat (first | refine blk_drewN ?_ _ | refine blk_drew ?_ | refine blk_alloc ?_ _)); exact BK165.out⟩
                  have n2_ : Aside0 (Below w.heap.size w ((((w104.setCell ⟨gb165, 0, none⟩ (.bool t197)).setCell ⟨gb165, 1, none⟩ (.bool t198)).setCell ⟨gb165, 2, none⟩ (.bool t199)).setCell ⟨gb165, 3, none⟩ (.bool t200))) := ⟨by repeat (first | (with_reducible first | exact HB.out | apply below_alloc | apply pw_below_drewN | apply below_drew1 | refine below_set ?_ GE156.out | refine below_set ?_ GE165.out) | exact HB.out)⟩
                  (try clear BK156)
                  (try clear BK165)
                  (try clear HB)
                  (repeat rw [own_setCell_drewN]); (repeat rw [World.drewN_drewN])
                  generalize ((((w104.setCell ⟨gb165, 0, none⟩ (.bool t197)).setCell ⟨gb165, 1, none⟩ (.bool t198)).setCell ⟨gb165, 2, none⟩ (.bool t199)).setCell ⟨gb165, 3, none⟩ (.bool t200)) = w107 at n0_ n1_ n2_ ⊢
                  have BK156 := n0_
                  have BK165 := n1_
                  have HB := n2_
                  clear n0_ n1_ n2_
                  have n0_ := Aside0.mk (blk_drew BK156.out)
                  have n1_ := Aside0.mk (blk_drew BK165.out)
                  have n2_ := Aside0.mk (below_drew1 HB.out)
                  clear BK156
                  clear BK165
                  clear HB
                  have BK156 := n0_
                  have BK165 := n1_
                  have HB := n2_
                  clear n0_ n1_ n2_
                  refine start_ (n := 6) (S := fun w' => w'.cell? ⟨gb165, 0, none⟩ = some (.bool t197) ∧ w'.cell? ⟨gb165, 1, none⟩ = some (.bool t198) ∧ w'.cell? ⟨gb165, 2, none⟩ = some (.bool t199) ∧ w'.cell? ⟨gb165, 3, none⟩ = some (.bool t200)) (ds := []) #[false, false, false, false, false, false] (by kernel_rfl) rfl rfl ⟨(blk_cell BK165.out 0).trans rfl, (blk_cell BK165.out 1).trans rfl, (blk_cell BK165.out 2).trans rfl, (blk_cell BK165.out 3).trans rfl⟩ (fun hHeld => ?_)
                  generalize w107.drew = w108 at BK156 BK165 HB hHeld ⊢
                  refine pure_ (i := 0) (N := some 136) (v := ?_) (a' := ?_) #[true, false, false, false, false, false] rfl rfl (by kernel_rfl) (fun _ _ _ h => h) (Or.inl ⟨by rfl, ?_⟩) ?_ ?_
                  rotate_left
                  · intro w'
                    go_simp
                    with_reducible rfl
                  rotate_left
                  · simp only [Act.put, List.setIfInBounds_toArray, List.set_cons_zero, List.set_cons_succ, i64_w, i32_w]
                    rfl
                  refine pure_ (i := 2) (N := some 138) (v := ?_) (a' := ?_) #[true, false, true, false, false, false] rfl rfl (by kernel_rfl) (fun _ _ _ h => h) (Or.inl ⟨by rfl, ?_⟩) ?_ ?_
                  rotate_left
                  · intro w'
                    go_simp
                    with_reducible rfl
                  rotate_left
                  · simp only [Act.put, List.setIfInBounds_toArray, List.set_cons_zero, List.set_cons_succ, i64_w, i32_w]
                    rfl
                  refine pure_ (i := 3) (N := some 10) (v := ?_) (a' := ?_) #[true, false, true, true, false, false] rfl rfl (by kernel_rfl) (fun _ _ _ h => h) (Or.inl ⟨by rfl, ?_⟩) ?_ ?_
                  rotate_left
                  · intro w'
                    go_simp
                    with_reducible rfl
                  rotate_left
                  · simp only [Act.put, List.setIfInBounds_toArray, List.set_cons_zero, List.set_cons_succ, i64_w, i32_w]
                    rfl
                  refine take_ (i := 1) (N := some 137) (v := ?_) (a' := ?_) #[true, true, true, true, false, false] rfl rfl (by kernel_rfl) (fun _ _ _ h => h) (Or.inl ⟨by rfl, ?_⟩) hHeld ?_ ?_
                  rotate_left
                  · rintro w' ⟨s0, s1, s2, s3⟩
                    go_simp
                    with_reducible rfl
                  rotate_left
                  · simp only [Act.put, List.setIfInBounds_toArray, List.set_cons_zero, List.set_cons_succ, i64_w, i32_w]
                    rfl
                  refine one_ (i := 4) (N := none) #[true, true, true, true, true, false] rfl rfl (by kernel_rfl) (by decide) (fun K hK => ?_)
                  have hs109 : w108.cell? ⟨gb156, 0, none⟩ = some (.bool false) := (blk_cell BK156.out 0).trans rfl
                  have hfs109 := blk_frozen BK156.out 0
                  have hns109_1 := NB165_156.out
                  have hms109_1 := NB156_165.out
                  have hs110 : w108.cell? ⟨gb156, 1, none⟩ = some (.bool false) := (blk_cell BK156.out 1).trans rfl
                  have hfs110 := blk_frozen BK156.out 1
                  have hns110_1 := NB165_156.out
                  have hms110_1 := NB156_165.out
                  have hs111 : w108.cell? ⟨gb156, 2, none⟩ = some (.bool false) := (blk_cell BK156.out 2).trans rfl
                  have hfs111 := blk_frozen BK156.out 2
                  have hns111_1 := NB165_156.out
                  have hms111_1 := NB156_165.out
                  have hs112 : w108.cell? ⟨gb156, 3, none⟩ = some (.bool false) := (blk_cell BK156.out 3).trans rfl
                  have hfs112 := blk_frozen BK156.out 3
                  have hns112_1 := NB165_156.out
                  have hms112_1 := NB156_165.out
                  refine skip_ (w1 := ?_) (by rfl) rfl ?_ ?_
                  rotate_left
                  · go_simp
                    rfl
                  refine hK.out _ _ ⟨((cell_far (p := ⟨gb156, _, none⟩) NB165_156.out _).trans (((cell_far (p := ⟨gb156, _, none⟩) NB165_156.out _).trans (((cell_far (p := ⟨gb156, _, none⟩) NB165_156.out _).trans (((cell_far (p := ⟨gb156, _, none⟩) NB165_156.out _).trans (hHeld.1)))))))), ((cell_far (p := ⟨gb156, _, none⟩) NB165_156.out _).trans (((cell_far (p := ⟨gb156, _, none⟩) NB165_156.out _).trans (((cell_far (p := ⟨gb156, _, none⟩) NB165_156.out _).trans (((cell_far (p := ⟨gb156, _, none⟩) NB165_156.out _).trans (hHeld.2.1)))))))), ((cell_far (p := ⟨gb156, _, none⟩) NB165_156.out _).trans (((cell_far (p := ⟨gb156, _, none⟩) NB165_156.out _).trans (((cell_far (p := ⟨gb156, _, none⟩) NB165_156.out _).trans (((cell_far (p := ⟨gb156, _, none⟩) NB165_156.out _).trans (hHeld.2.2.1)))))))), ((cell_far (p := ⟨gb156, _, none⟩) NB165_156.out _).trans (((cell_far (p := ⟨gb156, _, none⟩) NB165_156.out _).trans (((cell_far (p := ⟨gb156, _, none⟩) NB165_156.out _).trans (((cell_far (p := ⟨gb156, _, none⟩) NB165_156.out _).trans (hHeld.2.2.2))))))))⟩ (fun hHeld => ?_)
                  clear hK K
                  refine pure_ (i := 5) (N := some 12) (v := ?_) (a' := ?_) #[true, true, true, true, true, true] rfl rfl (by kernel_rfl) (fun _ _ _ h => h) (Or.inl ⟨by rfl, ?_⟩) ?_ ?_
                  rotate_left
                  · intro w'
                    go_simp
                    with_reducible rfl
                  rotate_left
                  · simp only [Act.put, List.setIfInBounds_toArray, List.set_cons_zero, List.set_cons_succ, i64_w, i32_w]
                    rfl
                  refine done_ (by kernel_rfl) ?_
                  try go_wp2
                  refine bodyPost_ret (results_list (rs := [.tmp 10, .cell 11 29, .tmp 12]) rfl (by simp) (.tmp (.cell gb156 29 #[.bool t197, .bool t198, .bool t199, .bool t200] (0, 0) _ rfl (by (with_reducible repeat (first | refine blk_drewN ?_ _ | refine blk_drew ?_ | refine blk_alloc ?_ _)); refine blk_put (cs := #[.bool t197, .bool t198, .bool t199, .bool false]) ?_ 3 _ rfl; (with_reducible repeat (first | refine blk_drewN ?_ _ | refine blk_drew ?_ | refine blk_alloc ?_ _)); refine blk_put (cs := #[.bool t197, .bool t198, .bool false, .bool false]) ?_ 2 _ rfl; (with_reducible repeat (first | refine blk_drewN ?_ _ | refine blk_drew ?_ | refine blk_alloc ?_ _)); refine blk_put (cs := #[.bool t197, .bool false, .bool false, .bool false]) ?_ 1 _ rfl; (with_reducible repeat (first | refine blk_drewN ?_ _ | refine blk_drew ?_ | refine blk_alloc ?_ _)); refine blk_put (cs := #[.bool false, .bool false, .bool false, .bool false]) ?_ 0 _ rfl; (with_reducible repeat (first | refine blk_drewN ?_ _ | refine blk_drew ?_ | refine blk_alloc ?_ _)); exact BK156.out) Try.underlying29 rfl (by kernel_rfl) (.tmp .nil)))) rfl ?_
                  exact ⟨by first | rfl | (simp [errW_none, errW_some] <;> rfl) | (simp [*, errW_none, errW_some] <;> rfl), by repeat (first | (with_reducible first | exact HB.out | apply below_alloc | apply pw_below_drewN | apply below_drew1 | refine below_set ?_ GE156.out | refine below_set ?_ GE165.out) | exact HB.out)⟩
                · rw [if_neg c100] at H
                  have c100b0 : (a0 == 9) = false := beq_eq_false_iff_ne.mpr c100
                  have c100b1 : (a0 != 9) = true := bne_iff_ne.mpr c100
                  by_cases c113 : a0 = 10
                  · rw [if_pos c113] at H
                    have c113b0 : (a0 == 10) = true := beq_iff_eq.mpr c113
                    have c113b1 : (a0 != 10) = false := bne_eq_false_iff_eq.mpr c113
                    clear c113
                    replace H := Option.bind_eq_some_iff.mp H
                    obtain ⟨⟨t201, t202, t203, t204, t205⟩, A1140, H⟩ := H
                    replace H : (some (t201, t202, t203, t204, t205, true)) = some (r1, r2, r3, r4, r5, r6) := H
                    have A114 := Aside0.mk A1140
                    clear A1140
                    simp only [Option.some.injEq, Prod.mk.injEq] at H
                    obtain ⟨rfl, rfl, rfl, rfl, rfl, rfl⟩ := H
                    go_enter Try.func41, Try.ntmps41
                    try go_wp2_with (first | ((with_reducible refine gate_dst (N := 11) rfl ?_); refine box_event ?hg (N := 11) ?hd (cs := #[.bool false, .bool false, .bool false, .bool false]) (t := 29) ?hr ?_; (case hd => rfl); (case hg => rfl); (case hr => first | (go_simp; done) | (go_simp; rfl)); intro gb156 hg w115 hbox hb; have n0_ := Aside0.mk (below_step (by repeat (first | (with_reducible first | exact HB.out | apply below_alloc | apply pw_below_drewN | apply below_drew1) | exact HB.out)) hb); have n1_ := Aside0.mk (hbox); have n2_ := Aside0.mk ((by rw [hg]; exact (below_size (by repeat (first | (with_reducible first | exact HB.out | apply below_alloc | apply pw_below_drewN | apply below_drew1) | exact HB.out))) : w.heap.size ≤ gb156)); have n3_ := Aside0.mk ((by rw [hg]; exact (below_size (by repeat (first | (with_reducible first | exact HB.out | apply below_alloc | apply pw_below_drewN | apply below_drew1) | exact HB.out))) : w.heap.size ≤ gb156)); clear HB; have HB := n0_; have BK156 := n1_; have GW156 := n2_; have GE156 := n3_; clear n0_ n1_ n2_ n3_; clear hb hbox hg) | ((with_reducible refine gate_callee (f := 43) rfl ?_); refine goesL_ (some 19) rfl rfl Try.func43 (by kernel_rfl) rfl #[.int .i64 a0] rfl (by (try simp only [List.map_toArray, List.map_cons, List.map_nil]); first | done | rfl | (simp only [List.length_drop, List.length_take]; rfl)) ?_; (with_reducible refine (alu_Logic.calls a0 false _ A6.out).mono ?_); rintro e w' ⟨rfl, ⟨nd, rfl⟩⟩; refine ⟨_, rfl, ?_⟩; (try (rw [drewN_self w115]; generalize hq_ : World.drewN w115 _ = w115; have n0_ : Aside0 (w115.heap[gb156]? = some (.cells #[.bool false, .bool false, .bool false, .bool false] 29 (0, 0))) := ⟨by rw [← hq_]; exact (by (with_reducible repeat (first | refine blk_drewN ?_ _ | refine blk_drew ?_ | refine blk_alloc ?_ _)); exact BK156.out)⟩; have n1_ : Aside0 (Below w.heap.size w w115) := ⟨by rw [← hq_]; exact (by repeat (first | (with_reducible first | exact HB.out | apply below_alloc | apply pw_below_drewN | apply below_drew1 | refine below_set ?_ GE156.out) | exact HB.out))⟩; clear BK156 HB hq_; have BK156 := n0_; have HB := n1_; clear n0_ n1_))) | ((with_reducible refine gate_dst (N := 16) rfl ?_); refine box_event ?hg (N := 16) ?hd (cs := #[.bool false, .bool false, .bool false, .bool false]) (t := 29) ?hr ?_; (case hd => rfl); (case hg => rfl); (case hr => first | (go_simp; done) | (go_simp; rfl)); intro gb165 hg w116 hbox hb; have n0_ := Aside0.mk (blk_below (g := gb156) (o := .cells #[.bool false, .bool false, .bool false, .bool false] 29 (0, 0)) (by (with_reducible repeat (first | refine blk_drewN ?_ _ | refine blk_drew ?_ | refine blk_alloc ?_ _)); exact BK156.out) hb); have n1_ := Aside0.mk (below_step (by repeat (first | (with_reducible first | exact HB.out | apply below_alloc | apply pw_below_drewN | apply below_drew1 | refine below_set ?_ GE156.out) | exact HB.out)) hb); have n2_ := Aside0.mk (hbox); have n3_ := Aside0.mk ((by rw [hg]; exact (below_size (by repeat (first | (with_reducible first | exact HB.out | apply below_alloc | apply pw_below_drewN | apply below_drew1 | refine below_set ?_ GE156.out) | exact HB.out))) : w.heap.size ≤ gb165)); have n4_ := Aside0.mk ((by rw [hg]; exact (below_size (by repeat (first | (with_reducible first | exact HB.out | apply below_alloc | apply pw_below_drewN | apply below_drew1 | refine below_set ?_ GE156.out) | exact HB.out))) : w.heap.size ≤ gb165)); have n5_ := Aside0.mk ((by rw [hg]; exact Nat.ne_of_lt (blk_lt (g := gb156) (o := .cells #[.bool false, .bool false, .bool false, .bool false] 29 (0, 0)) (by (with_reducible repeat (first | refine blk_drewN ?_ _ | refine blk_drew ?_ | refine blk_alloc ?_ _)); exact BK156.out)) : gb156 ≠ gb165)); have n6_ := Aside0.mk ((by rw [hg]; exact Nat.ne_of_gt (blk_lt (g := gb156) (o := .cells #[.bool false, .bool false, .bool false, .bool false] 29 (0, 0)) (by (with_reducible repeat (first | refine blk_drewN ?_ _ | refine blk_drew ?_ | refine blk_alloc ?_ _)); exact BK156.out)) : gb165 ≠ gb156)); clear BK156; clear HB; have BK156 := n0_; have HB := n1_; have BK165 := n2_; have GW165 := n3_; have GE165 := n4_; have NB156_165 := n5_; have NB165_156 := n6_; clear n0_ n1_ n2_ n3_ n4_ n5_ n6_; clear hb hbox hg) | ((with_reducible refine gate_callee (f := 36) rfl ?_); refine goesL_ (some 104) rfl rfl Try.func36 (by kernel_rfl) rfl #[.int .u32 a1, .int .u32 a2, .int .i64 a4] rfl (by (try simp only [List.map_toArray, List.map_cons, List.map_nil]); first | done | rfl | (simp only [List.length_drop, List.length_take]; rfl)) ?_; (with_reducible refine (bits_Mul.calls a1 a2 a4 t201 t202 t203 t204 t205 _ A114.out).mono ?_); rintro e w117 ⟨rfl, hb⟩; refine ⟨_, rfl, ?_⟩; have n0_ := Aside0.mk (blk_below (g := gb156) (o := .cells #[.bool false, .bool false, .bool false, .bool false] 29 (0, 0)) (by (with_reducible repeat (first | refine blk_drewN ?_ _ | refine blk_drew ?_ | refine blk_alloc ?_ _)); exact BK156.out) hb); have n1_ := Aside0.mk (blk_below (g := gb165) (o := .cells #[.bool false, .bool false, .bool false, .bool false] 29 (0, 0)) (by (with_reducible repeat (first | refine blk_drewN ?_ _ | refine blk_drew ?_ | refine blk_alloc ?_ _)); exact BK165.out) hb); have n2_ := Aside0.mk (below_step (by repeat (first | (with_reducible first | exact HB.out | apply below_alloc | apply pw_below_drewN | apply below_drew1 | refine below_set ?_ GE156.out | refine below_set ?_ GE165.out) | exact HB.out)) hb); clear BK156; clear BK165; clear HB; have BK156 := n0_; have BK165 := n1_; have HB := n2_; clear n0_ n1_ n2_; (try clear hb); (try clear hb2); (try clear hk); (try clear hi); have hnb118 := NB165_156.out; have hnc118 := NB156_165.out; have hcz119_0 : w117.cell? ⟨gb165, 0, none⟩ = some (.bool false) := (blk_cell BK165.out 0).trans rfl; have hcz119_1 : w117.cell? ⟨gb165, 1, none⟩ = some (.bool false) := (blk_cell BK165.out 1).trans rfl; have hcz119_2 : w117.cell? ⟨gb165, 2, none⟩ = some (.bool false) := (blk_cell BK165.out 2).trans rfl; have hcz119_3 : w117.cell? ⟨gb165, 3, none⟩ = some (.bool false) := (blk_cell BK165.out 3).trans rfl; have hfz119_0 := blk_frozen BK165.out 0; have hfz119_1 := blk_frozen BK165.out 1; have hfz119_2 := blk_frozen BK165.out 2; have hfz119_3 := blk_frozen BK165.out 3))
                    have n0_ : Aside0 (((((w117.setCell ⟨gb165, 0, none⟩ (.bool t202)).setCell ⟨gb165, 1, none⟩ (.bool t203)).setCell ⟨gb165, 2, none⟩ (.bool t204)).setCell ⟨gb165, 3, none⟩ (.bool t205)).heap[gb156]? = some (.cells #[.bool false, .bool false, .bool false, .bool false] 29 (0, 0))) := ⟨by (with_reducible repeat (first | refine blk_drewN ?_ _ | refine blk_drew ?_ | refine blk_alloc ?_ _)); refine blk_far ?_ NB156_165.out _; (with_reducible repeat (first | refine blk_drewN ?_ _ | refine blk_drew ?_ | refine blk_alloc ?_ _)); refine blk_far ?_ NB156_165.out _; (with_reducible repeat (first | refine blk_drewN ?_ _ | refine blk_drew ?_ | refine blk_alloc ?_ _)); refine blk_far ?_ NB156_165.out _; (with_reducible repeat (first | refine blk_drewN ?_ _ | refine blk_drew ?_ | refine blk_alloc ?_ _)); refine blk_far ?_ NB156_165.out _; (with_reducible repeat (first | refine blk_drewN ?_ _ | refine blk_drew ?_ | refine blk_alloc ?_ _)); exact BK156.out⟩
                    have n1_ : Aside0 (((((w117.setCell ⟨gb165, 0, none⟩ (.bool t202)).setCell ⟨gb165, 1, none⟩ (.bool t203)).setCell ⟨gb165, 2, none⟩ (.bool t204)).setCell ⟨gb165, 3, none⟩ (.bool t205)).heap[gb165]? = some (.cells #[.bool t202, .bool t203, .bool t204, .bool t205] 29 (0, 0))) := ⟨by (with_reducible repeat (first | refine blk_drewN ?_ _ | refine blk_drew ?_ | refine blk_alloc ?_ _)); refine blk_put (cs := #[.bool t202, .bool t203, .bool t204, .bool false]) ?_ 3 _ rfl; (with_reducible repeat (first | refine blk_drewN ?_ _ | refine blk_drew ?_ | refine blk_alloc ?_ _)); refine blk_put (cs := #[.bool t202, .bool t203, .bool false, .bool false]) ?_ 2 _ rfl; (with_reducible repeat (first | refine blk_drewN ?_ _ | refine blk_drew ?_ | refine blk_alloc ?_ _)); refine blk_put (cs := #[.bool t202, .bool false, .bool false, .bool false]) ?_ 1 _ rfl; (with_reducible repeat (first | refine blk_drewN ?_ _ | refine blk_drew ?_ | refine blk_alloc ?_ _)); refine blk_put (cs := #[.bool false, .bool false, .bool false, .bool false]) ?_ 0 _ rfl; (with_reducible repeat (first | refine blk_drewN ?_ _ | refine blk_drew ?_ | refine blk_alloc ?_ _)); exact BK165.out⟩
                    have n2_ : Aside0 (Below w.heap.size w ((((w117.setCell ⟨gb165, 0, none⟩ (.bool t202)).setCell ⟨gb165, 1, none⟩ (.bool t203)).setCell ⟨gb165, 2, none⟩ (.bool t204)).setCell ⟨gb165, 3, none⟩ (.bool t205))) := ⟨by repeat (first | (with_reducible first | exact HB.out | apply below_alloc | apply pw_below_drewN | apply below_drew1 | refine below_set ?_ GE156.out | refine below_set ?_ GE165.out) | exact HB.out)⟩
                    (try clear BK156)
                    (try clear BK165)
                    (try clear HB)
                    (repeat rw [own_setCell_drewN]); (repeat rw [World.drewN_drewN])
                    generalize ((((w117.setCell ⟨gb165, 0, none⟩ (.bool t202)).setCell ⟨gb165, 1, none⟩ (.bool t203)).setCell ⟨gb165, 2, none⟩ (.bool t204)).setCell ⟨gb165, 3, none⟩ (.bool t205)) = w120 at n0_ n1_ n2_ ⊢
                    have BK156 := n0_
                    have BK165 := n1_
                    have HB := n2_
                    clear n0_ n1_ n2_
                    have n0_ := Aside0.mk (blk_drew BK156.out)
                    have n1_ := Aside0.mk (blk_drew BK165.out)
                    have n2_ := Aside0.mk (below_drew1 HB.out)
                    clear BK156
                    clear BK165
                    clear HB
                    have BK156 := n0_
                    have BK165 := n1_
                    have HB := n2_
                    clear n0_ n1_ n2_
                    refine start_ (n := 6) (S := fun w' => w'.cell? ⟨gb165, 0, none⟩ = some (.bool t202) ∧ w'.cell? ⟨gb165, 1, none⟩ = some (.bool t203) ∧ w'.cell? ⟨gb165, 2, none⟩ = some (.bool t204) ∧ w'.cell? ⟨gb165, 3, none⟩ = some (.bool t205)) (ds := []) #[false, false, false, false, false, false] (by kernel_rfl) rfl rfl ⟨(blk_cell BK165.out 0).trans rfl, (blk_cell BK165.out 1).trans rfl, (blk_cell BK165.out 2).trans rfl, (blk_cell BK165.out 3).trans rfl⟩ (fun hHeld => ?_)
                    generalize w120.drew = w121 at BK156 BK165 HB hHeld ⊢
                    refine pure_ (i := 0) (N := some 136) (v := ?_) (a' := ?_) #[true, false, false, false, false, false] rfl rfl (by kernel_rfl) (fun _ _ _ h => h) (Or.inl ⟨by rfl, ?_⟩) ?_ ?_
                    rotate_left
                    · intro w'
                      go_simp
                      with_reducible rfl
                    rotate_left
                    · simp only [Act.put, List.setIfInBounds_toArray, List.set_cons_zero, List.set_cons_succ, i64_w, i32_w]
                      rfl
                    refine pure_ (i := 2) (N := some 138) (v := ?_) (a' := ?_) #[true, false, true, false, false, false] rfl rfl (by kernel_rfl) (fun _ _ _ h => h) (Or.inl ⟨by rfl, ?_⟩) ?_ ?_
                    rotate_left
                    · intro w'
                      go_simp
                      with_reducible rfl
                    rotate_left
                    · simp only [Act.put, List.setIfInBounds_toArray, List.set_cons_zero, List.set_cons_succ, i64_w, i32_w]
                      rfl
                    refine pure_ (i := 3) (N := some 10) (v := ?_) (a' := ?_) #[true, false, true, true, false, false] rfl rfl (by kernel_rfl) (fun _ _ _ h => h) (Or.inl ⟨by rfl, ?_⟩) ?_ ?_
                    rotate_left
                    · intro w'
                      go_simp
                      with_reducible rfl
                    rotate_left
                    · simp only [Act.put, List.setIfInBounds_toArray, List.set_cons_zero, List.set_cons_succ, i64_w, i32_w]
                      rfl
                    refine take_ (i := 1) (N := some 137) (v := ?_) (a' := ?_) #[true, true, true, true, false, false] rfl rfl (by kernel_rfl) (fun _ _ _ h => h) (Or.inl ⟨by rfl, ?_⟩) hHeld ?_ ?_
                    rotate_left
                    · rintro w' ⟨s0, s1, s2, s3⟩
                      go_simp
                      with_reducible rfl
                    rotate_left
                    · simp only [Act.put, List.setIfInBounds_toArray, List.set_cons_zero, List.set_cons_succ, i64_w, i32_w]
                      rfl
                    refine one_ (i := 4) (N := none) #[true, true, true, true, true, false] rfl rfl (by kernel_rfl) (by decide) (fun K hK => ?_)
                    have hs122 : w121.cell? ⟨gb156, 0, none⟩ = some (.bool false) := (blk_cell BK156.out 0).trans rfl
                    have hfs122 := blk_frozen BK156.out 0
                    have hns122_1 := NB165_156.out
                    have hms122_1 := NB156_165.out
                    have hs123 : w121.cell? ⟨gb156, 1, none⟩ = some (.bool false) := (blk_cell BK156.out 1).trans rfl
                    have hfs123 := blk_frozen BK156.out 1
                    have hns123_1 := NB165_156.out
                    have hms123_1 := NB156_165.out
                    have hs124 : w121.cell? ⟨gb156, 2, none⟩ = some (.bool false) := (blk_cell BK156.out 2).trans rfl
                    have hfs124 := blk_frozen BK156.out 2
                    have hns124_1 := NB165_156.out
                    have hms124_1 := NB156_165.out
                    have hs125 : w121.cell? ⟨gb156, 3, none⟩ = some (.bool false) := (blk_cell BK156.out 3).trans rfl
                    have hfs125 := blk_frozen BK156.out 3
                    have hns125_1 := NB165_156.out
                    have hms125_1 := NB156_165.out
                    refine skip_ (w1 := ?_) (by rfl) rfl ?_ ?_
                    rotate_left
                    · go_simp
                      rfl
                    refine hK.out _ _ ⟨((cell_far (p := ⟨gb156, _, none⟩) NB165_156.out _).trans (((cell_far (p := ⟨gb156, _, none⟩) NB165_156.out _).trans (((cell_far (p := ⟨gb156, _, none⟩) NB165_156.out _).trans (((cell_far (p := ⟨gb156, _, none⟩) NB165_156.out _).trans (hHeld.1)))))))), ((cell_far (p := ⟨gb156, _, none⟩) NB165_156.out _).trans (((cell_far (p := ⟨gb156, _, none⟩) NB165_156.out _).trans (((cell_far (p := ⟨gb156, _, none⟩) NB165_156.out _).trans (((cell_far (p := ⟨gb156, _, none⟩) NB165_156.out _).trans (hHeld.2.1)))))))), ((cell_far (p := ⟨gb156, _, none⟩) NB165_156.out _).trans (((cell_far (p := ⟨gb156, _, none⟩) NB165_156.out _).trans (((cell_far (p := ⟨gb156, _, none⟩) NB165_156.out _).trans (((cell_far (p := ⟨gb156, _, none⟩) NB165_156.out _).trans (hHeld.2.2.1)))))))), ((cell_far (p := ⟨gb156, _, none⟩) NB165_156.out _).trans (((cell_far (p := ⟨gb156, _, none⟩) NB165_156.out _).trans (((cell_far (p := ⟨gb156, _, none⟩) NB165_156.out _).trans (((cell_far (p := ⟨gb156, _, none⟩) NB165_156.out _).trans (hHeld.2.2.2))))))))⟩ (fun hHeld => ?_)
                    clear hK K
                    refine pure_ (i := 5) (N := some 12) (v := ?_) (a' := ?_) #[true, true, true, true, true, true] rfl rfl (by kernel_rfl) (fun _ _ _ h => h) (Or.inl ⟨by rfl, ?_⟩) ?_ ?_
                    rotate_left
                    · intro w'
                      go_simp
                      with_reducible rfl
                    rotate_left
                    · simp only [Act.put, List.setIfInBounds_toArray, List.set_cons_zero, List.set_cons_succ, i64_w, i32_w]
                      rfl
                    refine done_ (by kernel_rfl) ?_
                    try go_wp2
                    refine bodyPost_ret (results_list (rs := [.tmp 10, .cell 11 29, .tmp 12]) rfl (by simp) (.tmp (.cell gb156 29 #[.bool t202, .bool t203, .bool t204, .bool t205] (0, 0) _ rfl (by (with_reducible repeat (first | refine blk_drewN ?_ _ | refine blk_drew ?_ | refine blk_alloc ?_ _)); refine blk_put (cs := #[.bool t202, .bool t203, .bool t204, .bool false]) ?_ 3 _ rfl; (with_reducible repeat (first | refine blk_drewN ?_ _ | refine blk_drew ?_ | refine blk_alloc ?_ _)); refine blk_put (cs := #[.bool t202, .bool t203, .bool false, .bool false]) ?_ 2 _ rfl; (with_reducible repeat (first | refine blk_drewN ?_ _ | refine blk_drew ?_ | refine blk_alloc ?_ _)); refine blk_put (cs := #[.bool t202, .bool false, .bool false, .bool false]) ?_ 1 _ rfl; (with_reducible repeat (first | refine blk_drewN ?_ _ | refine blk_drew ?_ | refine blk_alloc ?_ _)); refine blk_put (cs := #[.bool false, .bool false, .bool false, .bool false]) ?_ 0 _ rfl; (with_reducible repeat (first | refine blk_drewN ?_ _ | refine blk_drew ?_ | refine blk_alloc ?_ _)); exact BK156.out) Try.underlying29 rfl (by kernel_rfl) (.tmp .nil)))) rfl ?_
                    exact ⟨by first | rfl | (simp [errW_none, errW_some] <;> rfl) | (simp [*, errW_none, errW_some] <;> rfl), by repeat (first | (with_reducible first | exact HB.out | apply below_alloc | apply pw_below_drewN | apply below_drew1 | refine below_set ?_ GE156.out | refine below_set ?_ GE165.out) | exact HB.out)⟩
                  · rw [if_neg c113] at H
                    have c113b0 : (a0 == 10) = false := beq_eq_false_iff_ne.mpr c113
                    have c113b1 : (a0 != 10) = true := bne_iff_ne.mpr c113
                    by_cases c126 : a0 = 11
                    · rw [if_pos c126] at H
                      have c126b0 : (a0 == 11) = true := beq_iff_eq.mpr c126
                      have c126b1 : (a0 != 11) = false := bne_eq_false_iff_eq.mpr c126
                      clear c126
                      replace H := Option.bind_eq_some_iff.mp H
                      obtain ⟨⟨t206, t207, t208, t209, t210, t211⟩, A1270, H⟩ := H
                      replace H : (some (t206, t207, t208, t209, t210, t211)) = some (r1, r2, r3, r4, r5, r6) := H
                      have A127 := Aside0.mk A1270
                      clear A1270
                      simp only [Option.some.injEq, Prod.mk.injEq] at H
                      obtain ⟨rfl, rfl, rfl, rfl, rfl, rfl⟩ := H
                      go_enter Try.func41, Try.ntmps41
                      try go_wp2_with (first | ((with_reducible refine gate_dst (N := 11) rfl ?_); refine box_event ?hg (N := 11) ?hd (cs := #[.bool false, .bool false, .bool false, .bool false]) (t := 29) ?hr ?_; (case hd => rfl); (case hg => rfl); (case hr => first | (go_simp; done) | (go_simp; rfl)); intro gb156 hg w128 hbox hb; have n0_ := Aside0.mk (below_step (by repeat (first | (with_reducible first | exact HB.out | apply below_alloc | apply pw_below_drewN | apply below_drew1) | exact HB.out)) hb); have n1_ := Aside0.mk (hbox); have n2_ := Aside0.mk ((by rw [hg]; exact (below_size (by repeat (first | (with_reducible first | exact HB.out | apply below_alloc | apply pw_below_drewN | apply below_drew1) | exact HB.out))) : w.heap.size ≤ gb156)); have n3_ := Aside0.mk ((by rw [hg]; exact (below_size (by repeat (first | (with_reducible first | exact HB.out | apply below_alloc | apply pw_below_drewN | apply below_drew1) | exact HB.out))) : w.heap.size ≤ gb156)); clear HB; have HB := n0_; have BK156 := n1_; have GW156 := n2_; have GE156 := n3_; clear n0_ n1_ n2_ n3_; clear hb hbox hg) | ((with_reducible refine gate_callee (f := 43) rfl ?_); refine goesL_ (some 19) rfl rfl Try.func43 (by kernel_rfl) rfl #[.int .i64 a0] rfl (by (try simp only [List.map_toArray, List.map_cons, List.map_nil]); first | done | rfl | (simp only [List.length_drop, List.length_take]; rfl)) ?_; (with_reducible refine (alu_Logic.calls a0 false _ A6.out).mono ?_); rintro e w' ⟨rfl, ⟨nd, rfl⟩⟩; refine ⟨_, rfl, ?_⟩; (try (rw [drewN_self w128]; generalize hq_ : World.drewN w128 _ = w128; have n0_ : Aside0 (w128.heap[gb156]? = some (.cells #[.bool false, .bool false, .bool false, .bool false] 29 (0, 0))) := ⟨by rw [← hq_]; exact (by (with_reducible repeat (first | refine blk_drewN ?_ _ | refine blk_drew ?_ | refine blk_alloc ?_ _)); exact BK156.out)⟩; have n1_ : Aside0 (Below w.heap.size w w128) := ⟨by rw [← hq_]; exact (by repeat (first | (with_reducible first | exact HB.out | apply below_alloc | apply pw_below_drewN | apply below_drew1 | refine below_set ?_ GE156.out) | exact HB.out))⟩; clear BK156 HB hq_; have BK156 := n0_; have HB := n1_; clear n0_ n1_))) | ((with_reducible refine gate_dst (N := 16) rfl ?_); refine box_event ?hg (N := 16) ?hd (cs := #[.bool false, .bool false, .bool false, .bool false]) (t := 29) ?hr ?_; (case hd => rfl); (case hg => rfl); (case hr => first | (go_simp; done) | (go_simp; rfl)); intro gb165 hg w129 hbox hb; have n0_ := Aside0.mk (blk_below (g := gb156) (o := .cells #[.bool false, .bool false, .bool false, .bool false] 29 (0, 0)) (by (with_reducible repeat (first | refine blk_drewN ?_ _ | refine blk_drew ?_ | refine blk_alloc ?_ _)); exact BK156.out) hb); have n1_ := Aside0.mk (below_step (by repeat (first | (with_reducible first | exact HB.out | apply below_alloc | apply pw_below_drewN | apply below_drew1 | refine below_set ?_ GE156.out) | exact HB.out)) hb); have n2_ := Aside0.mk (hbox); have n3_ := Aside0.mk ((by rw [hg]; exact (below_size (by repeat (first | (with_reducible first | exact HB.out | apply below_alloc | apply pw_below_drewN | apply below_drew1 | refine below_set ?_ GE156.out) | exact HB.out))) : w.heap.size ≤ gb165)); have n4_ := Aside0.mk ((by rw [hg]; exact (below_size (by repeat (first | (with_reducible first | exact HB.out | apply below_alloc | apply pw_below_drewN | apply below_drew1 | refine below_set ?_ GE156.out) | exact HB.out))) : w.heap.size ≤ gb165)); have n5_ := Aside0.mk ((by rw [hg]; exact Nat.ne_of_lt (blk_lt (g := gb156) (o := .cells #[.bool false, .bool false, .bool false, .bool false] 29 (0, 0)) (by (with_reducible repeat (first | refine blk_drewN ?_ _ | refine blk_drew ?_ | refine blk_alloc ?_ _)); exact BK156.out)) : gb156 ≠ gb165)); have n6_ := Aside0.mk ((by rw [hg]; exact Nat.ne_of_gt (blk_lt (g := gb156) (o := .cells #[.bool false, .bool false, .bool false, .bool false] 29 (0, 0)) (by (with_reducible repeat (first | refine blk_drewN ?_ _ | refine blk_drew ?_ | refine blk_alloc ?_ _)); exact BK156.out)) : gb165 ≠ gb156)); clear BK156; clear HB; have BK156 := n0_; have HB := n1_; have BK165 := n2_; have GW165 := n3_; have GE165 := n4_; have NB156_165 := n5_; have NB165_156 := n6_; clear n0_ n1_ n2_ n3_ n4_ n5_ n6_; clear hb hbox hg) | ((with_reducible refine gate_callee (f := 38) rfl ?_); refine goesL_ (some 113) rfl rfl Try.func38 (by kernel_rfl) rfl #[.int .u32 a2, .int .u32 a1, .int .i64 a4] rfl (by (try simp only [List.map_toArray, List.map_cons, List.map_nil]); first | done | rfl | (simp only [List.length_drop, List.length_take]; rfl)) ?_; (with_reducible refine (bits_Div.calls a2 a1 a4 t206 t207 t208 t209 t210 t211 _ A127.out).mono ?_); rintro e w130 ⟨rfl, hb⟩; refine ⟨_, rfl, ?_⟩; have n0_ := Aside0.mk (blk_below (g := gb156) (o := .cells #[.bool false, .bool false, .bool false, .bool false] 29 (0, 0)) (by (with_reducible repeat (first | refine blk_drewN ?_ _ | refine blk_drew ?_ | refine blk_alloc ?_ _)); exact BK156.out) hb); have n1_ := Aside0.mk (blk_below (g := gb165) (o := .cells #[.bool false, .bool false, .bool false, .bool false] 29 (0, 0)) (by (with_reducible repeat (first | refine blk_drewN ?_ _ | refine blk_drew ?_ | refine blk_alloc ?_ _)); exact BK165.out) hb); have n2_ := Aside0.mk (below_step (by repeat (first | (with_reducible first | exact HB.out | apply below_alloc | apply pw_below_drewN | apply below_drew1 | refine below_set ?_ GE156.out | refine below_set ?_ GE165.out) | exact HB.out)) hb); clear BK156; clear BK165; clear HB; have BK156 := n0_; have BK165 := n1_; have HB := n2_; clear n0_ n1_ n2_; (try clear hb); (try clear hb2); (try clear hk); (try clear hi); have hnb131 := NB165_156.out; have hnc131 := NB156_165.out; have hcz132_0 : w130.cell? ⟨gb165, 0, none⟩ = some (.bool false) := (blk_cell BK165.out 0).trans rfl; have hcz132_1 : w130.cell? ⟨gb165, 1, none⟩ = some (.bool false) := (blk_cell BK165.out 1).trans rfl; have hcz132_2 : w130.cell? ⟨gb165, 2, none⟩ = some (.bool false) := (blk_cell BK165.out 2).trans rfl; have hcz132_3 : w130.cell? ⟨gb165, 3, none⟩ = some (.bool false) := (blk_cell BK165.out 3).trans rfl; have hfz132_0 := blk_frozen BK165.out 0; have hfz132_1 := blk_frozen BK165.out 1; have hfz132_2 := blk_frozen BK165.out 2; have hfz132_3 := blk_frozen BK165.out 3))
                      have n0_ : Aside0 (((((w130.setCell ⟨gb165, 0, none⟩ (.bool t207)).setCell ⟨gb165, 1, none⟩ (.bool t208)).setCell ⟨gb165, 2, none⟩ (.bool t209)).setCell ⟨gb165, 3, none⟩ (.bool t210)).heap[gb156]? = some (.cells #[.bool false, .bool false, .bool false, .bool false] 29 (0, 0))) := ⟨by (with_reducible repeat (first | refine blk_drewN ?_ _ | refine blk_drew ?_ | refine blk_alloc ?_ _)); refine blk_far ?_ NB156_165.out _; (with_reducible repeat (first | refine blk_drewN ?_ _ | refine blk_drew ?_ | refine blk_alloc ?_ _)); refine blk_far ?_ NB156_165.out _; (with_reducible repeat (first | refine blk_drewN ?_ _ | refine blk_drew ?_ | refine blk_alloc ?_ _)); refine blk_far ?_ NB156_165.out _; (with_reducible repeat (first | refine blk_drewN ?_ _ | refine blk_drew ?_ | refine blk_alloc ?_ _)); refine blk_far ?_ NB156_165.out _; (with_reducible repeat (first | refine blk_drewN ?_ _ | refine blk_drew ?_ | refine blk_alloc ?_ _)); exact BK156.out⟩
                      have n1_ : Aside0 (((((w130.setCell ⟨gb165, 0, none⟩ (.bool t207)).setCell ⟨gb165, 1, none⟩ (.bool t208)).setCell ⟨gb165, 2, none⟩ (.bool t209)).setCell ⟨gb165, 3, none⟩ (.bool t210)).heap[gb165]? = some (.cells #[.bool t207, .bool t208, .bool t209, .bool t210] 29 (0, 0))) := ⟨by (with_reducible repeat (first | refine blk_drewN ?_ _ | refine blk_drew ?_ | refine blk_alloc ?_ _)); refine blk_put (cs := #[.bool t207, .bool t208, .bool t209, .bool false]) ?_ 3 _ rfl; (with_reducible repeat (first | refine blk_drewN ?_ _ | refine blk_drew ?_ | refine blk_alloc ?_ _)); refine blk_put (cs := #[.bool t207, .bool t208, .bool false, .bool false]) ?_ 2 _ rfl; (with_reducible repeat (first | refine blk_drewN ?_ _ | refine blk_drew ?_ | refine blk_alloc ?_ _)); refine blk_put (cs := #[.bool t207, .bool false, .bool false, .bool false]) ?_ 1 _ rfl; (with_reducible repeat (first | refine blk_drewN ?_ _ | refine blk_drew ?_ | refine blk_alloc ?_ _)); refine blk_put (cs := #[.bool false, .bool false, .bool false, .bool false]) ?_ 0 _ rfl; (with_reducible repeat (first | refine blk_drewN ?_ _ | refine blk_drew ?_ | refine blk_alloc ?_ _)); exact BK165.out⟩
                      have n2_ : Aside0 (Below w.heap.size w ((((w130.setCell ⟨gb165, 0, none⟩ (.bool t207)).setCell ⟨gb165, 1, none⟩ (.bool t208)).setCell ⟨gb165, 2, none⟩ (.bool t209)).setCell ⟨gb165, 3, none⟩ (.bool t210))) := ⟨by repeat (first | (with_reducible first | exact HB.out | apply below_alloc | apply pw_below_drewN | apply below_drew1 | refine below_set ?_ GE156.out | refine below_set ?_ GE165.out) | exact HB.out)⟩
                      (try clear BK156)
                      (try clear BK165)
                      (try clear HB)
                      (repeat rw [own_setCell_drewN]); (repeat rw [World.drewN_drewN])
                      generalize ((((w130.setCell ⟨gb165, 0, none⟩ (.bool t207)).setCell ⟨gb165, 1, none⟩ (.bool t208)).setCell ⟨gb165, 2, none⟩ (.bool t209)).setCell ⟨gb165, 3, none⟩ (.bool t210)) = w133 at n0_ n1_ n2_ ⊢
                      have BK156 := n0_
                      have BK165 := n1_
                      have HB := n2_
                      clear n0_ n1_ n2_
                      have n0_ := Aside0.mk (blk_drew BK156.out)
                      have n1_ := Aside0.mk (blk_drew BK165.out)
                      have n2_ := Aside0.mk (below_drew1 HB.out)
                      clear BK156
                      clear BK165
                      clear HB
                      have BK156 := n0_
                      have BK165 := n1_
                      have HB := n2_
                      clear n0_ n1_ n2_
                      refine start_ (n := 6) (S := fun w' => w'.cell? ⟨gb165, 0, none⟩ = some (.bool t207) ∧ w'.cell? ⟨gb165, 1, none⟩ = some (.bool t208) ∧ w'.cell? ⟨gb165, 2, none⟩ = some (.bool t209) ∧ w'.cell? ⟨gb165, 3, none⟩ = some (.bool t210)) (ds := []) #[false, false, false, false, false, false] (by kernel_rfl) rfl rfl ⟨(blk_cell BK165.out 0).trans rfl, (blk_cell BK165.out 1).trans rfl, (blk_cell BK165.out 2).trans rfl, (blk_cell BK165.out 3).trans rfl⟩ (fun hHeld => ?_)
                      generalize w133.drew = w134 at BK156 BK165 HB hHeld ⊢
                      refine pure_ (i := 0) (N := some 136) (v := ?_) (a' := ?_) #[true, false, false, false, false, false] rfl rfl (by kernel_rfl) (fun _ _ _ h => h) (Or.inl ⟨by rfl, ?_⟩) ?_ ?_
                      rotate_left
                      · intro w'
                        go_simp
                        with_reducible rfl
                      rotate_left
                      · simp only [Act.put, List.setIfInBounds_toArray, List.set_cons_zero, List.set_cons_succ, i64_w, i32_w]
                        rfl
                      refine pure_ (i := 2) (N := some 138) (v := ?_) (a' := ?_) #[true, false, true, false, false, false] rfl rfl (by kernel_rfl) (fun _ _ _ h => h) (Or.inl ⟨by rfl, ?_⟩) ?_ ?_
                      rotate_left
                      · intro w'
                        go_simp
                        with_reducible rfl
                      rotate_left
                      · simp only [Act.put, List.setIfInBounds_toArray, List.set_cons_zero, List.set_cons_succ, i64_w, i32_w]
                        rfl
                      refine pure_ (i := 3) (N := some 10) (v := ?_) (a' := ?_) #[true, false, true, true, false, false] rfl rfl (by kernel_rfl) (fun _ _ _ h => h) (Or.inl ⟨by rfl, ?_⟩) ?_ ?_
                      rotate_left
                      · intro w'
                        go_simp
                        with_reducible rfl
                      rotate_left
                      · simp only [Act.put, List.setIfInBounds_toArray, List.set_cons_zero, List.set_cons_succ, i64_w, i32_w]
                        rfl
                      refine take_ (i := 1) (N := some 137) (v := ?_) (a' := ?_) #[true, true, true, true, false, false] rfl rfl (by kernel_rfl) (fun _ _ _ h => h) (Or.inl ⟨by rfl, ?_⟩) hHeld ?_ ?_
                      rotate_left
                      · rintro w' ⟨s0, s1, s2, s3⟩
                        go_simp
                        with_reducible rfl
                      rotate_left
                      · simp only [Act.put, List.setIfInBounds_toArray, List.set_cons_zero, List.set_cons_succ, i64_w, i32_w]
                        rfl
                      refine one_ (i := 4) (N := none) #[true, true, true, true, true, false] rfl rfl (by kernel_rfl) (by decide) (fun K hK => ?_)
                      have hs135 : w134.cell? ⟨gb156, 0, none⟩ = some (.bool false) := (blk_cell BK156.out 0).trans rfl
                      have hfs135 := blk_frozen BK156.out 0
                      have hns135_1 := NB165_156.out
                      have hms135_1 := NB156_165.out
                      have hs136 : w134.cell? ⟨gb156, 1, none⟩ = some (.bool false) := (blk_cell BK156.out 1).trans rfl
                      have hfs136 := blk_frozen BK156.out 1
                      have hns136_1 := NB165_156.out
                      have hms136_1 := NB156_165.out
                      have hs137 : w134.cell? ⟨gb156, 2, none⟩ = some (.bool false) := (blk_cell BK156.out 2).trans rfl
                      have hfs137 := blk_frozen BK156.out 2
                      have hns137_1 := NB165_156.out
                      have hms137_1 := NB156_165.out
                      have hs138 : w134.cell? ⟨gb156, 3, none⟩ = some (.bool false) := (blk_cell BK156.out 3).trans rfl
                      have hfs138 := blk_frozen BK156.out 3
                      have hns138_1 := NB165_156.out
                      have hms138_1 := NB156_165.out
                      refine skip_ (w1 := ?_) (by rfl) rfl ?_ ?_
                      rotate_left
                      · go_simp
                        rfl
                      refine hK.out _ _ ⟨((cell_far (p := ⟨gb156, _, none⟩) NB165_156.out _).trans (((cell_far (p := ⟨gb156, _, none⟩) NB165_156.out _).trans (((cell_far (p := ⟨gb156, _, none⟩) NB165_156.out _).trans (((cell_far (p := ⟨gb156, _, none⟩) NB165_156.out _).trans (hHeld.1)))))))), ((cell_far (p := ⟨gb156, _, none⟩) NB165_156.out _).trans (((cell_far (p := ⟨gb156, _, none⟩) NB165_156.out _).trans (((cell_far (p := ⟨gb156, _, none⟩) NB165_156.out _).trans (((cell_far (p := ⟨gb156, _, none⟩) NB165_156.out _).trans (hHeld.2.1)))))))), ((cell_far (p := ⟨gb156, _, none⟩) NB165_156.out _).trans (((cell_far (p := ⟨gb156, _, none⟩) NB165_156.out _).trans (((cell_far (p := ⟨gb156, _, none⟩) NB165_156.out _).trans (((cell_far (p := ⟨gb156, _, none⟩) NB165_156.out _).trans (hHeld.2.2.1)))))))), ((cell_far (p := ⟨gb156, _, none⟩) NB165_156.out _).trans (((cell_far (p := ⟨gb156, _, none⟩) NB165_156.out _).trans (((cell_far (p := ⟨gb156, _, none⟩) NB165_156.out _).trans (((cell_far (p := ⟨gb156, _, none⟩) NB165_156.out _).trans (hHeld.2.2.2))))))))⟩ (fun hHeld => ?_)
                      clear hK K
                      refine pure_ (i := 5) (N := some 12) (v := ?_) (a' := ?_) #[true, true, true, true, true, true] rfl rfl (by kernel_rfl) (fun _ _ _ h => h) (Or.inl ⟨by rfl, ?_⟩) ?_ ?_
                      rotate_left
                      · intro w'
                        go_simp
                        with_reducible rfl
                      rotate_left
                      · simp only [Act.put, List.setIfInBounds_toArray, List.set_cons_zero, List.set_cons_succ, i64_w, i32_w]
                        rfl
                      refine done_ (by kernel_rfl) ?_
                      try go_wp2
                      refine bodyPost_ret (results_list (rs := [.tmp 10, .cell 11 29, .tmp 12]) rfl (by simp) (.tmp (.cell gb156 29 #[.bool t207, .bool t208, .bool t209, .bool t210] (0, 0) _ rfl (by (with_reducible repeat (first | refine blk_drewN ?_ _ | refine blk_drew ?_ | refine blk_alloc ?_ _)); refine blk_put (cs := #[.bool t207, .bool t208, .bool t209, .bool false]) ?_ 3 _ rfl; (with_reducible repeat (first | refine blk_drewN ?_ _ | refine blk_drew ?_ | refine blk_alloc ?_ _)); refine blk_put (cs := #[.bool t207, .bool t208, .bool false, .bool false]) ?_ 2 _ rfl; (with_reducible repeat (first | refine blk_drewN ?_ _ | refine blk_drew ?_ | refine blk_alloc ?_ _)); refine blk_put (cs := #[.bool t207, .bool false, .bool false, .bool false]) ?_ 1 _ rfl; (with_reducible repeat (first | refine blk_drewN ?_ _ | refine blk_drew ?_ | refine blk_alloc ?_ _)); refine blk_put (cs := #[.bool false, .bool false, .bool false, .bool false]) ?_ 0 _ rfl; (with_reducible repeat (first | refine blk_drewN ?_ _ | refine blk_drew ?_ | refine blk_alloc ?_ _)); exact BK156.out) Try.underlying29 rfl (by kernel_rfl) (.tmp .nil)))) rfl ?_
                      exact ⟨by first | rfl | (simp [errW_none, errW_some] <;> rfl) | (simp [*, errW_none, errW_some] <;> rfl), by repeat (first | (with_reducible first | exact HB.out | apply below_alloc | apply pw_below_drewN | apply below_drew1 | refine below_set ?_ GE156.out | refine below_set ?_ GE165.out) | exact HB.out)⟩
                    · rw [if_neg c126] at H
                      have c126b0 : (a0 == 11) = false := beq_eq_false_iff_ne.mpr c126
                      have c126b1 : (a0 != 11) = true := bne_iff_ne.mpr c126
                      by_cases c139 : a0 = 16
                      · rw [if_pos c139] at H
                        have c139b0 : (a0 == 16) = true := beq_iff_eq.mpr c139
                        have c139b1 : (a0 != 16) = false := bne_eq_false_iff_eq.mpr c139
                        clear c139
                        replace H := Option.bind_eq_some_iff.mp H
                        obtain ⟨t212, A1400, H⟩ := H
                        replace H : ((bits_Compare.f a1 a2 a4).bind fun bt213 => (some (Go.bits .and .u32 a1 t212, bt213.1, bt213.2.1, bt213.2.2.1, bt213.2.2.2, true))) = some (r1, r2, r3, r4, r5, r6) := H
                        have A140 := Aside0.mk A1400
                        clear A1400
                        replace H := Option.bind_eq_some_iff.mp H
                        obtain ⟨⟨t213, t214, t215, t216⟩, A1410, H⟩ := H
                        replace H : (some (Go.bits .and .u32 a1 t212, t213, t214, t215, t216, true)) = some (r1, r2, r3, r4, r5, r6) := H
                        have A141 := Aside0.mk A1410
                        clear A1410
                        simp only [Option.some.injEq, Prod.mk.injEq] at H
                        obtain ⟨rfl, rfl, rfl, rfl, rfl, rfl⟩ := H
                        go_enter Try.func41, Try.ntmps41
                        try go_wp2_with (first | ((with_reducible refine gate_dst (N := 11) rfl ?_); refine box_event ?hg (N := 11) ?hd (cs := #[.bool false, .bool false, .bool false, .bool false]) (t := 29) ?hr ?_; (case hd => rfl); (case hg => rfl); (case hr => first | (go_simp; done) | (go_simp; rfl)); intro gb156 hg w142 hbox hb; have n0_ := Aside0.mk (below_step (by repeat (first | (with_reducible first | exact HB.out | apply below_alloc | apply pw_below_drewN | apply below_drew1) | exact HB.out)) hb); have n1_ := Aside0.mk (hbox); have n2_ := Aside0.mk ((by rw [hg]; exact (below_size (by repeat (first | (with_reducible first | exact HB.out | apply below_alloc | apply pw_below_drewN | apply below_drew1) | exact HB.out))) : w.heap.size ≤ gb156)); have n3_ := Aside0.mk ((by rw [hg]; exact (below_size (by repeat (first | (with_reducible first | exact HB.out | apply below_alloc | apply pw_below_drewN | apply below_drew1) | exact HB.out))) : w.heap.size ≤ gb156)); clear HB; have HB := n0_; have BK156 := n1_; have GW156 := n2_; have GE156 := n3_; clear n0_ n1_ n2_ n3_; clear hb hbox hg) | ((with_reducible refine gate_callee (f := 43) rfl ?_); refine goesL_ (some 19) rfl rfl Try.func43 (by kernel_rfl) rfl #[.int .i64 a0] rfl (by (try simp only [List.map_toArray, List.map_cons, List.map_nil]); first | done | rfl | (simp only [List.length_drop, List.length_take]; rfl)) ?_; (with_reducible refine (alu_Logic.calls a0 false _ A6.out).mono ?_); rintro e w' ⟨rfl, ⟨nd, rfl⟩⟩; refine ⟨_, rfl, ?_⟩; (try (rw [drewN_self w142]; generalize hq_ : World.drewN w142 _ = w142; have n0_ : Aside0 (w142.heap[gb156]? = some (.cells #[.bool false, .bool false, .bool false, .bool false] 29 (0, 0))) := ⟨by rw [← hq_]; exact (by (with_reducible repeat (first | refine blk_drewN ?_ _ | refine blk_drew ?_ | refine blk_alloc ?_ _)); exact BK156.out)⟩; have n1_ : Aside0 (Below w.heap.size w w142) := ⟨by rw [← hq_]; exact (by repeat (first | (with_reducible first | exact HB.out | apply below_alloc | apply pw_below_drewN | apply below_drew1 | refine below_set ?_ GE156.out) | exact HB.out))⟩; clear BK156 HB hq_; have BK156 := n0_; have HB := n1_; clear n0_ n1_))) | ((with_reducible refine gate_dst (N := 16) rfl ?_); refine box_event ?hg (N := 16) ?hd (cs := #[.bool false, .bool false, .bool false, .bool false]) (t := 29) ?hr ?_; (case hd => rfl); (case hg => rfl); (case hr => first | (go_simp; done) | (go_simp; rfl)); intro gb165 hg w143 hbox hb; have n0_ := Aside0.mk (blk_below (g := gb156) (o := .cells #[.bool false, .bool false, .bool false, .bool false] 29 (0, 0)) (by (with_reducible repeat (first | refine blk_drewN ?_ _ | refine blk_drew ?_ | refine blk_alloc ?_ _)); exact BK156.out) hb); have n1_ := Aside0.mk (below_step (by repeat (first | (with_reducible first | exact HB.out | apply below_alloc | apply pw_below_drewN | apply below_drew1 | refine below_set ?_ GE156.out) | exact HB.out)) hb); have n2_ := Aside0.mk (hbox); have n3_ := Aside0.mk ((by rw [hg]; exact (below_size (by repeat (first | (with_reducible first | exact HB.out | apply below_alloc | apply pw_below_drewN | apply below_drew1 | refine below_set ?_ GE156.out) | exact HB.out))) : w.heap.size ≤ gb165)); have n4_ := Aside0.mk ((by rw [hg]; exact (below_size (by repeat (first | (with_reducible first | exact HB.out | apply below_alloc | apply pw_below_drewN | apply below_drew1 | refine below_set ?_ GE156.out) | exact HB.out))) : w.heap.size ≤ gb165)); have n5_ := Aside0.mk ((by rw [hg]; exact Nat.ne_of_lt (blk_lt (g := gb156) (o := .cells #[.bool false, .bool false, .bool false, .bool false] 29 (0, 0)) (by (with_reducible repeat (first | refine blk_drewN ?_ _ | refine blk_drew ?_ | refine blk_alloc ?_ _)); exact BK156.out)) : gb156 ≠ gb165)); have n6_ := Aside0.mk ((by rw [hg]; exact Nat.ne_of_gt (blk_lt (g := gb156) (o := .cells #[.bool false, .bool false, .bool false, .bool false] 29 (0, 0)) (by (with_reducible repeat (first | refine blk_drewN ?_ _ | refine blk_drew ?_ | refine blk_alloc ?_ _)); exact BK156.out)) : gb165 ≠ gb156)); clear BK156; clear HB; have BK156 := n0_; have HB := n1_; have BK165 := n2_; have GW165 := n3_; have GE165 := n4_; have NB156_165 := n5_; have NB165_156 := n6_; clear n0_ n1_ n2_ n3_ n4_ n5_ n6_; clear hb hbox hg) | ((with_reducible refine gate_callee (f := 19) rfl ?_); refine goesL_ (some 121) rfl rfl Try.func19 (by kernel_rfl) rfl #[.int .i64 a4] rfl (by (try simp only [List.map_toArray, List.map_cons, List.map_nil]); first | done | rfl | (simp only [List.length_drop, List.length_take]; rfl)) ?_; (with_reducible refine (bits_Mask.calls a4 t212 _ A140.out).mono ?_); rintro e w' ⟨rfl, ⟨nd, rfl⟩⟩; refine ⟨_, rfl, ?_⟩; (try (rw [drewN_self w143]; generalize hq_ : World.drewN w143 _ = w143; have n0_ : Aside0 (w143.heap[gb156]? = some (.cells #[.bool false, .bool false, .bool false, .bool false] 29 (0, 0))) := ⟨by rw [← hq_]; exact (by (with_reducible repeat (first | refine blk_drewN ?_ _ | refine blk_drew ?_ | refine blk_alloc ?_ _)); exact BK156.out)⟩; have n1_ : Aside0 (w143.heap[gb165]? = some (.cells #[.bool false, .bool false, .bool false, .bool false] 29 (0, 0))) := ⟨by rw [← hq_]; exact (by (with_reducible repeat (first | refine blk_drewN ?_ _ | refine blk_drew ?_ | refine blk_alloc ?_ _)); exact BK165.out)⟩; have n2_ : Aside0 (Below w.heap.size w w143) := ⟨by rw [← hq_]; exact (by repeat (first | (with_reducible first | exact HB.out | apply below_alloc | apply pw_below_drewN | apply below_drew1 | refine below_set ?_ GE156.out | refine below_set ?_ GE165.out) | exact HB.out))⟩; clear BK156 BK165 HB hq_; have BK156 := n0_; have BK165 := n1_; have HB := n2_; clear n0_ n1_ n2_))) | ((with_reducible refine gate_callee (f := 33) rfl ?_); refine goesL_ (some 126) rfl rfl Try.func33 (by kernel_rfl) rfl #[.int .u32 a1, .int .u32 a2, .int .i64 a4] rfl (by (try simp only [List.map_toArray, List.map_cons, List.map_nil]); first | done | rfl | (simp only [List.length_drop, List.length_take]; rfl)) ?_; (with_reducible refine (bits_Compare.calls a1 a2 a4 t213 t214 t215 t216 _ A141.out).mono ?_); rintro e w144 ⟨rfl, hb⟩; refine ⟨_, rfl, ?_⟩; have n0_ := Aside0.mk (blk_below (g := gb156) (o := .cells #[.bool false, .bool false, .bool false, .bool false] 29 (0, 0)) (by (with_reducible repeat (first | refine blk_drewN ?_ _ | refine blk_drew ?_ | refine blk_alloc ?_ _)); exact BK156.out) hb); have n1_ := Aside0.mk (blk_below (g := gb165) (o := .cells #[.bool false, .bool false, .bool false, .bool false] 29 (0, 0)) (by (with_reducible repeat (first | refine blk_drewN ?_ _ | refine blk_drew ?_ | refine blk_alloc ?_ _)); exact BK165.out) hb); have n2_ := Aside0.mk (below_step (by repeat (first | (with_reducible first | exact HB.out | apply below_alloc | apply pw_below_drewN | apply below_drew1 | refine below_set ?_ GE156.out | refine below_set ?_ GE165.out) | exact HB.out)) hb); clear BK156; clear BK165; clear HB; have BK156 := n0_; have BK165 := n1_; have HB := n2_; clear n0_ n1_ n2_; (try clear hb); (try clear hb2); (try clear hk); (try clear hi); have hnb145 := NB165_156.out; have hnc145 := NB156_165.out; have hcz146_0 : w144.cell? ⟨gb165, 0, none⟩ = some (.bool false) := (blk_cell BK165.out 0).trans rfl; have hcz146_1 : w144.cell? ⟨gb165, 1, none⟩ = some (.bool false) := (blk_cell BK165.out 1).trans rfl; have hcz146_2 : w144.cell? ⟨gb165, 2, none⟩ = some (.bool false) := (blk_cell BK165.out 2).trans rfl; have hcz146_3 : w144.cell? ⟨gb165, 3, none⟩ = some (.bool false) := (blk_cell BK165.out 3).trans rfl; have hfz146_0 := blk_frozen BK165.out 0; have hfz146_1 := blk_frozen BK165.out 1; have hfz146_2 := blk_frozen BK165.out 2; have hfz146_3 := blk_frozen BK165.out 3))
                        have n0_ : Aside0 (((((w144.setCell ⟨gb165, 0, none⟩ (.bool t213)).setCell ⟨gb165, 1, none⟩ (.bool t214)).setCell ⟨gb165, 2, none⟩ (.bool t215)).setCell ⟨gb165, 3, none⟩ (.bool t216)).heap[gb156]? = some (.cells #[.bool false, .bool false, .bool false, .bool false] 29 (0, 0))) := ⟨by (with_reducible repeat (first | refine blk_drewN ?_ _ | refine blk_drew ?_ | refine blk_alloc ?_ _)); refine blk_far ?_ NB156_165.out _; (with_reducible repeat (first | refine blk_drewN ?_ _ | refine blk_drew ?_ | refine blk_alloc ?_ _)); refine blk_far ?_ NB156_165.out _; (with_reducible repeat (first | refine blk_drewN ?_ _ | refine blk_drew ?_ | refine blk_alloc ?_ _)); refine blk_far ?_ NB156_165.out _; (with_reducible repeat (first | refine blk_drewN ?_ _ | refine blk_drew ?_ | refine blk_alloc ?_ _)); refine blk_far ?_ NB156_165.out _; (with_reducible repeat (first | refine blk_drewN ?_ _ | refine blk_drew ?_ | refine blk_alloc ?_ _)); exact BK156.out⟩
                        have n1_ : Aside0 (((((w144.setCell ⟨gb165, 0, none⟩ (.bool t213)).setCell ⟨gb165, 1, none⟩ (.bool t214)).setCell ⟨gb165, 2, none⟩ (.bool t215)).setCell ⟨gb165, 3, none⟩ (.bool t216)).heap[gb165]? = some (.cells #[.bool t213, .bool t214, .bool t215, .bool t216] 29 (0, 0))) := ⟨by (with_reducible repeat (first | refine blk_drewN ?_ _ | refine blk_drew ?_ | refine blk_alloc ?_ _)); refine blk_put (cs := #[.bool t213, .bool t214, .bool t215, .bool false]) ?_ 3 _ rfl; (with_reducible repeat (first | refine blk_drewN ?_ _ | refine blk_drew ?_ | refine blk_alloc ?_ _)); refine blk_put (cs := #[.bool t213, .bool t214, .bool false, .bool false]) ?_ 2 _ rfl; (with_reducible repeat (first | refine blk_drewN ?_ _ | refine blk_drew ?_ | refine blk_alloc ?_ _)); refine blk_put (cs := #[.bool t213, .bool false, .bool false, .bool false]) ?_ 1 _ rfl; (with_reducible repeat (first | refine blk_drewN ?_ _ | refine blk_drew ?_ | refine blk_alloc ?_ _)); refine blk_put (cs := #[.bool false, .bool false, .bool false, .bool false]) ?_ 0 _ rfl; (with_reducible repeat (first | refine blk_drewN ?_ _ | refine blk_drew ?_ | refine blk_alloc ?_ _)); exact BK165.out⟩
                        have n2_ : Aside0 (Below w.heap.size w ((((w144.setCell ⟨gb165, 0, none⟩ (.bool t213)).setCell ⟨gb165, 1, none⟩ (.bool t214)).setCell ⟨gb165, 2, none⟩ (.bool t215)).setCell ⟨gb165, 3, none⟩ (.bool t216))) := ⟨by repeat (first | (with_reducible first | exact HB.out | apply below_alloc | apply pw_below_drewN | apply below_drew1 | refine below_set ?_ GE156.out | refine below_set ?_ GE165.out) | exact HB.out)⟩
                        (try clear BK156)
                        (try clear BK165)
                        (try clear HB)
                        (repeat rw [own_setCell_drewN]); (repeat rw [World.drewN_drewN])
                        generalize ((((w144.setCell ⟨gb165, 0, none⟩ (.bool t213)).setCell ⟨gb165, 1, none⟩ (.bool t214)).setCell ⟨gb165, 2, none⟩ (.bool t215)).setCell ⟨gb165, 3, none⟩ (.bool t216)) = w147 at n0_ n1_ n2_ ⊢
                        have BK156 := n0_
                        have BK165 := n1_
                        have HB := n2_
                        clear n0_ n1_ n2_
                        have n0_ := Aside0.mk (blk_drew BK156.out)
                        have n1_ := Aside0.mk (blk_drew BK165.out)
                        have n2_ := Aside0.mk (below_drew1 HB.out)
                        clear BK156
                        clear BK165
                        clear HB
                        have BK156 := n0_
                        have BK165 := n1_
                        have HB := n2_
                        clear n0_ n1_ n2_
                        refine start_ (n := 6) (S := fun w' => w'.cell? ⟨gb165, 0, none⟩ = some (.bool t213) ∧ w'.cell? ⟨gb165, 1, none⟩ = some (.bool t214) ∧ w'.cell? ⟨gb165, 2, none⟩ = some (.bool t215) ∧ w'.cell? ⟨gb165, 3, none⟩ = some (.bool t216)) (ds := []) #[false, false, false, false, false, false] (by kernel_rfl) rfl rfl ⟨(blk_cell BK165.out 0).trans rfl, (blk_cell BK165.out 1).trans rfl, (blk_cell BK165.out 2).trans rfl, (blk_cell BK165.out 3).trans rfl⟩ (fun hHeld => ?_)
                        generalize w147.drew = w148 at BK156 BK165 HB hHeld ⊢
                        refine pure_ (i := 0) (N := some 136) (v := ?_) (a' := ?_) #[true, false, false, false, false, false] rfl rfl (by kernel_rfl) (fun _ _ _ h => h) (Or.inl ⟨by rfl, ?_⟩) ?_ ?_
                        rotate_left
                        · intro w'
                          go_simp
                          with_reducible rfl
                        rotate_left
                        · simp only [Act.put, List.setIfInBounds_toArray, List.set_cons_zero, List.set_cons_succ, i64_w, i32_w]
                          rfl
                        refine pure_ (i := 2) (N := some 138) (v := ?_) (a' := ?_) #[true, false, true, false, false, false] rfl rfl (by kernel_rfl) (fun _ _ _ h => h) (Or.inl ⟨by rfl, ?_⟩) ?_ ?_
                        rotate_left
                        · intro w'
                          go_simp
                          with_reducible rfl
                        rotate_left
                        · simp only [Act.put, List.setIfInBounds_toArray, List.set_cons_zero, List.set_cons_succ, i64_w, i32_w]
                          rfl
                        refine pure_ (i := 3) (N := some 10) (v := ?_) (a' := ?_) #[true, false, true, true, false, false] rfl rfl (by kernel_rfl) (fun _ _ _ h => h) (Or.inl ⟨by rfl, ?_⟩) ?_ ?_
                        rotate_left
                        · intro w'
                          go_simp
                          with_reducible rfl
                        rotate_left
                        · simp only [Act.put, List.setIfInBounds_toArray, List.set_cons_zero, List.set_cons_succ, i64_w, i32_w]
                          rfl
                        refine take_ (i := 1) (N := some 137) (v := ?_) (a' := ?_) #[true, true, true, true, false, false] rfl rfl (by kernel_rfl) (fun _ _ _ h => h) (Or.inl ⟨by rfl, ?_⟩) hHeld ?_ ?_
                        rotate_left
                        · rintro w' ⟨s0, s1, s2, s3⟩
                          go_simp
                          with_reducible rfl
                        rotate_left
                        · simp only [Act.put, List.setIfInBounds_toArray, List.set_cons_zero, List.set_cons_succ, i64_w, i32_w]
                          rfl
                        refine one_ (i := 4) (N := none) #[true, true, true, true, true, false] rfl rfl (by kernel_rfl) (by decide) (fun K hK => ?_)
                        have hs149 : w148.cell? ⟨gb156, 0, none⟩ = some (.bool false) := (blk_cell BK156.out 0).trans rfl
                        have hfs149 := blk_frozen BK156.out 0
                        have hns149_1 := NB165_156.out
                        have hms149_1 := NB156_165.out
                        have hs150 : w148.cell? ⟨gb156, 1, none⟩ = some (.bool false) := (blk_cell BK156.out 1).trans rfl
                        have hfs150 := blk_frozen BK156.out 1
                        have hns150_1 := NB165_156.out
                        have hms150_1 := NB156_165.out
                        have hs151 : w148.cell? ⟨gb156, 2, none⟩ = some (.bool false) := (blk_cell BK156.out 2).trans rfl
                        have hfs151 := blk_frozen BK156.out 2
                        have hns151_1 := NB165_156.out
                        have hms151_1 := NB156_165.out
                        have hs152 : w148.cell? ⟨gb156, 3, none⟩ = some (.bool false) := (blk_cell BK156.out 3).trans rfl
                        have hfs152 := blk_frozen BK156.out 3
                        have hns152_1 := NB165_156.out
                        have hms152_1 := NB156_165.out
                        refine skip_ (w1 := ?_) (by rfl) rfl ?_ ?_
                        rotate_left
                        · go_simp
                          rfl
                        refine hK.out _ _ ⟨((cell_far (p := ⟨gb156, _, none⟩) NB165_156.out _).trans (((cell_far (p := ⟨gb156, _, none⟩) NB165_156.out _).trans (((cell_far (p := ⟨gb156, _, none⟩) NB165_156.out _).trans (((cell_far (p := ⟨gb156, _, none⟩) NB165_156.out _).trans (hHeld.1)))))))), ((cell_far (p := ⟨gb156, _, none⟩) NB165_156.out _).trans (((cell_far (p := ⟨gb156, _, none⟩) NB165_156.out _).trans (((cell_far (p := ⟨gb156, _, none⟩) NB165_156.out _).trans (((cell_far (p := ⟨gb156, _, none⟩) NB165_156.out _).trans (hHeld.2.1)))))))), ((cell_far (p := ⟨gb156, _, none⟩) NB165_156.out _).trans (((cell_far (p := ⟨gb156, _, none⟩) NB165_156.out _).trans (((cell_far (p := ⟨gb156, _, none⟩) NB165_156.out _).trans (((cell_far (p := ⟨gb156, _, none⟩) NB165_156.out _).trans (hHeld.2.2.1)))))))), ((cell_far (p := ⟨gb156, _, none⟩) NB165_156.out _).trans (((cell_far (p := ⟨gb156, _, none⟩) NB165_156.out _).trans (((cell_far (p := ⟨gb156, _, none⟩) NB165_156.out _).trans (((cell_far (p := ⟨gb156, _, none⟩) NB165_156.out _).trans (hHeld.2.2.2))))))))⟩ (fun hHeld => ?_)
                        clear hK K
                        refine pure_ (i := 5) (N := some 12) (v := ?_) (a' := ?_) #[true, true, true, true, true, true] rfl rfl (by kernel_rfl) (fun _ _ _ h => h) (Or.inl ⟨by rfl, ?_⟩) ?_ ?_
                        rotate_left
                        · intro w'
                          go_simp
                          with_reducible rfl
                        rotate_left
                        · simp only [Act.put, List.setIfInBounds_toArray, List.set_cons_zero, List.set_cons_succ, i64_w, i32_w]
                          rfl
                        refine done_ (by kernel_rfl) ?_
                        try go_wp2
                        refine bodyPost_ret (results_list (rs := [.tmp 10, .cell 11 29, .tmp 12]) rfl (by simp) (.tmp (.cell gb156 29 #[.bool t213, .bool t214, .bool t215, .bool t216] (0, 0) _ rfl (by (with_reducible repeat (first | refine blk_drewN ?_ _ | refine blk_drew ?_ | refine blk_alloc ?_ _)); refine blk_put (cs := #[.bool t213, .bool t214, .bool t215, .bool false]) ?_ 3 _ rfl; (with_reducible repeat (first | refine blk_drewN ?_ _ | refine blk_drew ?_ | refine blk_alloc ?_ _)); refine blk_put (cs := #[.bool t213, .bool t214, .bool false, .bool false]) ?_ 2 _ rfl; (with_reducible repeat (first | refine blk_drewN ?_ _ | refine blk_drew ?_ | refine blk_alloc ?_ _)); refine blk_put (cs := #[.bool t213, .bool false, .bool false, .bool false]) ?_ 1 _ rfl; (with_reducible repeat (first | refine blk_drewN ?_ _ | refine blk_drew ?_ | refine blk_alloc ?_ _)); refine blk_put (cs := #[.bool false, .bool false, .bool false, .bool false]) ?_ 0 _ rfl; (with_reducible repeat (first | refine blk_drewN ?_ _ | refine blk_drew ?_ | refine blk_alloc ?_ _)); exact BK156.out) Try.underlying29 rfl (by kernel_rfl) (.tmp .nil)))) rfl ?_
                        exact ⟨by first | rfl | (simp [errW_none, errW_some] <;> rfl) | (simp [*, errW_none, errW_some] <;> rfl), by repeat (first | (with_reducible first | exact HB.out | apply below_alloc | apply pw_below_drewN | apply below_drew1 | refine below_set ?_ GE156.out | refine below_set ?_ GE165.out) | exact HB.out)⟩
                      · rw [if_neg c139] at H
                        have c139b0 : (a0 == 16) = false := beq_eq_false_iff_ne.mpr c139
                        have c139b1 : (a0 != 16) = true := bne_iff_ne.mpr c139
                        by_cases c153 : a0 = 17
                        · rw [if_pos c153] at H
                          have c153b0 : (a0 == 17) = true := beq_iff_eq.mpr c153
                          have c153b1 : (a0 != 17) = false := bne_eq_false_iff_eq.mpr c153
                          clear c153
                          replace H := Option.bind_eq_some_iff.mp H
                          obtain ⟨t217, A1540, H⟩ := H
                          replace H : ((bits_Signs.f a1 a4).bind fun bt218 => (some (Go.bits .and .u32 a1 t217, bt218.1, bt218.2.1, bt218.2.2.1, bt218.2.2.2, true))) = some (r1, r2, r3, r4, r5, r6) := H
                          have A154 := Aside0.mk A1540
                          clear A1540
                          replace H := Option.bind_eq_some_iff.mp H
                          obtain ⟨⟨t218, t219, t220, t221⟩, A1550, H⟩ := H
                          replace H : (some (Go.bits .and .u32 a1 t217, t218, t219, t220, t221, true)) = some (r1, r2, r3, r4, r5, r6) := H
                          have A155 := Aside0.mk A1550
                          clear A1550
                          simp only [Option.some.injEq, Prod.mk.injEq] at H
                          obtain ⟨rfl, rfl, rfl, rfl, rfl, rfl⟩ := H
                          go_enter Try.func41, Try.ntmps41
                          try go_wp2_with (first | ((with_reducible refine gate_dst (N := 11) rfl ?_); refine box_event ?hg (N := 11) ?hd (cs := #[.bool false, .bool false, .bool false, .bool false]) (t := 29) ?hr ?_; (case hd => rfl); (case hg => rfl); (case hr => first | (go_simp; done) | (go_simp; rfl)); intro gb156 hg w156 hbox hb; have n0_ := Aside0.mk (below_step (by repeat (first | (with_reducible first | exact HB.out | apply below_alloc | apply pw_below_drewN | apply below_drew1) | exact HB.out)) hb); have n1_ := Aside0.mk (hbox); have n2_ := Aside0.mk ((by rw [hg]; exact (below_size (by repeat (first | (with_reducible first | exact HB.out | apply below_alloc | apply pw_below_drewN | apply below_drew1) | exact HB.out))) : w.heap.size ≤ gb156)); have n3_ := Aside0.mk ((by rw [hg]; exact (below_size (by repeat (first | (with_reducible first | exact HB.out | apply below_alloc | apply pw_below_drewN | apply below_drew1) | exact HB.out))) : w.heap.size ≤ gb156)); clear HB; have HB := n0_; have BK156 := n1_; have GW156 := n2_; have GE156 := n3_; clear n0_ n1_ n2_ n3_; clear hb hbox hg) | ((with_reducible refine gate_callee (f := 43) rfl ?_); refine goesL_ (some 19) rfl rfl Try.func43 (by kernel_rfl) rfl #[.int .i64 a0] rfl (by (try simp only [List.map_toArray, List.map_cons, List.map_nil]); first | done | rfl | (simp only [List.length_drop, List.length_take]; rfl)) ?_; (with_reducible refine (alu_Logic.calls a0 false _ A6.out).mono ?_); rintro e w' ⟨rfl, ⟨nd, rfl⟩⟩; refine ⟨_, rfl, ?_⟩; (try (rw [drewN_self w156]; generalize hq_ : World.drewN w156 _ = w156; have n0_ : Aside0 (w156.heap[gb156]? = some (.cells #[.bool false, .bool false, .bool false, .bool false] 29 (0, 0))) := ⟨by rw [← hq_]; exact (by (with_reducible repeat (first | refine blk_drewN ?_ _ | refine blk_drew ?_ | refine blk_alloc ?_ _)); exact BK156.out)⟩; have n1_ : Aside0 (Below w.heap.size w w156) := ⟨by rw [← hq_]; exact (by repeat (first | (with_reducible first | exact HB.out | apply below_alloc | apply pw_below_drewN | apply below_drew1 | refine below_set ?_ GE156.out) | exact HB.out))⟩; clear BK156 HB hq_; have BK156 := n0_; have HB := n1_; clear n0_ n1_))) | ((with_reducible refine gate_dst (N := 16) rfl ?_); refine box_event ?hg (N := 16) ?hd (cs := #[.bool false, .bool false, .bool false, .bool false]) (t := 29) ?hr ?_; (case hd => rfl); (case hg => rfl); (case hr => first | (go_simp; done) | (go_simp; rfl)); intro gb165 hg w157 hbox hb; have n0_ := Aside0.mk (blk_below (g := gb156) (o := .cells #[.bool false, .bool false, .bool false, .bool false] 29 (0, 0)) (by (with_reducible repeat (first | refine blk_drewN ?_ _ | refine blk_drew ?_ | refine blk_alloc ?_ _)); exact BK156.out) hb); have n1_ := Aside0.mk (below_step (by repeat (first | (with_reducible first | exact HB.out | apply below_alloc | apply pw_below_drewN | apply below_drew1 | refine below_set ?_ GE156.out) | exact HB.out)) hb); have n2_ := Aside0.mk (hbox); have n3_ := Aside0.mk ((by rw [hg]; exact (below_size (by repeat (first | (with_reducible first | exact HB.out | apply below_alloc | apply pw_below_drewN | apply below_drew1 | refine below_set ?_ GE156.out) | exact HB.out))) : w.heap.size ≤ gb165)); have n4_ := Aside0.mk ((by rw [hg]; exact (below_size (by repeat (first | (with_reducible first | exact HB.out | apply below_alloc | apply pw_below_drewN | apply below_drew1 | refine below_set ?_ GE156.out) | exact HB.out))) : w.heap.size ≤ gb165)); have n5_ := Aside0.mk ((by rw [hg]; exact Nat.ne_of_lt (blk_lt (g := gb156) (o := .cells #[.bool false, .bool false, .bool false, .bool false] 29 (0, 0)) (by (with_reducible repeat (first | refine blk_drewN ?_ _ | refine blk_drew ?_ | refine blk_alloc ?_ _)); exact BK156.out)) : gb156 ≠ gb165)); have n6_ := Aside0.mk ((by rw [hg]; exact Nat.ne_of_gt (blk_lt (g := gb156) (o := .cells #[.bool false, .bool false, .bool false, .bool false] 29 (0, 0)) (by (with_reducible repeat (first | refine blk_drewN ?_ _ | refine blk_drew ?_ | refine blk_alloc ?_ _)); exact BK156.out)) : gb165 ≠ gb156)); clear BK156; clear HB; have BK156 := n0_; have HB := n1_; have BK165 := n2_; have GW165 := n3_; have GE165 := n4_; have NB156_165 := n5_; have NB165_156 := n6_; clear n0_ n1_ n2_ n3_ n4_ n5_ n6_; clear hb hbox hg) | ((with_reducible refine gate_callee (f := 19) rfl ?_); refine goesL_ (some 131) rfl rfl Try.func19 (by kernel_rfl) rfl #[.int .i64 a4] rfl (by (try simp only [List.map_toArray, List.map_cons, List.map_nil]); first | done | rfl | (simp only [List.length_drop, List.length_take]; rfl)) ?_; (with_reducible refine (bits_Mask.calls a4 t217 _ A154.out).mono ?_); rintro e w' ⟨rfl, ⟨nd, rfl⟩⟩; refine ⟨_, rfl, ?_⟩; (try (rw [drewN_self w157]; generalize hq_ : World.drewN w157 _ = w157; have n0_ : Aside0 (w157.heap[gb156]? = some (.cells #[.bool false, .bool false, .bool false, .bool false] 29 (0, 0))) := ⟨by rw [← hq_]; exact (by (with_reducible repeat (first | refine blk_drewN ?_ _ | refine blk_drew ?_ | refine blk_alloc ?_ _)); exact BK156.out)⟩; have n1_ : Aside0 (w157.heap[gb165]? = some (.cells #[.bool false, .bool false, .bool false, .bool false] 29 (0, 0))) := ⟨by rw [← hq_]; exact (by (with_reducible repeat (first | refine blk_drewN ?_ _ | refine blk_drew ?_ | refine blk_alloc ?_ _)); exact BK165.out)⟩; have n2_ : Aside0 (Below w.heap.size w w157) := ⟨by rw [← hq_]; exact (by repeat (first | (with_reducible first | exact HB.out | apply below_alloc | apply pw_below_drewN | apply below_drew1 | refine below_set ?_ GE156.out | refine below_set ?_ GE165.out) | exact HB.out))⟩; clear BK156 BK165 HB hq_; have BK156 := n0_; have BK165 := n1_; have HB := n2_; clear n0_ n1_ n2_))) | ((with_reducible refine gate_callee (f := 27) rfl ?_); refine goesL_ (some 135) rfl rfl Try.func27 (by kernel_rfl) rfl #[.int .u32 a1, .int .i64 a4] rfl (by (try simp only [List.map_toArray, List.map_cons, List.map_nil]); first | done | rfl | (simp only [List.length_drop, List.length_take]; rfl)) ?_; (with_reducible refine (bits_Signs.calls a1 a4 t218 t219 t220 t221 _ A155.out).mono ?_); rintro e w158 ⟨rfl, hb⟩; refine ⟨_, rfl, ?_⟩; have n0_ := Aside0.mk (blk_below (g := gb156) (o := .cells #[.bool false, .bool false, .bool false, .bool false] 29 (0, 0)) (by (with_reducible repeat (first | refine blk_drewN ?_ _ | refine blk_drew ?_ | refine blk_alloc ?_ _)); exact BK156.out) hb); have n1_ := Aside0.mk (blk_below (g := gb165) (o := .cells #[.bool false, .bool false, .bool false, .bool false] 29 (0, 0)) (by (with_reducible repeat (first | refine blk_drewN ?_ _ | refine blk_drew ?_ | refine blk_alloc ?_ _)); exact BK165.out) hb); have n2_ := Aside0.mk (below_step (by repeat (first | (with_reducible first | exact HB.out | apply below_alloc | apply pw_below_drewN | apply below_drew1 | refine below_set ?_ GE156.out | refine below_set ?_ GE165.out) | exact HB.out)) hb); clear BK156; clear BK165; clear HB; have BK156 := n0_; have BK165 := n1_; have HB := n2_; clear n0_ n1_ n2_; (try clear hb); (try clear hb2); (try clear hk); (try clear hi); have hnb159 := NB165_156.out; have hnc159 := NB156_165.out; have hcz160_0 : w158.cell? ⟨gb165, 0, none⟩ = some (.bool false) := (blk_cell BK165.out 0).trans rfl; have hcz160_1 : w158.cell? ⟨gb165, 1, none⟩ = some (.bool false) := (blk_cell BK165.out 1).trans rfl; have hcz160_2 : w158.cell? ⟨gb165, 2, none⟩ = some (.bool false) := (blk_cell BK165.out 2).trans rfl; have hcz160_3 : w158.cell? ⟨gb165, 3, none⟩ = some (.bool false) := (blk_cell BK165.out 3).trans rfl; have hfz160_0 := blk_frozen BK165.out 0; have hfz160_1 := blk_frozen BK165.out 1; have hfz160_2 := blk_frozen BK165.out 2; have hfz160_3 := blk_frozen BK165.out 3))
                          have n0_ : Aside0 (((((w158.setCell ⟨gb165, 0, none⟩ (.bool t218)).setCell ⟨gb165, 1, none⟩ (.bool t219)).setCell ⟨gb165, 2, none⟩ (.bool t220)).setCell ⟨gb165, 3, none⟩ (.bool t221)).heap[gb156]? = some (.cells #[.bool false, .bool false, .bool false, .bool false] 29 (0, 0))) := ⟨by (with_reducible repeat (first | refine blk_drewN ?_ _ | refine blk_drew ?_ | refine blk_alloc ?_ _)); refine blk_far ?_ NB156_165.out _; (with_reducible repeat (first | refine blk_drewN ?_ _ | refine blk_drew ?_ | refine blk_alloc ?_ _)); refine blk_far ?_ NB156_165.out _; (with_reducible repeat (first | refine blk_drewN ?_ _ | refine blk_drew ?_ | refine blk_alloc ?_ _)); refine blk_far ?_ NB156_165.out _; (with_reducible repeat (first | refine blk_drewN ?_ _ | refine blk_drew ?_ | refine blk_alloc ?_ _)); refine blk_far ?_ NB156_165.out _; (with_reducible repeat (first | refine blk_drewN ?_ _ | refine blk_drew ?_ | refine blk_alloc ?_ _)); exact BK156.out⟩
                          have n1_ : Aside0 (((((w158.setCell ⟨gb165, 0, none⟩ (.bool t218)).setCell ⟨gb165, 1, none⟩ (.bool t219)).setCell ⟨gb165, 2, none⟩ (.bool t220)).setCell ⟨gb165, 3, none⟩ (.bool t221)).heap[gb165]? = some (.cells #[.bool t218, .bool t219, .bool t220, .bool t221] 29 (0, 0))) := ⟨by (with_reducible repeat (first | refine blk_drewN ?_ _ | refine blk_drew ?_ | refine blk_alloc ?_ _)); refine blk_put (cs := #[.bool t218, .bool t219, .bool t220, .bool false]) ?_ 3 _ rfl; (with_reducible repeat (first | refine blk_drewN ?_ _ | refine blk_drew ?_ | refine blk_alloc ?_ _)); refine blk_put (cs := #[.bool t218, .bool t219, .bool false, .bool false]) ?_ 2 _ rfl; (with_reducible repeat (first | refine blk_drewN ?_ _ | refine blk_drew ?_ | refine blk_alloc ?_ _)); refine blk_put (cs := #[.bool t218, .bool false, .bool false, .bool false]) ?_ 1 _ rfl; (with_reducible repeat (first | refine blk_drewN ?_ _ | refine blk_drew ?_ | refine blk_alloc ?_ _)); refine blk_put (cs := #[.bool false, .bool false, .bool false, .bool false]) ?_ 0 _ rfl; (with_reducible repeat (first | refine blk_drewN ?_ _ | refine blk_drew ?_ | refine blk_alloc ?_ _)); exact BK165.out⟩
                          have n2_ : Aside0 (Below w.heap.size w ((((w158.setCell ⟨gb165, 0, none⟩ (.bool t218)).setCell ⟨gb165, 1, none⟩ (.bool t219)).setCell ⟨gb165, 2, none⟩ (.bool t220)).setCell ⟨gb165, 3, none⟩ (.bool t221))) := ⟨by repeat (first | (with_reducible first | exact HB.out | apply below_alloc | apply pw_below_drewN | apply below_drew1 | refine below_set ?_ GE156.out | refine below_set ?_ GE165.out) | exact HB.out)⟩
                          (try clear BK156)
                          (try clear BK165)
                          (try clear HB)
                          (repeat rw [own_setCell_drewN]); (repeat rw [World.drewN_drewN])
                          generalize ((((w158.setCell ⟨gb165, 0, none⟩ (.bool t218)).setCell ⟨gb165, 1, none⟩ (.bool t219)).setCell ⟨gb165, 2, none⟩ (.bool t220)).setCell ⟨gb165, 3, none⟩ (.bool t221)) = w161 at n0_ n1_ n2_ ⊢
                          have BK156 := n0_
                          have BK165 := n1_
                          have HB := n2_
                          clear n0_ n1_ n2_
                          have n0_ := Aside0.mk (blk_drew BK156.out)
                          have n1_ := Aside0.mk (blk_drew BK165.out)
                          have n2_ := Aside0.mk (below_drew1 HB.out)
                          clear BK156
                          clear BK165
                          clear HB
                          have BK156 := n0_
                          have BK165 := n1_
                          have HB := n2_
                          clear n0_ n1_ n2_
                          refine start_ (n := 6) (S := fun w' => w'.cell? ⟨gb165, 0, none⟩ = some (.bool t218) ∧ w'.cell? ⟨gb165, 1, none⟩ = some (.bool t219) ∧ w'.cell? ⟨gb165, 2, none⟩ = some (.bool t220) ∧ w'.cell? ⟨gb165, 3, none⟩ = some (.bool t221)) (ds := []) #[false, false, false, false, false, false] (by kernel_rfl) rfl rfl ⟨(blk_cell BK165.out 0).trans rfl, (blk_cell BK165.out 1).trans rfl, (blk_cell BK165.out 2).trans rfl, (blk_cell BK165.out 3).trans rfl⟩ (fun hHeld => ?_)
                          generalize w161.drew = w162 at BK156 BK165 HB hHeld ⊢
                          refine pure_ (i := 0) (N := some 136) (v := ?_) (a' := ?_) #[true, false, false, false, false, false] rfl rfl (by kernel_rfl) (fun _ _ _ h => h) (Or.inl ⟨by rfl, ?_⟩) ?_ ?_
                          rotate_left
                          · intro w'
                            go_simp
                            with_reducible rfl
                          rotate_left
                          · simp only [Act.put, List.setIfInBounds_toArray, List.set_cons_zero, List.set_cons_succ, i64_w, i32_w]
                            rfl
                          refine pure_ (i := 2) (N := some 138) (v := ?_) (a' := ?_) #[true, false, true, false, false, false] rfl rfl (by kernel_rfl) (fun _ _ _ h => h) (Or.inl ⟨by rfl, ?_⟩) ?_ ?_
                          rotate_left
                          · intro w'
                            go_simp
                            with_reducible rfl
                          rotate_left
                          · simp only [Act.put, List.setIfInBounds_toArray, List.set_cons_zero, List.set_cons_succ, i64_w, i32_w]
                            rfl
                          refine pure_ (i := 3) (N := some 10) (v := ?_) (a' := ?_) #[true, false, true, true, false, false] rfl rfl (by kernel_rfl) (fun _ _ _ h => h) (Or.inl ⟨by rfl, ?_⟩) ?_ ?_
                          rotate_left
                          · intro w'
                            go_simp
                            with_reducible rfl
                          rotate_left
                          · simp only [Act.put, List.setIfInBounds_toArray, List.set_cons_zero, List.set_cons_succ, i64_w, i32_w]
                            rfl
                          refine take_ (i := 1) (N := some 137) (v := ?_) (a' := ?_) #[true, true, true, true, false, false] rfl rfl (by kernel_rfl) (fun _ _ _ h => h) (Or.inl ⟨by rfl, ?_⟩) hHeld ?_ ?_
                          rotate_left
                          · rintro w' ⟨s0, s1, s2, s3⟩
                            go_simp
                            with_reducible rfl
                          rotate_left
                          · simp only [Act.put, List.setIfInBounds_toArray, List.set_cons_zero, List.set_cons_succ, i64_w, i32_w]
                            rfl
                          refine one_ (i := 4) (N := none) #[true, true, true, true, true, false] rfl rfl (by kernel_rfl) (by decide) (fun K hK => ?_)
                          have hs163 : w162.cell? ⟨gb156, 0, none⟩ = some (.bool false) := (blk_cell BK156.out 0).trans rfl
                          have hfs163 := blk_frozen BK156.out 0
                          have hns163_1 := NB165_156.out
                          have hms163_1 := NB156_165.out
                          have hs164 : w162.cell? ⟨gb156, 1, none⟩ = some (.bool false) := (blk_cell BK156.out 1).trans rfl
                          have hfs164 := blk_frozen BK156.out 1
                          have hns164_1 := NB165_156.out
                          have hms164_1 := NB156_165.out
                          have hs165 : w162.cell? ⟨gb156, 2, none⟩ = some (.bool false) := (blk_cell BK156.out 2).trans rfl
                          have hfs165 := blk_frozen BK156.out 2
                          have hns165_1 := NB165_156.out
                          have hms165_1 := NB156_165.out
                          have hs166 : w162.cell? ⟨gb156, 3, none⟩ = some (.bool false) := (blk_cell BK156.out 3).trans rfl
                          have hfs166 := blk_frozen BK156.out 3
                          have hns166_1 := NB165_156.out
                          have hms166_1 := NB156_165.out
                          refine skip_ (w1 := ?_) (by rfl) rfl ?_ ?_
                          rotate_left
                          · go_simp
                            rfl
                          refine hK.out _ _ ⟨((cell_far (p := ⟨gb156, _, none⟩) NB165_156.out _).trans (((cell_far (p := ⟨gb156, _, none⟩) NB165_156.out _).trans (((cell_far (p := ⟨gb156, _, none⟩) NB165_156.out _).trans (((cell_far (p := ⟨gb156, _, none⟩) NB165_156.out _).trans (hHeld.1)))))))), ((cell_far (p := ⟨gb156, _, none⟩) NB165_156.out _).trans (((cell_far (p := ⟨gb156, _, none⟩) NB165_156.out _).trans (((cell_far (p := ⟨gb156, _, none⟩) NB165_156.out _).trans (((cell_far (p := ⟨gb156, _, none⟩) NB165_156.out _).trans (hHeld.2.1)))))))), ((cell_far (p := ⟨gb156, _, none⟩) NB165_156.out _).trans (((cell_far (p := ⟨gb156, _, none⟩) NB165_156.out _).trans (((cell_far (p := ⟨gb156, _, none⟩) NB165_156.out _).trans (((cell_far (p := ⟨gb156, _, none⟩) NB165_156.out _).trans (hHeld.2.2.1)))))))), ((cell_far (p := ⟨gb156, _, none⟩) NB165_156.out _).trans (((cell_far (p := ⟨gb156, _, none⟩) NB165_156.out _).trans (((cell_far (p := ⟨gb156, _, none⟩) NB165_156.out _).trans (((cell_far (p := ⟨gb156, _, none⟩) NB165_156.out _).trans (hHeld.2.2.2))))))))⟩ (fun hHeld => ?_)
                          clear hK K
                          refine pure_ (i := 5) (N := some 12) (v := ?_) (a' := ?_) #[true, true, true, true, true, true] rfl rfl (by kernel_rfl) (fun _ _ _ h => h) (Or.inl ⟨by rfl, ?_⟩) ?_ ?_
                          rotate_left
                          · intro w'
                            go_simp
                            with_reducible rfl
                          rotate_left
                          · simp only [Act.put, List.setIfInBounds_toArray, List.set_cons_zero, List.set_cons_succ, i64_w, i32_w]
                            rfl
                          refine done_ (by kernel_rfl) ?_
                          try go_wp2
                          refine bodyPost_ret (results_list (rs := [.tmp 10, .cell 11 29, .tmp 12]) rfl (by simp) (.tmp (.cell gb156 29 #[.bool t218, .bool t219, .bool t220, .bool t221] (0, 0) _ rfl (by (with_reducible repeat (first | refine blk_drewN ?_ _ | refine blk_drew ?_ | refine blk_alloc ?_ _)); refine blk_put (cs := #[.bool t218, .bool t219, .bool t220, .bool false]) ?_ 3 _ rfl; (with_reducible repeat (first | refine blk_drewN ?_ _ | refine blk_drew ?_ | refine blk_alloc ?_ _)); refine blk_put (cs := #[.bool t218, .bool t219, .bool false, .bool false]) ?_ 2 _ rfl; (with_reducible repeat (first | refine blk_drewN ?_ _ | refine blk_drew ?_ | refine blk_alloc ?_ _)); refine blk_put (cs := #[.bool t218, .bool false, .bool false, .bool false]) ?_ 1 _ rfl; (with_reducible repeat (first | refine blk_drewN ?_ _ | refine blk_drew ?_ | refine blk_alloc ?_ _)); refine blk_put (cs := #[.bool false, .bool false, .bool false, .bool false]) ?_ 0 _ rfl; (with_reducible repeat (first | refine blk_drewN ?_ _ | refine blk_drew ?_ | refine blk_alloc ?_ _)); exact BK156.out) Try.underlying29 rfl (by kernel_rfl) (.tmp .nil)))) rfl ?_
                          exact ⟨by first | rfl | (simp [errW_none, errW_some] <;> rfl) | (simp [*, errW_none, errW_some] <;> rfl), by repeat (first | (with_reducible first | exact HB.out | apply below_alloc | apply pw_below_drewN | apply below_drew1 | refine below_set ?_ GE156.out | refine below_set ?_ GE165.out) | exact HB.out)⟩
                        · rw [if_neg c153] at H
                          have c153b0 : (a0 == 17) = false := beq_eq_false_iff_ne.mpr c153
                          have c153b1 : (a0 != 17) = true := bne_iff_ne.mpr c153
                          simp only [Option.some.injEq, Prod.mk.injEq] at H
                          obtain ⟨rfl, rfl, rfl, rfl, rfl, rfl⟩ := H
                          go_enter Try.func41, Try.ntmps41
                          go_wp2_with (first | ((with_reducible refine gate_dst (N := 11) rfl ?_); refine box_event ?hg (N := 11) ?hd (cs := #[.bool false, .bool false, .bool false, .bool false]) (t := 29) ?hr ?_; (case hd => rfl); (case hg => rfl); (case hr => first | (go_simp; done) | (go_simp; rfl)); intro gb156 hg w167 hbox hb; have n0_ := Aside0.mk (below_step (by repeat (first | (with_reducible first | exact HB.out | apply below_alloc | apply pw_below_drewN | apply below_drew1) | exact HB.out)) hb); have n1_ := Aside0.mk (hbox); have n2_ := Aside0.mk ((by rw [hg]; exact (below_size (by repeat (first | (with_reducible first | exact HB.out | apply below_alloc | apply pw_below_drewN | apply below_drew1) | exact HB.out))) : w.heap.size ≤ gb156)); have n3_ := Aside0.mk ((by rw [hg]; exact (below_size (by repeat (first | (with_reducible first | exact HB.out | apply below_alloc | apply pw_below_drewN | apply below_drew1) | exact HB.out))) : w.heap.size ≤ gb156)); clear HB; have HB := n0_; have BK156 := n1_; have GW156 := n2_; have GE156 := n3_; clear n0_ n1_ n2_ n3_; clear hb hbox hg) | ((with_reducible refine gate_callee (f := 43) rfl ?_); refine goesL_ (some 19) rfl rfl Try.func43 (by kernel_rfl) rfl #[.int .i64 a0] rfl (by (try simp only [List.map_toArray, List.map_cons, List.map_nil]); first | done | rfl | (simp only [List.length_drop, List.length_take]; rfl)) ?_; (with_reducible refine (alu_Logic.calls a0 false _ A6.out).mono ?_); rintro e w' ⟨rfl, ⟨nd, rfl⟩⟩; refine ⟨_, rfl, ?_⟩; (try (rw [drewN_self w167]; generalize hq_ : World.drewN w167 _ = w167; have n0_ : Aside0 (w167.heap[gb156]? = some (.cells #[.bool false, .bool false, .bool false, .bool false] 29 (0, 0))) := ⟨by rw [← hq_]; exact (by (with_reducible repeat (first | refine blk_drewN ?_ _ | refine blk_drew ?_ | refine blk_alloc ?_ _)); exact BK156.out)⟩; have n1_ : Aside0 (Below w.heap.size w w167) := ⟨by rw [← hq_]; exact (by repeat (first | (with_reducible first | exact HB.out | apply below_alloc | apply pw_below_drewN | apply below_drew1 | refine below_set ?_ GE156.out) | exact HB.out))⟩; clear BK156 HB hq_; have BK156 := n0_; have HB := n1_; clear n0_ n1_))) | ((with_reducible refine gate_dst (N := 16) rfl ?_); refine box_event ?hg (N := 16) ?hd (cs := #[.bool false, .bool false, .bool false, .bool false]) (t := 29) ?hr ?_; (case hd => rfl); (case hg => rfl); (case hr => first | (go_simp; done) | (go_simp; rfl)); intro gb165 hg w168 hbox hb; have n0_ := Aside0.mk (blk_below (g := gb156) (o := .cells #[.bool false, .bool false, .bool false, .bool false] 29 (0, 0)) (by (with_reducible repeat (first | refine blk_drewN ?_ _ | refine blk_drew ?_ | refine blk_alloc ?_ _)); exact BK156.out) hb); have n1_ := Aside0.mk (below_step (by repeat (first | (with_reducible first | exact HB.out | apply below_alloc | apply pw_below_drewN | apply below_drew1 | refine below_set ?_ GE156.out) | exact HB.out)) hb); have n2_ := Aside0.mk (hbox); have n3_ := Aside0.mk ((by rw [hg]; exact (below_size (by repeat (first | (with_reducible first | exact HB.out | apply below_alloc | apply pw_below_drewN | apply below_drew1 | refine below_set ?_ GE156.out) | exact HB.out))) : w.heap.size ≤ gb165)); have n4_ := Aside0.mk ((by rw [hg]; exact (below_size (by repeat (first | (with_reducible first | exact HB.out | apply below_alloc | apply pw_below_drewN | apply below_drew1 | refine below_set ?_ GE156.out) | exact HB.out))) : w.heap.size ≤ gb165)); have n5_ := Aside0.mk ((by rw [hg]; exact Nat.ne_of_lt (blk_lt (g := gb156) (o := .cells #[.bool false, .bool false, .bool false, .bool false] 29 (0, 0)) (by (with_reducible repeat (first | refine blk_drewN ?_ _ | refine blk_drew ?_ | refine blk_alloc ?_ _)); exact BK156.out)) : gb156 ≠ gb165)); have n6_ := Aside0.mk ((by rw [hg]; exact Nat.ne_of_gt (blk_lt (g := gb156) (o := .cells #[.bool false, .bool false, .bool false, .bool false] 29 (0, 0)) (by (with_reducible repeat (first | refine blk_drewN ?_ _ | refine blk_drew ?_ | refine blk_alloc ?_ _)); exact BK156.out)) : gb165 ≠ gb156)); clear BK156; clear HB; have BK156 := n0_; have HB := n1_; have BK165 := n2_; have GW165 := n3_; have GE165 := n4_; have NB156_165 := n5_; have NB165_156 := n6_; clear n0_ n1_ n2_ n3_ n4_ n5_ n6_; clear hb hbox hg; have hnb169 := NB156_165.out; have hnc169 := NB165_156.out; have hcz170_0 : w168.cell? ⟨gb156, 0, none⟩ = some (.bool false) := (blk_cell BK156.out 0).trans rfl; have hcz170_1 : w168.cell? ⟨gb156, 1, none⟩ = some (.bool false) := (blk_cell BK156.out 1).trans rfl; have hcz170_2 : w168.cell? ⟨gb156, 2, none⟩ = some (.bool false) := (blk_cell BK156.out 2).trans rfl; have hcz170_3 : w168.cell? ⟨gb156, 3, none⟩ = some (.bool false) := (blk_cell BK156.out 3).trans rfl; have hfz170_0 := blk_frozen BK156.out 0; have hfz170_1 := blk_frozen BK156.out 1; have hfz170_2 := blk_frozen BK156.out 2; have hfz170_3 := blk_frozen BK156.out 3))
                          refine bodyPost_ret (results_list (rs := [.tmp 10, .cell 11 29, .tmp 12]) rfl (by simp) (.tmp (.cell gb156 29 #[.bool false, .bool false, .bool false, .bool false] (0, 0) _ rfl (by (with_reducible repeat (first | refine blk_drewN ?_ _ | refine blk_drew ?_ | refine blk_alloc ?_ _)); refine blk_put (cs := #[.bool false, .bool false, .bool false, .bool false]) ?_ 3 _ rfl; (with_reducible repeat (first | refine blk_drewN ?_ _ | refine blk_drew ?_ | refine blk_alloc ?_ _)); refine blk_put (cs := #[.bool false, .bool false, .bool false, .bool false]) ?_ 2 _ rfl; (with_reducible repeat (first | refine blk_drewN ?_ _ | refine blk_drew ?_ | refine blk_alloc ?_ _)); refine blk_put (cs := #[.bool false, .bool false, .bool false, .bool false]) ?_ 1 _ rfl; (with_reducible repeat (first | refine blk_drewN ?_ _ | refine blk_drew ?_ | refine blk_alloc ?_ _)); refine blk_put (cs := #[.bool false, .bool false, .bool false, .bool false]) ?_ 0 _ rfl; (with_reducible repeat (first | refine blk_drewN ?_ _ | refine blk_drew ?_ | refine blk_alloc ?_ _)); exact BK156.out) Try.underlying29 rfl (by kernel_rfl) (.tmp .nil)))) rfl ?_
                          exact ⟨by first | rfl | (simp [errW_none, errW_some] <;> rfl) | (simp [*, errW_none, errW_some] <;> rfl), by repeat (first | (with_reducible first | exact HB.out | apply below_alloc | apply pw_below_drewN | apply below_drew1 | refine below_set ?_ GE156.out | refine below_set ?_ GE165.out) | exact HB.out)⟩

end Go.Proofs.Ytmmmifgddkfehaa.PAlu
