-- Written by wip/oprint.py, a program of this session's repo, out of the translation. Not trusted: Lean checks it.
import Derived.Test.YtmmmifgddkfehaaPAlux0
import Derived.Test.YtmmmifgddkfehaaPAlux11
import Derived.Test.YtmmmifgddkfehaaPAlux12
import Derived.Test.YtmmmifgddkfehaaPAlux14
import Derived.Test.YtmmmifgddkfehaaPAlux15
import Derived.Test.YtmmmifgddkfehaaPAlux16
import Derived.Test.YtmmmifgddkfehaaPAlux17
import Derived.Test.YtmmmifgddkfehaaPAlux18
import Derived.Test.YtmmmifgddkfehaaPAlux19
import Derived.Test.YtmmmifgddkfehaaPAlux20
import Derived.Test.YtmmmifgddkfehaaPAlux21
namespace Go.Proofs.Ytmmmifgddkfehaa.PAlu
open Go.RowKit Go.Proofs.YtmmmifgddkfehaaW.PrintWords Go.Proofs.YtmmmifgddkfehaaW.PrintLast
set_option linter.unusedVariables false
set_option linter.unusedSimpArgs false

/-! ### camshaftref08_Do: function 42 -/
def camshaftref08_Do.l0 : Nat → Int → Int → Int → Bool → Int → Int → Int → Int → Option (Int × Bool × Bool × Bool × Bool × Bool)
  | 0, _, _, _, _, _, _, _, _ => none
  | k + 1, x0, x1, x2, x3, x4, x13, x14, x15 => if x15 < (wrap64 (8 * x4)) then ((camshaftref03_Bit.f k x1 x15).bind fun t309 => ((camshaftref03_Bit.f k x2 x15).bind fun t310 => ((camshaftref08_bitwise.f x0 t309 t310).bind fun t311 => (if t311 = true then (camshaftref08_Do.l0 k x0 x1 x2 x3 x4 (wrap64 (x13 + x14)) (wrap64 (2 * x14)) (wrap64 (x15 + 1))) else (camshaftref08_Do.l0 k x0 x1 x2 x3 x4 x13 (wrap64 (2 * x14)) (wrap64 (x15 + 1))))))) else ((camshaftref01_Signs.f ((x13) % 4294967296) x4).bind fun bt304 => (some ((x13) % 4294967296, bt304.1, bt304.2.1, bt304.2.2.1, x3, true)))
def camshaftref08_Do.f (k : Nat) (a0 : Int) (a1 : Int) (a2 : Int) (a3 : Bool) (a4 : Int) : Option (Int × Bool × Bool × Bool × Bool × Bool) := (camshaftref08_Logic.f a0).bind fun t303 => (if t303 = true then (camshaftref08_Do.l0 k a0 a1 a2 a3 a4 0 1 0) else ((camshaftref01_Rest.f a1 a4).bind fun t312 => (if a0 = 3 then ((camshaftref01_Sub.f 0 a1 false a4).bind fun bt313 => (some (bt313.1, bt313.2.1, bt313.2.2.1, bt313.2.2.2.1, bt313.2.2.2.2, true))) else (if a0 = 4 then ((camshaftref01_Add.f a1 1 false a4).bind fun bt319 => (some (bt319.1, bt319.2.1, bt319.2.2.1, bt319.2.2.2.1, bt319.2.2.2.2, true))) else (if a0 = 5 then ((camshaftref01_Sub.f a1 1 false a4).bind fun bt325 => (some (bt325.1, bt325.2.1, bt325.2.2.1, bt325.2.2.2.1, bt325.2.2.2.2, true))) else (if a0 = 6 then ((camshaftref01_Add.f a2 a1 false a4).bind fun bt331 => (some (bt331.1, bt331.2.1, bt331.2.2.1, bt331.2.2.2.1, bt331.2.2.2.2, true))) else (if a0 = 7 then ((camshaftref01_Sub.f a2 a1 false a4).bind fun bt337 => (some (bt337.1, bt337.2.1, bt337.2.2.1, bt337.2.2.2.1, bt337.2.2.2.2, true))) else (if a0 = 8 then ((camshaftref01_Add.f a2 a1 a3 a4).bind fun bt343 => (some (bt343.1, bt343.2.1, bt343.2.2.1, bt343.2.2.2.1, bt343.2.2.2.2, true))) else (if a0 = 9 then ((camshaftref01_Sub.f a2 a1 a3 a4).bind fun bt349 => (some (bt349.1, bt349.2.1, bt349.2.2.1, bt349.2.2.2.1, bt349.2.2.2.2, true))) else (if a0 = 10 then ((camshaftref01_Mul.f a2 a1 a4).bind fun bt355 => (some (bt355.1, bt355.2.1, bt355.2.2.1, bt355.2.2.2.1, bt355.2.2.2.2, true))) else (if a0 = 11 then ((camshaftref01_Div.f k a2 a1 a4).bind fun bt361 => (some (bt361.1, bt361.2.1, bt361.2.2.1, bt361.2.2.2.1, bt361.2.2.2.2.1, bt361.2.2.2.2.2))) else (if a0 = 16 then ((camshaftref01_Compare.f a1 a2 a4).bind fun bt367 => (some ((t312) % 4294967296, bt367.1, bt367.2.1, bt367.2.2.1, bt367.2.2.2, true))) else (if a0 = 17 then ((camshaftref01_Signs.f a1 a4).bind fun bt371 => (some ((t312) % 4294967296, bt371.1, bt371.2.1, bt371.2.2.1, bt371.2.2.2, true))) else (some (0, false, false, false, false, false)))))))))))))))
theorem camshaftref08_Do.mono_l : ∀ k, (∀ y0 y1 y2 y3 y4 y5 y6 y7, LeO (camshaftref08_Do.l0 k y0 y1 y2 y3 y4 y5 y6 y7) (camshaftref08_Do.l0 (k + 1) y0 y1 y2 y3 y4 y5 y6 y7))
  | 0 => fun _ _ _ _ _ _ _ _ r h => by simp [camshaftref08_Do.l0] at h
  | k + 1 => by
    have ih0 := camshaftref08_Do.mono_l k
    · intro y0 y1 y2 y3 y4 y5 y6 y7
      unfold camshaftref08_Do.l0
      repeat' first
      | (with_reducible exact ih0 _ _ _ _ _ _ _ _)
      | (with_reducible exact camshaftref01_Div.mono _ _ _ _)
      | (with_reducible exact camshaftref03_Bit.mono _ _ _)
      | (with_reducible exact LeO.refl _)
      | (with_reducible exact LeO.none _)
      | (with_reducible refine LeO.ite ?_ ?_)
      | (with_reducible refine LeO.bind ?_ (fun _ => ?_))
      | exact ih0 _ _ _ _ _ _ _ _
      | exact camshaftref01_Div.mono _ _ _ _
      | exact camshaftref03_Bit.mono _ _ _
      | exact LeO.none _
      | refine LeO.ite ?_ ?_
      | refine LeO.bind ?_ (fun _ => ?_)
theorem camshaftref08_Do.mono : ∀ a0 a1 a2 a3 a4 k, LeO (camshaftref08_Do.f k a0 a1 a2 a3 a4) (camshaftref08_Do.f (k + 1) a0 a1 a2 a3 a4) := by
  intro a0 a1 a2 a3 a4 k
  have ih0 := camshaftref08_Do.mono_l k
  unfold camshaftref08_Do.f
  repeat' first
      | (with_reducible exact ih0 _ _ _ _ _ _ _ _)
      | (with_reducible exact camshaftref01_Div.mono _ _ _ _)
      | (with_reducible exact camshaftref03_Bit.mono _ _ _)
      | (with_reducible exact LeO.refl _)
      | (with_reducible exact LeO.none _)
      | (with_reducible refine LeO.ite ?_ ?_)
      | (with_reducible refine LeO.bind ?_ (fun _ => ?_))
      | exact ih0 _ _ _ _ _ _ _ _
      | exact camshaftref01_Div.mono _ _ _ _
      | exact camshaftref03_Bit.mono _ _ _
      | exact LeO.none _
      | refine LeO.ite ?_ ?_
      | refine LeO.bind ?_ (fun _ => ?_)
set_option maxHeartbeats 8000000 in
set_option maxRecDepth 100000 in
theorem camshaftref08_Do.calls (k : Nat) (a0 : Int) (a1 : Int) (a2 : Int) (a3 : Bool) (a4 : Int) (r1 : Int) (r2 : Bool) (r3 : Bool) (r4 : Bool) (r5 : Bool) (r6 : Bool) (w : World) (h : camshaftref08_Do.f k a0 a1 a2 a3 a4 = some (r1, r2, r3, r4, r5, r6)) :
    Calls Try.prog 42 #[.int .i64 a0, .int .u32 a1, .int .u32 a2, .bool a3, .int .i64 a4] w fun e w' => e = .returned (.tuple #[.int .u32 r1, .agg #[.bool r2, .bool r3, .bool r4, .bool r5], .bool r6]) ∧ Below w.heap.size w w' := by
  have hu29 := Try.underlying29
  have HB := Aside0.mk (Below.refl w.heap.size w)
  have H : ((camshaftref08_Logic.f a0).bind fun t303 => (if t303 = true then (camshaftref08_Do.l0 k a0 a1 a2 a3 a4 0 1 0) else ((camshaftref01_Rest.f a1 a4).bind fun t312 => (if a0 = 3 then ((camshaftref01_Sub.f 0 a1 false a4).bind fun bt313 => (some (bt313.1, bt313.2.1, bt313.2.2.1, bt313.2.2.2.1, bt313.2.2.2.2, true))) else (if a0 = 4 then ((camshaftref01_Add.f a1 1 false a4).bind fun bt319 => (some (bt319.1, bt319.2.1, bt319.2.2.1, bt319.2.2.2.1, bt319.2.2.2.2, true))) else (if a0 = 5 then ((camshaftref01_Sub.f a1 1 false a4).bind fun bt325 => (some (bt325.1, bt325.2.1, bt325.2.2.1, bt325.2.2.2.1, bt325.2.2.2.2, true))) else (if a0 = 6 then ((camshaftref01_Add.f a2 a1 false a4).bind fun bt331 => (some (bt331.1, bt331.2.1, bt331.2.2.1, bt331.2.2.2.1, bt331.2.2.2.2, true))) else (if a0 = 7 then ((camshaftref01_Sub.f a2 a1 false a4).bind fun bt337 => (some (bt337.1, bt337.2.1, bt337.2.2.1, bt337.2.2.2.1, bt337.2.2.2.2, true))) else (if a0 = 8 then ((camshaftref01_Add.f a2 a1 a3 a4).bind fun bt343 => (some (bt343.1, bt343.2.1, bt343.2.2.1, bt343.2.2.2.1, bt343.2.2.2.2, true))) else (if a0 = 9 then ((camshaftref01_Sub.f a2 a1 a3 a4).bind fun bt349 => (some (bt349.1, bt349.2.1, bt349.2.2.1, bt349.2.2.2.1, bt349.2.2.2.2, true))) else (if a0 = 10 then ((camshaftref01_Mul.f a2 a1 a4).bind fun bt355 => (some (bt355.1, bt355.2.1, bt355.2.2.1, bt355.2.2.2.1, bt355.2.2.2.2, true))) else (if a0 = 11 then ((camshaftref01_Div.f k a2 a1 a4).bind fun bt361 => (some (bt361.1, bt361.2.1, bt361.2.2.1, bt361.2.2.2.1, bt361.2.2.2.2.1, bt361.2.2.2.2.2))) else (if a0 = 16 then ((camshaftref01_Compare.f a1 a2 a4).bind fun bt367 => (some ((t312) % 4294967296, bt367.1, bt367.2.1, bt367.2.2.1, bt367.2.2.2, true))) else (if a0 = 17 then ((camshaftref01_Signs.f a1 a4).bind fun bt371 => (some ((t312) % 4294967296, bt371.1, bt371.2.1, bt371.2.2.1, bt371.2.2.2, true))) else (some (0, false, false, false, false, false)))))))))))))))) = some (r1, r2, r3, r4, r5, r6) := h
  clear h
  replace H := Option.bind_eq_some_iff.mp H
  obtain ⟨t303, A60, H⟩ := H
  replace H : (if t303 = true then (camshaftref08_Do.l0 k a0 a1 a2 a3 a4 0 1 0) else ((camshaftref01_Rest.f a1 a4).bind fun t312 => (if a0 = 3 then ((camshaftref01_Sub.f 0 a1 false a4).bind fun bt313 => (some (bt313.1, bt313.2.1, bt313.2.2.1, bt313.2.2.2.1, bt313.2.2.2.2, true))) else (if a0 = 4 then ((camshaftref01_Add.f a1 1 false a4).bind fun bt319 => (some (bt319.1, bt319.2.1, bt319.2.2.1, bt319.2.2.2.1, bt319.2.2.2.2, true))) else (if a0 = 5 then ((camshaftref01_Sub.f a1 1 false a4).bind fun bt325 => (some (bt325.1, bt325.2.1, bt325.2.2.1, bt325.2.2.2.1, bt325.2.2.2.2, true))) else (if a0 = 6 then ((camshaftref01_Add.f a2 a1 false a4).bind fun bt331 => (some (bt331.1, bt331.2.1, bt331.2.2.1, bt331.2.2.2.1, bt331.2.2.2.2, true))) else (if a0 = 7 then ((camshaftref01_Sub.f a2 a1 false a4).bind fun bt337 => (some (bt337.1, bt337.2.1, bt337.2.2.1, bt337.2.2.2.1, bt337.2.2.2.2, true))) else (if a0 = 8 then ((camshaftref01_Add.f a2 a1 a3 a4).bind fun bt343 => (some (bt343.1, bt343.2.1, bt343.2.2.1, bt343.2.2.2.1, bt343.2.2.2.2, true))) else (if a0 = 9 then ((camshaftref01_Sub.f a2 a1 a3 a4).bind fun bt349 => (some (bt349.1, bt349.2.1, bt349.2.2.1, bt349.2.2.2.1, bt349.2.2.2.2, true))) else (if a0 = 10 then ((camshaftref01_Mul.f a2 a1 a4).bind fun bt355 => (some (bt355.1, bt355.2.1, bt355.2.2.1, bt355.2.2.2.1, bt355.2.2.2.2, true))) else (if a0 = 11 then ((camshaftref01_Div.f k a2 a1 a4).bind fun bt361 => (some (bt361.1, bt361.2.1, bt361.2.2.1, bt361.2.2.2.1, bt361.2.2.2.2.1, bt361.2.2.2.2.2))) else (if a0 = 16 then ((camshaftref01_Compare.f a1 a2 a4).bind fun bt367 => (some ((t312) % 4294967296, bt367.1, bt367.2.1, bt367.2.2.1, bt367.2.2.2, true))) else (if a0 = 17 then ((camshaftref01_Signs.f a1 a4).bind fun bt371 => (some ((t312) % 4294967296, bt371.1, bt371.2.1, bt371.2.2.1, bt371.2.2.2, true))) else (some (0, false, false, false, false, false))))))))))))))) = some (r1, r2, r3, r4, r5, r6) := H
  have A6 := Aside0.mk A60
  clear A60
  by_cases c7 : t303 = true
  · subst c7
    have H1 : (camshaftref08_Do.l0 k a0 a1 a2 a3 a4 0 1 0) = some (r1, r2, r3, r4, r5, r6) := by rw [if_pos rfl] at H; exact H
    clear H
    have H := H1
    clear H1
    have H' := Aside0.mk H
    clear H
    go_enter Try.func42, Try.ntmps42
    go_wp2_with (first | ((with_reducible refine gate_dst (N := 11) rfl ?_); refine box_event ?hg (N := 11) ?hd (cs := #[.bool false, .bool false, .bool false, .bool false]) (t := 29) ?hr ?_; (case hd => rfl); (case hg => rfl); (case hr => first | (go_simp; done) | (go_simp; rfl)); intro gb302 hg w8 hbox hb; have n0_ := Aside0.mk (below_step (by repeat (first | (with_reducible first | exact HB.out | apply below_alloc | apply pw_below_drewN | apply below_drew1) | exact HB.out)) hb); have n1_ := Aside0.mk (hbox); have n2_ := Aside0.mk ((by rw [hg]; exact (below_size (by repeat (first | (with_reducible first | exact HB.out | apply below_alloc | apply pw_below_drewN | apply below_drew1) | exact HB.out))) : w.heap.size ≤ gb302)); have n3_ := Aside0.mk ((by rw [hg]; exact (below_size (by repeat (first | (with_reducible first | exact HB.out | apply below_alloc | apply pw_below_drewN | apply below_drew1) | exact HB.out))) : w.heap.size ≤ gb302)); clear HB; have HB := n0_; have BK302 := n1_; have GW302 := n2_; have GE302 := n3_; clear n0_ n1_ n2_ n3_; clear hb hbox hg) | ((with_reducible refine gate_callee (f := 44) rfl ?_); refine goesL_ (some 35) rfl rfl Try.func44 (by kernel_rfl) rfl #[.int .i64 a0] rfl (by (try simp only [List.map_toArray, List.map_cons, List.map_nil]); first | done | rfl | (simp only [List.length_drop, List.length_take]; rfl)) ?_; (with_reducible refine (camshaftref08_Logic.calls a0 true _ A6.out).mono ?_); rintro e w' ⟨rfl, ⟨nd, rfl⟩⟩; refine ⟨_, rfl, ?_⟩))
    go_loopg [13, 14, 15] k (fun kq v13 v14 v15 w' => ∃ (x13_1 : Int) (x14_1 : Int) (x15_1 : Int), v13 = .int .i64 x13_1 ∧ v14 = .int .i64 x14_1 ∧ v15 = .int .i64 x15_1 ∧ Aside0 (camshaftref08_Do.l0 kq a0 a1 a2 a3 a4 x13_1 x14_1 x15_1 = some (r1, r2, r3, r4, r5, r6)) ∧ Aside0 (kq ≤ k) ∧ Aside0 (w'.heap[gb302]? = some (.cells #[.bool false, .bool false, .bool false, .bool false] 29 (0, 0))) ∧ Aside0 (Below w.heap.size w w'))
    case atStart => exact ⟨(0), (1), (0), (by first | rfl | (simp; done) | (simp [*]; done)), (by first | rfl | (simp; done) | (simp [*]; done)), (by first | rfl | (simp; done) | (simp [*]; done)), H', ⟨Nat.le_refl _⟩, ⟨by (with_reducible repeat (first | refine blk_drewN ?_ _ | refine blk_drew ?_ | refine blk_alloc ?_ _)); exact BK302.out⟩, ⟨by repeat (first | (with_reducible first | exact HB.out | apply below_alloc | apply pw_below_drewN | apply below_drew1 | refine below_set ?_ GE302.out) | exact HB.out)⟩⟩
    case round =>
      clear H'
      try clear p2
      try clear c4
      try clear c7
      obtain ⟨x13_1, x14_1, x15_1, rfl, rfl, rfl, HA, HK1, BK302, HB⟩ := hrel
      cases gk with
      | zero => exact absurd HA.out (by simp [camshaftref08_Do.l0])
      | succ k1 =>
        have H := HA.out
        clear HA
        simp only [camshaftref08_Do.l0] at H
        by_cases c9 : x15_1 < (wrap64 (8 * a4))
        · rw [if_pos c9] at H
          have c9b0 : decide (x15_1 < (wrap64 (8 * a4))) = true := decide_eq_true c9
          clear c9
          replace H := Option.bind_eq_some_iff.mp H
          obtain ⟨t309, A100, H⟩ := H
          replace H : ((camshaftref03_Bit.f k1 a2 x15_1).bind fun t310 => ((camshaftref08_bitwise.f a0 t309 t310).bind fun t311 => (if t311 = true then (camshaftref08_Do.l0 k1 a0 a1 a2 a3 a4 (wrap64 (x13_1 + x14_1)) (wrap64 (2 * x14_1)) (wrap64 (x15_1 + 1))) else (camshaftref08_Do.l0 k1 a0 a1 a2 a3 a4 x13_1 (wrap64 (2 * x14_1)) (wrap64 (x15_1 + 1)))))) = some (r1, r2, r3, r4, r5, r6) := H
          have A10 := Aside0.mk A100
          clear A100
          replace H := Option.bind_eq_some_iff.mp H
          obtain ⟨t310, A110, H⟩ := H
          replace H : ((camshaftref08_bitwise.f a0 t309 t310).bind fun t311 => (if t311 = true then (camshaftref08_Do.l0 k1 a0 a1 a2 a3 a4 (wrap64 (x13_1 + x14_1)) (wrap64 (2 * x14_1)) (wrap64 (x15_1 + 1))) else (camshaftref08_Do.l0 k1 a0 a1 a2 a3 a4 x13_1 (wrap64 (2 * x14_1)) (wrap64 (x15_1 + 1))))) = some (r1, r2, r3, r4, r5, r6) := H
          have A11 := Aside0.mk A110
          clear A110
          replace H := Option.bind_eq_some_iff.mp H
          obtain ⟨t311, A120, H⟩ := H
          replace H : (if t311 = true then (camshaftref08_Do.l0 k1 a0 a1 a2 a3 a4 (wrap64 (x13_1 + x14_1)) (wrap64 (2 * x14_1)) (wrap64 (x15_1 + 1))) else (camshaftref08_Do.l0 k1 a0 a1 a2 a3 a4 x13_1 (wrap64 (2 * x14_1)) (wrap64 (x15_1 + 1)))) = some (r1, r2, r3, r4, r5, r6) := H
          have A12 := Aside0.mk A120
          clear A120
          by_cases c13 : t311 = true
          · subst c13
            have H1 : (camshaftref08_Do.l0 k1 a0 a1 a2 a3 a4 (wrap64 (x13_1 + x14_1)) (wrap64 (2 * x14_1)) (wrap64 (x15_1 + 1))) = some (r1, r2, r3, r4, r5, r6) := by rw [if_pos rfl] at H; exact H
            clear H
            have H := H1
            clear H1
            have H' := Aside0.mk H
            clear H
            go_wp2_with (first | ((with_reducible refine gate_callee (f := 52) rfl ?_); refine goesL_ (some 45) rfl rfl Try.func52 (by kernel_rfl) rfl #[.int .u32 a1, .int .i64 x15_1] rfl (by (try simp only [List.map_toArray, List.map_cons, List.map_nil]); first | done | rfl | (simp only [List.length_drop, List.length_take]; rfl)) ?_; (with_reducible refine (camshaftref03_Bit.calls k1 a1 x15_1 t309 _ A10.out).mono ?_); rintro e w' ⟨rfl, ⟨nd, rfl⟩⟩; refine ⟨_, rfl, ?_⟩) | ((with_reducible refine gate_callee (f := 52) rfl ?_); refine goesL_ (some 48) rfl rfl Try.func52 (by kernel_rfl) rfl #[.int .u32 a2, .int .i64 x15_1] rfl (by (try simp only [List.map_toArray, List.map_cons, List.map_nil]); first | done | rfl | (simp only [List.length_drop, List.length_take]; rfl)) ?_; (with_reducible refine (camshaftref03_Bit.calls k1 a2 x15_1 t310 _ A11.out).mono ?_); rintro e w' ⟨rfl, ⟨nd, rfl⟩⟩; refine ⟨_, rfl, ?_⟩) | ((with_reducible refine gate_callee (f := 51) rfl ?_); refine goesL_ (some 49) rfl rfl Try.func51 (by kernel_rfl) rfl #[.int .i64 a0, .bool t309, .bool t310] rfl (by (try simp only [List.map_toArray, List.map_cons, List.map_nil]); first | done | rfl | (simp only [List.length_drop, List.length_take]; rfl)) ?_; (with_reducible refine (camshaftref08_bitwise.calls a0 t309 t310 true _ A12.out).mono ?_); rintro e w' ⟨rfl, ⟨nd, rfl⟩⟩; refine ⟨_, rfl, ?_⟩))
            go_roundg k1
            case measure => have := HK1.out; omega
            case rel => exact ⟨(wrap64 (x13_1 + x14_1)), (wrap64 (2 * x14_1)), (wrap64 (x15_1 + 1)), (by first | rfl | (simp; done) | (simp [*]; done)), (by first | rfl | (simp; done) | (simp [*]; done)), (by first | rfl | (simp; done) | (simp [*]; done)), H', ⟨by have := HK1.out; omega⟩, ⟨by (with_reducible repeat (first | refine blk_drewN ?_ _ | refine blk_drew ?_ | refine blk_alloc ?_ _)); exact BK302.out⟩, ⟨by repeat (first | (with_reducible first | exact HB.out | apply below_alloc | apply pw_below_drewN | apply below_drew1 | refine below_set ?_ GE302.out) | exact HB.out)⟩⟩
          · replace c13 := Bool.eq_false_iff.mpr c13
            subst c13
            have H1 : (camshaftref08_Do.l0 k1 a0 a1 a2 a3 a4 x13_1 (wrap64 (2 * x14_1)) (wrap64 (x15_1 + 1))) = some (r1, r2, r3, r4, r5, r6) := by rw [if_neg (show ¬ (false = true) by decide)] at H; exact H
            clear H
            have H := H1
            clear H1
            have H' := Aside0.mk H
            clear H
            go_wp2_with (first | ((with_reducible refine gate_callee (f := 52) rfl ?_); refine goesL_ (some 45) rfl rfl Try.func52 (by kernel_rfl) rfl #[.int .u32 a1, .int .i64 x15_1] rfl (by (try simp only [List.map_toArray, List.map_cons, List.map_nil]); first | done | rfl | (simp only [List.length_drop, List.length_take]; rfl)) ?_; (with_reducible refine (camshaftref03_Bit.calls k1 a1 x15_1 t309 _ A10.out).mono ?_); rintro e w' ⟨rfl, ⟨nd, rfl⟩⟩; refine ⟨_, rfl, ?_⟩) | ((with_reducible refine gate_callee (f := 52) rfl ?_); refine goesL_ (some 48) rfl rfl Try.func52 (by kernel_rfl) rfl #[.int .u32 a2, .int .i64 x15_1] rfl (by (try simp only [List.map_toArray, List.map_cons, List.map_nil]); first | done | rfl | (simp only [List.length_drop, List.length_take]; rfl)) ?_; (with_reducible refine (camshaftref03_Bit.calls k1 a2 x15_1 t310 _ A11.out).mono ?_); rintro e w' ⟨rfl, ⟨nd, rfl⟩⟩; refine ⟨_, rfl, ?_⟩) | ((with_reducible refine gate_callee (f := 51) rfl ?_); refine goesL_ (some 49) rfl rfl Try.func51 (by kernel_rfl) rfl #[.int .i64 a0, .bool t309, .bool t310] rfl (by (try simp only [List.map_toArray, List.map_cons, List.map_nil]); first | done | rfl | (simp only [List.length_drop, List.length_take]; rfl)) ?_; (with_reducible refine (camshaftref08_bitwise.calls a0 t309 t310 false _ A12.out).mono ?_); rintro e w' ⟨rfl, ⟨nd, rfl⟩⟩; refine ⟨_, rfl, ?_⟩))
            go_roundg k1
            case measure => have := HK1.out; omega
            case rel => exact ⟨(x13_1), (wrap64 (2 * x14_1)), (wrap64 (x15_1 + 1)), (by first | rfl | (simp; done) | (simp [*]; done)), (by first | rfl | (simp; done) | (simp [*]; done)), (by first | rfl | (simp; done) | (simp [*]; done)), H', ⟨by have := HK1.out; omega⟩, ⟨by (with_reducible repeat (first | refine blk_drewN ?_ _ | refine blk_drew ?_ | refine blk_alloc ?_ _)); exact BK302.out⟩, ⟨by repeat (first | (with_reducible first | exact HB.out | apply below_alloc | apply pw_below_drewN | apply below_drew1 | refine below_set ?_ GE302.out) | exact HB.out)⟩⟩
        · rw [if_neg c9] at H
          have c9b0 : decide (x15_1 < (wrap64 (8 * a4))) = false := decide_eq_false c9
          clear c9
          replace H := Option.bind_eq_some_iff.mp H
          obtain ⟨⟨t304, t305, t306, t307⟩, A140, H⟩ := H
          replace H : (some ((x13_1) % 4294967296, t304, t305, t306, a3, true)) = some (r1, r2, r3, r4, r5, r6) := H
          have A14 := Aside0.mk A140
          clear A140
          simp only [Option.some.injEq, Prod.mk.injEq] at H
          obtain ⟨rfl, rfl, rfl, rfl, rfl, rfl⟩ := H
          try go_wp2_with (first | ((with_reducible refine gate_callee (f := 31) rfl ?_); refine goesL_ (some 58) rfl rfl Try.func31 (by kernel_rfl) rfl #[.int .u32 ((x13_1) % 4294967296), .int .i64 a4] rfl (by (try simp only [List.map_toArray, List.map_cons, List.map_nil]); first | done | rfl | (simp only [List.length_drop, List.length_take]; rfl)) ?_; (with_reducible refine (camshaftref01_Signs.calls ((x13_1) % 4294967296) a4 t304 t305 t306 t307 _ A14.out).mono ?_); rintro e w15 ⟨rfl, hb⟩; refine ⟨_, rfl, ?_⟩; have n0_ := Aside0.mk (blk_below (g := gb302) (o := .cells #[.bool false, .bool false, .bool false, .bool false] 29 (0, 0)) (by (with_reducible repeat (first | refine blk_drewN ?_ _ | refine blk_drew ?_ | refine blk_alloc ?_ _)); exact BK302.out) hb); have n1_ := Aside0.mk (below_step (by repeat (first | (with_reducible first | exact HB.out | apply below_alloc | apply pw_below_drewN | apply below_drew1 | refine below_set ?_ GE302.out) | exact HB.out)) hb); clear BK302; clear HB; have BK302 := n0_; have HB := n1_; clear n0_ n1_; (try clear hb); (try clear hb2); (try clear hk); (try clear hi)) | ((with_reducible refine gate_dst (N := 16) rfl ?_); refine box_event ?hg (N := 16) ?hd (cs := #[.bool false, .bool false, .bool false, .bool false]) (t := 29) ?hr ?_; (case hd => rfl); (case hg => rfl); (case hr => first | (go_simp; done) | (go_simp; rfl)); intro gb308 hg w16 hbox hb; have n0_ := Aside0.mk (blk_below (g := gb302) (o := .cells #[.bool false, .bool false, .bool false, .bool false] 29 (0, 0)) (by (with_reducible repeat (first | refine blk_drewN ?_ _ | refine blk_drew ?_ | refine blk_alloc ?_ _)); exact BK302.out) hb); have n1_ := Aside0.mk (below_step (by repeat (first | (with_reducible first | exact HB.out | apply below_alloc | apply pw_below_drewN | apply below_drew1 | refine below_set ?_ GE302.out) | exact HB.out)) hb); have n2_ := Aside0.mk (hbox); have n3_ := Aside0.mk ((by rw [hg]; exact (below_size (by repeat (first | (with_reducible first | exact HB.out | apply below_alloc | apply pw_below_drewN | apply below_drew1 | refine below_set ?_ GE302.out) | exact HB.out))) : w.heap.size ≤ gb308)); have n4_ := Aside0.mk ((by rw [hg]; exact (below_size (by repeat (first | (with_reducible first | exact HB.out | apply below_alloc | apply pw_below_drewN | apply below_drew1 | refine below_set ?_ GE302.out) | exact HB.out))) : w.heap.size ≤ gb308)); have n5_ := Aside0.mk ((by rw [hg]; exact Nat.ne_of_lt (blk_lt (g := gb302) (o := .cells #[.bool false, .bool false, .bool false, .bool false] 29 (0, 0)) (by (with_reducible repeat (first | refine blk_drewN ?_ _ | refine blk_drew ?_ | refine blk_alloc ?_ _)); exact BK302.out)) : gb302 ≠ gb308)); have n6_ := Aside0.mk ((by rw [hg]; exact Nat.ne_of_gt (blk_lt (g := gb302) (o := .cells #[.bool false, .bool false, .bool false, .bool false] 29 (0, 0)) (by (with_reducible repeat (first | refine blk_drewN ?_ _ | refine blk_drew ?_ | refine blk_alloc ?_ _)); exact BK302.out)) : gb308 ≠ gb302)); clear BK302; clear HB; have BK302 := n0_; have HB := n1_; have BK308 := n2_; have GW308 := n3_; have GE308 := n4_; have NB302_308 := n5_; have NB308_302 := n6_; clear n0_ n1_ n2_ n3_ n4_ n5_ n6_; clear hb hbox hg; have hnb17 := NB308_302.out; have hnc17 := NB302_308.out; have hcz18_0 : w16.cell? ⟨gb308, 0, none⟩ = some (.bool false) := (blk_cell BK308.out 0).trans rfl; have hcz18_1 : w16.cell? ⟨gb308, 1, none⟩ = some (.bool false) := (blk_cell BK308.out 1).trans rfl; have hcz18_2 : w16.cell? ⟨gb308, 2, none⟩ = some (.bool false) := (blk_cell BK308.out 2).trans rfl; have hcz18_3 : w16.cell? ⟨gb308, 3, none⟩ = some (.bool false) := (blk_cell BK308.out 3).trans rfl; have hfz18_0 := blk_frozen BK308.out 0; have hfz18_1 := blk_frozen BK308.out 1; have hfz18_2 := blk_frozen BK308.out 2; have hfz18_3 := blk_frozen BK308.out 3))
          have n0_ : Aside0 ((((((w16.setCell ⟨gb308, 0, none⟩ (.bool t304)).setCell ⟨gb308, 1, none⟩ (.bool t305)).setCell ⟨gb308, 2, none⟩ (.bool t306)).setCell ⟨gb308, 3, none⟩ (.bool t307)).setCell ⟨gb308, 3, none⟩ (.bool a3)).heap[gb302]? = some (.cells #[.bool false, .bool false, .bool false, .bool false] 29 (0, 0))) := ⟨by (with_reducible repeat (first | refine blk_drewN ?_ _ | refine blk_drew ?_ | refine blk_alloc ?_ _)); refine blk_far ?_ NB302_308.out _; (with_reducible repeat (first | refine blk_drewN ?_ _ | refine blk_drew ?_ | refine blk_alloc ?_ _)); refine blk_far ?_ NB302_308.out _; (with_reducible repeat (first | refine blk_drewN ?_ _ | refine blk_drew ?_ | refine blk_alloc ?_ _)); refine blk_far ?_ NB302_308.out _; (with_reducible repeat (first | refine blk_drewN ?_ _ | refine blk_drew ?_ | refine blk_alloc ?_ _)); refine blk_far ?_ NB302_308.out _; (with_reducible repeat (first | refine blk_drewN ?_ _ | refine blk_drew ?_ | refine blk_alloc ?_ _)); refine blk_far ?_ NB302_308.out _; (with_reducible repeat (first | refine blk_drewN ?_ _ | refine blk_drew ?_ | refine blk_alloc ?_ _)); exact BK302.out⟩
          have n1_ : Aside0 ((((((w16.setCell ⟨gb308, 0, none⟩ (.bool t304)).setCell ⟨gb308, 1, none⟩ (.bool t305)).setCell ⟨gb308, 2, none⟩ (.bool t306)).setCell ⟨gb308, 3, none⟩ (.bool t307)).setCell ⟨gb308, 3, none⟩ (.bool a3)).heap[gb308]? = some (.cells #[.bool t304, .bool t305, .bool t306, .bool a3] 29 (0, 0))) := ⟨by (with_reducible repeat (first | refine blk_drewN ?_ _ | refine blk_drew ?_ | refine blk_alloc ?_ _)); refine blk_put (cs := #[.bool t304, .bool t305, .bool t306, .bool t307]) ?_ 3 _ rfl; (with_reducible repeat (first | refine blk_drewN ?_ _ | refine blk_drew ?_ | refine blk_alloc ?_ _)); refine blk_put (cs := #[.bool t304, .bool t305, .bool t306, .bool false]) ?_ 3 _ rfl; (with_reducible repeat (first | refine blk_drewN ?_ _ | refine blk_drew ?_ | refine blk_alloc ?_ _)); refine blk_put (cs := #[.bool t304, .bool t305, .bool false, .bool false]) ?_ 2 _ rfl; (with_reducible repeat (first | refine blk_drewN ?_ _ | refine blk_drew ?_ | refine blk_alloc ?_ _)); refine blk_put (cs := #[.bool t304, .bool false, .bool false, .bool false]) ?_ 1 _ rfl; (with_reducible repeat (first | refine blk_drewN ?_ _ | refine blk_drew ?_ | refine blk_alloc ?_ _)); refine blk_put (cs := #[.bool false, .bool false, .bool false, .bool false]) ?_ 0 _ rfl; (with_reducible repeat (first | refine blk_drewN ?_ _ | refine blk_drew ?_ | refine blk_alloc ?_ _)); exact BK308.out⟩
          have n2_ : Aside0 (Below w.heap.size w (((((w16.setCell ⟨gb308, 0, none⟩ (.bool t304)).setCell ⟨gb308, 1, none⟩ (.bool t305)).setCell ⟨gb308, 2, none⟩ (.bool t306)).setCell ⟨gb308, 3, none⟩ (.bool t307)).setCell ⟨gb308, 3, none⟩ (.bool a3))) := ⟨by repeat (first | (with_reducible first | exact HB.out | apply below_alloc | apply pw_below_drewN | apply below_drew1 | refine below_set ?_ GE302.out | refine below_set ?_ GE308.out) | exact HB.out)⟩
          (try clear BK302)
          (try clear BK308)
          (try clear HB)
          (repeat rw [own_setCell_drewN]); (repeat rw [World.drewN_drewN])
          generalize (((((w16.setCell ⟨gb308, 0, none⟩ (.bool t304)).setCell ⟨gb308, 1, none⟩ (.bool t305)).setCell ⟨gb308, 2, none⟩ (.bool t306)).setCell ⟨gb308, 3, none⟩ (.bool t307)).setCell ⟨gb308, 3, none⟩ (.bool a3)) = w19 at n0_ n1_ n2_ ⊢
          have BK302 := n0_
          have BK308 := n1_
          have HB := n2_
          clear n0_ n1_ n2_
          have n0_ := Aside0.mk (blk_drew BK302.out)
          have n1_ := Aside0.mk (blk_drew BK308.out)
          have n2_ := Aside0.mk (below_drew1 HB.out)
          clear BK302
          clear BK308
          clear HB
          have BK302 := n0_
          have BK308 := n1_
          have HB := n2_
          clear n0_ n1_ n2_
          refine start_ (n := 6) (S := fun w' => w'.cell? ⟨gb308, 0, none⟩ = some (.bool t304) ∧ w'.cell? ⟨gb308, 1, none⟩ = some (.bool t305) ∧ w'.cell? ⟨gb308, 2, none⟩ = some (.bool t306) ∧ w'.cell? ⟨gb308, 3, none⟩ = some (.bool a3)) (ds := []) #[false, false, false, false, false, false] (by kernel_rfl) rfl rfl ⟨(blk_cell BK308.out 0).trans rfl, (blk_cell BK308.out 1).trans rfl, (blk_cell BK308.out 2).trans rfl, (blk_cell BK308.out 3).trans rfl⟩ (fun hHeld => ?_)
          generalize w19.drew = w20 at BK302 BK308 HB hHeld ⊢
          refine pure_ (i := 0) (N := some 61) (v := ?_) (a' := ?_) #[true, false, false, false, false, false] rfl rfl (by kernel_rfl) (fun _ _ _ h => h) (Or.inl ⟨by rfl, ?_⟩) ?_ ?_
          rotate_left
          · intro w'
            go_simp
            with_reducible rfl
          rotate_left
          · simp only [Act.put, List.setIfInBounds_toArray, List.set_cons_zero, List.set_cons_succ, i64_w, i32_w]
            rfl
          refine pure_ (i := 1) (N := some 62) (v := ?_) (a' := ?_) #[true, true, false, false, false, false] rfl rfl (by kernel_rfl) (fun _ _ _ h => h) (Or.inl ⟨by rfl, ?_⟩) ?_ ?_
          rotate_left
          · intro w'
            go_simp
            with_reducible rfl
          rotate_left
          · simp only [Act.put, List.setIfInBounds_toArray, List.set_cons_zero, List.set_cons_succ, i64_w, i32_w]
            rfl
          refine pure_ (i := 3) (N := some 10) (v := ?_) (a' := ?_) #[true, true, false, true, false, false] rfl rfl (by kernel_rfl) (fun _ _ _ h => h) (Or.inl ⟨by rfl, ?_⟩) ?_ ?_
          rotate_left
          · intro w'
            go_simp
            with_reducible rfl
          rotate_left
          · simp only [Act.put, List.setIfInBounds_toArray, List.set_cons_zero, List.set_cons_succ, i64_w, i32_w]
            rfl
          refine take_ (i := 2) (N := some 63) (v := ?_) (a' := ?_) #[true, true, true, true, false, false] rfl rfl (by kernel_rfl) (fun _ _ _ h => h) (Or.inl ⟨by rfl, ?_⟩) hHeld ?_ ?_
          rotate_left
          · rintro w' ⟨s0, s1, s2, s3⟩
            go_simp
            with_reducible rfl
          rotate_left
          · simp only [Act.put, List.setIfInBounds_toArray, List.set_cons_zero, List.set_cons_succ, i64_w, i32_w]
            rfl
          refine one_ (i := 4) (N := none) #[true, true, true, true, true, false] rfl rfl (by kernel_rfl) (by decide) (fun K hK => ?_)
          have hs21 : w20.cell? ⟨gb302, 0, none⟩ = some (.bool false) := (blk_cell BK302.out 0).trans rfl
          have hfs21 := blk_frozen BK302.out 0
          have hns21_1 := NB308_302.out
          have hms21_1 := NB302_308.out
          have hs22 : w20.cell? ⟨gb302, 1, none⟩ = some (.bool false) := (blk_cell BK302.out 1).trans rfl
          have hfs22 := blk_frozen BK302.out 1
          have hns22_1 := NB308_302.out
          have hms22_1 := NB302_308.out
          have hs23 : w20.cell? ⟨gb302, 2, none⟩ = some (.bool false) := (blk_cell BK302.out 2).trans rfl
          have hfs23 := blk_frozen BK302.out 2
          have hns23_1 := NB308_302.out
          have hms23_1 := NB302_308.out
          have hs24 : w20.cell? ⟨gb302, 3, none⟩ = some (.bool false) := (blk_cell BK302.out 3).trans rfl
          have hfs24 := blk_frozen BK302.out 3
          have hns24_1 := NB308_302.out
          have hms24_1 := NB302_308.out
          refine skip_ (w1 := ?_) (by rfl) rfl ?_ ?_
          rotate_left
          · go_simp
            rfl
          refine hK.out _ _ ⟨((cell_far (p := ⟨gb302, _, none⟩) NB308_302.out _).trans (((cell_far (p := ⟨gb302, _, none⟩) NB308_302.out _).trans (((cell_far (p := ⟨gb302, _, none⟩) NB308_302.out _).trans (((cell_far (p := ⟨gb302, _, none⟩) NB308_302.out _).trans (hHeld.1)))))))), ((cell_far (p := ⟨gb302, _, none⟩) NB308_302.out _).trans (((cell_far (p := ⟨gb302, _, none⟩) NB308_302.out _).trans (((cell_far (p := ⟨gb302, _, none⟩) NB308_302.out _).trans (((cell_far (p := ⟨gb302, _, none⟩) NB308_302.out _).trans (hHeld.2.1)))))))), ((cell_far (p := ⟨gb302, _, none⟩) NB308_302.out _).trans (((cell_far (p := ⟨gb302, _, none⟩) NB308_302.out _).trans (((cell_far (p := ⟨gb302, _, none⟩) NB308_302.out _).trans (((cell_far (p := ⟨gb302, _, none⟩) NB308_302.out _).trans (hHeld.2.2.1)))))))), ((cell_far (p := ⟨gb302, _, none⟩) NB308_302.out _).trans (((cell_far (p := ⟨gb302, _, none⟩) NB308_302.out _).trans (((cell_far (p := ⟨gb302, _, none⟩) NB308_302.out _).trans (((cell_far (p := ⟨gb302, _, none⟩) NB308_302.out _).trans (hHeld.2.2.2))))))))⟩ (fun hHeld => ?_)
          clear hK K
          refine pure_ (i := 5) (N := some 12) (v := ?_) (a' := ?_) #[true, true, true, true, true, true] rfl rfl (by kernel_rfl) (fun _ _ _ h => h) (Or.inl ⟨by rfl, ?_⟩) ?_ ?_
          rotate_left
          · intro w'
            go_simp
            with_reducible rfl
          rotate_left
          · simp only [Act.put, List.setIfInBounds_toArray, List.set_cons_zero, List.set_cons_succ, i64_w, i32_w]
            rfl
          refine done_ (by kernel_rfl) ?_
          try go_wp2
          refine bodyPost_ret (results_list (rs := [.tmp 10, .cell 11 29, .tmp 12]) rfl (by simp) (.tmp (.cell gb302 29 #[.bool t304, .bool t305, .bool t306, .bool a3] (0, 0) _ rfl (by (with_reducible repeat (first | refine blk_drewN ?_ _ | refine blk_drew ?_ | refine blk_alloc ?_ _)); refine blk_put (cs := #[.bool t304, .bool t305, .bool t306, .bool false]) ?_ 3 _ rfl; (with_reducible repeat (first | refine blk_drewN ?_ _ | refine blk_drew ?_ | refine blk_alloc ?_ _)); refine blk_put (cs := #[.bool t304, .bool t305, .bool false, .bool false]) ?_ 2 _ rfl; (with_reducible repeat (first | refine blk_drewN ?_ _ | refine blk_drew ?_ | refine blk_alloc ?_ _)); refine blk_put (cs := #[.bool t304, .bool false, .bool false, .bool false]) ?_ 1 _ rfl; (with_reducible repeat (first | refine blk_drewN ?_ _ | refine blk_drew ?_ | refine blk_alloc ?_ _)); refine blk_put (cs := #[.bool false, .bool false, .bool false, .bool false]) ?_ 0 _ rfl; (with_reducible repeat (first | refine blk_drewN ?_ _ | refine blk_drew ?_ | refine blk_alloc ?_ _)); exact BK302.out) Try.underlying29 rfl (by kernel_rfl) (.tmp .nil)))) rfl ?_
          exact ⟨by first | rfl | (simp [errW_none, errW_some] <;> rfl) | (simp [*, errW_none, errW_some] <;> rfl), by repeat (first | (with_reducible first | exact HB.out | apply below_alloc | apply pw_below_drewN | apply below_drew1 | refine below_set ?_ GE302.out | refine below_set ?_ GE308.out) | exact HB.out)⟩
  · replace c7 := Bool.eq_false_iff.mpr c7
    subst c7
    have H1 : ((camshaftref01_Rest.f a1 a4).bind fun t312 => (if a0 = 3 then ((camshaftref01_Sub.f 0 a1 false a4).bind fun bt313 => (some (bt313.1, bt313.2.1, bt313.2.2.1, bt313.2.2.2.1, bt313.2.2.2.2, true))) else (if a0 = 4 then ((camshaftref01_Add.f a1 1 false a4).bind fun bt319 => (some (bt319.1, bt319.2.1, bt319.2.2.1, bt319.2.2.2.1, bt319.2.2.2.2, true))) else (if a0 = 5 then ((camshaftref01_Sub.f a1 1 false a4).bind fun bt325 => (some (bt325.1, bt325.2.1, bt325.2.2.1, bt325.2.2.2.1, bt325.2.2.2.2, true))) else (if a0 = 6 then ((camshaftref01_Add.f a2 a1 false a4).bind fun bt331 => (some (bt331.1, bt331.2.1, bt331.2.2.1, bt331.2.2.2.1, bt331.2.2.2.2, true))) else (if a0 = 7 then ((camshaftref01_Sub.f a2 a1 false a4).bind fun bt337 => (some (bt337.1, bt337.2.1, bt337.2.2.1, bt337.2.2.2.1, bt337.2.2.2.2, true))) else (if a0 = 8 then ((camshaftref01_Add.f a2 a1 a3 a4).bind fun bt343 => (some (bt343.1, bt343.2.1, bt343.2.2.1, bt343.2.2.2.1, bt343.2.2.2.2, true))) else (if a0 = 9 then ((camshaftref01_Sub.f a2 a1 a3 a4).bind fun bt349 => (some (bt349.1, bt349.2.1, bt349.2.2.1, bt349.2.2.2.1, bt349.2.2.2.2, true))) else (if a0 = 10 then ((camshaftref01_Mul.f a2 a1 a4).bind fun bt355 => (some (bt355.1, bt355.2.1, bt355.2.2.1, bt355.2.2.2.1, bt355.2.2.2.2, true))) else (if a0 = 11 then ((camshaftref01_Div.f k a2 a1 a4).bind fun bt361 => (some (bt361.1, bt361.2.1, bt361.2.2.1, bt361.2.2.2.1, bt361.2.2.2.2.1, bt361.2.2.2.2.2))) else (if a0 = 16 then ((camshaftref01_Compare.f a1 a2 a4).bind fun bt367 => (some ((t312) % 4294967296, bt367.1, bt367.2.1, bt367.2.2.1, bt367.2.2.2, true))) else (if a0 = 17 then ((camshaftref01_Signs.f a1 a4).bind fun bt371 => (some ((t312) % 4294967296, bt371.1, bt371.2.1, bt371.2.2.1, bt371.2.2.2, true))) else (some (0, false, false, false, false, false)))))))))))))) = some (r1, r2, r3, r4, r5, r6) := by rw [if_neg (show ¬ (false = true) by decide)] at H; exact H
    clear H
    have H := H1
    clear H1
    replace H := Option.bind_eq_some_iff.mp H
    obtain ⟨t312, A250, H⟩ := H
    replace H : (if a0 = 3 then ((camshaftref01_Sub.f 0 a1 false a4).bind fun bt313 => (some (bt313.1, bt313.2.1, bt313.2.2.1, bt313.2.2.2.1, bt313.2.2.2.2, true))) else (if a0 = 4 then ((camshaftref01_Add.f a1 1 false a4).bind fun bt319 => (some (bt319.1, bt319.2.1, bt319.2.2.1, bt319.2.2.2.1, bt319.2.2.2.2, true))) else (if a0 = 5 then ((camshaftref01_Sub.f a1 1 false a4).bind fun bt325 => (some (bt325.1, bt325.2.1, bt325.2.2.1, bt325.2.2.2.1, bt325.2.2.2.2, true))) else (if a0 = 6 then ((camshaftref01_Add.f a2 a1 false a4).bind fun bt331 => (some (bt331.1, bt331.2.1, bt331.2.2.1, bt331.2.2.2.1, bt331.2.2.2.2, true))) else (if a0 = 7 then ((camshaftref01_Sub.f a2 a1 false a4).bind fun bt337 => (some (bt337.1, bt337.2.1, bt337.2.2.1, bt337.2.2.2.1, bt337.2.2.2.2, true))) else (if a0 = 8 then ((camshaftref01_Add.f a2 a1 a3 a4).bind fun bt343 => (some (bt343.1, bt343.2.1, bt343.2.2.1, bt343.2.2.2.1, bt343.2.2.2.2, true))) else (if a0 = 9 then ((camshaftref01_Sub.f a2 a1 a3 a4).bind fun bt349 => (some (bt349.1, bt349.2.1, bt349.2.2.1, bt349.2.2.2.1, bt349.2.2.2.2, true))) else (if a0 = 10 then ((camshaftref01_Mul.f a2 a1 a4).bind fun bt355 => (some (bt355.1, bt355.2.1, bt355.2.2.1, bt355.2.2.2.1, bt355.2.2.2.2, true))) else (if a0 = 11 then ((camshaftref01_Div.f k a2 a1 a4).bind fun bt361 => (some (bt361.1, bt361.2.1, bt361.2.2.1, bt361.2.2.2.1, bt361.2.2.2.2.1, bt361.2.2.2.2.2))) else (if a0 = 16 then ((camshaftref01_Compare.f a1 a2 a4).bind fun bt367 => (some ((t312) % 4294967296, bt367.1, bt367.2.1, bt367.2.2.1, bt367.2.2.2, true))) else (if a0 = 17 then ((camshaftref01_Signs.f a1 a4).bind fun bt371 => (some ((t312) % 4294967296, bt371.1, bt371.2.1, bt371.2.2.1, bt371.2.2.2, true))) else (some (0, false, false, false, false, false))))))))))))) = some (r1, r2, r3, r4, r5, r6) := H
    have A25 := Aside0.mk A250
    clear A250
    by_cases c26 : a0 = 3
    · rw [if_pos c26] at H
      have c26b0 : (a0 == 3) = true := beq_iff_eq.mpr c26
      have c26b1 : (a0 != 3) = false := bne_eq_false_iff_eq.mpr c26
      clear c26
      replace H := Option.bind_eq_some_iff.mp H
      obtain ⟨⟨t313, t314, t315, t316, t317⟩, A270, H⟩ := H
      replace H : (some (t313, t314, t315, t316, t317, true)) = some (r1, r2, r3, r4, r5, r6) := H
      have A27 := Aside0.mk A270
      clear A270
      simp only [Option.some.injEq, Prod.mk.injEq] at H
      obtain ⟨rfl, rfl, rfl, rfl, rfl, rfl⟩ := H
      go_enter Try.func42, Try.ntmps42
      try go_wp2_with (first | ((with_reducible refine gate_dst (N := 11) rfl ?_); refine box_event ?hg (N := 11) ?hd (cs := #[.bool false, .bool false, .bool false, .bool false]) (t := 29) ?hr ?_; (case hd => rfl); (case hg => rfl); (case hr => first | (go_simp; done) | (go_simp; rfl)); intro gb302 hg w28 hbox hb; have n0_ := Aside0.mk (below_step (by repeat (first | (with_reducible first | exact HB.out | apply below_alloc | apply pw_below_drewN | apply below_drew1) | exact HB.out)) hb); have n1_ := Aside0.mk (hbox); have n2_ := Aside0.mk ((by rw [hg]; exact (below_size (by repeat (first | (with_reducible first | exact HB.out | apply below_alloc | apply pw_below_drewN | apply below_drew1) | exact HB.out))) : w.heap.size ≤ gb302)); have n3_ := Aside0.mk ((by rw [hg]; exact (below_size (by repeat (first | (with_reducible first | exact HB.out | apply below_alloc | apply pw_below_drewN | apply below_drew1) | exact HB.out))) : w.heap.size ≤ gb302)); clear HB; have HB := n0_; have BK302 := n1_; have GW302 := n2_; have GE302 := n3_; clear n0_ n1_ n2_ n3_; clear hb hbox hg) | ((with_reducible refine gate_callee (f := 44) rfl ?_); refine goesL_ (some 35) rfl rfl Try.func44 (by kernel_rfl) rfl #[.int .i64 a0] rfl (by (try simp only [List.map_toArray, List.map_cons, List.map_nil]); first | done | rfl | (simp only [List.length_drop, List.length_take]; rfl)) ?_; (with_reducible refine (camshaftref08_Logic.calls a0 false _ A6.out).mono ?_); rintro e w' ⟨rfl, ⟨nd, rfl⟩⟩; refine ⟨_, rfl, ?_⟩; (try (rw [drewN_self w28]; generalize hq_ : World.drewN w28 _ = w28; have n0_ : Aside0 (w28.heap[gb302]? = some (.cells #[.bool false, .bool false, .bool false, .bool false] 29 (0, 0))) := ⟨by rw [← hq_]; exact (by (with_reducible repeat (first | refine blk_drewN ?_ _ | refine blk_drew ?_ | refine blk_alloc ?_ _)); exact BK302.out)⟩; have n1_ : Aside0 (Below w.heap.size w w28) := ⟨by rw [← hq_]; exact (by repeat (first | (with_reducible first | exact HB.out | apply below_alloc | apply pw_below_drewN | apply below_drew1 | refine below_set ?_ GE302.out) | exact HB.out))⟩; clear BK302 HB hq_; have BK302 := n0_; have HB := n1_; clear n0_ n1_))) | ((with_reducible refine gate_callee (f := 45) rfl ?_); refine goesL_ (some 66) rfl rfl Try.func45 (by kernel_rfl) rfl #[.int .u32 a1, .int .i64 a4] rfl (by (try simp only [List.map_toArray, List.map_cons, List.map_nil]); first | done | rfl | (simp only [List.length_drop, List.length_take]; rfl)) ?_; (with_reducible refine (camshaftref01_Rest.calls a1 a4 t312 _ A25.out).mono ?_); rintro e w' ⟨rfl, ⟨nd, rfl⟩⟩; refine ⟨_, rfl, ?_⟩; (try (rw [drewN_self w28]; generalize hq_ : World.drewN w28 _ = w28; have n0_ : Aside0 (w28.heap[gb302]? = some (.cells #[.bool false, .bool false, .bool false, .bool false] 29 (0, 0))) := ⟨by rw [← hq_]; exact (by (with_reducible repeat (first | refine blk_drewN ?_ _ | refine blk_drew ?_ | refine blk_alloc ?_ _)); exact BK302.out)⟩; have n1_ : Aside0 (Below w.heap.size w w28) := ⟨by rw [← hq_]; exact (by repeat (first | (with_reducible first | exact HB.out | apply below_alloc | apply pw_below_drewN | apply below_drew1 | refine below_set ?_ GE302.out) | exact HB.out))⟩; clear BK302 HB hq_; have BK302 := n0_; have HB := n1_; clear n0_ n1_))) | ((with_reducible refine gate_callee (f := 24) rfl ?_); refine goesL_ (some 74) rfl rfl Try.func24 (by kernel_rfl) rfl #[.int .u32 0, .int .u32 a1, .bool false, .int .i64 a4] rfl (by (try simp only [List.map_toArray, List.map_cons, List.map_nil]); first | done | rfl | (simp only [List.length_drop, List.length_take]; rfl)) ?_; (with_reducible refine (camshaftref01_Sub.calls 0 a1 false a4 t313 t314 t315 t316 t317 _ A27.out).mono ?_); rintro e w29 ⟨rfl, hb⟩; refine ⟨_, rfl, ?_⟩; have n0_ := Aside0.mk (blk_below (g := gb302) (o := .cells #[.bool false, .bool false, .bool false, .bool false] 29 (0, 0)) (by (with_reducible repeat (first | refine blk_drewN ?_ _ | refine blk_drew ?_ | refine blk_alloc ?_ _)); exact BK302.out) hb); have n1_ := Aside0.mk (below_step (by repeat (first | (with_reducible first | exact HB.out | apply below_alloc | apply pw_below_drewN | apply below_drew1 | refine below_set ?_ GE302.out) | exact HB.out)) hb); clear BK302; clear HB; have BK302 := n0_; have HB := n1_; clear n0_ n1_; (try clear hb); (try clear hb2); (try clear hk); (try clear hi)) | ((with_reducible refine gate_dst (N := 19) rfl ?_); refine box_event ?hg (N := 19) ?hd (cs := #[.bool false, .bool false, .bool false, .bool false]) (t := 29) ?hr ?_; (case hd => rfl); (case hg => rfl); (case hr => first | (go_simp; done) | (go_simp; rfl)); intro gb318 hg w30 hbox hb; have n0_ := Aside0.mk (blk_below (g := gb302) (o := .cells #[.bool false, .bool false, .bool false, .bool false] 29 (0, 0)) (by (with_reducible repeat (first | refine blk_drewN ?_ _ | refine blk_drew ?_ | refine blk_alloc ?_ _)); exact BK302.out) hb); have n1_ := Aside0.mk (below_step (by repeat (first | (with_reducible first | exact HB.out | apply below_alloc | apply pw_below_drewN | apply below_drew1 | refine below_set ?_ GE302.out) | exact HB.out)) hb); have n2_ := Aside0.mk (hbox); have n3_ := Aside0.mk ((by rw [hg]; exact (below_size (by repeat (first | (with_reducible first | exact HB.out | apply below_alloc | apply pw_below_drewN | apply below_drew1 | refine below_set ?_ GE302.out) | exact HB.out))) : w.heap.size ≤ gb318)); have n4_ := Aside0.mk ((by rw [hg]; exact (below_size (by repeat (first | (with_reducible first | exact HB.out | apply below_alloc | apply pw_below_drewN | apply below_drew1 | refine below_set ?_ GE302.out) | exact HB.out))) : w.heap.size ≤ gb318)); have n5_ := Aside0.mk ((by rw [hg]; exact Nat.ne_of_lt (blk_lt (g := gb302) (o := .cells #[.bool false, .bool false, .bool false, .bool false] 29 (0, 0)) (by (with_reducible repeat (first | refine blk_drewN ?_ _ | refine blk_drew ?_ | refine blk_alloc ?_ _)); exact BK302.out)) : gb302 ≠ gb318)); have n6_ := Aside0.mk ((by rw [hg]; exact Nat.ne_of_gt (blk_lt (g := gb302) (o := .cells #[.bool false, .bool false, .bool false, .bool false] 29 (0, 0)) (by (with_reducible repeat (first | refine blk_drewN ?_ _ | refine blk_drew ?_ | refine blk_alloc ?_ _)); exact BK302.out)) : gb318 ≠ gb302)); clear BK302; clear HB; have BK302 := n0_; have HB := n1_; have BK318 := n2_; have GW318 := n3_; have GE318 := n4_; have NB302_318 := n5_; have NB318_302 := n6_; clear n0_ n1_ n2_ n3_ n4_ n5_ n6_; clear hb hbox hg; have hnb31 := NB318_302.out; have hnc31 := NB302_318.out; have hcz32_0 : w30.cell? ⟨gb318, 0, none⟩ = some (.bool false) := (blk_cell BK318.out 0).trans rfl; have hcz32_1 : w30.cell? ⟨gb318, 1, none⟩ = some (.bool false) := (blk_cell BK318.out 1).trans rfl; have hcz32_2 : w30.cell? ⟨gb318, 2, none⟩ = some (.bool false) := (blk_cell BK318.out 2).trans rfl; have hcz32_3 : w30.cell? ⟨gb318, 3, none⟩ = some (.bool false) := (blk_cell BK318.out 3).trans rfl; have hfz32_0 := blk_frozen BK318.out 0; have hfz32_1 := blk_frozen BK318.out 1; have hfz32_2 := blk_frozen BK318.out 2; have hfz32_3 := blk_frozen BK318.out 3))
      have n0_ : Aside0 (((((w30.setCell ⟨gb318, 0, none⟩ (.bool t314)).setCell ⟨gb318, 1, none⟩ (.bool t315)).setCell ⟨gb318, 2, none⟩ (.bool t316)).setCell ⟨gb318, 3, none⟩ (.bool t317)).heap[gb302]? = some (.cells #[.bool false, .bool false, .bool false, .bool false] 29 (0, 0))) := ⟨by (with_reducible repeat (first | refine blk_drewN ?_ _ | refine blk_drew ?_ | refine blk_alloc ?_ _)); refine blk_far ?_ NB302_318.out _; (with_reducible repeat (first | refine blk_drewN ?_ _ | refine blk_drew ?_ | refine blk_alloc ?_ _)); refine blk_far ?_ NB302_318.out _; (with_reducible repeat (first | refine blk_drewN ?_ _ | refine blk_drew ?_ | refine blk_alloc ?_ _)); refine blk_far ?_ NB302_318.out _; (with_reducible repeat (first | refine blk_drewN ?_ _ | refine blk_drew ?_ | refine blk_alloc ?_ _)); refine blk_far ?_ NB302_318.out _; (with_reducible repeat (first | refine blk_drewN ?_ _ | refine blk_drew ?_ | refine blk_alloc ?_ _)); exact BK302.out⟩
      have n1_ : Aside0 (((((w30.setCell ⟨gb318, 0, none⟩ (.bool t314)).setCell ⟨gb318, 1, none⟩ (.bool t315)).setCell ⟨gb318, 2, none⟩ (.bool t316)).setCell ⟨gb318, 3, none⟩ (.bool t317)).heap[gb318]? = some (.cells #[.bool t314, .bool t315, .bool t316, .bool t317] 29 (0, 0))) := ⟨by (with_reducible repeat (first | refine blk_drewN ?_ _ | refine blk_drew ?_ | refine blk_alloc ?_ _)); refine blk_put (cs := #[.bool t314, .bool t315, .bool t316, .bool false]) ?_ 3 _ rfl; (with_reducible repeat (first | refine blk_drewN ?_ _ | refine blk_drew ?_ | refine blk_alloc ?_ _)); refine blk_put (cs := #[.bool t314, .bool t315, .bool false, .bool false]) ?_ 2 _ rfl; (with_reducible repeat (first | refine blk_drewN ?_ _ | refine blk_drew ?_ | refine blk_alloc ?_ _)); refine blk_put (cs := #[.bool t314, .bool false, .bool false, .bool false]) ?_ 1 _ rfl; (with_reducible repeat (first | refine blk_drewN ?_ _ | refine blk_drew ?_ | refine blk_alloc ?_ _)); refine blk_put (cs := #[.bool false, .bool false, .bool false, .bool false]) ?_ 0 _ rfl; (with_reducible repeat (first | refine blk_drewN ?_ _ | refine blk_drew ?_ | refine blk_alloc ?_ _)); exact BK318.out⟩
      have n2_ : Aside0 (Below w.heap.size w ((((w30.setCell ⟨gb318, 0, none⟩ (.bool t314)).setCell ⟨gb318, 1, none⟩ (.bool t315)).setCell ⟨gb318, 2, none⟩ (.bool t316)).setCell ⟨gb318, 3, none⟩ (.bool t317))) := ⟨by repeat (first | (with_reducible first | exact HB.out | apply below_alloc | apply pw_below_drewN | apply below_drew1 | refine below_set ?_ GE302.out | refine below_set ?_ GE318.out) | exact HB.out)⟩
      (try clear BK302)
      (try clear BK318)
      (try clear HB)
      (repeat rw [own_setCell_drewN]); (repeat rw [World.drewN_drewN])
      generalize ((((w30.setCell ⟨gb318, 0, none⟩ (.bool t314)).setCell ⟨gb318, 1, none⟩ (.bool t315)).setCell ⟨gb318, 2, none⟩ (.bool t316)).setCell ⟨gb318, 3, none⟩ (.bool t317)) = w33 at n0_ n1_ n2_ ⊢
      have BK302 := n0_
      have BK318 := n1_
      have HB := n2_
      clear n0_ n1_ n2_
      have n0_ := Aside0.mk (blk_drew BK302.out)
      have n1_ := Aside0.mk (blk_drew BK318.out)
      have n2_ := Aside0.mk (below_drew1 HB.out)
      clear BK302
      clear BK318
      clear HB
      have BK302 := n0_
      have BK318 := n1_
      have HB := n2_
      clear n0_ n1_ n2_
      refine start_ (n := 5) (S := fun w' => w'.cell? ⟨gb318, 0, none⟩ = some (.bool t314) ∧ w'.cell? ⟨gb318, 1, none⟩ = some (.bool t315) ∧ w'.cell? ⟨gb318, 2, none⟩ = some (.bool t316) ∧ w'.cell? ⟨gb318, 3, none⟩ = some (.bool t317)) (ds := []) #[false, false, false, false, false] (by kernel_rfl) rfl rfl ⟨(blk_cell BK318.out 0).trans rfl, (blk_cell BK318.out 1).trans rfl, (blk_cell BK318.out 2).trans rfl, (blk_cell BK318.out 3).trans rfl⟩ (fun hHeld => ?_)
      generalize w33.drew = w34 at BK302 BK318 HB hHeld ⊢
      refine pure_ (i := 0) (N := some 77) (v := ?_) (a' := ?_) #[true, false, false, false, false] rfl rfl (by kernel_rfl) (fun _ _ _ h => h) (Or.inl ⟨by rfl, ?_⟩) ?_ ?_
      rotate_left
      · intro w'
        go_simp
        with_reducible rfl
      rotate_left
      · simp only [Act.put, List.setIfInBounds_toArray, List.set_cons_zero, List.set_cons_succ, i64_w, i32_w]
        rfl
      refine pure_ (i := 2) (N := some 10) (v := ?_) (a' := ?_) #[true, false, true, false, false] rfl rfl (by kernel_rfl) (fun _ _ _ h => h) (Or.inl ⟨by rfl, ?_⟩) ?_ ?_
      rotate_left
      · intro w'
        go_simp
        with_reducible rfl
      rotate_left
      · simp only [Act.put, List.setIfInBounds_toArray, List.set_cons_zero, List.set_cons_succ, i64_w, i32_w]
        rfl
      refine take_ (i := 1) (N := some 78) (v := ?_) (a' := ?_) #[true, true, true, false, false] rfl rfl (by kernel_rfl) (fun _ _ _ h => h) (Or.inl ⟨by rfl, ?_⟩) hHeld ?_ ?_
      rotate_left
      · rintro w' ⟨s0, s1, s2, s3⟩
        go_simp
        with_reducible rfl
      rotate_left
      · simp only [Act.put, List.setIfInBounds_toArray, List.set_cons_zero, List.set_cons_succ, i64_w, i32_w]
        rfl
      refine one_ (i := 3) (N := none) #[true, true, true, true, false] rfl rfl (by kernel_rfl) (by decide) (fun K hK => ?_)
      have hs35 : w34.cell? ⟨gb302, 0, none⟩ = some (.bool false) := (blk_cell BK302.out 0).trans rfl
      have hfs35 := blk_frozen BK302.out 0
      have hns35_1 := NB318_302.out
      have hms35_1 := NB302_318.out
      have hs36 : w34.cell? ⟨gb302, 1, none⟩ = some (.bool false) := (blk_cell BK302.out 1).trans rfl
      have hfs36 := blk_frozen BK302.out 1
      have hns36_1 := NB318_302.out
      have hms36_1 := NB302_318.out
      have hs37 : w34.cell? ⟨gb302, 2, none⟩ = some (.bool false) := (blk_cell BK302.out 2).trans rfl
      have hfs37 := blk_frozen BK302.out 2
      have hns37_1 := NB318_302.out
      have hms37_1 := NB302_318.out
      have hs38 : w34.cell? ⟨gb302, 3, none⟩ = some (.bool false) := (blk_cell BK302.out 3).trans rfl
      have hfs38 := blk_frozen BK302.out 3
      have hns38_1 := NB318_302.out
      have hms38_1 := NB302_318.out
      refine skip_ (w1 := ?_) (by rfl) rfl ?_ ?_
      rotate_left
      · go_simp
        rfl
      refine hK.out _ _ ⟨((cell_far (p := ⟨gb302, _, none⟩) NB318_302.out _).trans (((cell_far (p := ⟨gb302, _, none⟩) NB318_302.out _).trans (((cell_far (p := ⟨gb302, _, none⟩) NB318_302.out _).trans (((cell_far (p := ⟨gb302, _, none⟩) NB318_302.out _).trans (hHeld.1)))))))), ((cell_far (p := ⟨gb302, _, none⟩) NB318_302.out _).trans (((cell_far (p := ⟨gb302, _, none⟩) NB318_302.out _).trans (((cell_far (p := ⟨gb302, _, none⟩) NB318_302.out _).trans (((cell_far (p := ⟨gb302, _, none⟩) NB318_302.out _).trans (hHeld.2.1)))))))), ((cell_far (p := ⟨gb302, _, none⟩) NB318_302.out _).trans (((cell_far (p := ⟨gb302, _, none⟩) NB318_302.out _).trans (((cell_far (p := ⟨gb302, _, none⟩) NB318_302.out _).trans (((cell_far (p := ⟨gb302, _, none⟩) NB318_302.out _).trans (hHeld.2.2.1)))))))), ((cell_far (p := ⟨gb302, _, none⟩) NB318_302.out _).trans (((cell_far (p := ⟨gb302, _, none⟩) NB318_302.out _).trans (((cell_far (p := ⟨gb302, _, none⟩) NB318_302.out _).trans (((cell_far (p := ⟨gb302, _, none⟩) NB318_302.out _).trans (hHeld.2.2.2))))))))⟩ (fun hHeld => ?_)
      clear hK K
      refine pure_ (i := 4) (N := some 12) (v := ?_) (a' := ?_) #[true, true, true, true, true] rfl rfl (by kernel_rfl) (fun _ _ _ h => h) (Or.inl ⟨by rfl, ?_⟩) ?_ ?_
      rotate_left
      · intro w'
        go_simp
        with_reducible rfl
      rotate_left
      · simp only [Act.put, List.setIfInBounds_toArray, List.set_cons_zero, List.set_cons_succ, i64_w, i32_w]
        rfl
      refine done_ (by kernel_rfl) ?_
      try go_wp2
      refine bodyPost_ret (results_list (rs := [.tmp 10, .cell 11 29, .tmp 12]) rfl (by simp) (.tmp (.cell gb302 29 #[.bool t314, .bool t315, .bool t316, .bool t317] (0, 0) _ rfl (by (with_reducible repeat (first | refine blk_drewN ?_ _ | refine blk_drew ?_ | refine blk_alloc ?_ _)); refine blk_put (cs := #[.bool t314, .bool t315, .bool t316, .bool false]) ?_ 3 _ rfl; (with_reducible repeat (first | refine blk_drewN ?_ _ | refine blk_drew ?_ | refine blk_alloc ?_ _)); refine blk_put (cs := #[.bool t314, .bool t315, .bool false, .bool false]) ?_ 2 _ rfl; (with_reducible repeat (first | refine blk_drewN ?_ _ | refine blk_drew ?_ | refine blk_alloc ?_ _)); refine blk_put (cs := #[.bool t314, .bool false, .bool false, .bool false]) ?_ 1 _ rfl; (with_reducible repeat (first | refine blk_drewN ?_ _ | refine blk_drew ?_ | refine blk_alloc ?_ _)); refine blk_put (cs := #[.bool false, .bool false, .bool false, .bool false]) ?_ 0 _ rfl; (with_reducible repeat (first | refine blk_drewN ?_ _ | refine blk_drew ?_ | refine blk_alloc ?_ _)); exact BK302.out) Try.underlying29 rfl (by kernel_rfl) (.tmp .nil)))) rfl ?_
      exact ⟨by first | rfl | (simp [errW_none, errW_some] <;> rfl) | (simp [*, errW_none, errW_some] <;> rfl), by repeat (first | (with_reducible first | exact HB.out | apply below_alloc | apply pw_below_drewN | apply below_drew1 | refine below_set ?_ GE302.out | refine below_set ?_ GE318.out) | exact HB.out)⟩
    · rw [if_neg c26] at H
      have c26b0 : (a0 == 3) = false := beq_eq_false_iff_ne.mpr c26
      have c26b1 : (a0 != 3) = true := bne_iff_ne.mpr c26
      by_cases c39 : a0 = 4
      · rw [if_pos c39] at H
        have c39b0 : (a0 == 4) = true := beq_iff_eq.mpr c39
        have c39b1 : (a0 != 4) = false := bne_eq_false_iff_eq.mpr c39
        clear c39
        replace H := Option.bind_eq_some_iff.mp H
        obtain ⟨⟨t319, t320, t321, t322, t323⟩, A400, H⟩ := H
        replace H : (some (t319, t320, t321, t322, t323, true)) = some (r1, r2, r3, r4, r5, r6) := H
        have A40 := Aside0.mk A400
        clear A400
        simp only [Option.some.injEq, Prod.mk.injEq] at H
        obtain ⟨rfl, rfl, rfl, rfl, rfl, rfl⟩ := H
        go_enter Try.func42, Try.ntmps42
        try go_wp2_with (first | ((with_reducible refine gate_dst (N := 11) rfl ?_); refine box_event ?hg (N := 11) ?hd (cs := #[.bool false, .bool false, .bool false, .bool false]) (t := 29) ?hr ?_; (case hd => rfl); (case hg => rfl); (case hr => first | (go_simp; done) | (go_simp; rfl)); intro gb302 hg w41 hbox hb; have n0_ := Aside0.mk (below_step (by repeat (first | (with_reducible first | exact HB.out | apply below_alloc | apply pw_below_drewN | apply below_drew1) | exact HB.out)) hb); have n1_ := Aside0.mk (hbox); have n2_ := Aside0.mk ((by rw [hg]; exact (below_size (by repeat (first | (with_reducible first | exact HB.out | apply below_alloc | apply pw_below_drewN | apply below_drew1) | exact HB.out))) : w.heap.size ≤ gb302)); have n3_ := Aside0.mk ((by rw [hg]; exact (below_size (by repeat (first | (with_reducible first | exact HB.out | apply below_alloc | apply pw_below_drewN | apply below_drew1) | exact HB.out))) : w.heap.size ≤ gb302)); clear HB; have HB := n0_; have BK302 := n1_; have GW302 := n2_; have GE302 := n3_; clear n0_ n1_ n2_ n3_; clear hb hbox hg) | ((with_reducible refine gate_callee (f := 44) rfl ?_); refine goesL_ (some 35) rfl rfl Try.func44 (by kernel_rfl) rfl #[.int .i64 a0] rfl (by (try simp only [List.map_toArray, List.map_cons, List.map_nil]); first | done | rfl | (simp only [List.length_drop, List.length_take]; rfl)) ?_; (with_reducible refine (camshaftref08_Logic.calls a0 false _ A6.out).mono ?_); rintro e w' ⟨rfl, ⟨nd, rfl⟩⟩; refine ⟨_, rfl, ?_⟩; (try (rw [drewN_self w41]; generalize hq_ : World.drewN w41 _ = w41; have n0_ : Aside0 (w41.heap[gb302]? = some (.cells #[.bool false, .bool false, .bool false, .bool false] 29 (0, 0))) := ⟨by rw [← hq_]; exact (by (with_reducible repeat (first | refine blk_drewN ?_ _ | refine blk_drew ?_ | refine blk_alloc ?_ _)); exact BK302.out)⟩; have n1_ : Aside0 (Below w.heap.size w w41) := ⟨by rw [← hq_]; exact (by repeat (first | (with_reducible first | exact HB.out | apply below_alloc | apply pw_below_drewN | apply below_drew1 | refine below_set ?_ GE302.out) | exact HB.out))⟩; clear BK302 HB hq_; have BK302 := n0_; have HB := n1_; clear n0_ n1_))) | ((with_reducible refine gate_callee (f := 45) rfl ?_); refine goesL_ (some 66) rfl rfl Try.func45 (by kernel_rfl) rfl #[.int .u32 a1, .int .i64 a4] rfl (by (try simp only [List.map_toArray, List.map_cons, List.map_nil]); first | done | rfl | (simp only [List.length_drop, List.length_take]; rfl)) ?_; (with_reducible refine (camshaftref01_Rest.calls a1 a4 t312 _ A25.out).mono ?_); rintro e w' ⟨rfl, ⟨nd, rfl⟩⟩; refine ⟨_, rfl, ?_⟩; (try (rw [drewN_self w41]; generalize hq_ : World.drewN w41 _ = w41; have n0_ : Aside0 (w41.heap[gb302]? = some (.cells #[.bool false, .bool false, .bool false, .bool false] 29 (0, 0))) := ⟨by rw [← hq_]; exact (by (with_reducible repeat (first | refine blk_drewN ?_ _ | refine blk_drew ?_ | refine blk_alloc ?_ _)); exact BK302.out)⟩; have n1_ : Aside0 (Below w.heap.size w w41) := ⟨by rw [← hq_]; exact (by repeat (first | (with_reducible first | exact HB.out | apply below_alloc | apply pw_below_drewN | apply below_drew1 | refine below_set ?_ GE302.out) | exact HB.out))⟩; clear BK302 HB hq_; have BK302 := n0_; have HB := n1_; clear n0_ n1_))) | ((with_reducible refine gate_callee (f := 22) rfl ?_); refine goesL_ (some 84) rfl rfl Try.func22 (by kernel_rfl) rfl #[.int .u32 a1, .int .u32 1, .bool false, .int .i64 a4] rfl (by (try simp only [List.map_toArray, List.map_cons, List.map_nil]); first | done | rfl | (simp only [List.length_drop, List.length_take]; rfl)) ?_; (with_reducible refine (camshaftref01_Add.calls a1 1 false a4 t319 t320 t321 t322 t323 _ A40.out).mono ?_); rintro e w42 ⟨rfl, hb⟩; refine ⟨_, rfl, ?_⟩; have n0_ := Aside0.mk (blk_below (g := gb302) (o := .cells #[.bool false, .bool false, .bool false, .bool false] 29 (0, 0)) (by (with_reducible repeat (first | refine blk_drewN ?_ _ | refine blk_drew ?_ | refine blk_alloc ?_ _)); exact BK302.out) hb); have n1_ := Aside0.mk (below_step (by repeat (first | (with_reducible first | exact HB.out | apply below_alloc | apply pw_below_drewN | apply below_drew1 | refine below_set ?_ GE302.out) | exact HB.out)) hb); clear BK302; clear HB; have BK302 := n0_; have HB := n1_; clear n0_ n1_; (try clear hb); (try clear hb2); (try clear hk); (try clear hi)) | ((with_reducible refine gate_dst (N := 21) rfl ?_); refine box_event ?hg (N := 21) ?hd (cs := #[.bool false, .bool false, .bool false, .bool false]) (t := 29) ?hr ?_; (case hd => rfl); (case hg => rfl); (case hr => first | (go_simp; done) | (go_simp; rfl)); intro gb324 hg w43 hbox hb; have n0_ := Aside0.mk (blk_below (g := gb302) (o := .cells #[.bool false, .bool false, .bool false, .bool false] 29 (0, 0)) (by (with_reducible repeat (first | refine blk_drewN ?_ _ | refine blk_drew ?_ | refine blk_alloc ?_ _)); exact BK302.out) hb); have n1_ := Aside0.mk (below_step (by repeat (first | (with_reducible first | exact HB.out | apply below_alloc | apply pw_below_drewN | apply below_drew1 | refine below_set ?_ GE302.out) | exact HB.out)) hb); have n2_ := Aside0.mk (hbox); have n3_ := Aside0.mk ((by rw [hg]; exact (below_size (by repeat (first | (with_reducible first | exact HB.out | apply below_alloc | apply pw_below_drewN | apply below_drew1 | refine below_set ?_ GE302.out) | exact HB.out))) : w.heap.size ≤ gb324)); have n4_ := Aside0.mk ((by rw [hg]; exact (below_size (by repeat (first | (with_reducible first | exact HB.out | apply below_alloc | apply pw_below_drewN | apply below_drew1 | refine below_set ?_ GE302.out) | exact HB.out))) : w.heap.size ≤ gb324)); have n5_ := Aside0.mk ((by rw [hg]; exact Nat.ne_of_lt (blk_lt (g := gb302) (o := .cells #[.bool false, .bool false, .bool false, .bool false] 29 (0, 0)) (by (with_reducible repeat (first | refine blk_drewN ?_ _ | refine blk_drew ?_ | refine blk_alloc ?_ _)); exact BK302.out)) : gb302 ≠ gb324)); have n6_ := Aside0.mk ((by rw [hg]; exact Nat.ne_of_gt (blk_lt (g := gb302) (o := .cells #[.bool false, .bool false, .bool false, .bool false] 29 (0, 0)) (by (with_reducible repeat (first | refine blk_drewN ?_ _ | refine blk_drew ?_ | refine blk_alloc ?_ _)); exact BK302.out)) : gb324 ≠ gb302)); clear BK302; clear HB; have BK302 := n0_; have HB := n1_; have BK324 := n2_; have GW324 := n3_; have GE324 := n4_; have NB302_324 := n5_; have NB324_302 := n6_; clear n0_ n1_ n2_ n3_ n4_ n5_ n6_; clear hb hbox hg; have hnb44 := NB324_302.out; have hnc44 := NB302_324.out; have hcz45_0 : w43.cell? ⟨gb324, 0, none⟩ = some (.bool false) := (blk_cell BK324.out 0).trans rfl; have hcz45_1 : w43.cell? ⟨gb324, 1, none⟩ = some (.bool false) := (blk_cell BK324.out 1).trans rfl; have hcz45_2 : w43.cell? ⟨gb324, 2, none⟩ = some (.bool false) := (blk_cell BK324.out 2).trans rfl; have hcz45_3 : w43.cell? ⟨gb324, 3, none⟩ = some (.bool false) := (blk_cell BK324.out 3).trans rfl; have hfz45_0 := blk_frozen BK324.out 0; have hfz45_1 := blk_frozen BK324.out 1; have hfz45_2 := blk_frozen BK324.out 2; have hfz45_3 := blk_frozen BK324.out 3))
        have n0_ : Aside0 (((((w43.setCell ⟨gb324, 0, none⟩ (.bool t320)).setCell ⟨gb324, 1, none⟩ (.bool t321)).setCell ⟨gb324, 2, none⟩ (.bool t322)).setCell ⟨gb324, 3, none⟩ (.bool t323)).heap[gb302]? = some (.cells #[.bool false, .bool false, .bool false, .bool false] 29 (0, 0))) := ⟨by (with_reducible repeat (first | refine blk_drewN ?_ _ | refine blk_drew ?_ | refine blk_alloc ?_ _)); refine blk_far ?_ NB302_324.out _; (with_reducible repeat (first | refine blk_drewN ?_ _ | refine blk_drew ?_ | refine blk_alloc ?_ _)); refine blk_far ?_ NB302_324.out _; (with_reducible repeat (first | refine blk_drewN ?_ _ | refine blk_drew ?_ | refine blk_alloc ?_ _)); refine blk_far ?_ NB302_324.out _; (with_reducible repeat (first | refine blk_drewN ?_ _ | refine blk_drew ?_ | refine blk_alloc ?_ _)); refine blk_far ?_ NB302_324.out _; (with_reducible repeat (first | refine blk_drewN ?_ _ | refine blk_drew ?_ | refine blk_alloc ?_ _)); exact BK302.out⟩
        have n1_ : Aside0 (((((w43.setCell ⟨gb324, 0, none⟩ (.bool t320)).setCell ⟨gb324, 1, none⟩ (.bool t321)).setCell ⟨gb324, 2, none⟩ (.bool t322)).setCell ⟨gb324, 3, none⟩ (.bool t323)).heap[gb324]? = some (.cells #[.bool t320, .bool t321, .bool t322, .bool t323] 29 (0, 0))) := ⟨by (with_reducible repeat (first | refine blk_drewN ?_ _ | refine blk_drew ?_ | refine blk_alloc ?_ _)); refine blk_put (cs := #[.bool t320, .bool t321, .bool t322, .bool false]) ?_ 3 _ rfl; (with_reducible repeat (first | refine blk_drewN ?_ _ | refine blk_drew ?_ | refine blk_alloc ?_ _)); refine blk_put (cs := #[.bool t320, .bool t321, .bool false, .bool false]) ?_ 2 _ rfl; (with_reducible repeat (first | refine blk_drewN ?_ _ | refine blk_drew ?_ | refine blk_alloc ?_ _)); refine blk_put (cs := #[.bool t320, .bool false, .bool false, .bool false]) ?_ 1 _ rfl; (with_reducible repeat (first | refine blk_drewN ?_ _ | refine blk_drew ?_ | refine blk_alloc ?_ _)); refine blk_put (cs := #[.bool false, .bool false, .bool false, .bool false]) ?_ 0 _ rfl; (with_reducible repeat (first | refine blk_drewN ?_ _ | refine blk_drew ?_ | refine blk_alloc ?_ _)); exact BK324.out⟩
        have n2_ : Aside0 (Below w.heap.size w ((((w43.setCell ⟨gb324, 0, none⟩ (.bool t320)).setCell ⟨gb324, 1, none⟩ (.bool t321)).setCell ⟨gb324, 2, none⟩ (.bool t322)).setCell ⟨gb324, 3, none⟩ (.bool t323))) := ⟨by repeat (first | (with_reducible first | exact HB.out | apply below_alloc | apply pw_below_drewN | apply below_drew1 | refine below_set ?_ GE302.out | refine below_set ?_ GE324.out) | exact HB.out)⟩
        (try clear BK302)
        (try clear BK324)
        (try clear HB)
        (repeat rw [own_setCell_drewN]); (repeat rw [World.drewN_drewN])
        generalize ((((w43.setCell ⟨gb324, 0, none⟩ (.bool t320)).setCell ⟨gb324, 1, none⟩ (.bool t321)).setCell ⟨gb324, 2, none⟩ (.bool t322)).setCell ⟨gb324, 3, none⟩ (.bool t323)) = w46 at n0_ n1_ n2_ ⊢
        have BK302 := n0_
        have BK324 := n1_
        have HB := n2_
        clear n0_ n1_ n2_
        have n0_ := Aside0.mk (blk_drew BK302.out)
        have n1_ := Aside0.mk (blk_drew BK324.out)
        have n2_ := Aside0.mk (below_drew1 HB.out)
        clear BK302
        clear BK324
        clear HB
        have BK302 := n0_
        have BK324 := n1_
        have HB := n2_
        clear n0_ n1_ n2_
        refine start_ (n := 5) (S := fun w' => w'.cell? ⟨gb324, 0, none⟩ = some (.bool t320) ∧ w'.cell? ⟨gb324, 1, none⟩ = some (.bool t321) ∧ w'.cell? ⟨gb324, 2, none⟩ = some (.bool t322) ∧ w'.cell? ⟨gb324, 3, none⟩ = some (.bool t323)) (ds := []) #[false, false, false, false, false] (by kernel_rfl) rfl rfl ⟨(blk_cell BK324.out 0).trans rfl, (blk_cell BK324.out 1).trans rfl, (blk_cell BK324.out 2).trans rfl, (blk_cell BK324.out 3).trans rfl⟩ (fun hHeld => ?_)
        generalize w46.drew = w47 at BK302 BK324 HB hHeld ⊢
        refine pure_ (i := 0) (N := some 87) (v := ?_) (a' := ?_) #[true, false, false, false, false] rfl rfl (by kernel_rfl) (fun _ _ _ h => h) (Or.inl ⟨by rfl, ?_⟩) ?_ ?_
        rotate_left
        · intro w'
          go_simp
          with_reducible rfl
        rotate_left
        · simp only [Act.put, List.setIfInBounds_toArray, List.set_cons_zero, List.set_cons_succ, i64_w, i32_w]
          rfl
        refine pure_ (i := 2) (N := some 10) (v := ?_) (a' := ?_) #[true, false, true, false, false] rfl rfl (by kernel_rfl) (fun _ _ _ h => h) (Or.inl ⟨by rfl, ?_⟩) ?_ ?_
        rotate_left
        · intro w'
          go_simp
          with_reducible rfl
        rotate_left
        · simp only [Act.put, List.setIfInBounds_toArray, List.set_cons_zero, List.set_cons_succ, i64_w, i32_w]
          rfl
        refine take_ (i := 1) (N := some 88) (v := ?_) (a' := ?_) #[true, true, true, false, false] rfl rfl (by kernel_rfl) (fun _ _ _ h => h) (Or.inl ⟨by rfl, ?_⟩) hHeld ?_ ?_
        rotate_left
        · rintro w' ⟨s0, s1, s2, s3⟩
          go_simp
          with_reducible rfl
        rotate_left
        · simp only [Act.put, List.setIfInBounds_toArray, List.set_cons_zero, List.set_cons_succ, i64_w, i32_w]
          rfl
        refine one_ (i := 3) (N := none) #[true, true, true, true, false] rfl rfl (by kernel_rfl) (by decide) (fun K hK => ?_)
        have hs48 : w47.cell? ⟨gb302, 0, none⟩ = some (.bool false) := (blk_cell BK302.out 0).trans rfl
        have hfs48 := blk_frozen BK302.out 0
        have hns48_1 := NB324_302.out
        have hms48_1 := NB302_324.out
        have hs49 : w47.cell? ⟨gb302, 1, none⟩ = some (.bool false) := (blk_cell BK302.out 1).trans rfl
        have hfs49 := blk_frozen BK302.out 1
        have hns49_1 := NB324_302.out
        have hms49_1 := NB302_324.out
        have hs50 : w47.cell? ⟨gb302, 2, none⟩ = some (.bool false) := (blk_cell BK302.out 2).trans rfl
        have hfs50 := blk_frozen BK302.out 2
        have hns50_1 := NB324_302.out
        have hms50_1 := NB302_324.out
        have hs51 : w47.cell? ⟨gb302, 3, none⟩ = some (.bool false) := (blk_cell BK302.out 3).trans rfl
        have hfs51 := blk_frozen BK302.out 3
        have hns51_1 := NB324_302.out
        have hms51_1 := NB302_324.out
        refine skip_ (w1 := ?_) (by rfl) rfl ?_ ?_
        rotate_left
        · go_simp
          rfl
        refine hK.out _ _ ⟨((cell_far (p := ⟨gb302, _, none⟩) NB324_302.out _).trans (((cell_far (p := ⟨gb302, _, none⟩) NB324_302.out _).trans (((cell_far (p := ⟨gb302, _, none⟩) NB324_302.out _).trans (((cell_far (p := ⟨gb302, _, none⟩) NB324_302.out _).trans (hHeld.1)))))))), ((cell_far (p := ⟨gb302, _, none⟩) NB324_302.out _).trans (((cell_far (p := ⟨gb302, _, none⟩) NB324_302.out _).trans (((cell_far (p := ⟨gb302, _, none⟩) NB324_302.out _).trans (((cell_far (p := ⟨gb302, _, none⟩) NB324_302.out _).trans (hHeld.2.1)))))))), ((cell_far (p := ⟨gb302, _, none⟩) NB324_302.out _).trans (((cell_far (p := ⟨gb302, _, none⟩) NB324_302.out _).trans (((cell_far (p := ⟨gb302, _, none⟩) NB324_302.out _).trans (((cell_far (p := ⟨gb302, _, none⟩) NB324_302.out _).trans (hHeld.2.2.1)))))))), ((cell_far (p := ⟨gb302, _, none⟩) NB324_302.out _).trans (((cell_far (p := ⟨gb302, _, none⟩) NB324_302.out _).trans (((cell_far (p := ⟨gb302, _, none⟩) NB324_302.out _).trans (((cell_far (p := ⟨gb302, _, none⟩) NB324_302.out _).trans (hHeld.2.2.2))))))))⟩ (fun hHeld => ?_)
        clear hK K
        refine pure_ (i := 4) (N := some 12) (v := ?_) (a' := ?_) #[true, true, true, true, true] rfl rfl (by kernel_rfl) (fun _ _ _ h => h) (Or.inl ⟨by rfl, ?_⟩) ?_ ?_
        rotate_left
        · intro w'
          go_simp
          with_reducible rfl
        rotate_left
        · simp only [Act.put, List.setIfInBounds_toArray, List.set_cons_zero, List.set_cons_succ, i64_w, i32_w]
          rfl
        refine done_ (by kernel_rfl) ?_
        try go_wp2
        refine bodyPost_ret (results_list (rs := [.tmp 10, .cell 11 29, .tmp 12]) rfl (by simp) (.tmp (.cell gb302 29 #[.bool t320, .bool t321, .bool t322, .bool t323] (0, 0) _ rfl (by (with_reducible repeat (first | refine blk_drewN ?_ _ | refine blk_drew ?_ | refine blk_alloc ?_ _)); refine blk_put (cs := #[.bool t320, .bool t321, .bool t322, .bool false]) ?_ 3 _ rfl; (with_reducible repeat (first | refine blk_drewN ?_ _ | refine blk_drew ?_ | refine blk_alloc ?_ _)); refine blk_put (cs := #[.bool t320, .bool t321, .bool false, .bool false]) ?_ 2 _ rfl; (with_reducible repeat (first | refine blk_drewN ?_ _ | refine blk_drew ?_ | refine blk_alloc ?_ _)); refine blk_put (cs := #[.bool t320, .bool false, .bool false, .bool false]) ?_ 1 _ rfl; (with_reducible repeat (first | refine blk_drewN ?_ _ | refine blk_drew ?_ | refine blk_alloc ?_ _)); refine blk_put (cs := #[.bool false, .bool false, .bool false, .bool false]) ?_ 0 _ rfl; (with_reducible repeat (first | refine blk_drewN ?_ _ | refine blk_drew ?_ | refine blk_alloc ?_ _)); exact BK302.out) Try.underlying29 rfl (by kernel_rfl) (.tmp .nil)))) rfl ?_
        exact ⟨by first | rfl | (simp [errW_none, errW_some] <;> rfl) | (simp [*, errW_none, errW_some] <;> rfl), by repeat (first | (with_reducible first | exact HB.out | apply below_alloc | apply pw_below_drewN | apply below_drew1 | refine below_set ?_ GE302.out | refine below_set ?_ GE324.out) | exact HB.out)⟩
      · rw [if_neg c39] at H
        have c39b0 : (a0 == 4) = false := beq_eq_false_iff_ne.mpr c39
        have c39b1 : (a0 != 4) = true := bne_iff_ne.mpr c39
        by_cases c52 : a0 = 5
        · rw [if_pos c52] at H
          have c52b0 : (a0 == 5) = true := beq_iff_eq.mpr c52
          have c52b1 : (a0 != 5) = false := bne_eq_false_iff_eq.mpr c52
          clear c52
          replace H := Option.bind_eq_some_iff.mp H
          obtain ⟨⟨t325, t326, t327, t328, t329⟩, A530, H⟩ := H
          replace H : (some (t325, t326, t327, t328, t329, true)) = some (r1, r2, r3, r4, r5, r6) := H
          have A53 := Aside0.mk A530
          clear A530
          simp only [Option.some.injEq, Prod.mk.injEq] at H
          obtain ⟨rfl, rfl, rfl, rfl, rfl, rfl⟩ := H
          go_enter Try.func42, Try.ntmps42
          try go_wp2_with (first | ((with_reducible refine gate_dst (N := 11) rfl ?_); refine box_event ?hg (N := 11) ?hd (cs := #[.bool false, .bool false, .bool false, .bool false]) (t := 29) ?hr ?_; (case hd => rfl); (case hg => rfl); (case hr => first | (go_simp; done) | (go_simp; rfl)); intro gb302 hg w54 hbox hb; have n0_ := Aside0.mk (below_step (by repeat (first | (with_reducible first | exact HB.out | apply below_alloc | apply pw_below_drewN | apply below_drew1) | exact HB.out)) hb); have n1_ := Aside0.mk (hbox); have n2_ := Aside0.mk ((by rw [hg]; exact (below_size (by repeat (first | (with_reducible first | exact HB.out | apply below_alloc | apply pw_below_drewN | apply below_drew1) | exact HB.out))) : w.heap.size ≤ gb302)); have n3_ := Aside0.mk ((by rw [hg]; exact (below_size (by repeat (first | (with_reducible first | exact HB.out | apply below_alloc | apply pw_below_drewN | apply below_drew1) | exact HB.out))) : w.heap.size ≤ gb302)); clear HB; have HB := n0_; have BK302 := n1_; have GW302 := n2_; have GE302 := n3_; clear n0_ n1_ n2_ n3_; clear hb hbox hg) | ((with_reducible refine gate_callee (f := 44) rfl ?_); refine goesL_ (some 35) rfl rfl Try.func44 (by kernel_rfl) rfl #[.int .i64 a0] rfl (by (try simp only [List.map_toArray, List.map_cons, List.map_nil]); first | done | rfl | (simp only [List.length_drop, List.length_take]; rfl)) ?_; (with_reducible refine (camshaftref08_Logic.calls a0 false _ A6.out).mono ?_); rintro e w' ⟨rfl, ⟨nd, rfl⟩⟩; refine ⟨_, rfl, ?_⟩; (try (rw [drewN_self w54]; generalize hq_ : World.drewN w54 _ = w54; have n0_ : Aside0 (w54.heap[gb302]? = some (.cells #[.bool false, .bool false, .bool false, .bool false] 29 (0, 0))) := ⟨by rw [← hq_]; exact (by (with_reducible repeat (first | refine blk_drewN ?_ _ | refine blk_drew ?_ | refine blk_alloc ?_ _)); exact BK302.out)⟩; have n1_ : Aside0 (Below w.heap.size w w54) := ⟨by rw [← hq_]; exact (by repeat (first | (with_reducible first | exact HB.out | apply below_alloc | apply pw_below_drewN | apply below_drew1 | refine below_set ?_ GE302.out) | exact HB.out))⟩; clear BK302 HB hq_; have BK302 := n0_; have HB := n1_; clear n0_ n1_))) | ((with_reducible refine gate_callee (f := 45) rfl ?_); refine goesL_ (some 66) rfl rfl Try.func45 (by kernel_rfl) rfl #[.int .u32 a1, .int .i64 a4] rfl (by (try simp only [List.map_toArray, List.map_cons, List.map_nil]); first | done | rfl | (simp only [List.length_drop, List.length_take]; rfl)) ?_; (with_reducible refine (camshaftref01_Rest.calls a1 a4 t312 _ A25.out).mono ?_); rintro e w' ⟨rfl, ⟨nd, rfl⟩⟩; refine ⟨_, rfl, ?_⟩; (try (rw [drewN_self w54]; generalize hq_ : World.drewN w54 _ = w54; have n0_ : Aside0 (w54.heap[gb302]? = some (.cells #[.bool false, .bool false, .bool false, .bool false] 29 (0, 0))) := ⟨by rw [← hq_]; exact (by (with_reducible repeat (first | refine blk_drewN ?_ _ | refine blk_drew ?_ | refine blk_alloc ?_ _)); exact BK302.out)⟩; have n1_ : Aside0 (Below w.heap.size w w54) := ⟨by rw [← hq_]; exact (by repeat (first | (with_reducible first | exact HB.out | apply below_alloc | apply pw_below_drewN | apply below_drew1 | refine below_set ?_ GE302.out) | exact HB.out))⟩; clear BK302 HB hq_; have BK302 := n0_; have HB := n1_; clear n0_ n1_))) | ((with_reducible refine gate_callee (f := 24) rfl ?_); refine goesL_ (some 94) rfl rfl Try.func24 (by kernel_rfl) rfl #[.int .u32 a1, .int .u32 1, .bool false, .int .i64 a4] rfl (by (try simp only [List.map_toArray, List.map_cons, List.map_nil]); first | done | rfl | (simp only [List.length_drop, List.length_take]; rfl)) ?_; (with_reducible refine (camshaftref01_Sub.calls a1 1 false a4 t325 t326 t327 t328 t329 _ A53.out).mono ?_); rintro e w55 ⟨rfl, hb⟩; refine ⟨_, rfl, ?_⟩; have n0_ := Aside0.mk (blk_below (g := gb302) (o := .cells #[.bool false, .bool false, .bool false, .bool false] 29 (0, 0)) (by (with_reducible repeat (first | refine blk_drewN ?_ _ | refine blk_drew ?_ | refine blk_alloc ?_ _)); exact BK302.out) hb); have n1_ := Aside0.mk (below_step (by repeat (first | (with_reducible first | exact HB.out | apply below_alloc | apply pw_below_drewN | apply below_drew1 | refine below_set ?_ GE302.out) | exact HB.out)) hb); clear BK302; clear HB; have BK302 := n0_; have HB := n1_; clear n0_ n1_; (try clear hb); (try clear hb2); (try clear hk); (try clear hi)) | ((with_reducible refine gate_dst (N := 23) rfl ?_); refine box_event ?hg (N := 23) ?hd (cs := #[.bool false, .bool false, .bool false, .bool false]) (t := 29) ?hr ?_; (case hd => rfl); (case hg => rfl); (case hr => first | (go_simp; done) | (go_simp; rfl)); intro gb330 hg w56 hbox hb; have n0_ := Aside0.mk (blk_below (g := gb302) (o := .cells #[.bool false, .bool false, .bool false, .bool false] 29 (0, 0)) (by (with_reducible repeat (first | refine blk_drewN ?_ _ | refine blk_drew ?_ | refine blk_alloc ?_ _)); exact BK302.out) hb); have n1_ := Aside0.mk (below_step (by repeat (first | (with_reducible first | exact HB.out | apply below_alloc | apply pw_below_drewN | apply below_drew1 | refine below_set ?_ GE302.out) | exact HB.out)) hb); have n2_ := Aside0.mk (hbox); have n3_ := Aside0.mk ((by rw [hg]; exact (below_size (by repeat (first | (with_reducible first | exact HB.out | apply below_alloc | apply pw_below_drewN | apply below_drew1 | refine below_set ?_ GE302.out) | exact HB.out))) : w.heap.size ≤ gb330)); have n4_ := Aside0.mk ((by rw [hg]; exact (below_size (by repeat (first | (with_reducible first | exact HB.out | apply below_alloc | apply pw_below_drewN | apply below_drew1 | refine below_set ?_ GE302.out) | exact HB.out))) : w.heap.size ≤ gb330)); have n5_ := Aside0.mk ((by rw [hg]; exact Nat.ne_of_lt (blk_lt (g := gb302) (o := .cells #[.bool false, .bool false, .bool false, .bool false] 29 (0, 0)) (by (with_reducible repeat (first | refine blk_drewN ?_ _ | refine blk_drew ?_ | refine blk_alloc ?_ _)); exact BK302.out)) : gb302 ≠ gb330)); have n6_ := Aside0.mk ((by rw [hg]; exact Nat.ne_of_gt (blk_lt (g := gb302) (o := .cells #[.bool false, .bool false, .bool false, .bool false] 29 (0, 0)) (by (with_reducible repeat (first | refine blk_drewN ?_ _ | refine blk_drew ?_ | refine blk_alloc ?_ _)); exact BK302.out)) : gb330 ≠ gb302)); clear BK302; clear HB; have BK302 := n0_; have HB := n1_; have BK330 := n2_; have GW330 := n3_; have GE330 := n4_; have NB302_330 := n5_; have NB330_302 := n6_; clear n0_ n1_ n2_ n3_ n4_ n5_ n6_; clear hb hbox hg; have hnb57 := NB330_302.out; have hnc57 := NB302_330.out; have hcz58_0 : w56.cell? ⟨gb330, 0, none⟩ = some (.bool false) := (blk_cell BK330.out 0).trans rfl; have hcz58_1 : w56.cell? ⟨gb330, 1, none⟩ = some (.bool false) := (blk_cell BK330.out 1).trans rfl; have hcz58_2 : w56.cell? ⟨gb330, 2, none⟩ = some (.bool false) := (blk_cell BK330.out 2).trans rfl; have hcz58_3 : w56.cell? ⟨gb330, 3, none⟩ = some (.bool false) := (blk_cell BK330.out 3).trans rfl; have hfz58_0 := blk_frozen BK330.out 0; have hfz58_1 := blk_frozen BK330.out 1; have hfz58_2 := blk_frozen BK330.out 2; have hfz58_3 := blk_frozen BK330.out 3))
          have n0_ : Aside0 (((((w56.setCell ⟨gb330, 0, none⟩ (.bool t326)).setCell ⟨gb330, 1, none⟩ (.bool t327)).setCell ⟨gb330, 2, none⟩ (.bool t328)).setCell ⟨gb330, 3, none⟩ (.bool t329)).heap[gb302]? = some (.cells #[.bool false, .bool false, .bool false, .bool false] 29 (0, 0))) := ⟨by (with_reducible repeat (first | refine blk_drewN ?_ _ | refine blk_drew ?_ | refine blk_alloc ?_ _)); refine blk_far ?_ NB302_330.out _; (with_reducible repeat (first | refine blk_drewN ?_ _ | refine blk_drew ?_ | refine blk_alloc ?_ _)); refine blk_far ?_ NB302_330.out _; (with_reducible repeat (first | refine blk_drewN ?_ _ | refine blk_drew ?_ | refine blk_alloc ?_ _)); refine blk_far ?_ NB302_330.out _; (with_reducible repeat (first | refine blk_drewN ?_ _ | refine blk_drew ?_ | refine blk_alloc ?_ _)); refine blk_far ?_ NB302_330.out _; (with_reducible repeat (first | refine blk_drewN ?_ _ | refine blk_drew ?_ | refine blk_alloc ?_ _)); exact BK302.out⟩
          have n1_ : Aside0 (((((w56.setCell ⟨gb330, 0, none⟩ (.bool t326)).setCell ⟨gb330, 1, none⟩ (.bool t327)).setCell ⟨gb330, 2, none⟩ (.bool t328)).setCell ⟨gb330, 3, none⟩ (.bool t329)).heap[gb330]? = some (.cells #[.bool t326, .bool t327, .bool t328, .bool t329] 29 (0, 0))) := ⟨by (with_reducible repeat (first | refine blk_drewN ?_ _ | refine blk_drew ?_ | refine blk_alloc ?_ _)); refine blk_put (cs := #[.bool t326, .bool t327, .bool t328, .bool false]) ?_ 3 _ rfl; (with_reducible repeat (first | refine blk_drewN ?_ _ | refine blk_drew ?_ | refine blk_alloc ?_ _)); refine blk_put (cs := #[.bool t326, .bool t327, .bool false, .bool false]) ?_ 2 _ rfl; (with_reducible repeat (first | refine blk_drewN ?_ _ | refine blk_drew ?_ | refine blk_alloc ?_ _)); refine blk_put (cs := #[.bool t326, .bool false, .bool false, .bool false]) ?_ 1 _ rfl; (with_reducible repeat (first | refine blk_drewN ?_ _ | refine blk_drew ?_ | refine blk_alloc ?_ _)); refine blk_put (cs := #[.bool false, .bool false, .bool false, .bool false]) ?_ 0 _ rfl; (with_reducible repeat (first | refine blk_drewN ?_ _ | refine blk_drew ?_ | refine blk_alloc ?_ _)); exact BK330.out⟩
          have n2_ : Aside0 (Below w.heap.size w ((((w56.setCell ⟨gb330, 0, none⟩ (.bool t326)).setCell ⟨gb330, 1, none⟩ (.bool t327)).setCell ⟨gb330, 2, none⟩ (.bool t328)).setCell ⟨gb330, 3, none⟩ (.bool t329))) := ⟨by repeat (first | (with_reducible first | exact HB.out | apply below_alloc | apply pw_below_drewN | apply below_drew1 | refine below_set ?_ GE302.out | refine below_set ?_ GE330.out) | exact HB.out)⟩
          (try clear BK302)
          (try clear BK330)
          (try clear HB)
          (repeat rw [own_setCell_drewN]); (repeat rw [World.drewN_drewN])
          generalize ((((w56.setCell ⟨gb330, 0, none⟩ (.bool t326)).setCell ⟨gb330, 1, none⟩ (.bool t327)).setCell ⟨gb330, 2, none⟩ (.bool t328)).setCell ⟨gb330, 3, none⟩ (.bool t329)) = w59 at n0_ n1_ n2_ ⊢
          have BK302 := n0_
          have BK330 := n1_
          have HB := n2_
          clear n0_ n1_ n2_
          have n0_ := Aside0.mk (blk_drew BK302.out)
          have n1_ := Aside0.mk (blk_drew BK330.out)
          have n2_ := Aside0.mk (below_drew1 HB.out)
          clear BK302
          clear BK330
          clear HB
          have BK302 := n0_
          have BK330 := n1_
          have HB := n2_
          clear n0_ n1_ n2_
          refine start_ (n := 5) (S := fun w' => w'.cell? ⟨gb330, 0, none⟩ = some (.bool t326) ∧ w'.cell? ⟨gb330, 1, none⟩ = some (.bool t327) ∧ w'.cell? ⟨gb330, 2, none⟩ = some (.bool t328) ∧ w'.cell? ⟨gb330, 3, none⟩ = some (.bool t329)) (ds := []) #[false, false, false, false, false] (by kernel_rfl) rfl rfl ⟨(blk_cell BK330.out 0).trans rfl, (blk_cell BK330.out 1).trans rfl, (blk_cell BK330.out 2).trans rfl, (blk_cell BK330.out 3).trans rfl⟩ (fun hHeld => ?_)
          generalize w59.drew = w60 at BK302 BK330 HB hHeld ⊢
          refine pure_ (i := 0) (N := some 97) (v := ?_) (a' := ?_) #[true, false, false, false, false] rfl rfl (by kernel_rfl) (fun _ _ _ h => h) (Or.inl ⟨by rfl, ?_⟩) ?_ ?_
          rotate_left
          · intro w'
            go_simp
            with_reducible rfl
          rotate_left
          · simp only [Act.put, List.setIfInBounds_toArray, List.set_cons_zero, List.set_cons_succ, i64_w, i32_w]
            rfl
          refine pure_ (i := 2) (N := some 10) (v := ?_) (a' := ?_) #[true, false, true, false, false] rfl rfl (by kernel_rfl) (fun _ _ _ h => h) (Or.inl ⟨by rfl, ?_⟩) ?_ ?_
          rotate_left
          · intro w'
            go_simp
            with_reducible rfl
          rotate_left
          · simp only [Act.put, List.setIfInBounds_toArray, List.set_cons_zero, List.set_cons_succ, i64_w, i32_w]
            rfl
          refine take_ (i := 1) (N := some 98) (v := ?_) (a' := ?_) #[true, true, true, false, false] rfl rfl (by kernel_rfl) (fun _ _ _ h => h) (Or.inl ⟨by rfl, ?_⟩) hHeld ?_ ?_
          rotate_left
          · rintro w' ⟨s0, s1, s2, s3⟩
            go_simp
            with_reducible rfl
          rotate_left
          · simp only [Act.put, List.setIfInBounds_toArray, List.set_cons_zero, List.set_cons_succ, i64_w, i32_w]
            rfl
          refine one_ (i := 3) (N := none) #[true, true, true, true, false] rfl rfl (by kernel_rfl) (by decide) (fun K hK => ?_)
          have hs61 : w60.cell? ⟨gb302, 0, none⟩ = some (.bool false) := (blk_cell BK302.out 0).trans rfl
          have hfs61 := blk_frozen BK302.out 0
          have hns61_1 := NB330_302.out
          have hms61_1 := NB302_330.out
          have hs62 : w60.cell? ⟨gb302, 1, none⟩ = some (.bool false) := (blk_cell BK302.out 1).trans rfl
          have hfs62 := blk_frozen BK302.out 1
          have hns62_1 := NB330_302.out
          have hms62_1 := NB302_330.out
          have hs63 : w60.cell? ⟨gb302, 2, none⟩ = some (.bool false) := (blk_cell BK302.out 2).trans rfl
          have hfs63 := blk_frozen BK302.out 2
          have hns63_1 := NB330_302.out
          have hms63_1 := NB302_330.out
          have hs64 : w60.cell? ⟨gb302, 3, none⟩ = some (.bool false) := (blk_cell BK302.out 3).trans rfl
          have hfs64 := blk_frozen BK302.out 3
          have hns64_1 := NB330_302.out
          have hms64_1 := NB302_330.out
          refine skip_ (w1 := ?_) (by rfl) rfl ?_ ?_
          rotate_left
          · go_simp
            rfl
          refine hK.out _ _ ⟨((cell_far (p := ⟨gb302, _, none⟩) NB330_302.out _).trans (((cell_far (p := ⟨gb302, _, none⟩) NB330_302.out _).trans (((cell_far (p := ⟨gb302, _, none⟩) NB330_302.out _).trans (((cell_far (p := ⟨gb302, _, none⟩) NB330_302.out _).trans (hHeld.1)))))))), ((cell_far (p := ⟨gb302, _, none⟩) NB330_302.out _).trans (((cell_far (p := ⟨gb302, _, none⟩) NB330_302.out _).trans (((cell_far (p := ⟨gb302, _, none⟩) NB330_302.out _).trans (((cell_far (p := ⟨gb302, _, none⟩) NB330_302.out _).trans (hHeld.2.1)))))))), ((cell_far (p := ⟨gb302, _, none⟩) NB330_302.out _).trans (((cell_far (p := ⟨gb302, _, none⟩) NB330_302.out _).trans (((cell_far (p := ⟨gb302, _, none⟩) NB330_302.out _).trans (((cell_far (p := ⟨gb302, _, none⟩) NB330_302.out _).trans (hHeld.2.2.1)))))))), ((cell_far (p := ⟨gb302, _, none⟩) NB330_302.out _).trans (((cell_far (p := ⟨gb302, _, none⟩) NB330_302.out _).trans (((cell_far (p := ⟨gb302, _, none⟩) NB330_302.out _).trans (((cell_far (p := ⟨gb302, _, none⟩) NB330_302.out _).trans (hHeld.2.2.2))))))))⟩ (fun hHeld => ?_)
          clear hK K
          refine pure_ (i := 4) (N := some 12) (v := ?_) (a' := ?_) #[true, true, true, true, true] rfl rfl (by kernel_rfl) (fun _ _ _ h => h) (Or.inl ⟨by rfl, ?_⟩) ?_ ?_
          rotate_left
          · intro w'
            go_simp
            with_reducible rfl
          rotate_left
          · simp only [Act.put, List.setIfInBounds_toArray, List.set_cons_zero, List.set_cons_succ, i64_w, i32_w]
            rfl
          refine done_ (by kernel_rfl) ?_
          try go_wp2
          refine bodyPost_ret (results_list (rs := [.tmp 10, .cell 11 29, .tmp 12]) rfl (by simp) (.tmp (.cell gb302 29 #[.bool t326, .bool t327, .bool t328, .bool t329] (0, 0) _ rfl (by (with_reducible repeat (first | refine blk_drewN ?_ _ | refine blk_drew ?_ | refine blk_alloc ?_ _)); refine blk_put (cs := #[.bool t326, .bool t327, .bool t328, .bool false]) ?_ 3 _ rfl; (with_reducible repeat (first | refine blk_drewN ?_ _ | refine blk_drew ?_ | refine blk_alloc ?_ _)); refine blk_put (cs := #[.bool t326, .bool t327, .bool false, .bool false]) ?_ 2 _ rfl; (with_reducible repeat (first | refine blk_drewN ?_ _ | refine blk_drew ?_ | refine blk_alloc ?_ _)); refine blk_put (cs := #[.bool t326, .bool false, .bool false, .bool false]) ?_ 1 _ rfl; (with_reducible repeat (first | refine blk_drewN ?_ _ | refine blk_drew ?_ | refine blk_alloc ?_ _)); refine blk_put (cs := #[.bool false, .bool false, .bool false, .bool false]) ?_ 0 _ rfl; (with_reducible repeat (first | refine blk_drewN ?_ _ | refine blk_drew ?_ | refine blk_alloc ?_ _)); exact BK302.out) Try.underlying29 rfl (by kernel_rfl) (.tmp .nil)))) rfl ?_
          exact ⟨by first | rfl | (simp [errW_none, errW_some] <;> rfl) | (simp [*, errW_none, errW_some] <;> rfl), by repeat (first | (with_reducible first | exact HB.out | apply below_alloc | apply pw_below_drewN | apply below_drew1 | refine below_set ?_ GE302.out | refine below_set ?_ GE330.out) | exact HB.out)⟩
        · rw [if_neg c52] at H
          have c52b0 : (a0 == 5) = false := beq_eq_false_iff_ne.mpr c52
          have c52b1 : (a0 != 5) = true := bne_iff_ne.mpr c52
          by_cases c65 : a0 = 6
          · rw [if_pos c65] at H
            have c65b0 : (a0 == 6) = true := beq_iff_eq.mpr c65
            have c65b1 : (a0 != 6) = false := bne_eq_false_iff_eq.mpr c65
            clear c65
            replace H := Option.bind_eq_some_iff.mp H
            obtain ⟨⟨t331, t332, t333, t334, t335⟩, A660, H⟩ := H
            replace H : (some (t331, t332, t333, t334, t335, true)) = some (r1, r2, r3, r4, r5, r6) := H
            have A66 := Aside0.mk A660
            clear A660
            simp only [Option.some.injEq, Prod.mk.injEq] at H
            obtain ⟨rfl, rfl, rfl, rfl, rfl, rfl⟩ := H
            go_enter Try.func42, Try.ntmps42
            try go_wp2_with (first | ((with_reducible refine gate_dst (N := 11) rfl ?_); refine box_event ?hg (N := 11) ?hd (cs := #[.bool false, .bool false, .bool false, .bool false]) (t := 29) ?hr ?_; (case hd => rfl); (case hg => rfl); (case hr => first | (go_simp; done) | (go_simp; rfl)); intro gb302 hg w67 hbox hb; have n0_ := Aside0.mk (below_step (by repeat (first | (with_reducible first | exact HB.out | apply below_alloc | apply pw_below_drewN | apply below_drew1) | exact HB.out)) hb); have n1_ := Aside0.mk (hbox); have n2_ := Aside0.mk ((by rw [hg]; exact (below_size (by repeat (first | (with_reducible first | exact HB.out | apply below_alloc | apply pw_below_drewN | apply below_drew1) | exact HB.out))) : w.heap.size ≤ gb302)); have n3_ := Aside0.mk ((by rw [hg]; exact (below_size (by repeat (first | (with_reducible first | exact HB.out | apply below_alloc | apply pw_below_drewN | apply below_drew1) | exact HB.out))) : w.heap.size ≤ gb302)); clear HB; have HB := n0_; have BK302 := n1_; have GW302 := n2_; have GE302 := n3_; clear n0_ n1_ n2_ n3_; clear hb hbox hg) | ((with_reducible refine gate_callee (f := 44) rfl ?_); refine goesL_ (some 35) rfl rfl Try.func44 (by kernel_rfl) rfl #[.int .i64 a0] rfl (by (try simp only [List.map_toArray, List.map_cons, List.map_nil]); first | done | rfl | (simp only [List.length_drop, List.length_take]; rfl)) ?_; (with_reducible refine (camshaftref08_Logic.calls a0 false _ A6.out).mono ?_); rintro e w' ⟨rfl, ⟨nd, rfl⟩⟩; refine ⟨_, rfl, ?_⟩; (try (rw [drewN_self w67]; generalize hq_ : World.drewN w67 _ = w67; have n0_ : Aside0 (w67.heap[gb302]? = some (.cells #[.bool false, .bool false, .bool false, .bool false] 29 (0, 0))) := ⟨by rw [← hq_]; exact (by (with_reducible repeat (first | refine blk_drewN ?_ _ | refine blk_drew ?_ | refine blk_alloc ?_ _)); exact BK302.out)⟩; have n1_ : Aside0 (Below w.heap.size w w67) := ⟨by rw [← hq_]; exact (by repeat (first | (with_reducible first | exact HB.out | apply below_alloc | apply pw_below_drewN | apply below_drew1 | refine below_set ?_ GE302.out) | exact HB.out))⟩; clear BK302 HB hq_; have BK302 := n0_; have HB := n1_; clear n0_ n1_))) | ((with_reducible refine gate_callee (f := 45) rfl ?_); refine goesL_ (some 66) rfl rfl Try.func45 (by kernel_rfl) rfl #[.int .u32 a1, .int .i64 a4] rfl (by (try simp only [List.map_toArray, List.map_cons, List.map_nil]); first | done | rfl | (simp only [List.length_drop, List.length_take]; rfl)) ?_; (with_reducible refine (camshaftref01_Rest.calls a1 a4 t312 _ A25.out).mono ?_); rintro e w' ⟨rfl, ⟨nd, rfl⟩⟩; refine ⟨_, rfl, ?_⟩; (try (rw [drewN_self w67]; generalize hq_ : World.drewN w67 _ = w67; have n0_ : Aside0 (w67.heap[gb302]? = some (.cells #[.bool false, .bool false, .bool false, .bool false] 29 (0, 0))) := ⟨by rw [← hq_]; exact (by (with_reducible repeat (first | refine blk_drewN ?_ _ | refine blk_drew ?_ | refine blk_alloc ?_ _)); exact BK302.out)⟩; have n1_ : Aside0 (Below w.heap.size w w67) := ⟨by rw [← hq_]; exact (by repeat (first | (with_reducible first | exact HB.out | apply below_alloc | apply pw_below_drewN | apply below_drew1 | refine below_set ?_ GE302.out) | exact HB.out))⟩; clear BK302 HB hq_; have BK302 := n0_; have HB := n1_; clear n0_ n1_))) | ((with_reducible refine gate_callee (f := 22) rfl ?_); refine goesL_ (some 105) rfl rfl Try.func22 (by kernel_rfl) rfl #[.int .u32 a2, .int .u32 a1, .bool false, .int .i64 a4] rfl (by (try simp only [List.map_toArray, List.map_cons, List.map_nil]); first | done | rfl | (simp only [List.length_drop, List.length_take]; rfl)) ?_; (with_reducible refine (camshaftref01_Add.calls a2 a1 false a4 t331 t332 t333 t334 t335 _ A66.out).mono ?_); rintro e w68 ⟨rfl, hb⟩; refine ⟨_, rfl, ?_⟩; have n0_ := Aside0.mk (blk_below (g := gb302) (o := .cells #[.bool false, .bool false, .bool false, .bool false] 29 (0, 0)) (by (with_reducible repeat (first | refine blk_drewN ?_ _ | refine blk_drew ?_ | refine blk_alloc ?_ _)); exact BK302.out) hb); have n1_ := Aside0.mk (below_step (by repeat (first | (with_reducible first | exact HB.out | apply below_alloc | apply pw_below_drewN | apply below_drew1 | refine below_set ?_ GE302.out) | exact HB.out)) hb); clear BK302; clear HB; have BK302 := n0_; have HB := n1_; clear n0_ n1_; (try clear hb); (try clear hb2); (try clear hk); (try clear hi)) | ((with_reducible refine gate_dst (N := 25) rfl ?_); refine box_event ?hg (N := 25) ?hd (cs := #[.bool false, .bool false, .bool false, .bool false]) (t := 29) ?hr ?_; (case hd => rfl); (case hg => rfl); (case hr => first | (go_simp; done) | (go_simp; rfl)); intro gb336 hg w69 hbox hb; have n0_ := Aside0.mk (blk_below (g := gb302) (o := .cells #[.bool false, .bool false, .bool false, .bool false] 29 (0, 0)) (by (with_reducible repeat (first | refine blk_drewN ?_ _ | refine blk_drew ?_ | refine blk_alloc ?_ _)); exact BK302.out) hb); have n1_ := Aside0.mk (below_step (by repeat (first | (with_reducible first | exact HB.out | apply below_alloc | apply pw_below_drewN | apply below_drew1 | refine below_set ?_ GE302.out) | exact HB.out)) hb); have n2_ := Aside0.mk (hbox); have n3_ := Aside0.mk ((by rw [hg]; exact (below_size (by repeat (first | (with_reducible first | exact HB.out | apply below_alloc | apply pw_below_drewN | apply below_drew1 | refine below_set ?_ GE302.out) | exact HB.out))) : w.heap.size ≤ gb336)); have n4_ := Aside0.mk ((by rw [hg]; exact (below_size (by repeat (first | (with_reducible first | exact HB.out | apply below_alloc | apply pw_below_drewN | apply below_drew1 | refine below_set ?_ GE302.out) | exact HB.out))) : w.heap.size ≤ gb336)); have n5_ := Aside0.mk ((by rw [hg]; exact Nat.ne_of_lt (blk_lt (g := gb302) (o := .cells #[.bool false, .bool false, .bool false, .bool false] 29 (0, 0)) (by (with_reducible repeat (first | refine blk_drewN ?_ _ | refine blk_drew ?_ | refine blk_alloc ?_ _)); exact BK302.out)) : gb302 ≠ gb336)); have n6_ := Aside0.mk ((by rw [hg]; exact Nat.ne_of_gt (blk_lt (g := gb302) (o := .cells #[.bool false, .bool false, .bool false, .bool false] 29 (0, 0)) (by (with_reducible repeat (first | refine blk_drewN ?_ _ | refine blk_drew ?_ | refine blk_alloc ?_ _)); exact BK302.out)) : gb336 ≠ gb302)); clear BK302; clear HB; have BK302 := n0_; have HB := n1_; have BK336 := n2_; have GW336 := n3_; have GE336 := n4_; have NB302_336 := n5_; have NB336_302 := n6_; clear n0_ n1_ n2_ n3_ n4_ n5_ n6_; clear hb hbox hg; have hnb70 := NB336_302.out; have hnc70 := NB302_336.out; have hcz71_0 : w69.cell? ⟨gb336, 0, none⟩ = some (.bool false) := (blk_cell BK336.out 0).trans rfl; have hcz71_1 : w69.cell? ⟨gb336, 1, none⟩ = some (.bool false) := (blk_cell BK336.out 1).trans rfl; have hcz71_2 : w69.cell? ⟨gb336, 2, none⟩ = some (.bool false) := (blk_cell BK336.out 2).trans rfl; have hcz71_3 : w69.cell? ⟨gb336, 3, none⟩ = some (.bool false) := (blk_cell BK336.out 3).trans rfl; have hfz71_0 := blk_frozen BK336.out 0; have hfz71_1 := blk_frozen BK336.out 1; have hfz71_2 := blk_frozen BK336.out 2; have hfz71_3 := blk_frozen BK336.out 3))
            have n0_ : Aside0 (((((w69.setCell ⟨gb336, 0, none⟩ (.bool t332)).setCell ⟨gb336, 1, none⟩ (.bool t333)).setCell ⟨gb336, 2, none⟩ (.bool t334)).setCell ⟨gb336, 3, none⟩ (.bool t335)).heap[gb302]? = some (.cells #[.bool false, .bool false, .bool false, .bool false] 29 (0, 0))) := ⟨by (with_reducible repeat (first | refine blk_drewN ?_ _ | refine blk_drew ?_ | refine blk_alloc ?_ _)); refine blk_far ?_ NB302_336.out _; (with_reducible repeat (first | refine blk_drewN ?_ _ | refine blk_drew ?_ | refine blk_alloc ?_ _)); refine blk_far ?_ NB302_336.out _; (with_reducible repeat (first | refine blk_drewN ?_ _ | refine blk_drew ?_ | refine blk_alloc ?_ _)); refine blk_far ?_ NB302_336.out _; (with_reducible repeat (first | refine blk_drewN ?_ _ | refine blk_drew ?_ | refine blk_alloc ?_ _)); refine blk_far ?_ NB302_336.out _; (with_reducible repeat (first | refine blk_drewN ?_ _ | refine blk_drew ?_ | refine blk_alloc ?_ _)); exact BK302.out⟩
            have n1_ : Aside0 (((((w69.setCell ⟨gb336, 0, none⟩ (.bool t332)).setCell ⟨gb336, 1, none⟩ (.bool t333)).setCell ⟨gb336, 2, none⟩ (.bool t334)).setCell ⟨gb336, 3, none⟩ (.bool t335)).heap[gb336]? = some (.cells #[.bool t332, .bool t333, .bool t334, .bool t335] 29 (0, 0))) := ⟨by (with_reducible repeat (first | refine blk_drewN ?_ _ | refine blk_drew ?_ | refine blk_alloc ?_ _)); refine blk_put (cs := #[.bool t332, .bool t333, .bool t334, .bool false]) ?_ 3 _ rfl; (with_reducible repeat (first | refine blk_drewN ?_ _ | refine blk_drew ?_ | refine blk_alloc ?_ _)); refine blk_put (cs := #[.bool t332, .bool t333, .bool false, .bool false]) ?_ 2 _ rfl; (with_reducible repeat (first | refine blk_drewN ?_ _ | refine blk_drew ?_ | refine blk_alloc ?_ _)); refine blk_put (cs := #[.bool t332, .bool false, .bool false, .bool false]) ?_ 1 _ rfl; (with_reducible repeat (first | refine blk_drewN ?_ _ | refine blk_drew ?_ | refine blk_alloc ?_ _)); refine blk_put (cs := #[.bool false, .bool false, .bool false, .bool false]) ?_ 0 _ rfl; (with_reducible repeat (first | refine blk_drewN ?_ _ | refine blk_drew ?_ | refine blk_alloc ?_ _)); exact BK336.out⟩
            have n2_ : Aside0 (Below w.heap.size w ((((w69.setCell ⟨gb336, 0, none⟩ (.bool t332)).setCell ⟨gb336, 1, none⟩ (.bool t333)).setCell ⟨gb336, 2, none⟩ (.bool t334)).setCell ⟨gb336, 3, none⟩ (.bool t335))) := ⟨by repeat (first | (with_reducible first | exact HB.out | apply below_alloc | apply pw_below_drewN | apply below_drew1 | refine below_set ?_ GE302.out | refine below_set ?_ GE336.out) | exact HB.out)⟩
            (try clear BK302)
            (try clear BK336)
            (try clear HB)
            (repeat rw [own_setCell_drewN]); (repeat rw [World.drewN_drewN])
            generalize ((((w69.setCell ⟨gb336, 0, none⟩ (.bool t332)).setCell ⟨gb336, 1, none⟩ (.bool t333)).setCell ⟨gb336, 2, none⟩ (.bool t334)).setCell ⟨gb336, 3, none⟩ (.bool t335)) = w72 at n0_ n1_ n2_ ⊢
            have BK302 := n0_
            have BK336 := n1_
            have HB := n2_
            clear n0_ n1_ n2_
            have n0_ := Aside0.mk (blk_drew BK302.out)
            have n1_ := Aside0.mk (blk_drew BK336.out)
            have n2_ := Aside0.mk (below_drew1 HB.out)
            clear BK302
            clear BK336
            clear HB
            have BK302 := n0_
            have BK336 := n1_
            have HB := n2_
            clear n0_ n1_ n2_
            refine start_ (n := 5) (S := fun w' => w'.cell? ⟨gb336, 0, none⟩ = some (.bool t332) ∧ w'.cell? ⟨gb336, 1, none⟩ = some (.bool t333) ∧ w'.cell? ⟨gb336, 2, none⟩ = some (.bool t334) ∧ w'.cell? ⟨gb336, 3, none⟩ = some (.bool t335)) (ds := []) #[false, false, false, false, false] (by kernel_rfl) rfl rfl ⟨(blk_cell BK336.out 0).trans rfl, (blk_cell BK336.out 1).trans rfl, (blk_cell BK336.out 2).trans rfl, (blk_cell BK336.out 3).trans rfl⟩ (fun hHeld => ?_)
            generalize w72.drew = w73 at BK302 BK336 HB hHeld ⊢
            refine pure_ (i := 0) (N := some 108) (v := ?_) (a' := ?_) #[true, false, false, false, false] rfl rfl (by kernel_rfl) (fun _ _ _ h => h) (Or.inl ⟨by rfl, ?_⟩) ?_ ?_
            rotate_left
            · intro w'
              go_simp
              with_reducible rfl
            rotate_left
            · simp only [Act.put, List.setIfInBounds_toArray, List.set_cons_zero, List.set_cons_succ, i64_w, i32_w]
              rfl
            refine pure_ (i := 2) (N := some 10) (v := ?_) (a' := ?_) #[true, false, true, false, false] rfl rfl (by kernel_rfl) (fun _ _ _ h => h) (Or.inl ⟨by rfl, ?_⟩) ?_ ?_
            rotate_left
            · intro w'
              go_simp
              with_reducible rfl
            rotate_left
            · simp only [Act.put, List.setIfInBounds_toArray, List.set_cons_zero, List.set_cons_succ, i64_w, i32_w]
              rfl
            refine take_ (i := 1) (N := some 109) (v := ?_) (a' := ?_) #[true, true, true, false, false] rfl rfl (by kernel_rfl) (fun _ _ _ h => h) (Or.inl ⟨by rfl, ?_⟩) hHeld ?_ ?_
            rotate_left
            · rintro w' ⟨s0, s1, s2, s3⟩
              go_simp
              with_reducible rfl
            rotate_left
            · simp only [Act.put, List.setIfInBounds_toArray, List.set_cons_zero, List.set_cons_succ, i64_w, i32_w]
              rfl
            refine one_ (i := 3) (N := none) #[true, true, true, true, false] rfl rfl (by kernel_rfl) (by decide) (fun K hK => ?_)
            have hs74 : w73.cell? ⟨gb302, 0, none⟩ = some (.bool false) := (blk_cell BK302.out 0).trans rfl
            have hfs74 := blk_frozen BK302.out 0
            have hns74_1 := NB336_302.out
            have hms74_1 := NB302_336.out
            have hs75 : w73.cell? ⟨gb302, 1, none⟩ = some (.bool false) := (blk_cell BK302.out 1).trans rfl
            have hfs75 := blk_frozen BK302.out 1
            have hns75_1 := NB336_302.out
            have hms75_1 := NB302_336.out
            have hs76 : w73.cell? ⟨gb302, 2, none⟩ = some (.bool false) := (blk_cell BK302.out 2).trans rfl
            have hfs76 := blk_frozen BK302.out 2
            have hns76_1 := NB336_302.out
            have hms76_1 := NB302_336.out
            have hs77 : w73.cell? ⟨gb302, 3, none⟩ = some (.bool false) := (blk_cell BK302.out 3).trans rfl
            have hfs77 := blk_frozen BK302.out 3
            have hns77_1 := NB336_302.out
            have hms77_1 := NB302_336.out
            refine skip_ (w1 := ?_) (by rfl) rfl ?_ ?_
            rotate_left
            · go_simp
              rfl
            refine hK.out _ _ ⟨((cell_far (p := ⟨gb302, _, none⟩) NB336_302.out _).trans (((cell_far (p := ⟨gb302, _, none⟩) NB336_302.out _).trans (((cell_far (p := ⟨gb302, _, none⟩) NB336_302.out _).trans (((cell_far (p := ⟨gb302, _, none⟩) NB336_302.out _).trans (hHeld.1)))))))), ((cell_far (p := ⟨gb302, _, none⟩) NB336_302.out _).trans (((cell_far (p := ⟨gb302, _, none⟩) NB336_302.out _).trans (((cell_far (p := ⟨gb302, _, none⟩) NB336_302.out _).trans (((cell_far (p := ⟨gb302, _, none⟩) NB336_302.out _).trans (hHeld.2.1)))))))), ((cell_far (p := ⟨gb302, _, none⟩) NB336_302.out _).trans (((cell_far (p := ⟨gb302, _, none⟩) NB336_302.out _).trans (((cell_far (p := ⟨gb302, _, none⟩) NB336_302.out _).trans (((cell_far (p := ⟨gb302, _, none⟩) NB336_302.out _).trans (hHeld.2.2.1)))))))), ((cell_far (p := ⟨gb302, _, none⟩) NB336_302.out _).trans (((cell_far (p := ⟨gb302, _, none⟩) NB336_302.out _).trans (((cell_far (p := ⟨gb302, _, none⟩) NB336_302.out _).trans (((cell_far (p := ⟨gb302, _, none⟩) NB336_302.out _).trans (hHeld.2.2.2))))))))⟩ (fun hHeld => ?_)
            clear hK K
            refine pure_ (i := 4) (N := some 12) (v := ?_) (a' := ?_) #[true, true, true, true, true] rfl rfl (by kernel_rfl) (fun _ _ _ h => h) (Or.inl ⟨by rfl, ?_⟩) ?_ ?_
            rotate_left
            · intro w'
              go_simp
              with_reducible rfl
            rotate_left
            · simp only [Act.put, List.setIfInBounds_toArray, List.set_cons_zero, List.set_cons_succ, i64_w, i32_w]
              rfl
            refine done_ (by kernel_rfl) ?_
            try go_wp2
            refine bodyPost_ret (results_list (rs := [.tmp 10, .cell 11 29, .tmp 12]) rfl (by simp) (.tmp (.cell gb302 29 #[.bool t332, .bool t333, .bool t334, .bool t335] (0, 0) _ rfl (by (with_reducible repeat (first | refine blk_drewN ?_ _ | refine blk_drew ?_ | refine blk_alloc ?_ _)); refine blk_put (cs := #[.bool t332, .bool t333, .bool t334, .bool false]) ?_ 3 _ rfl; (with_reducible repeat (first | refine blk_drewN ?_ _ | refine blk_drew ?_ | refine blk_alloc ?_ _)); refine blk_put (cs := #[.bool t332, .bool t333, .bool false, .bool false]) ?_ 2 _ rfl; (with_reducible repeat (first | refine blk_drewN ?_ _ | refine blk_drew ?_ | refine blk_alloc ?_ _)); refine blk_put (cs := #[.bool t332, .bool false, .bool false, .bool false]) ?_ 1 _ rfl; (with_reducible repeat (first | refine blk_drewN ?_ _ | refine blk_drew ?_ | refine blk_alloc ?_ _)); refine blk_put (cs := #[.bool false, .bool false, .bool false, .bool false]) ?_ 0 _ rfl; (with_reducible repeat (first | refine blk_drewN ?_ _ | refine blk_drew ?_ | refine blk_alloc ?_ _)); exact BK302.out) Try.underlying29 rfl (by kernel_rfl) (.tmp .nil)))) rfl ?_
            exact ⟨by first | rfl | (simp [errW_none, errW_some] <;> rfl) | (simp [*, errW_none, errW_some] <;> rfl), by repeat (first | (with_reducible first | exact HB.out | apply below_alloc | apply pw_below_drewN | apply below_drew1 | refine below_set ?_ GE302.out | refine below_set ?_ GE336.out) | exact HB.out)⟩
          · rw [if_neg c65] at H
            have c65b0 : (a0 == 6) = false := beq_eq_false_iff_ne.mpr c65
            have c65b1 : (a0 != 6) = true := bne_iff_ne.mpr c65
            by_cases c78 : a0 = 7
            · rw [if_pos c78] at H
              have c78b0 : (a0 == 7) = true := beq_iff_eq.mpr c78
              have c78b1 : (a0 != 7) = false := bne_eq_false_iff_eq.mpr c78
              clear c78
              replace H := Option.bind_eq_some_iff.mp H
              obtain ⟨⟨t337, t338, t339, t340, t341⟩, A790, H⟩ := H
              replace H : (some (t337, t338, t339, t340, t341, true)) = some (r1, r2, r3, r4, r5, r6) := H
              have A79 := Aside0.mk A790
              clear A790
              simp only [Option.some.injEq, Prod.mk.injEq] at H
              obtain ⟨rfl, rfl, rfl, rfl, rfl, rfl⟩ := H
              go_enter Try.func42, Try.ntmps42
              try go_wp2_with (first | ((with_reducible refine gate_dst (N := 11) rfl ?_); refine box_event ?hg (N := 11) ?hd (cs := #[.bool false, .bool false, .bool false, .bool false]) (t := 29) ?hr ?_; (case hd => rfl); (case hg => rfl); (case hr => first | (go_simp; done) | (go_simp; rfl)); intro gb302 hg w80 hbox hb; have n0_ := Aside0.mk (below_step (by repeat (first | (with_reducible first | exact HB.out | apply below_alloc | apply pw_below_drewN | apply below_drew1) | exact HB.out)) hb); have n1_ := Aside0.mk (hbox); have n2_ := Aside0.mk ((by rw [hg]; exact (below_size (by repeat (first | (with_reducible first | exact HB.out | apply below_alloc | apply pw_below_drewN | apply below_drew1) | exact HB.out))) : w.heap.size ≤ gb302)); have n3_ := Aside0.mk ((by rw [hg]; exact (below_size (by repeat (first | (with_reducible first | exact HB.out | apply below_alloc | apply pw_below_drewN | apply below_drew1) | exact HB.out))) : w.heap.size ≤ gb302)); clear HB; have HB := n0_; have BK302 := n1_; have GW302 := n2_; have GE302 := n3_; clear n0_ n1_ n2_ n3_; clear hb hbox hg) | ((with_reducible refine gate_callee (f := 44) rfl ?_); refine goesL_ (some 35) rfl rfl Try.func44 (by kernel_rfl) rfl #[.int .i64 a0] rfl (by (try simp only [List.map_toArray, List.map_cons, List.map_nil]); first | done | rfl | (simp only [List.length_drop, List.length_take]; rfl)) ?_; (with_reducible refine (camshaftref08_Logic.calls a0 false _ A6.out).mono ?_); rintro e w' ⟨rfl, ⟨nd, rfl⟩⟩; refine ⟨_, rfl, ?_⟩; (try (rw [drewN_self w80]; generalize hq_ : World.drewN w80 _ = w80; have n0_ : Aside0 (w80.heap[gb302]? = some (.cells #[.bool false, .bool false, .bool false, .bool false] 29 (0, 0))) := ⟨by rw [← hq_]; exact (by (with_reducible repeat (first | refine blk_drewN ?_ _ | refine blk_drew ?_ | refine blk_alloc ?_ _)); exact BK302.out)⟩; have n1_ : Aside0 (Below w.heap.size w w80) := ⟨by rw [← hq_]; exact (by repeat (first | (with_reducible first | exact HB.out | apply below_alloc | apply pw_below_drewN | apply below_drew1 | refine below_set ?_ GE302.out) | exact HB.out))⟩; clear BK302 HB hq_; have BK302 := n0_; have HB := n1_; clear n0_ n1_))) | ((with_reducible refine gate_callee (f := 45) rfl ?_); refine goesL_ (some 66) rfl rfl Try.func45 (by kernel_rfl) rfl #[.int .u32 a1, .int .i64 a4] rfl (by (try simp only [List.map_toArray, List.map_cons, List.map_nil]); first | done | rfl | (simp only [List.length_drop, List.length_take]; rfl)) ?_; (with_reducible refine (camshaftref01_Rest.calls a1 a4 t312 _ A25.out).mono ?_); rintro e w' ⟨rfl, ⟨nd, rfl⟩⟩; refine ⟨_, rfl, ?_⟩; (try (rw [drewN_self w80]; generalize hq_ : World.drewN w80 _ = w80; have n0_ : Aside0 (w80.heap[gb302]? = some (.cells #[.bool false, .bool false, .bool false, .bool false] 29 (0, 0))) := ⟨by rw [← hq_]; exact (by (with_reducible repeat (first | refine blk_drewN ?_ _ | refine blk_drew ?_ | refine blk_alloc ?_ _)); exact BK302.out)⟩; have n1_ : Aside0 (Below w.heap.size w w80) := ⟨by rw [← hq_]; exact (by repeat (first | (with_reducible first | exact HB.out | apply below_alloc | apply pw_below_drewN | apply below_drew1 | refine below_set ?_ GE302.out) | exact HB.out))⟩; clear BK302 HB hq_; have BK302 := n0_; have HB := n1_; clear n0_ n1_))) | ((with_reducible refine gate_callee (f := 24) rfl ?_); refine goesL_ (some 116) rfl rfl Try.func24 (by kernel_rfl) rfl #[.int .u32 a2, .int .u32 a1, .bool false, .int .i64 a4] rfl (by (try simp only [List.map_toArray, List.map_cons, List.map_nil]); first | done | rfl | (simp only [List.length_drop, List.length_take]; rfl)) ?_; (with_reducible refine (camshaftref01_Sub.calls a2 a1 false a4 t337 t338 t339 t340 t341 _ A79.out).mono ?_); rintro e w81 ⟨rfl, hb⟩; refine ⟨_, rfl, ?_⟩; have n0_ := Aside0.mk (blk_below (g := gb302) (o := .cells #[.bool false, .bool false, .bool false, .bool false] 29 (0, 0)) (by (with_reducible repeat (first | refine blk_drewN ?_ _ | refine blk_drew ?_ | refine blk_alloc ?_ _)); exact BK302.out) hb); have n1_ := Aside0.mk (below_step (by repeat (first | (with_reducible first | exact HB.out | apply below_alloc | apply pw_below_drewN | apply below_drew1 | refine below_set ?_ GE302.out) | exact HB.out)) hb); clear BK302; clear HB; have BK302 := n0_; have HB := n1_; clear n0_ n1_; (try clear hb); (try clear hb2); (try clear hk); (try clear hi)) | ((with_reducible refine gate_dst (N := 27) rfl ?_); refine box_event ?hg (N := 27) ?hd (cs := #[.bool false, .bool false, .bool false, .bool false]) (t := 29) ?hr ?_; (case hd => rfl); (case hg => rfl); (case hr => first | (go_simp; done) | (go_simp; rfl)); intro gb342 hg w82 hbox hb; have n0_ := Aside0.mk (blk_below (g := gb302) (o := .cells #[.bool false, .bool false, .bool false, .bool false] 29 (0, 0)) (by (with_reducible repeat (first | refine blk_drewN ?_ _ | refine blk_drew ?_ | refine blk_alloc ?_ _)); exact BK302.out) hb); have n1_ := Aside0.mk (below_step (by repeat (first | (with_reducible first | exact HB.out | apply below_alloc | apply pw_below_drewN | apply below_drew1 | refine below_set ?_ GE302.out) | exact HB.out)) hb); have n2_ := Aside0.mk (hbox); have n3_ := Aside0.mk ((by rw [hg]; exact (below_size (by repeat (first | (with_reducible first | exact HB.out | apply below_alloc | apply pw_below_drewN | apply below_drew1 | refine below_set ?_ GE302.out) | exact HB.out))) : w.heap.size ≤ gb342)); have n4_ := Aside0.mk ((by rw [hg]; exact (below_size (by repeat (first | (with_reducible first | exact HB.out | apply below_alloc | apply pw_below_drewN | apply below_drew1 | refine below_set ?_ GE302.out) | exact HB.out))) : w.heap.size ≤ gb342)); have n5_ := Aside0.mk ((by rw [hg]; exact Nat.ne_of_lt (blk_lt (g := gb302) (o := .cells #[.bool false, .bool false, .bool false, .bool false] 29 (0, 0)) (by (with_reducible repeat (first | refine blk_drewN ?_ _ | refine blk_drew ?_ | refine blk_alloc ?_ _)); exact BK302.out)) : gb302 ≠ gb342)); have n6_ := Aside0.mk ((by rw [hg]; exact Nat.ne_of_gt (blk_lt (g := gb302) (o := .cells #[.bool false, .bool false, .bool false, .bool false] 29 (0, 0)) (by (with_reducible repeat (first | refine blk_drewN ?_ _ | refine blk_drew ?_ | refine blk_alloc ?_ _)); exact BK302.out)) : gb342 ≠ gb302)); clear BK302; clear HB; have BK302 := n0_; have HB := n1_; have BK342 := n2_; have GW342 := n3_; have GE342 := n4_; have NB302_342 := n5_; have NB342_302 := n6_; clear n0_ n1_ n2_ n3_ n4_ n5_ n6_; clear hb hbox hg; have hnb83 := NB342_302.out; have hnc83 := NB302_342.out; have hcz84_0 : w82.cell? ⟨gb342, 0, none⟩ = some (.bool false) := (blk_cell BK342.out 0).trans rfl; have hcz84_1 : w82.cell? ⟨gb342, 1, none⟩ = some (.bool false) := (blk_cell BK342.out 1).trans rfl; have hcz84_2 : w82.cell? ⟨gb342, 2, none⟩ = some (.bool false) := (blk_cell BK342.out 2).trans rfl; have hcz84_3 : w82.cell? ⟨gb342, 3, none⟩ = some (.bool false) := (blk_cell BK342.out 3).trans rfl; have hfz84_0 := blk_frozen BK342.out 0; have hfz84_1 := blk_frozen BK342.out 1; have hfz84_2 := blk_frozen BK342.out 2; have hfz84_3 := blk_frozen BK342.out 3))
              have n0_ : Aside0 (((((w82.setCell ⟨gb342, 0, none⟩ (.bool t338)).setCell ⟨gb342, 1, none⟩ (.bool t339)).setCell ⟨gb342, 2, none⟩ (.bool t340)).setCell ⟨gb342, 3, none⟩ (.bool t341)).heap[gb302]? = some (.cells #[.bool false, .bool false, .bool false, .bool false] 29 (0, 0))) := ⟨by (with_reducible repeat (first | refine blk_drewN ?_ _ | refine blk_drew ?_ | refine blk_alloc ?_ _)); refine blk_far ?_ NB302_342.out _; (with_reducible repeat (first | refine blk_drewN ?_ _ | refine blk_drew ?_ | refine blk_alloc ?_ _)); refine blk_far ?_ NB302_342.out _; (with_reducible repeat (first | refine blk_drewN ?_ _ | refine blk_drew ?_ | refine blk_alloc ?_ _)); refine blk_far ?_ NB302_342.out _; (with_reducible repeat (first | refine blk_drewN ?_ _ | refine blk_drew ?_ | refine blk_alloc ?_ _)); refine blk_far ?_ NB302_342.out _; (with_reducible repeat (first | refine blk_drewN ?_ _ | refine blk_drew ?_ | refine blk_alloc ?_ _)); exact BK302.out⟩
              have n1_ : Aside0 (((((w82.setCell ⟨gb342, 0, none⟩ (.bool t338)).setCell ⟨gb342, 1, none⟩ (.bool t339)).setCell ⟨gb342, 2, none⟩ (.bool t340)).setCell ⟨gb342, 3, none⟩ (.bool t341)).heap[gb342]? = some (.cells #[.bool t338, .bool t339, .bool t340, .bool t341] 29 (0, 0))) := ⟨by (with_reducible repeat (first | refine blk_drewN ?_ _ | refine blk_drew ?_ | refine blk_alloc ?_ _)); refine blk_put (cs := #[.bool t338, .bool t339, .bool t340, .bool false]) ?_ 3 _ rfl; (with_reducible repeat (first | refine blk_drewN ?_ _ | refine blk_drew ?_ | refine blk_alloc ?_ _)); refine blk_put (cs := #[.bool t338, .bool t339, .bool false, .bool false]) ?_ 2 _ rfl; (with_reducible repeat (first | refine blk_drewN ?_ _ | refine blk_drew ?_ | refine blk_alloc ?_ _)); refine blk_put (cs := #[.bool t338, .bool false, .bool false, .bool false]) ?_ 1 _ rfl; (with_reducible repeat (first | refine blk_drewN ?_ _ | refine blk_drew ?_ | refine blk_alloc ?_ _)); refine blk_put (cs := #[.bool false, .bool false, .bool false, .bool false]) ?_ 0 _ rfl; (with_reducible repeat (first | refine blk_drewN ?_ _ | refine blk_drew ?_ | refine blk_alloc ?_ _)); exact BK342.out⟩
              have n2_ : Aside0 (Below w.heap.size w ((((w82.setCell ⟨gb342, 0, none⟩ (.bool t338)).setCell ⟨gb342, 1, none⟩ (.bool t339)).setCell ⟨gb342, 2, none⟩ (.bool t340)).setCell ⟨gb342, 3, none⟩ (.bool t341))) := ⟨by repeat (first | (with_reducible first | exact HB.out | apply below_alloc | apply pw_below_drewN | apply below_drew1 | refine below_set ?_ GE302.out | refine below_set ?_ GE342.out) | exact HB.out)⟩
              (try clear BK302)
              (try clear BK342)
              (try clear HB)
              (repeat rw [own_setCell_drewN]); (repeat rw [World.drewN_drewN])
              generalize ((((w82.setCell ⟨gb342, 0, none⟩ (.bool t338)).setCell ⟨gb342, 1, none⟩ (.bool t339)).setCell ⟨gb342, 2, none⟩ (.bool t340)).setCell ⟨gb342, 3, none⟩ (.bool t341)) = w85 at n0_ n1_ n2_ ⊢
              have BK302 := n0_
              have BK342 := n1_
              have HB := n2_
              clear n0_ n1_ n2_
              have n0_ := Aside0.mk (blk_drew BK302.out)
              have n1_ := Aside0.mk (blk_drew BK342.out)
              have n2_ := Aside0.mk (below_drew1 HB.out)
              clear BK302
              clear BK342
              clear HB
              have BK302 := n0_
              have BK342 := n1_
              have HB := n2_
              clear n0_ n1_ n2_
              refine start_ (n := 5) (S := fun w' => w'.cell? ⟨gb342, 0, none⟩ = some (.bool t338) ∧ w'.cell? ⟨gb342, 1, none⟩ = some (.bool t339) ∧ w'.cell? ⟨gb342, 2, none⟩ = some (.bool t340) ∧ w'.cell? ⟨gb342, 3, none⟩ = some (.bool t341)) (ds := []) #[false, false, false, false, false] (by kernel_rfl) rfl rfl ⟨(blk_cell BK342.out 0).trans rfl, (blk_cell BK342.out 1).trans rfl, (blk_cell BK342.out 2).trans rfl, (blk_cell BK342.out 3).trans rfl⟩ (fun hHeld => ?_)
              generalize w85.drew = w86 at BK302 BK342 HB hHeld ⊢
              refine pure_ (i := 0) (N := some 119) (v := ?_) (a' := ?_) #[true, false, false, false, false] rfl rfl (by kernel_rfl) (fun _ _ _ h => h) (Or.inl ⟨by rfl, ?_⟩) ?_ ?_
              rotate_left
              · intro w'
                go_simp
                with_reducible rfl
              rotate_left
              · simp only [Act.put, List.setIfInBounds_toArray, List.set_cons_zero, List.set_cons_succ, i64_w, i32_w]
                rfl
              refine pure_ (i := 2) (N := some 10) (v := ?_) (a' := ?_) #[true, false, true, false, false] rfl rfl (by kernel_rfl) (fun _ _ _ h => h) (Or.inl ⟨by rfl, ?_⟩) ?_ ?_
              rotate_left
              · intro w'
                go_simp
                with_reducible rfl
              rotate_left
              · simp only [Act.put, List.setIfInBounds_toArray, List.set_cons_zero, List.set_cons_succ, i64_w, i32_w]
                rfl
              refine take_ (i := 1) (N := some 120) (v := ?_) (a' := ?_) #[true, true, true, false, false] rfl rfl (by kernel_rfl) (fun _ _ _ h => h) (Or.inl ⟨by rfl, ?_⟩) hHeld ?_ ?_
              rotate_left
              · rintro w' ⟨s0, s1, s2, s3⟩
                go_simp
                with_reducible rfl
              rotate_left
              · simp only [Act.put, List.setIfInBounds_toArray, List.set_cons_zero, List.set_cons_succ, i64_w, i32_w]
                rfl
              refine one_ (i := 3) (N := none) #[true, true, true, true, false] rfl rfl (by kernel_rfl) (by decide) (fun K hK => ?_)
              have hs87 : w86.cell? ⟨gb302, 0, none⟩ = some (.bool false) := (blk_cell BK302.out 0).trans rfl
              have hfs87 := blk_frozen BK302.out 0
              have hns87_1 := NB342_302.out
              have hms87_1 := NB302_342.out
              have hs88 : w86.cell? ⟨gb302, 1, none⟩ = some (.bool false) := (blk_cell BK302.out 1).trans rfl
              have hfs88 := blk_frozen BK302.out 1
              have hns88_1 := NB342_302.out
              have hms88_1 := NB302_342.out
              have hs89 : w86.cell? ⟨gb302, 2, none⟩ = some (.bool false) := (blk_cell BK302.out 2).trans rfl
              have hfs89 := blk_frozen BK302.out 2
              have hns89_1 := NB342_302.out
              have hms89_1 := NB302_342.out
              have hs90 : w86.cell? ⟨gb302, 3, none⟩ = some (.bool false) := (blk_cell BK302.out 3).trans rfl
              have hfs90 := blk_frozen BK302.out 3
              have hns90_1 := NB342_302.out
              have hms90_1 := NB302_342.out
              refine skip_ (w1 := ?_) (by rfl) rfl ?_ ?_
              rotate_left
              · go_simp
                rfl
              refine hK.out _ _ ⟨((cell_far (p := ⟨gb302, _, none⟩) NB342_302.out _).trans (((cell_far (p := ⟨gb302, _, none⟩) NB342_302.out _).trans (((cell_far (p := ⟨gb302, _, none⟩) NB342_302.out _).trans (((cell_far (p := ⟨gb302, _, none⟩) NB342_302.out _).trans (hHeld.1)))))))), ((cell_far (p := ⟨gb302, _, none⟩) NB342_302.out _).trans (((cell_far (p := ⟨gb302, _, none⟩) NB342_302.out _).trans (((cell_far (p := ⟨gb302, _, none⟩) NB342_302.out _).trans (((cell_far (p := ⟨gb302, _, none⟩) NB342_302.out _).trans (hHeld.2.1)))))))), ((cell_far (p := ⟨gb302, _, none⟩) NB342_302.out _).trans (((cell_far (p := ⟨gb302, _, none⟩) NB342_302.out _).trans (((cell_far (p := ⟨gb302, _, none⟩) NB342_302.out _).trans (((cell_far (p := ⟨gb302, _, none⟩) NB342_302.out _).trans (hHeld.2.2.1)))))))), ((cell_far (p := ⟨gb302, _, none⟩) NB342_302.out _).trans (((cell_far (p := ⟨gb302, _, none⟩) NB342_302.out _).trans (((cell_far (p := ⟨gb302, _, none⟩) NB342_302.out _).trans (((cell_far (p := ⟨gb302, _, none⟩) NB342_302.out _).trans (hHeld.2.2.2))))))))⟩ (fun hHeld => ?_)
              clear hK K
              refine pure_ (i := 4) (N := some 12) (v := ?_) (a' := ?_) #[true, true, true, true, true] rfl rfl (by kernel_rfl) (fun _ _ _ h => h) (Or.inl ⟨by rfl, ?_⟩) ?_ ?_
              rotate_left
              · intro w'
                go_simp
                with_reducible rfl
              rotate_left
              · simp only [Act.put, List.setIfInBounds_toArray, List.set_cons_zero, List.set_cons_succ, i64_w, i32_w]
                rfl
              refine done_ (by kernel_rfl) ?_
              try go_wp2
              refine bodyPost_ret (results_list (rs := [.tmp 10, .cell 11 29, .tmp 12]) rfl (by simp) (.tmp (.cell gb302 29 #[.bool t338, .bool t339, .bool t340, .bool t341] (0, 0) _ rfl (by (with_reducible repeat (first | refine blk_drewN ?_ _ | refine blk_drew ?_ | refine blk_alloc ?_ _)); refine blk_put (cs := #[.bool t338, .bool t339, .bool t340, .bool false]) ?_ 3 _ rfl; (with_reducible repeat (first | refine blk_drewN ?_ _ | refine blk_drew ?_ | refine blk_alloc ?_ _)); refine blk_put (cs := #[.bool t338, .bool t339, .bool false, .bool false]) ?_ 2 _ rfl; (with_reducible repeat (first | refine blk_drewN ?_ _ | refine blk_drew ?_ | refine blk_alloc ?_ _)); refine blk_put (cs := #[.bool t338, .bool false, .bool false, .bool false]) ?_ 1 _ rfl; (with_reducible repeat (first | refine blk_drewN ?_ _ | refine blk_drew ?_ | refine blk_alloc ?_ _)); refine blk_put (cs := #[.bool false, .bool false, .bool false, .bool false]) ?_ 0 _ rfl; (with_reducible repeat (first | refine blk_drewN ?_ _ | refine blk_drew ?_ | refine blk_alloc ?_ _)); exact BK302.out) Try.underlying29 rfl (by kernel_rfl) (.tmp .nil)))) rfl ?_
              exact ⟨by first | rfl | (simp [errW_none, errW_some] <;> rfl) | (simp [*, errW_none, errW_some] <;> rfl), by repeat (first | (with_reducible first | exact HB.out | apply below_alloc | apply pw_below_drewN | apply below_drew1 | refine below_set ?_ GE302.out | refine below_set ?_ GE342.out) | exact HB.out)⟩
            · rw [if_neg c78] at H
              have c78b0 : (a0 == 7) = false := beq_eq_false_iff_ne.mpr c78
              have c78b1 : (a0 != 7) = true := bne_iff_ne.mpr c78
              by_cases c91 : a0 = 8
              · rw [if_pos c91] at H
                have c91b0 : (a0 == 8) = true := beq_iff_eq.mpr c91
                have c91b1 : (a0 != 8) = false := bne_eq_false_iff_eq.mpr c91
                clear c91
                replace H := Option.bind_eq_some_iff.mp H
                obtain ⟨⟨t343, t344, t345, t346, t347⟩, A920, H⟩ := H
                replace H : (some (t343, t344, t345, t346, t347, true)) = some (r1, r2, r3, r4, r5, r6) := H
                have A92 := Aside0.mk A920
                clear A920
                simp only [Option.some.injEq, Prod.mk.injEq] at H
                obtain ⟨rfl, rfl, rfl, rfl, rfl, rfl⟩ := H
                go_enter Try.func42, Try.ntmps42
                try go_wp2_with (first | ((with_reducible refine gate_dst (N := 11) rfl ?_); refine box_event ?hg (N := 11) ?hd (cs := #[.bool false, .bool false, .bool false, .bool false]) (t := 29) ?hr ?_; (case hd => rfl); (case hg => rfl); (case hr => first | (go_simp; done) | (go_simp; rfl)); intro gb302 hg w93 hbox hb; have n0_ := Aside0.mk (below_step (by repeat (first | (with_reducible first | exact HB.out | apply below_alloc | apply pw_below_drewN | apply below_drew1) | exact HB.out)) hb); have n1_ := Aside0.mk (hbox); have n2_ := Aside0.mk ((by rw [hg]; exact (below_size (by repeat (first | (with_reducible first | exact HB.out | apply below_alloc | apply pw_below_drewN | apply below_drew1) | exact HB.out))) : w.heap.size ≤ gb302)); have n3_ := Aside0.mk ((by rw [hg]; exact (below_size (by repeat (first | (with_reducible first | exact HB.out | apply below_alloc | apply pw_below_drewN | apply below_drew1) | exact HB.out))) : w.heap.size ≤ gb302)); clear HB; have HB := n0_; have BK302 := n1_; have GW302 := n2_; have GE302 := n3_; clear n0_ n1_ n2_ n3_; clear hb hbox hg) | ((with_reducible refine gate_callee (f := 44) rfl ?_); refine goesL_ (some 35) rfl rfl Try.func44 (by kernel_rfl) rfl #[.int .i64 a0] rfl (by (try simp only [List.map_toArray, List.map_cons, List.map_nil]); first | done | rfl | (simp only [List.length_drop, List.length_take]; rfl)) ?_; (with_reducible refine (camshaftref08_Logic.calls a0 false _ A6.out).mono ?_); rintro e w' ⟨rfl, ⟨nd, rfl⟩⟩; refine ⟨_, rfl, ?_⟩; (try (rw [drewN_self w93]; generalize hq_ : World.drewN w93 _ = w93; have n0_ : Aside0 (w93.heap[gb302]? = some (.cells #[.bool false, .bool false, .bool false, .bool false] 29 (0, 0))) := ⟨by rw [← hq_]; exact (by (with_reducible repeat (first | refine blk_drewN ?_ _ | refine blk_drew ?_ | refine blk_alloc ?_ _)); exact BK302.out)⟩; have n1_ : Aside0 (Below w.heap.size w w93) := ⟨by rw [← hq_]; exact (by repeat (first | (with_reducible first | exact HB.out | apply below_alloc | apply pw_below_drewN | apply below_drew1 | refine below_set ?_ GE302.out) | exact HB.out))⟩; clear BK302 HB hq_; have BK302 := n0_; have HB := n1_; clear n0_ n1_))) | ((with_reducible refine gate_callee (f := 45) rfl ?_); refine goesL_ (some 66) rfl rfl Try.func45 (by kernel_rfl) rfl #[.int .u32 a1, .int .i64 a4] rfl (by (try simp only [List.map_toArray, List.map_cons, List.map_nil]); first | done | rfl | (simp only [List.length_drop, List.length_take]; rfl)) ?_; (with_reducible refine (camshaftref01_Rest.calls a1 a4 t312 _ A25.out).mono ?_); rintro e w' ⟨rfl, ⟨nd, rfl⟩⟩; refine ⟨_, rfl, ?_⟩; (try (rw [drewN_self w93]; generalize hq_ : World.drewN w93 _ = w93; have n0_ : Aside0 (w93.heap[gb302]? = some (.cells #[.bool false, .bool false, .bool false, .bool false] 29 (0, 0))) := ⟨by rw [← hq_]; exact (by (with_reducible repeat (first | refine blk_drewN ?_ _ | refine blk_drew ?_ | refine blk_alloc ?_ _)); exact BK302.out)⟩; have n1_ : Aside0 (Below w.heap.size w w93) := ⟨by rw [← hq_]; exact (by repeat (first | (with_reducible first | exact HB.out | apply below_alloc | apply pw_below_drewN | apply below_drew1 | refine below_set ?_ GE302.out) | exact HB.out))⟩; clear BK302 HB hq_; have BK302 := n0_; have HB := n1_; clear n0_ n1_))) | ((with_reducible refine gate_callee (f := 22) rfl ?_); refine goesL_ (some 128) rfl rfl Try.func22 (by kernel_rfl) rfl #[.int .u32 a2, .int .u32 a1, .bool a3, .int .i64 a4] rfl (by (try simp only [List.map_toArray, List.map_cons, List.map_nil]); first | done | rfl | (simp only [List.length_drop, List.length_take]; rfl)) ?_; (with_reducible refine (camshaftref01_Add.calls a2 a1 a3 a4 t343 t344 t345 t346 t347 _ A92.out).mono ?_); rintro e w94 ⟨rfl, hb⟩; refine ⟨_, rfl, ?_⟩; have n0_ := Aside0.mk (blk_below (g := gb302) (o := .cells #[.bool false, .bool false, .bool false, .bool false] 29 (0, 0)) (by (with_reducible repeat (first | refine blk_drewN ?_ _ | refine blk_drew ?_ | refine blk_alloc ?_ _)); exact BK302.out) hb); have n1_ := Aside0.mk (below_step (by repeat (first | (with_reducible first | exact HB.out | apply below_alloc | apply pw_below_drewN | apply below_drew1 | refine below_set ?_ GE302.out) | exact HB.out)) hb); clear BK302; clear HB; have BK302 := n0_; have HB := n1_; clear n0_ n1_; (try clear hb); (try clear hb2); (try clear hk); (try clear hi)) | ((with_reducible refine gate_dst (N := 29) rfl ?_); refine box_event ?hg (N := 29) ?hd (cs := #[.bool false, .bool false, .bool false, .bool false]) (t := 29) ?hr ?_; (case hd => rfl); (case hg => rfl); (case hr => first | (go_simp; done) | (go_simp; rfl)); intro gb348 hg w95 hbox hb; have n0_ := Aside0.mk (blk_below (g := gb302) (o := .cells #[.bool false, .bool false, .bool false, .bool false] 29 (0, 0)) (by (with_reducible repeat (first | refine blk_drewN ?_ _ | refine blk_drew ?_ | refine blk_alloc ?_ _)); exact BK302.out) hb); have n1_ := Aside0.mk (below_step (by repeat (first | (with_reducible first | exact HB.out | apply below_alloc | apply pw_below_drewN | apply below_drew1 | refine below_set ?_ GE302.out) | exact HB.out)) hb); have n2_ := Aside0.mk (hbox); have n3_ := Aside0.mk ((by rw [hg]; exact (below_size (by repeat (first | (with_reducible first | exact HB.out | apply below_alloc | apply pw_below_drewN | apply below_drew1 | refine below_set ?_ GE302.out) | exact HB.out))) : w.heap.size ≤ gb348)); have n4_ := Aside0.mk ((by rw [hg]; exact (below_size (by repeat (first | (with_reducible first | exact HB.out | apply below_alloc | apply pw_below_drewN | apply below_drew1 | refine below_set ?_ GE302.out) | exact HB.out))) : w.heap.size ≤ gb348)); have n5_ := Aside0.mk ((by rw [hg]; exact Nat.ne_of_lt (blk_lt (g := gb302) (o := .cells #[.bool false, .bool false, .bool false, .bool false] 29 (0, 0)) (by (with_reducible repeat (first | refine blk_drewN ?_ _ | refine blk_drew ?_ | refine blk_alloc ?_ _)); exact BK302.out)) : gb302 ≠ gb348)); have n6_ := Aside0.mk ((by rw [hg]; exact Nat.ne_of_gt (blk_lt (g := gb302) (o := .cells #[.bool false, .bool false, .bool false, .bool false] 29 (0, 0)) (by (with_reducible repeat (first | refine blk_drewN ?_ _ | refine blk_drew ?_ | refine blk_alloc ?_ _)); exact BK302.out)) : gb348 ≠ gb302)); clear BK302; clear HB; have BK302 := n0_; have HB := n1_; have BK348 := n2_; have GW348 := n3_; have GE348 := n4_; have NB302_348 := n5_; have NB348_302 := n6_; clear n0_ n1_ n2_ n3_ n4_ n5_ n6_; clear hb hbox hg; have hnb96 := NB348_302.out; have hnc96 := NB302_348.out; have hcz97_0 : w95.cell? ⟨gb348, 0, none⟩ = some (.bool false) := (blk_cell BK348.out 0).trans rfl; have hcz97_1 : w95.cell? ⟨gb348, 1, none⟩ = some (.bool false) := (blk_cell BK348.out 1).trans rfl; have hcz97_2 : w95.cell? ⟨gb348, 2, none⟩ = some (.bool false) := (blk_cell BK348.out 2).trans rfl; have hcz97_3 : w95.cell? ⟨gb348, 3, none⟩ = some (.bool false) := (blk_cell BK348.out 3).trans rfl; have hfz97_0 := blk_frozen BK348.out 0; have hfz97_1 := blk_frozen BK348.out 1; have hfz97_2 := blk_frozen BK348.out 2; have hfz97_3 := blk_frozen BK348.out 3))
                have n0_ : Aside0 (((((w95.setCell ⟨gb348, 0, none⟩ (.bool t344)).setCell ⟨gb348, 1, none⟩ (.bool t345)).setCell ⟨gb348, 2, none⟩ (.bool t346)).setCell ⟨gb348, 3, none⟩ (.bool t347)).heap[gb302]? = some (.cells #[.bool false, .bool false, .bool false, .bool false] 29 (0, 0))) := ⟨by (with_reducible repeat (first | refine blk_drewN ?_ _ | refine blk_drew ?_ | refine blk_alloc ?_ _)); refine blk_far ?_ NB302_348.out _; (with_reducible repeat (first | refine blk_drewN ?_ _ | refine blk_drew ?_ | refine blk_alloc ?_ _)); refine blk_far ?_ NB302_348.out _; (with_reducible repeat (first | refine blk_drewN ?_ _ | refine blk_drew ?_ | refine blk_alloc ?_ _)); refine blk_far ?_ NB302_348.out _; (with_reducible repeat (first | refine blk_drewN ?_ _ | refine blk_drew ?_ | refine blk_alloc ?_ _)); refine blk_far ?_ NB302_348.out _; (with_reducible repeat (first | refine blk_drewN ?_ _ | refine blk_drew ?_ | refine blk_alloc ?_ _)); exact BK302.out⟩
                have n1_ : Aside0 (((((w95.setCell ⟨gb348, 0, none⟩ (.bool t344)).setCell ⟨gb348, 1, none⟩ (.bool t345)).setCell ⟨gb348, 2, none⟩ (.bool t346)).setCell ⟨gb348, 3, none⟩ (.bool t347)).heap[gb348]? = some (.cells #[.bool t344, .bool t345, .bool t346, .bool t347] 29 (0, 0))) := ⟨by (with_reducible repeat (first | refine blk_drewN ?_ _ | refine blk_drew ?_ | refine blk_alloc ?_ _)); refine blk_put (cs := #[.bool t344, .bool t345, .bool t346, .bool false]) ?_ 3 _ rfl; (with_reducible repeat (first | refine blk_drewN ?_ _ | refine blk_drew ?_ | refine blk_alloc ?_ _)); refine blk_put (cs := #[.bool t344, .bool t345, .bool false, .bool false]) ?_ 2 _ rfl; (with_reducible repeat (first | refine blk_drewN ?_ _ | refine blk_drew ?_ | refine blk_alloc ?_ _)); refine blk_put (cs := #[.bool t344, .bool false, .bool false, .bool false]) ?_ 1 _ rfl; (with_reducible repeat (first | refine blk_drewN ?_ _ | refine blk_drew ?_ | refine blk_alloc ?_ _)); refine blk_put (cs := #[.bool false, .bool false, .bool false, .bool false]) ?_ 0 _ rfl; (with_reducible repeat (first | refine blk_drewN ?_ _ | refine blk_drew ?_ | refine blk_alloc ?_ _)); exact BK348.out⟩
                have n2_ : Aside0 (Below w.heap.size w ((((w95.setCell ⟨gb348, 0, none⟩ (.bool t344)).setCell ⟨gb348, 1, none⟩ (.bool t345)).setCell ⟨gb348, 2, none⟩ (.bool t346)).setCell ⟨gb348, 3, none⟩ (.bool t347))) := ⟨by repeat (first | (with_reducible first | exact HB.out | apply below_alloc | apply pw_below_drewN | apply below_drew1 | refine below_set ?_ GE302.out | refine below_set ?_ GE348.out) | exact HB.out)⟩
                (try clear BK302)
                (try clear BK348)
                (try clear HB)
                (repeat rw [own_setCell_drewN]); (repeat rw [World.drewN_drewN])
                generalize ((((w95.setCell ⟨gb348, 0, none⟩ (.bool t344)).setCell ⟨gb348, 1, none⟩ (.bool t345)).setCell ⟨gb348, 2, none⟩ (.bool t346)).setCell ⟨gb348, 3, none⟩ (.bool t347)) = w98 at n0_ n1_ n2_ ⊢
                have BK302 := n0_
                have BK348 := n1_
                have HB := n2_
                clear n0_ n1_ n2_
                have n0_ := Aside0.mk (blk_drew BK302.out)
                have n1_ := Aside0.mk (blk_drew BK348.out)
                have n2_ := Aside0.mk (below_drew1 HB.out)
                clear BK302
                clear BK348
                clear HB
                have BK302 := n0_
                have BK348 := n1_
                have HB := n2_
                clear n0_ n1_ n2_
                refine start_ (n := 5) (S := fun w' => w'.cell? ⟨gb348, 0, none⟩ = some (.bool t344) ∧ w'.cell? ⟨gb348, 1, none⟩ = some (.bool t345) ∧ w'.cell? ⟨gb348, 2, none⟩ = some (.bool t346) ∧ w'.cell? ⟨gb348, 3, none⟩ = some (.bool t347)) (ds := []) #[false, false, false, false, false] (by kernel_rfl) rfl rfl ⟨(blk_cell BK348.out 0).trans rfl, (blk_cell BK348.out 1).trans rfl, (blk_cell BK348.out 2).trans rfl, (blk_cell BK348.out 3).trans rfl⟩ (fun hHeld => ?_)
                generalize w98.drew = w99 at BK302 BK348 HB hHeld ⊢
                refine pure_ (i := 0) (N := some 131) (v := ?_) (a' := ?_) #[true, false, false, false, false] rfl rfl (by kernel_rfl) (fun _ _ _ h => h) (Or.inl ⟨by rfl, ?_⟩) ?_ ?_
                rotate_left
                · intro w'
                  go_simp
                  with_reducible rfl
                rotate_left
                · simp only [Act.put, List.setIfInBounds_toArray, List.set_cons_zero, List.set_cons_succ, i64_w, i32_w]
                  rfl
                refine pure_ (i := 2) (N := some 10) (v := ?_) (a' := ?_) #[true, false, true, false, false] rfl rfl (by kernel_rfl) (fun _ _ _ h => h) (Or.inl ⟨by rfl, ?_⟩) ?_ ?_
                rotate_left
                · intro w'
                  go_simp
                  with_reducible rfl
                rotate_left
                · simp only [Act.put, List.setIfInBounds_toArray, List.set_cons_zero, List.set_cons_succ, i64_w, i32_w]
                  rfl
                refine take_ (i := 1) (N := some 132) (v := ?_) (a' := ?_) #[true, true, true, false, false] rfl rfl (by kernel_rfl) (fun _ _ _ h => h) (Or.inl ⟨by rfl, ?_⟩) hHeld ?_ ?_
                rotate_left
                · rintro w' ⟨s0, s1, s2, s3⟩
                  go_simp
                  with_reducible rfl
                rotate_left
                · simp only [Act.put, List.setIfInBounds_toArray, List.set_cons_zero, List.set_cons_succ, i64_w, i32_w]
                  rfl
                refine one_ (i := 3) (N := none) #[true, true, true, true, false] rfl rfl (by kernel_rfl) (by decide) (fun K hK => ?_)
                have hs100 : w99.cell? ⟨gb302, 0, none⟩ = some (.bool false) := (blk_cell BK302.out 0).trans rfl
                have hfs100 := blk_frozen BK302.out 0
                have hns100_1 := NB348_302.out
                have hms100_1 := NB302_348.out
                have hs101 : w99.cell? ⟨gb302, 1, none⟩ = some (.bool false) := (blk_cell BK302.out 1).trans rfl
                have hfs101 := blk_frozen BK302.out 1
                have hns101_1 := NB348_302.out
                have hms101_1 := NB302_348.out
                have hs102 : w99.cell? ⟨gb302, 2, none⟩ = some (.bool false) := (blk_cell BK302.out 2).trans rfl
                have hfs102 := blk_frozen BK302.out 2
                have hns102_1 := NB348_302.out
                have hms102_1 := NB302_348.out
                have hs103 : w99.cell? ⟨gb302, 3, none⟩ = some (.bool false) := (blk_cell BK302.out 3).trans rfl
                have hfs103 := blk_frozen BK302.out 3
                have hns103_1 := NB348_302.out
                have hms103_1 := NB302_348.out
                refine skip_ (w1 := ?_) (by rfl) rfl ?_ ?_
                rotate_left
                · go_simp
                  rfl
                refine hK.out _ _ ⟨((cell_far (p := ⟨gb302, _, none⟩) NB348_302.out _).trans (((cell_far (p := ⟨gb302, _, none⟩) NB348_302.out _).trans (((cell_far (p := ⟨gb302, _, none⟩) NB348_302.out _).trans (((cell_far (p := ⟨gb302, _, none⟩) NB348_302.out _).trans (hHeld.1)))))))), ((cell_far (p := ⟨gb302, _, none⟩) NB348_302.out _).trans (((cell_far (p := ⟨gb302, _, none⟩) NB348_302.out _).trans (((cell_far (p := ⟨gb302, _, none⟩) NB348_302.out _).trans (((cell_far (p := ⟨gb302, _, none⟩) NB348_302.out _).trans (hHeld.2.1)))))))), ((cell_far (p := ⟨gb302, _, none⟩) NB348_302.out _).trans (((cell_far (p := ⟨gb302, _, none⟩) NB348_302.out _).trans (((cell_far (p := ⟨gb302, _, none⟩) NB348_302.out _).trans (((cell_far (p := ⟨gb302, _, none⟩) NB348_302.out _).trans (hHeld.2.2.1)))))))), ((cell_far (p := ⟨gb302, _, none⟩) NB348_302.out _).trans (((cell_far (p := ⟨gb302, _, none⟩) NB348_302.out _).trans (((cell_far (p := ⟨gb302, _, none⟩) NB348_302.out _).trans (((cell_far (p := ⟨gb302, _, none⟩) NB348_302.out _).trans (hHeld.2.2.2))))))))⟩ (fun hHeld => ?_)
                clear hK K
                refine pure_ (i := 4) (N := some 12) (v := ?_) (a' := ?_) #[true, true, true, true, true] rfl rfl (by kernel_rfl) (fun _ _ _ h => h) (Or.inl ⟨by rfl, ?_⟩) ?_ ?_
                rotate_left
                · intro w'
                  go_simp
                  with_reducible rfl
                rotate_left
                · simp only [Act.put, List.setIfInBounds_toArray, List.set_cons_zero, List.set_cons_succ, i64_w, i32_w]
                  rfl
                refine done_ (by kernel_rfl) ?_
                try go_wp2
                refine bodyPost_ret (results_list (rs := [.tmp 10, .cell 11 29, .tmp 12]) rfl (by simp) (.tmp (.cell gb302 29 #[.bool t344, .bool t345, .bool t346, .bool t347] (0, 0) _ rfl (by (with_reducible repeat (first | refine blk_drewN ?_ _ | refine blk_drew ?_ | refine blk_alloc ?_ _)); refine blk_put (cs := #[.bool t344, .bool t345, .bool t346, .bool false]) ?_ 3 _ rfl; (with_reducible repeat (first | refine blk_drewN ?_ _ | refine blk_drew ?_ | refine blk_alloc ?_ _)); refine blk_put (cs := #[.bool t344, .bool t345, .bool false, .bool false]) ?_ 2 _ rfl; (with_reducible repeat (first | refine blk_drewN ?_ _ | refine blk_drew ?_ | refine blk_alloc ?_ _)); refine blk_put (cs := #[.bool t344, .bool false, .bool false, .bool false]) ?_ 1 _ rfl; (with_reducible repeat (first | refine blk_drewN ?_ _ | refine blk_drew ?_ | refine blk_alloc ?_ _)); refine blk_put (cs := #[.bool false, .bool false, .bool false, .bool false]) ?_ 0 _ rfl; (with_reducible repeat (first | refine blk_drewN ?_ _ | refine blk_drew ?_ | refine blk_alloc ?_ _)); exact BK302.out) Try.underlying29 rfl (by kernel_rfl) (.tmp .nil)))) rfl ?_
                exact ⟨by first | rfl | (simp [errW_none, errW_some] <;> rfl) | (simp [*, errW_none, errW_some] <;> rfl), by repeat (first | (with_reducible first | exact HB.out | apply below_alloc | apply pw_below_drewN | apply below_drew1 | refine below_set ?_ GE302.out | refine below_set ?_ GE348.out) | exact HB.out)⟩
              · rw [if_neg c91] at H
                have c91b0 : (a0 == 8) = false := beq_eq_false_iff_ne.mpr c91
                have c91b1 : (a0 != 8) = true := bne_iff_ne.mpr c91
                by_cases c104 : a0 = 9
                · rw [if_pos c104] at H
                  have c104b0 : (a0 == 9) = true := beq_iff_eq.mpr c104
                  have c104b1 : (a0 != 9) = false := bne_eq_false_iff_eq.mpr c104
                  clear c104
                  replace H := Option.bind_eq_some_iff.mp H
                  obtain ⟨⟨t349, t350, t351, t352, t353⟩, A1050, H⟩ := H
                  replace H : (some (t349, t350, t351, t352, t353, true)) = some (r1, r2, r3, r4, r5, r6) := H
                  have A105 := Aside0.mk A1050
                  clear A1050
                  simp only [Option.some.injEq, Prod.mk.injEq] at H
                  obtain ⟨rfl, rfl, rfl, rfl, rfl, rfl⟩ := H
                  go_enter Try.func42, Try.ntmps42
                  try go_wp2_with (first | ((with_reducible refine gate_dst (N := 11) rfl ?_); refine box_event ?hg (N := 11) ?hd (cs := #[.bool false, .bool false, .bool false, .bool false]) (t := 29) ?hr ?_; (case hd => rfl); (case hg => rfl); (case hr => first | (go_simp; done) | (go_simp; rfl)); intro gb302 hg w106 hbox hb; have n0_ := Aside0.mk (below_step (by repeat (first | (with_reducible first | exact HB.out | apply below_alloc | apply pw_below_drewN | apply below_drew1) | exact HB.out)) hb); have n1_ := Aside0.mk (hbox); have n2_ := Aside0.mk ((by rw [hg]; exact (below_size (by repeat (first | (with_reducible first | exact HB.out | apply below_alloc | apply pw_below_drewN | apply below_drew1) | exact HB.out))) : w.heap.size ≤ gb302)); have n3_ := Aside0.mk ((by rw [hg]; exact (below_size (by repeat (first | (with_reducible first | exact HB.out | apply below_alloc | apply pw_below_drewN | apply below_drew1) | exact HB.out))) : w.heap.size ≤ gb302)); clear HB; have HB := n0_; have BK302 := n1_; have GW302 := n2_; have GE302 := n3_; clear n0_ n1_ n2_ n3_; clear hb hbox hg) | ((with_reducible refine gate_callee (f := 44) rfl ?_); refine goesL_ (some 35) rfl rfl Try.func44 (by kernel_rfl) rfl #[.int .i64 a0] rfl (by (try simp only [List.map_toArray, List.map_cons, List.map_nil]); first | done | rfl | (simp only [List.length_drop, List.length_take]; rfl)) ?_; (with_reducible refine (camshaftref08_Logic.calls a0 false _ A6.out).mono ?_); rintro e w' ⟨rfl, ⟨nd, rfl⟩⟩; refine ⟨_, rfl, ?_⟩; (try (rw [drewN_self w106]; generalize hq_ : World.drewN w106 _ = w106; have n0_ : Aside0 (w106.heap[gb302]? = some (.cells #[.bool false, .bool false, .bool false, .bool false] 29 (0, 0))) := ⟨by rw [← hq_]; exact (by (with_reducible repeat (first | refine blk_drewN ?_ _ | refine blk_drew ?_ | refine blk_alloc ?_ _)); exact BK302.out)⟩; have n1_ : Aside0 (Below w.heap.size w w106) := ⟨by rw [← hq_]; exact (by repeat (first | (with_reducible first | exact HB.out | apply below_alloc | apply pw_below_drewN | apply below_drew1 | refine below_set ?_ GE302.out) | exact HB.out))⟩; clear BK302 HB hq_; have BK302 := n0_; have HB := n1_; clear n0_ n1_))) | ((with_reducible refine gate_callee (f := 45) rfl ?_); refine goesL_ (some 66) rfl rfl Try.func45 (by kernel_rfl) rfl #[.int .u32 a1, .int .i64 a4] rfl (by (try simp only [List.map_toArray, List.map_cons, List.map_nil]); first | done | rfl | (simp only [List.length_drop, List.length_take]; rfl)) ?_; (with_reducible refine (camshaftref01_Rest.calls a1 a4 t312 _ A25.out).mono ?_); rintro e w' ⟨rfl, ⟨nd, rfl⟩⟩; refine ⟨_, rfl, ?_⟩; (try (rw [drewN_self w106]; generalize hq_ : World.drewN w106 _ = w106; have n0_ : Aside0 (w106.heap[gb302]? = some (.cells #[.bool false, .bool false, .bool false, .bool false] 29 (0, 0))) := ⟨by rw [← hq_]; exact (by (with_reducible repeat (first | refine blk_drewN ?_ _ | refine blk_drew ?_ | refine blk_alloc ?_ _)); exact BK302.out)⟩; have n1_ : Aside0 (Below w.heap.size w w106) := ⟨by rw [← hq_]; exact (by repeat (first | (with_reducible first | exact HB.out | apply below_alloc | apply pw_below_drewN | apply below_drew1 | refine below_set ?_ GE302.out) | exact HB.out))⟩; clear BK302 HB hq_; have BK302 := n0_; have HB := n1_; clear n0_ n1_))) | ((with_reducible refine gate_callee (f := 24) rfl ?_); refine goesL_ (some 140) rfl rfl Try.func24 (by kernel_rfl) rfl #[.int .u32 a2, .int .u32 a1, .bool a3, .int .i64 a4] rfl (by (try simp only [List.map_toArray, List.map_cons, List.map_nil]); first | done | rfl | (simp only [List.length_drop, List.length_take]; rfl)) ?_; (with_reducible refine (camshaftref01_Sub.calls a2 a1 a3 a4 t349 t350 t351 t352 t353 _ A105.out).mono ?_); rintro e w107 ⟨rfl, hb⟩; refine ⟨_, rfl, ?_⟩; have n0_ := Aside0.mk (blk_below (g := gb302) (o := .cells #[.bool false, .bool false, .bool false, .bool false] 29 (0, 0)) (by (with_reducible repeat (first | refine blk_drewN ?_ _ | refine blk_drew ?_ | refine blk_alloc ?_ _)); exact BK302.out) hb); have n1_ := Aside0.mk (below_step (by repeat (first | (with_reducible first | exact HB.out | apply below_alloc | apply pw_below_drewN | apply below_drew1 | refine below_set ?_ GE302.out) | exact HB.out)) hb); clear BK302; clear HB; have BK302 := n0_; have HB := n1_; clear n0_ n1_; (try clear hb); (try clear hb2); (try clear hk); (try clear hi)) | ((with_reducible refine gate_dst (N := 31) rfl ?_); refine box_event ?hg (N := 31) ?hd (cs := #[.bool false, .bool false, .bool false, .bool false]) (t := 29) ?hr ?_; (case hd => rfl); (case hg => rfl); (case hr => first | (go_simp; done) | (go_simp; rfl)); intro gb354 hg w108 hbox hb; have n0_ := Aside0.mk (blk_below (g := gb302) (o := .cells #[.bool false, .bool false, .bool false, .bool false] 29 (0, 0)) (by (with_reducible repeat (first | refine blk_drewN ?_ _ | refine blk_drew ?_ | refine blk_alloc ?_ _)); exact BK302.out) hb); have n1_ := Aside0.mk (below_step (by repeat (first | (with_reducible first | exact HB.out | apply below_alloc | apply pw_below_drewN | apply below_drew1 | refine below_set ?_ GE302.out) | exact HB.out)) hb); have n2_ := Aside0.mk (hbox); have n3_ := Aside0.mk ((by rw [hg]; exact (below_size (by repeat (first | (with_reducible first | exact HB.out | apply below_alloc | apply pw_below_drewN | apply below_drew1 | refine below_set ?_ GE302.out) | exact HB.out))) : w.heap.size ≤ gb354)); have n4_ := Aside0.mk ((by rw [hg]; exact (below_size (by repeat (first | (with_reducible first | exact HB.out | apply below_alloc | apply pw_below_drewN | apply below_drew1 | refine below_set ?_ GE302.out) | exact HB.out))) : w.heap.size ≤ gb354)); have n5_ := Aside0.mk ((by rw [hg]; exact Nat.ne_of_lt (blk_lt (g := gb302) (o := .cells #[.bool false, .bool false, .bool false, .bool false] 29 (0, 0)) (by (with_reducible repeat (first | refine blk_drewN ?_ _ | refine blk_drew ?_ | refine blk_alloc ?_ _)); exact BK302.out)) : gb302 ≠ gb354)); have n6_ := Aside0.mk ((by rw [hg]; exact Nat.ne_of_gt (blk_lt (g := gb302) (o := .cells #[.bool false, .bool false, .bool false, .bool false] 29 (0, 0)) (by (with_reducible repeat (first | refine blk_drewN ?_ _ | refine blk_drew ?_ | refine blk_alloc ?_ _)); exact BK302.out)) : gb354 ≠ gb302)); clear BK302; clear HB; have BK302 := n0_; have HB := n1_; have BK354 := n2_; have GW354 := n3_; have GE354 := n4_; have NB302_354 := n5_; have NB354_302 := n6_; clear n0_ n1_ n2_ n3_ n4_ n5_ n6_; clear hb hbox hg; have hnb109 := NB354_302.out; have hnc109 := NB302_354.out; have hcz110_0 : w108.cell? ⟨gb354, 0, none⟩ = some (.bool false) := (blk_cell BK354.out 0).trans rfl; have hcz110_1 : w108.cell? ⟨gb354, 1, none⟩ = some (.bool false) := (blk_cell BK354.out 1).trans rfl; have hcz110_2 : w108.cell? ⟨gb354, 2, none⟩ = some (.bool false) := (blk_cell BK354.out 2).trans rfl; have hcz110_3 : w108.cell? ⟨gb354, 3, none⟩ = some (.bool false) := (blk_cell BK354.out 3).trans rfl; have hfz110_0 := blk_frozen BK354.out 0; have hfz110_1 := blk_frozen BK354.out 1; have hfz110_2 := blk_frozen BK354.out 2; have hfz110_3 := blk_frozen BK354.out 3))
                  have n0_ : Aside0 (((((w108.setCell ⟨gb354, 0, none⟩ (.bool t350)).setCell ⟨gb354, 1, none⟩ (.bool t351)).setCell ⟨gb354, 2, none⟩ (.bool t352)).setCell ⟨gb354, 3, none⟩ (.bool t353)).heap[gb302]? = some (.cells #[.bool false, .bool false, .bool false, .bool false] 29 (0, 0))) := ⟨by (with_reducible repeat (first | refine blk_drewN ?_ _ | refine blk_drew ?_ | refine blk_alloc ?_ _)); refine blk_far ?_ NB302_354.out _; (with_reducible repeat (first | refine blk_drewN ?_ _ | refine blk_drew ?_ | refine blk_alloc ?_ _)); refine blk_far ?_ NB302_354.out _; (with_reducible repeat (first | refine blk_drewN ?_ _ | refine blk_drew ?_ | refine blk_alloc ?_ _)); refine blk_far ?_ NB302_354.out _; (with_reducible repeat (first | refine blk_drewN ?_ _ | refine blk_drew ?_ | refine blk_alloc ?_ _)); refine blk_far ?_ NB302_354.out _; (with_reducible repeat (first | refine blk_drewN ?_ _ | refine blk_drew ?_ | refine blk_alloc ?_ _)); exact BK302.out⟩
                  have n1_ : Aside0 (((((w108.setCell ⟨gb354, 0, none⟩ (.bool t350)).setCell ⟨gb354, 1, none⟩ (.bool t351)).setCell ⟨gb354, 2, none⟩ (.bool t352)).setCell ⟨gb354, 3, none⟩ (.bool t353)).heap[gb354]? = some (.cells #[.bool t350, .bool t351, .bool t352, .bool t353] 29 (0, 0))) := ⟨by (with_reducible repeat (first | refine blk_drewN ?_ _ | refine blk_drew ?_ | refine blk_alloc ?_ _)); refine blk_put (cs := #[.bool t350, .bool t351, .bool t352, .bool false]) ?_ 3 _ rfl; (with_reducible repeat (first | refine blk_drewN ?_ _ | refine blk_drew ?_ | refine blk_alloc ?_ _)); refine blk_put (cs := #[.bool t350, .bool t351, .bool false, .bool false]) ?_ 2 _ rfl; (with_reducible repeat (first | refine blk_drewN ?_ _ | refine blk_drew ?_ | refine blk_alloc ?_ _)); refine blk_put (cs := #[.bool t350, .bool false, .bool false, .bool false]) ?_ 1 _ rfl; (with_reducible repeat (first | refine blk_drewN ?_ _ | refine blk_drew ?_ | refine blk_alloc ?_ _)); refine blk_put (cs := #[.bool false, .bool false, .bool false, .bool false]) ?_ 0 _ rfl; (with_reducible repeat (first | refine blk_drewN ?_ _ | refine blk_drew ?_ | refine blk_alloc ?_ _)); exact BK354.out⟩
                  have n2_ : Aside0 (Below w.heap.size w ((((w108.setCell ⟨gb354, 0, none⟩ (.bool t350)).setCell ⟨gb354, 1, none⟩ (.bool t351)).setCell ⟨gb354, 2, none⟩ (.bool t352)).setCell ⟨gb354, 3, none⟩ (.bool t353))) := ⟨by repeat (first | (with_reducible first | exact HB.out | apply below_alloc | apply pw_below_drewN | apply below_drew1 | refine below_set ?_ GE302.out | refine below_set ?_ GE354.out) | exact HB.out)⟩
                  (try clear BK302)
                  (try clear BK354)
                  (try clear HB)
                  (repeat rw [own_setCell_drewN]); (repeat rw [World.drewN_drewN])
                  generalize ((((w108.setCell ⟨gb354, 0, none⟩ (.bool t350)).setCell ⟨gb354, 1, none⟩ (.bool t351)).setCell ⟨gb354, 2, none⟩ (.bool t352)).setCell ⟨gb354, 3, none⟩ (.bool t353)) = w111 at n0_ n1_ n2_ ⊢
                  have BK302 := n0_
                  have BK354 := n1_
                  have HB := n2_
                  clear n0_ n1_ n2_
                  have n0_ := Aside0.mk (blk_drew BK302.out)
                  have n1_ := Aside0.mk (blk_drew BK354.out)
                  have n2_ := Aside0.mk (below_drew1 HB.out)
                  clear BK302
                  clear BK354
                  clear HB
                  have BK302 := n0_
                  have BK354 := n1_
                  have HB := n2_
                  clear n0_ n1_ n2_
                  refine start_ (n := 5) (S := fun w' => w'.cell? ⟨gb354, 0, none⟩ = some (.bool t350) ∧ w'.cell? ⟨gb354, 1, none⟩ = some (.bool t351) ∧ w'.cell? ⟨gb354, 2, none⟩ = some (.bool t352) ∧ w'.cell? ⟨gb354, 3, none⟩ = some (.bool t353)) (ds := []) #[false, false, false, false, false] (by kernel_rfl) rfl rfl ⟨(blk_cell BK354.out 0).trans rfl, (blk_cell BK354.out 1).trans rfl, (blk_cell BK354.out 2).trans rfl, (blk_cell BK354.out 3).trans rfl⟩ (fun hHeld => ?_)
                  generalize w111.drew = w112 at BK302 BK354 HB hHeld ⊢
                  refine pure_ (i := 0) (N := some 143) (v := ?_) (a' := ?_) #[true, false, false, false, false] rfl rfl (by kernel_rfl) (fun _ _ _ h => h) (Or.inl ⟨by rfl, ?_⟩) ?_ ?_
                  rotate_left
                  · intro w'
                    go_simp
                    with_reducible rfl
                  rotate_left
                  · simp only [Act.put, List.setIfInBounds_toArray, List.set_cons_zero, List.set_cons_succ, i64_w, i32_w]
                    rfl
                  refine pure_ (i := 2) (N := some 10) (v := ?_) (a' := ?_) #[true, false, true, false, false] rfl rfl (by kernel_rfl) (fun _ _ _ h => h) (Or.inl ⟨by rfl, ?_⟩) ?_ ?_
                  rotate_left
                  · intro w'
                    go_simp
                    with_reducible rfl
                  rotate_left
                  · simp only [Act.put, List.setIfInBounds_toArray, List.set_cons_zero, List.set_cons_succ, i64_w, i32_w]
                    rfl
                  refine take_ (i := 1) (N := some 144) (v := ?_) (a' := ?_) #[true, true, true, false, false] rfl rfl (by kernel_rfl) (fun _ _ _ h => h) (Or.inl ⟨by rfl, ?_⟩) hHeld ?_ ?_
                  rotate_left
                  · rintro w' ⟨s0, s1, s2, s3⟩
                    go_simp
                    with_reducible rfl
                  rotate_left
                  · simp only [Act.put, List.setIfInBounds_toArray, List.set_cons_zero, List.set_cons_succ, i64_w, i32_w]
                    rfl
                  refine one_ (i := 3) (N := none) #[true, true, true, true, false] rfl rfl (by kernel_rfl) (by decide) (fun K hK => ?_)
                  have hs113 : w112.cell? ⟨gb302, 0, none⟩ = some (.bool false) := (blk_cell BK302.out 0).trans rfl
                  have hfs113 := blk_frozen BK302.out 0
                  have hns113_1 := NB354_302.out
                  have hms113_1 := NB302_354.out
                  have hs114 : w112.cell? ⟨gb302, 1, none⟩ = some (.bool false) := (blk_cell BK302.out 1).trans rfl
                  have hfs114 := blk_frozen BK302.out 1
                  have hns114_1 := NB354_302.out
                  have hms114_1 := NB302_354.out
                  have hs115 : w112.cell? ⟨gb302, 2, none⟩ = some (.bool false) := (blk_cell BK302.out 2).trans rfl
                  have hfs115 := blk_frozen BK302.out 2
                  have hns115_1 := NB354_302.out
                  have hms115_1 := NB302_354.out
                  have hs116 : w112.cell? ⟨gb302, 3, none⟩ = some (.bool false) := (blk_cell BK302.out 3).trans rfl
                  have hfs116 := blk_frozen BK302.out 3
                  have hns116_1 := NB354_302.out
                  have hms116_1 := NB302_354.out
                  refine skip_ (w1 := ?_) (by rfl) rfl ?_ ?_
                  rotate_left
                  · go_simp
                    rfl
                  refine hK.out _ _ ⟨((cell_far (p := ⟨gb302, _, none⟩) NB354_302.out _).trans (((cell_far (p := ⟨gb302, _, none⟩) NB354_302.out _).trans (((cell_far (p := ⟨gb302, _, none⟩) NB354_302.out _).trans (((cell_far (p := ⟨gb302, _, none⟩) NB354_302.out _).trans (hHeld.1)))))))), ((cell_far (p := ⟨gb302, _, none⟩) NB354_302.out _).trans (((cell_far (p := ⟨gb302, _, none⟩) NB354_302.out _).trans (((cell_far (p := ⟨gb302, _, none⟩) NB354_302.out _).trans (((cell_far (p := ⟨gb302, _, none⟩) NB354_302.out _).trans (hHeld.2.1)))))))), ((cell_far (p := ⟨gb302, _, none⟩) NB354_302.out _).trans (((cell_far (p := ⟨gb302, _, none⟩) NB354_302.out _).trans (((cell_far (p := ⟨gb302, _, none⟩) NB354_302.out _).trans (((cell_far (p := ⟨gb302, _, none⟩) NB354_302.out _).trans (hHeld.2.2.1)))))))), ((cell_far (p := ⟨gb302, _, none⟩) NB354_302.out _).trans (((cell_far (p := ⟨gb302, _, none⟩) NB354_302.out _).trans (((cell_far (p := ⟨gb302, _, none⟩) NB354_302.out _).trans (((cell_far (p := ⟨gb302, _, none⟩) NB354_302.out _).trans (hHeld.2.2.2))))))))⟩ (fun hHeld => ?_)
                  clear hK K
                  refine pure_ (i := 4) (N := some 12) (v := ?_) (a' := ?_) #[true, true, true, true, true] rfl rfl (by kernel_rfl) (fun _ _ _ h => h) (Or.inl ⟨by rfl, ?_⟩) ?_ ?_
                  rotate_left
                  · intro w'
                    go_simp
                    with_reducible rfl
                  rotate_left
                  · simp only [Act.put, List.setIfInBounds_toArray, List.set_cons_zero, List.set_cons_succ, i64_w, i32_w]
                    rfl
                  refine done_ (by kernel_rfl) ?_
                  try go_wp2
                  refine bodyPost_ret (results_list (rs := [.tmp 10, .cell 11 29, .tmp 12]) rfl (by simp) (.tmp (.cell gb302 29 #[.bool t350, .bool t351, .bool t352, .bool t353] (0, 0) _ rfl (by (with_reducible repeat (first | refine blk_drewN ?_ _ | refine blk_drew ?_ | refine blk_alloc ?_ _)); refine blk_put (cs := #[.bool t350, .bool t351, .bool t352, .bool false]) ?_ 3 _ rfl; (with_reducible repeat (first | refine blk_drewN ?_ _ | refine blk_drew ?_ | refine blk_alloc ?_ _)); refine blk_put (cs := #[.bool t350, .bool t351, .bool false, .bool false]) ?_ 2 _ rfl; (with_reducible repeat (first | refine blk_drewN ?_ _ | refine blk_drew ?_ | refine blk_alloc ?_ _)); refine blk_put (cs := #[.bool t350, .bool false, .bool false, .bool false]) ?_ 1 _ rfl; (with_reducible repeat (first | refine blk_drewN ?_ _ | refine blk_drew ?_ | refine blk_alloc ?_ _)); refine blk_put (cs := #[.bool false, .bool false, .bool false, .bool false]) ?_ 0 _ rfl; (with_reducible repeat (first | refine blk_drewN ?_ _ | refine blk_drew ?_ | refine blk_alloc ?_ _)); exact BK302.out) Try.underlying29 rfl (by kernel_rfl) (.tmp .nil)))) rfl ?_
                  exact ⟨by first | rfl | (simp [errW_none, errW_some] <;> rfl) | (simp [*, errW_none, errW_some] <;> rfl), by repeat (first | (with_reducible first | exact HB.out | apply below_alloc | apply pw_below_drewN | apply below_drew1 | refine below_set ?_ GE302.out | refine below_set ?_ GE354.out) | exact HB.out)⟩
                · rw [if_neg c104] at H
                  have c104b0 : (a0 == 9) = false := beq_eq_false_iff_ne.mpr c104
                  have c104b1 : (a0 != 9) = true := bne_iff_ne.mpr c104
                  by_cases c117 : a0 = 10
                  · rw [if_pos c117] at H
                    have c117b0 : (a0 == 10) = true := beq_iff_eq.mpr c117
                    have c117b1 : (a0 != 10) = false := bne_eq_false_iff_eq.mpr c117
                    clear c117
                    replace H := Option.bind_eq_some_iff.mp H
                    obtain ⟨⟨t355, t356, t357, t358, t359⟩, A1180, H⟩ := H
                    replace H : (some (t355, t356, t357, t358, t359, true)) = some (r1, r2, r3, r4, r5, r6) := H
                    have A118 := Aside0.mk A1180
                    clear A1180
                    simp only [Option.some.injEq, Prod.mk.injEq] at H
                    obtain ⟨rfl, rfl, rfl, rfl, rfl, rfl⟩ := H
                    go_enter Try.func42, Try.ntmps42
                    try go_wp2_with (first | ((with_reducible refine gate_dst (N := 11) rfl ?_); refine box_event ?hg (N := 11) ?hd (cs := #[.bool false, .bool false, .bool false, .bool false]) (t := 29) ?hr ?_; (case hd => rfl); (case hg => rfl); (case hr => first | (go_simp; done) | (go_simp; rfl)); intro gb302 hg w119 hbox hb; have n0_ := Aside0.mk (below_step (by repeat (first | (with_reducible first | exact HB.out | apply below_alloc | apply pw_below_drewN | apply below_drew1) | exact HB.out)) hb); have n1_ := Aside0.mk (hbox); have n2_ := Aside0.mk ((by rw [hg]; exact (below_size (by repeat (first | (with_reducible first | exact HB.out | apply below_alloc | apply pw_below_drewN | apply below_drew1) | exact HB.out))) : w.heap.size ≤ gb302)); have n3_ := Aside0.mk ((by rw [hg]; exact (below_size (by repeat (first | (with_reducible first | exact HB.out | apply below_alloc | apply pw_below_drewN | apply below_drew1) | exact HB.out))) : w.heap.size ≤ gb302)); clear HB; have HB := n0_; have BK302 := n1_; have GW302 := n2_; have GE302 := n3_; clear n0_ n1_ n2_ n3_; clear hb hbox hg) | ((with_reducible refine gate_callee (f := 44) rfl ?_); refine goesL_ (some 35) rfl rfl Try.func44 (by kernel_rfl) rfl #[.int .i64 a0] rfl (by (try simp only [List.map_toArray, List.map_cons, List.map_nil]); first | done | rfl | (simp only [List.length_drop, List.length_take]; rfl)) ?_; (with_reducible refine (camshaftref08_Logic.calls a0 false _ A6.out).mono ?_); rintro e w' ⟨rfl, ⟨nd, rfl⟩⟩; refine ⟨_, rfl, ?_⟩; (try (rw [drewN_self w119]; generalize hq_ : World.drewN w119 _ = w119; have n0_ : Aside0 (w119.heap[gb302]? = some (.cells #[.bool false, .bool false, .bool false, .bool false] 29 (0, 0))) := ⟨by rw [← hq_]; exact (by (with_reducible repeat (first | refine blk_drewN ?_ _ | refine blk_drew ?_ | refine blk_alloc ?_ _)); exact BK302.out)⟩; have n1_ : Aside0 (Below w.heap.size w w119) := ⟨by rw [← hq_]; exact (by repeat (first | (with_reducible first | exact HB.out | apply below_alloc | apply pw_below_drewN | apply below_drew1 | refine below_set ?_ GE302.out) | exact HB.out))⟩; clear BK302 HB hq_; have BK302 := n0_; have HB := n1_; clear n0_ n1_))) | ((with_reducible refine gate_callee (f := 45) rfl ?_); refine goesL_ (some 66) rfl rfl Try.func45 (by kernel_rfl) rfl #[.int .u32 a1, .int .i64 a4] rfl (by (try simp only [List.map_toArray, List.map_cons, List.map_nil]); first | done | rfl | (simp only [List.length_drop, List.length_take]; rfl)) ?_; (with_reducible refine (camshaftref01_Rest.calls a1 a4 t312 _ A25.out).mono ?_); rintro e w' ⟨rfl, ⟨nd, rfl⟩⟩; refine ⟨_, rfl, ?_⟩; (try (rw [drewN_self w119]; generalize hq_ : World.drewN w119 _ = w119; have n0_ : Aside0 (w119.heap[gb302]? = some (.cells #[.bool false, .bool false, .bool false, .bool false] 29 (0, 0))) := ⟨by rw [← hq_]; exact (by (with_reducible repeat (first | refine blk_drewN ?_ _ | refine blk_drew ?_ | refine blk_alloc ?_ _)); exact BK302.out)⟩; have n1_ : Aside0 (Below w.heap.size w w119) := ⟨by rw [← hq_]; exact (by repeat (first | (with_reducible first | exact HB.out | apply below_alloc | apply pw_below_drewN | apply below_drew1 | refine below_set ?_ GE302.out) | exact HB.out))⟩; clear BK302 HB hq_; have BK302 := n0_; have HB := n1_; clear n0_ n1_))) | ((with_reducible refine gate_callee (f := 37) rfl ?_); refine goesL_ (some 151) rfl rfl Try.func37 (by kernel_rfl) rfl #[.int .u32 a2, .int .u32 a1, .int .i64 a4] rfl (by (try simp only [List.map_toArray, List.map_cons, List.map_nil]); first | done | rfl | (simp only [List.length_drop, List.length_take]; rfl)) ?_; (with_reducible refine (camshaftref01_Mul.calls a2 a1 a4 t355 t356 t357 t358 t359 _ A118.out).mono ?_); rintro e w120 ⟨rfl, hb⟩; refine ⟨_, rfl, ?_⟩; have n0_ := Aside0.mk (blk_below (g := gb302) (o := .cells #[.bool false, .bool false, .bool false, .bool false] 29 (0, 0)) (by (with_reducible repeat (first | refine blk_drewN ?_ _ | refine blk_drew ?_ | refine blk_alloc ?_ _)); exact BK302.out) hb); have n1_ := Aside0.mk (below_step (by repeat (first | (with_reducible first | exact HB.out | apply below_alloc | apply pw_below_drewN | apply below_drew1 | refine below_set ?_ GE302.out) | exact HB.out)) hb); clear BK302; clear HB; have BK302 := n0_; have HB := n1_; clear n0_ n1_; (try clear hb); (try clear hb2); (try clear hk); (try clear hi)) | ((with_reducible refine gate_dst (N := 33) rfl ?_); refine box_event ?hg (N := 33) ?hd (cs := #[.bool false, .bool false, .bool false, .bool false]) (t := 29) ?hr ?_; (case hd => rfl); (case hg => rfl); (case hr => first | (go_simp; done) | (go_simp; rfl)); intro gb360 hg w121 hbox hb; have n0_ := Aside0.mk (blk_below (g := gb302) (o := .cells #[.bool false, .bool false, .bool false, .bool false] 29 (0, 0)) (by (with_reducible repeat (first | refine blk_drewN ?_ _ | refine blk_drew ?_ | refine blk_alloc ?_ _)); exact BK302.out) hb); have n1_ := Aside0.mk (below_step (by repeat (first | (with_reducible first | exact HB.out | apply below_alloc | apply pw_below_drewN | apply below_drew1 | refine below_set ?_ GE302.out) | exact HB.out)) hb); have n2_ := Aside0.mk (hbox); have n3_ := Aside0.mk ((by rw [hg]; exact (below_size (by repeat (first | (with_reducible first | exact HB.out | apply below_alloc | apply pw_below_drewN | apply below_drew1 | refine below_set ?_ GE302.out) | exact HB.out))) : w.heap.size ≤ gb360)); have n4_ := Aside0.mk ((by rw [hg]; exact (below_size (by repeat (first | (with_reducible first | exact HB.out | apply below_alloc | apply pw_below_drewN | apply below_drew1 | refine below_set ?_ GE302.out) | exact HB.out))) : w.heap.size ≤ gb360)); have n5_ := Aside0.mk ((by rw [hg]; exact Nat.ne_of_lt (blk_lt (g := gb302) (o := .cells #[.bool false, .bool false, .bool false, .bool false] 29 (0, 0)) (by (with_reducible repeat (first | refine blk_drewN ?_ _ | refine blk_drew ?_ | refine blk_alloc ?_ _)); exact BK302.out)) : gb302 ≠ gb360)); have n6_ := Aside0.mk ((by rw [hg]; exact Nat.ne_of_gt (blk_lt (g := gb302) (o := .cells #[.bool false, .bool false, .bool false, .bool false] 29 (0, 0)) (by (with_reducible repeat (first | refine blk_drewN ?_ _ | refine blk_drew ?_ | refine blk_alloc ?_ _)); exact BK302.out)) : gb360 ≠ gb302)); clear BK302; clear HB; have BK302 := n0_; have HB := n1_; have BK360 := n2_; have GW360 := n3_; have GE360 := n4_; have NB302_360 := n5_; have NB360_302 := n6_; clear n0_ n1_ n2_ n3_ n4_ n5_ n6_; clear hb hbox hg; have hnb122 := NB360_302.out; have hnc122 := NB302_360.out; have hcz123_0 : w121.cell? ⟨gb360, 0, none⟩ = some (.bool false) := (blk_cell BK360.out 0).trans rfl; have hcz123_1 : w121.cell? ⟨gb360, 1, none⟩ = some (.bool false) := (blk_cell BK360.out 1).trans rfl; have hcz123_2 : w121.cell? ⟨gb360, 2, none⟩ = some (.bool false) := (blk_cell BK360.out 2).trans rfl; have hcz123_3 : w121.cell? ⟨gb360, 3, none⟩ = some (.bool false) := (blk_cell BK360.out 3).trans rfl; have hfz123_0 := blk_frozen BK360.out 0; have hfz123_1 := blk_frozen BK360.out 1; have hfz123_2 := blk_frozen BK360.out 2; have hfz123_3 := blk_frozen BK360.out 3))
                    have n0_ : Aside0 (((((w121.setCell ⟨gb360, 0, none⟩ (.bool t356)).setCell ⟨gb360, 1, none⟩ (.bool t357)).setCell ⟨gb360, 2, none⟩ (.bool t358)).setCell ⟨gb360, 3, none⟩ (.bool t359)).heap[gb302]? = some (.cells #[.bool false, .bool false, .bool false, .bool false] 29 (0, 0))) := ⟨by (with_reducible repeat (first | refine blk_drewN ?_ _ | refine blk_drew ?_ | refine blk_alloc ?_ _)); refine blk_far ?_ NB302_360.out _; (with_reducible repeat (first | refine blk_drewN ?_ _ | refine blk_drew ?_ | refine blk_alloc ?_ _)); refine blk_far ?_ NB302_360.out _; (with_reducible repeat (first | refine blk_drewN ?_ _ | refine blk_drew ?_ | refine blk_alloc ?_ _)); refine blk_far ?_ NB302_360.out _; (with_reducible repeat (first | refine blk_drewN ?_ _ | refine blk_drew ?_ | refine blk_alloc ?_ _)); refine blk_far ?_ NB302_360.out _; (with_reducible repeat (first | refine blk_drewN ?_ _ | refine blk_drew ?_ | refine blk_alloc ?_ _)); exact BK302.out⟩
                    have n1_ : Aside0 (((((w121.setCell ⟨gb360, 0, none⟩ (.bool t356)).setCell ⟨gb360, 1, none⟩ (.bool t357)).setCell ⟨gb360, 2, none⟩ (.bool t358)).setCell ⟨gb360, 3, none⟩ (.bool t359)).heap[gb360]? = some (.cells #[.bool t356, .bool t357, .bool t358, .bool t359] 29 (0, 0))) := ⟨by (with_reducible repeat (first | refine blk_drewN ?_ _ | refine blk_drew ?_ | refine blk_alloc ?_ _)); refine blk_put (cs := #[.bool t356, .bool t357, .bool t358, .bool false]) ?_ 3 _ rfl; (with_reducible repeat (first | refine blk_drewN ?_ _ | refine blk_drew ?_ | refine blk_alloc ?_ _)); refine blk_put (cs := #[.bool t356, .bool t357, .bool false, .bool false]) ?_ 2 _ rfl; (with_reducible repeat (first | refine blk_drewN ?_ _ | refine blk_drew ?_ | refine blk_alloc ?_ _)); refine blk_put (cs := #[.bool t356, .bool false, .bool false, .bool false]) ?_ 1 _ rfl; (with_reducible repeat (first | refine blk_drewN ?_ _ | refine blk_drew ?_ | refine blk_alloc ?_ _)); refine blk_put (cs := #[.bool false, .bool false, .bool false, .bool false]) ?_ 0 _ rfl; (with_reducible repeat (first | refine blk_drewN ?_ _ | refine blk_drew ?_ | refine blk_alloc ?_ _)); exact BK360.out⟩
                    have n2_ : Aside0 (Below w.heap.size w ((((w121.setCell ⟨gb360, 0, none⟩ (.bool t356)).setCell ⟨gb360, 1, none⟩ (.bool t357)).setCell ⟨gb360, 2, none⟩ (.bool t358)).setCell ⟨gb360, 3, none⟩ (.bool t359))) := ⟨by repeat (first | (with_reducible first | exact HB.out | apply below_alloc | apply pw_below_drewN | apply below_drew1 | refine below_set ?_ GE302.out | refine below_set ?_ GE360.out) | exact HB.out)⟩
                    (try clear BK302)
                    (try clear BK360)
                    (try clear HB)
                    (repeat rw [own_setCell_drewN]); (repeat rw [World.drewN_drewN])
                    generalize ((((w121.setCell ⟨gb360, 0, none⟩ (.bool t356)).setCell ⟨gb360, 1, none⟩ (.bool t357)).setCell ⟨gb360, 2, none⟩ (.bool t358)).setCell ⟨gb360, 3, none⟩ (.bool t359)) = w124 at n0_ n1_ n2_ ⊢
                    have BK302 := n0_
                    have BK360 := n1_
                    have HB := n2_
                    clear n0_ n1_ n2_
                    have n0_ := Aside0.mk (blk_drew BK302.out)
                    have n1_ := Aside0.mk (blk_drew BK360.out)
                    have n2_ := Aside0.mk (below_drew1 HB.out)
                    clear BK302
                    clear BK360
                    clear HB
                    have BK302 := n0_
                    have BK360 := n1_
                    have HB := n2_
                    clear n0_ n1_ n2_
                    refine start_ (n := 5) (S := fun w' => w'.cell? ⟨gb360, 0, none⟩ = some (.bool t356) ∧ w'.cell? ⟨gb360, 1, none⟩ = some (.bool t357) ∧ w'.cell? ⟨gb360, 2, none⟩ = some (.bool t358) ∧ w'.cell? ⟨gb360, 3, none⟩ = some (.bool t359)) (ds := []) #[false, false, false, false, false] (by kernel_rfl) rfl rfl ⟨(blk_cell BK360.out 0).trans rfl, (blk_cell BK360.out 1).trans rfl, (blk_cell BK360.out 2).trans rfl, (blk_cell BK360.out 3).trans rfl⟩ (fun hHeld => ?_)
                    generalize w124.drew = w125 at BK302 BK360 HB hHeld ⊢
                    refine pure_ (i := 0) (N := some 154) (v := ?_) (a' := ?_) #[true, false, false, false, false] rfl rfl (by kernel_rfl) (fun _ _ _ h => h) (Or.inl ⟨by rfl, ?_⟩) ?_ ?_
                    rotate_left
                    · intro w'
                      go_simp
                      with_reducible rfl
                    rotate_left
                    · simp only [Act.put, List.setIfInBounds_toArray, List.set_cons_zero, List.set_cons_succ, i64_w, i32_w]
                      rfl
                    refine pure_ (i := 2) (N := some 10) (v := ?_) (a' := ?_) #[true, false, true, false, false] rfl rfl (by kernel_rfl) (fun _ _ _ h => h) (Or.inl ⟨by rfl, ?_⟩) ?_ ?_
                    rotate_left
                    · intro w'
                      go_simp
                      with_reducible rfl
                    rotate_left
                    · simp only [Act.put, List.setIfInBounds_toArray, List.set_cons_zero, List.set_cons_succ, i64_w, i32_w]
                      rfl
                    refine take_ (i := 1) (N := some 155) (v := ?_) (a' := ?_) #[true, true, true, false, false] rfl rfl (by kernel_rfl) (fun _ _ _ h => h) (Or.inl ⟨by rfl, ?_⟩) hHeld ?_ ?_
                    rotate_left
                    · rintro w' ⟨s0, s1, s2, s3⟩
                      go_simp
                      with_reducible rfl
                    rotate_left
                    · simp only [Act.put, List.setIfInBounds_toArray, List.set_cons_zero, List.set_cons_succ, i64_w, i32_w]
                      rfl
                    refine one_ (i := 3) (N := none) #[true, true, true, true, false] rfl rfl (by kernel_rfl) (by decide) (fun K hK => ?_)
                    have hs126 : w125.cell? ⟨gb302, 0, none⟩ = some (.bool false) := (blk_cell BK302.out 0).trans rfl
                    have hfs126 := blk_frozen BK302.out 0
                    have hns126_1 := NB360_302.out
                    have hms126_1 := NB302_360.out
                    have hs127 : w125.cell? ⟨gb302, 1, none⟩ = some (.bool false) := (blk_cell BK302.out 1).trans rfl
                    have hfs127 := blk_frozen BK302.out 1
                    have hns127_1 := NB360_302.out
                    have hms127_1 := NB302_360.out
                    have hs128 : w125.cell? ⟨gb302, 2, none⟩ = some (.bool false) := (blk_cell BK302.out 2).trans rfl
                    have hfs128 := blk_frozen BK302.out 2
                    have hns128_1 := NB360_302.out
                    have hms128_1 := NB302_360.out
                    have hs129 : w125.cell? ⟨gb302, 3, none⟩ = some (.bool false) := (blk_cell BK302.out 3).trans rfl
                    have hfs129 := blk_frozen BK302.out 3
                    have hns129_1 := NB360_302.out
                    have hms129_1 := NB302_360.out
                    refine skip_ (w1 := ?_) (by rfl) rfl ?_ ?_
                    rotate_left
                    · go_simp
                      rfl
                    refine hK.out _ _ ⟨((cell_far (p := ⟨gb302, _, none⟩) NB360_302.out _).trans (((cell_far (p := ⟨gb302, _, none⟩) NB360_302.out _).trans (((cell_far (p := ⟨gb302, _, none⟩) NB360_302.out _).trans (((cell_far (p := ⟨gb302, _, none⟩) NB360_302.out _).trans (hHeld.1)))))))), ((cell_far (p := ⟨gb302, _, none⟩) NB360_302.out _).trans (((cell_far (p := ⟨gb302, _, none⟩) NB360_302.out _).trans (((cell_far (p := ⟨gb302, _, none⟩) NB360_302.out _).trans (((cell_far (p := ⟨gb302, _, none⟩) NB360_302.out _).trans (hHeld.2.1)))))))), ((cell_far (p := ⟨gb302, _, none⟩) NB360_302.out _).trans (((cell_far (p := ⟨gb302, _, none⟩) NB360_302.out _).trans (((cell_far (p := ⟨gb302, _, none⟩) NB360_302.out _).trans (((cell_far (p := ⟨gb302, _, none⟩) NB360_302.out _).trans (hHeld.2.2.1)))))))), ((cell_far (p := ⟨gb302, _, none⟩) NB360_302.out _).trans (((cell_far (p := ⟨gb302, _, none⟩) NB360_302.out _).trans (((cell_far (p := ⟨gb302, _, none⟩) NB360_302.out _).trans (((cell_far (p := ⟨gb302, _, none⟩) NB360_302.out _).trans (hHeld.2.2.2))))))))⟩ (fun hHeld => ?_)
                    clear hK K
                    refine pure_ (i := 4) (N := some 12) (v := ?_) (a' := ?_) #[true, true, true, true, true] rfl rfl (by kernel_rfl) (fun _ _ _ h => h) (Or.inl ⟨by rfl, ?_⟩) ?_ ?_
                    rotate_left
                    · intro w'
                      go_simp
                      with_reducible rfl
                    rotate_left
                    · simp only [Act.put, List.setIfInBounds_toArray, List.set_cons_zero, List.set_cons_succ, i64_w, i32_w]
                      rfl
                    refine done_ (by kernel_rfl) ?_
                    try go_wp2
                    refine bodyPost_ret (results_list (rs := [.tmp 10, .cell 11 29, .tmp 12]) rfl (by simp) (.tmp (.cell gb302 29 #[.bool t356, .bool t357, .bool t358, .bool t359] (0, 0) _ rfl (by (with_reducible repeat (first | refine blk_drewN ?_ _ | refine blk_drew ?_ | refine blk_alloc ?_ _)); refine blk_put (cs := #[.bool t356, .bool t357, .bool t358, .bool false]) ?_ 3 _ rfl; (with_reducible repeat (first | refine blk_drewN ?_ _ | refine blk_drew ?_ | refine blk_alloc ?_ _)); refine blk_put (cs := #[.bool t356, .bool t357, .bool false, .bool false]) ?_ 2 _ rfl; (with_reducible repeat (first | refine blk_drewN ?_ _ | refine blk_drew ?_ | refine blk_alloc ?_ _)); refine blk_put (cs := #[.bool t356, .bool false, .bool false, .bool false]) ?_ 1 _ rfl; (with_reducible repeat (first | refine blk_drewN ?_ _ | refine blk_drew ?_ | refine blk_alloc ?_ _)); refine blk_put (cs := #[.bool false, .bool false, .bool false, .bool false]) ?_ 0 _ rfl; (with_reducible repeat (first | refine blk_drewN ?_ _ | refine blk_drew ?_ | refine blk_alloc ?_ _)); exact BK302.out) Try.underlying29 rfl (by kernel_rfl) (.tmp .nil)))) rfl ?_
                    exact ⟨by first | rfl | (simp [errW_none, errW_some] <;> rfl) | (simp [*, errW_none, errW_some] <;> rfl), by repeat (first | (with_reducible first | exact HB.out | apply below_alloc | apply pw_below_drewN | apply below_drew1 | refine below_set ?_ GE302.out | refine below_set ?_ GE360.out) | exact HB.out)⟩
                  · rw [if_neg c117] at H
                    have c117b0 : (a0 == 10) = false := beq_eq_false_iff_ne.mpr c117
                    have c117b1 : (a0 != 10) = true := bne_iff_ne.mpr c117
                    by_cases c130 : a0 = 11
                    · rw [if_pos c130] at H
                      have c130b0 : (a0 == 11) = true := beq_iff_eq.mpr c130
                      have c130b1 : (a0 != 11) = false := bne_eq_false_iff_eq.mpr c130
                      clear c130
                      replace H := Option.bind_eq_some_iff.mp H
                      obtain ⟨⟨t361, t362, t363, t364, t365, t366⟩, A1310, H⟩ := H
                      replace H : (some (t361, t362, t363, t364, t365, t366)) = some (r1, r2, r3, r4, r5, r6) := H
                      have A131 := Aside0.mk A1310
                      clear A1310
                      simp only [Option.some.injEq, Prod.mk.injEq] at H
                      obtain ⟨rfl, rfl, rfl, rfl, rfl, rfl⟩ := H
                      go_enter Try.func42, Try.ntmps42
                      go_wp2_with (first | ((with_reducible refine gate_dst (N := 11) rfl ?_); refine box_event ?hg (N := 11) ?hd (cs := #[.bool false, .bool false, .bool false, .bool false]) (t := 29) ?hr ?_; (case hd => rfl); (case hg => rfl); (case hr => first | (go_simp; done) | (go_simp; rfl)); intro gb302 hg w132 hbox hb; have n0_ := Aside0.mk (below_step (by repeat (first | (with_reducible first | exact HB.out | apply below_alloc | apply pw_below_drewN | apply below_drew1) | exact HB.out)) hb); have n1_ := Aside0.mk (hbox); have n2_ := Aside0.mk ((by rw [hg]; exact (below_size (by repeat (first | (with_reducible first | exact HB.out | apply below_alloc | apply pw_below_drewN | apply below_drew1) | exact HB.out))) : w.heap.size ≤ gb302)); have n3_ := Aside0.mk ((by rw [hg]; exact (below_size (by repeat (first | (with_reducible first | exact HB.out | apply below_alloc | apply pw_below_drewN | apply below_drew1) | exact HB.out))) : w.heap.size ≤ gb302)); clear HB; have HB := n0_; have BK302 := n1_; have GW302 := n2_; have GE302 := n3_; clear n0_ n1_ n2_ n3_; clear hb hbox hg) | ((with_reducible refine gate_callee (f := 44) rfl ?_); refine goesL_ (some 35) rfl rfl Try.func44 (by kernel_rfl) rfl #[.int .i64 a0] rfl (by (try simp only [List.map_toArray, List.map_cons, List.map_nil]); first | done | rfl | (simp only [List.length_drop, List.length_take]; rfl)) ?_; (with_reducible refine (camshaftref08_Logic.calls a0 false _ A6.out).mono ?_); rintro e w' ⟨rfl, ⟨nd, rfl⟩⟩; refine ⟨_, rfl, ?_⟩; (try (rw [drewN_self w132]; generalize hq_ : World.drewN w132 _ = w132; have n0_ : Aside0 (w132.heap[gb302]? = some (.cells #[.bool false, .bool false, .bool false, .bool false] 29 (0, 0))) := ⟨by rw [← hq_]; exact (by (with_reducible repeat (first | refine blk_drewN ?_ _ | refine blk_drew ?_ | refine blk_alloc ?_ _)); exact BK302.out)⟩; have n1_ : Aside0 (Below w.heap.size w w132) := ⟨by rw [← hq_]; exact (by repeat (first | (with_reducible first | exact HB.out | apply below_alloc | apply pw_below_drewN | apply below_drew1 | refine below_set ?_ GE302.out) | exact HB.out))⟩; clear BK302 HB hq_; have BK302 := n0_; have HB := n1_; clear n0_ n1_))) | ((with_reducible refine gate_callee (f := 45) rfl ?_); refine goesL_ (some 66) rfl rfl Try.func45 (by kernel_rfl) rfl #[.int .u32 a1, .int .i64 a4] rfl (by (try simp only [List.map_toArray, List.map_cons, List.map_nil]); first | done | rfl | (simp only [List.length_drop, List.length_take]; rfl)) ?_; (with_reducible refine (camshaftref01_Rest.calls a1 a4 t312 _ A25.out).mono ?_); rintro e w' ⟨rfl, ⟨nd, rfl⟩⟩; refine ⟨_, rfl, ?_⟩; (try (rw [drewN_self w132]; generalize hq_ : World.drewN w132 _ = w132; have n0_ : Aside0 (w132.heap[gb302]? = some (.cells #[.bool false, .bool false, .bool false, .bool false] 29 (0, 0))) := ⟨by rw [← hq_]; exact (by (with_reducible repeat (first | refine blk_drewN ?_ _ | refine blk_drew ?_ | refine blk_alloc ?_ _)); exact BK302.out)⟩; have n1_ : Aside0 (Below w.heap.size w w132) := ⟨by rw [← hq_]; exact (by repeat (first | (with_reducible first | exact HB.out | apply below_alloc | apply pw_below_drewN | apply below_drew1 | refine below_set ?_ GE302.out) | exact HB.out))⟩; clear BK302 HB hq_; have BK302 := n0_; have HB := n1_; clear n0_ n1_))) | ((with_reducible refine gate_callee (f := 39) rfl ?_); refine goesL_ (some 161) rfl rfl Try.func39 (by kernel_rfl) rfl #[.int .u32 a2, .int .u32 a1, .int .i64 a4] rfl (by (try simp only [List.map_toArray, List.map_cons, List.map_nil]); first | done | rfl | (simp only [List.length_drop, List.length_take]; rfl)) ?_; (with_reducible refine (camshaftref01_Div.calls k a2 a1 a4 t361 t362 t363 t364 t365 t366 _ A131.out).mono ?_); rintro e w133 ⟨rfl, hb⟩; refine ⟨_, rfl, ?_⟩; have n0_ := Aside0.mk (blk_below (g := gb302) (o := .cells #[.bool false, .bool false, .bool false, .bool false] 29 (0, 0)) (by (with_reducible repeat (first | refine blk_drewN ?_ _ | refine blk_drew ?_ | refine blk_alloc ?_ _)); exact BK302.out) hb); have n1_ := Aside0.mk (below_step (by repeat (first | (with_reducible first | exact HB.out | apply below_alloc | apply pw_below_drewN | apply below_drew1 | refine below_set ?_ GE302.out) | exact HB.out)) hb); clear BK302; clear HB; have BK302 := n0_; have HB := n1_; clear n0_ n1_; (try clear hb); (try clear hb2); (try clear hk); (try clear hi); have hcz134_0 : w133.cell? ⟨gb302, 0, none⟩ = some (.bool false) := (blk_cell BK302.out 0).trans rfl; have hcz134_1 : w133.cell? ⟨gb302, 1, none⟩ = some (.bool false) := (blk_cell BK302.out 1).trans rfl; have hcz134_2 : w133.cell? ⟨gb302, 2, none⟩ = some (.bool false) := (blk_cell BK302.out 2).trans rfl; have hcz134_3 : w133.cell? ⟨gb302, 3, none⟩ = some (.bool false) := (blk_cell BK302.out 3).trans rfl; have hfz134_0 := blk_frozen BK302.out 0; have hfz134_1 := blk_frozen BK302.out 1; have hfz134_2 := blk_frozen BK302.out 2; have hfz134_3 := blk_frozen BK302.out 3))
                      refine bodyPost_ret (results_list (rs := [.tmp 10, .cell 11 29, .tmp 12]) rfl (by simp) (.tmp (.cell gb302 29 #[.bool t362, .bool t363, .bool t364, .bool t365] (0, 0) _ rfl (by (with_reducible repeat (first | refine blk_drewN ?_ _ | refine blk_drew ?_ | refine blk_alloc ?_ _)); refine blk_put (cs := #[.bool t362, .bool t363, .bool t364, .bool false]) ?_ 3 _ rfl; (with_reducible repeat (first | refine blk_drewN ?_ _ | refine blk_drew ?_ | refine blk_alloc ?_ _)); refine blk_put (cs := #[.bool t362, .bool t363, .bool false, .bool false]) ?_ 2 _ rfl; (with_reducible repeat (first | refine blk_drewN ?_ _ | refine blk_drew ?_ | refine blk_alloc ?_ _)); refine blk_put (cs := #[.bool t362, .bool false, .bool false, .bool false]) ?_ 1 _ rfl; (with_reducible repeat (first | refine blk_drewN ?_ _ | refine blk_drew ?_ | refine blk_alloc ?_ _)); refine blk_put (cs := #[.bool false, .bool false, .bool false, .bool false]) ?_ 0 _ rfl; (with_reducible repeat (first | refine blk_drewN ?_ _ | refine blk_drew ?_ | refine blk_alloc ?_ _)); exact BK302.out) Try.underlying29 rfl (by kernel_rfl) (.tmp .nil)))) rfl ?_
                      exact ⟨by first | rfl | (simp [errW_none, errW_some] <;> rfl) | (simp [*, errW_none, errW_some] <;> rfl), by repeat (first | (with_reducible first | exact HB.out | apply below_alloc | apply pw_below_drewN | apply below_drew1 | refine below_set ?_ GE302.out) | exact HB.out)⟩
                    · rw [if_neg c130] at H
                      have c130b0 : (a0 == 11) = false := beq_eq_false_iff_ne.mpr c130
                      have c130b1 : (a0 != 11) = true := bne_iff_ne.mpr c130
                      by_cases c135 : a0 = 16
                      · rw [if_pos c135] at H
                        have c135b0 : (a0 == 16) = true := beq_iff_eq.mpr c135
                        have c135b1 : (a0 != 16) = false := bne_eq_false_iff_eq.mpr c135
                        clear c135
                        replace H := Option.bind_eq_some_iff.mp H
                        obtain ⟨⟨t367, t368, t369, t370⟩, A1360, H⟩ := H
                        replace H : (some ((t312) % 4294967296, t367, t368, t369, t370, true)) = some (r1, r2, r3, r4, r5, r6) := H
                        have A136 := Aside0.mk A1360
                        clear A1360
                        simp only [Option.some.injEq, Prod.mk.injEq] at H
                        obtain ⟨rfl, rfl, rfl, rfl, rfl, rfl⟩ := H
                        go_enter Try.func42, Try.ntmps42
                        go_wp2_with (first | ((with_reducible refine gate_dst (N := 11) rfl ?_); refine box_event ?hg (N := 11) ?hd (cs := #[.bool false, .bool false, .bool false, .bool false]) (t := 29) ?hr ?_; (case hd => rfl); (case hg => rfl); (case hr => first | (go_simp; done) | (go_simp; rfl)); intro gb302 hg w137 hbox hb; have n0_ := Aside0.mk (below_step (by repeat (first | (with_reducible first | exact HB.out | apply below_alloc | apply pw_below_drewN | apply below_drew1) | exact HB.out)) hb); have n1_ := Aside0.mk (hbox); have n2_ := Aside0.mk ((by rw [hg]; exact (below_size (by repeat (first | (with_reducible first | exact HB.out | apply below_alloc | apply pw_below_drewN | apply below_drew1) | exact HB.out))) : w.heap.size ≤ gb302)); have n3_ := Aside0.mk ((by rw [hg]; exact (below_size (by repeat (first | (with_reducible first | exact HB.out | apply below_alloc | apply pw_below_drewN | apply below_drew1) | exact HB.out))) : w.heap.size ≤ gb302)); clear HB; have HB := n0_; have BK302 := n1_; have GW302 := n2_; have GE302 := n3_; clear n0_ n1_ n2_ n3_; clear hb hbox hg) | ((with_reducible refine gate_callee (f := 44) rfl ?_); refine goesL_ (some 35) rfl rfl Try.func44 (by kernel_rfl) rfl #[.int .i64 a0] rfl (by (try simp only [List.map_toArray, List.map_cons, List.map_nil]); first | done | rfl | (simp only [List.length_drop, List.length_take]; rfl)) ?_; (with_reducible refine (camshaftref08_Logic.calls a0 false _ A6.out).mono ?_); rintro e w' ⟨rfl, ⟨nd, rfl⟩⟩; refine ⟨_, rfl, ?_⟩; (try (rw [drewN_self w137]; generalize hq_ : World.drewN w137 _ = w137; have n0_ : Aside0 (w137.heap[gb302]? = some (.cells #[.bool false, .bool false, .bool false, .bool false] 29 (0, 0))) := ⟨by rw [← hq_]; exact (by (with_reducible repeat (first | refine blk_drewN ?_ _ | refine blk_drew ?_ | refine blk_alloc ?_ _)); exact BK302.out)⟩; have n1_ : Aside0 (Below w.heap.size w w137) := ⟨by rw [← hq_]; exact (by repeat (first | (with_reducible first | exact HB.out | apply below_alloc | apply pw_below_drewN | apply below_drew1 | refine below_set ?_ GE302.out) | exact HB.out))⟩; clear BK302 HB hq_; have BK302 := n0_; have HB := n1_; clear n0_ n1_))) | ((with_reducible refine gate_callee (f := 45) rfl ?_); refine goesL_ (some 66) rfl rfl Try.func45 (by kernel_rfl) rfl #[.int .u32 a1, .int .i64 a4] rfl (by (try simp only [List.map_toArray, List.map_cons, List.map_nil]); first | done | rfl | (simp only [List.length_drop, List.length_take]; rfl)) ?_; (with_reducible refine (camshaftref01_Rest.calls a1 a4 t312 _ A25.out).mono ?_); rintro e w' ⟨rfl, ⟨nd, rfl⟩⟩; refine ⟨_, rfl, ?_⟩; (try (rw [drewN_self w137]; generalize hq_ : World.drewN w137 _ = w137; have n0_ : Aside0 (w137.heap[gb302]? = some (.cells #[.bool false, .bool false, .bool false, .bool false] 29 (0, 0))) := ⟨by rw [← hq_]; exact (by (with_reducible repeat (first | refine blk_drewN ?_ _ | refine blk_drew ?_ | refine blk_alloc ?_ _)); exact BK302.out)⟩; have n1_ : Aside0 (Below w.heap.size w w137) := ⟨by rw [← hq_]; exact (by repeat (first | (with_reducible first | exact HB.out | apply below_alloc | apply pw_below_drewN | apply below_drew1 | refine below_set ?_ GE302.out) | exact HB.out))⟩; clear BK302 HB hq_; have BK302 := n0_; have HB := n1_; clear n0_ n1_))) | ((with_reducible refine gate_callee (f := 35) rfl ?_); refine goesL_ (some 171) rfl rfl Try.func35 (by kernel_rfl) rfl #[.int .u32 a1, .int .u32 a2, .int .i64 a4] rfl (by (try simp only [List.map_toArray, List.map_cons, List.map_nil]); first | done | rfl | (simp only [List.length_drop, List.length_take]; rfl)) ?_; (with_reducible refine (camshaftref01_Compare.calls a1 a2 a4 t367 t368 t369 t370 _ A136.out).mono ?_); rintro e w138 ⟨rfl, hb⟩; refine ⟨_, rfl, ?_⟩; have n0_ := Aside0.mk (blk_below (g := gb302) (o := .cells #[.bool false, .bool false, .bool false, .bool false] 29 (0, 0)) (by (with_reducible repeat (first | refine blk_drewN ?_ _ | refine blk_drew ?_ | refine blk_alloc ?_ _)); exact BK302.out) hb); have n1_ := Aside0.mk (below_step (by repeat (first | (with_reducible first | exact HB.out | apply below_alloc | apply pw_below_drewN | apply below_drew1 | refine below_set ?_ GE302.out) | exact HB.out)) hb); clear BK302; clear HB; have BK302 := n0_; have HB := n1_; clear n0_ n1_; (try clear hb); (try clear hb2); (try clear hk); (try clear hi); have hcz139_0 : w138.cell? ⟨gb302, 0, none⟩ = some (.bool false) := (blk_cell BK302.out 0).trans rfl; have hcz139_1 : w138.cell? ⟨gb302, 1, none⟩ = some (.bool false) := (blk_cell BK302.out 1).trans rfl; have hcz139_2 : w138.cell? ⟨gb302, 2, none⟩ = some (.bool false) := (blk_cell BK302.out 2).trans rfl; have hcz139_3 : w138.cell? ⟨gb302, 3, none⟩ = some (.bool false) := (blk_cell BK302.out 3).trans rfl; have hfz139_0 := blk_frozen BK302.out 0; have hfz139_1 := blk_frozen BK302.out 1; have hfz139_2 := blk_frozen BK302.out 2; have hfz139_3 := blk_frozen BK302.out 3))
                        refine bodyPost_ret (results_list (rs := [.tmp 10, .cell 11 29, .tmp 12]) rfl (by simp) (.tmp (.cell gb302 29 #[.bool t367, .bool t368, .bool t369, .bool t370] (0, 0) _ rfl (by (with_reducible repeat (first | refine blk_drewN ?_ _ | refine blk_drew ?_ | refine blk_alloc ?_ _)); refine blk_put (cs := #[.bool t367, .bool t368, .bool t369, .bool false]) ?_ 3 _ rfl; (with_reducible repeat (first | refine blk_drewN ?_ _ | refine blk_drew ?_ | refine blk_alloc ?_ _)); refine blk_put (cs := #[.bool t367, .bool t368, .bool false, .bool false]) ?_ 2 _ rfl; (with_reducible repeat (first | refine blk_drewN ?_ _ | refine blk_drew ?_ | refine blk_alloc ?_ _)); refine blk_put (cs := #[.bool t367, .bool false, .bool false, .bool false]) ?_ 1 _ rfl; (with_reducible repeat (first | refine blk_drewN ?_ _ | refine blk_drew ?_ | refine blk_alloc ?_ _)); refine blk_put (cs := #[.bool false, .bool false, .bool false, .bool false]) ?_ 0 _ rfl; (with_reducible repeat (first | refine blk_drewN ?_ _ | refine blk_drew ?_ | refine blk_alloc ?_ _)); exact BK302.out) Try.underlying29 rfl (by kernel_rfl) (.tmp .nil)))) rfl ?_
                        exact ⟨by first | rfl | (simp [errW_none, errW_some] <;> rfl) | (simp [*, errW_none, errW_some] <;> rfl), by repeat (first | (with_reducible first | exact HB.out | apply below_alloc | apply pw_below_drewN | apply below_drew1 | refine below_set ?_ GE302.out) | exact HB.out)⟩
                      · rw [if_neg c135] at H
                        have c135b0 : (a0 == 16) = false := beq_eq_false_iff_ne.mpr c135
                        have c135b1 : (a0 != 16) = true := bne_iff_ne.mpr c135
                        by_cases c140 : a0 = 17
                        · rw [if_pos c140] at H
                          have c140b0 : (a0 == 17) = true := beq_iff_eq.mpr c140
                          have c140b1 : (a0 != 17) = false := bne_eq_false_iff_eq.mpr c140
                          clear c140
                          replace H := Option.bind_eq_some_iff.mp H
                          obtain ⟨⟨t371, t372, t373, t374⟩, A1410, H⟩ := H
                          replace H : (some ((t312) % 4294967296, t371, t372, t373, t374, true)) = some (r1, r2, r3, r4, r5, r6) := H
                          have A141 := Aside0.mk A1410
                          clear A1410
                          simp only [Option.some.injEq, Prod.mk.injEq] at H
                          obtain ⟨rfl, rfl, rfl, rfl, rfl, rfl⟩ := H
                          go_enter Try.func42, Try.ntmps42
                          go_wp2_with (first | ((with_reducible refine gate_dst (N := 11) rfl ?_); refine box_event ?hg (N := 11) ?hd (cs := #[.bool false, .bool false, .bool false, .bool false]) (t := 29) ?hr ?_; (case hd => rfl); (case hg => rfl); (case hr => first | (go_simp; done) | (go_simp; rfl)); intro gb302 hg w142 hbox hb; have n0_ := Aside0.mk (below_step (by repeat (first | (with_reducible first | exact HB.out | apply below_alloc | apply pw_below_drewN | apply below_drew1) | exact HB.out)) hb); have n1_ := Aside0.mk (hbox); have n2_ := Aside0.mk ((by rw [hg]; exact (below_size (by repeat (first | (with_reducible first | exact HB.out | apply below_alloc | apply pw_below_drewN | apply below_drew1) | exact HB.out))) : w.heap.size ≤ gb302)); have n3_ := Aside0.mk ((by rw [hg]; exact (below_size (by repeat (first | (with_reducible first | exact HB.out | apply below_alloc | apply pw_below_drewN | apply below_drew1) | exact HB.out))) : w.heap.size ≤ gb302)); clear HB; have HB := n0_; have BK302 := n1_; have GW302 := n2_; have GE302 := n3_; clear n0_ n1_ n2_ n3_; clear hb hbox hg) | ((with_reducible refine gate_callee (f := 44) rfl ?_); refine goesL_ (some 35) rfl rfl Try.func44 (by kernel_rfl) rfl #[.int .i64 a0] rfl (by (try simp only [List.map_toArray, List.map_cons, List.map_nil]); first | done | rfl | (simp only [List.length_drop, List.length_take]; rfl)) ?_; (with_reducible refine (camshaftref08_Logic.calls a0 false _ A6.out).mono ?_); rintro e w' ⟨rfl, ⟨nd, rfl⟩⟩; refine ⟨_, rfl, ?_⟩; (try (rw [drewN_self w142]; generalize hq_ : World.drewN w142 _ = w142; have n0_ : Aside0 (w142.heap[gb302]? = some (.cells #[.bool false, .bool false, .bool false, .bool false] 29 (0, 0))) := ⟨by rw [← hq_]; exact (by (with_reducible repeat (first | refine blk_drewN ?_ _ | refine blk_drew ?_ | refine blk_alloc ?_ _)); exact BK302.out)⟩; have n1_ : Aside0 (Below w.heap.size w w142) := ⟨by rw [← hq_]; exact (by repeat (first | (with_reducible first | exact HB.out | apply below_alloc | apply pw_below_drewN | apply below_drew1 | refine below_set ?_ GE302.out) | exact HB.out))⟩; clear BK302 HB hq_; have BK302 := n0_; have HB := n1_; clear n0_ n1_))) | ((with_reducible refine gate_callee (f := 45) rfl ?_); refine goesL_ (some 66) rfl rfl Try.func45 (by kernel_rfl) rfl #[.int .u32 a1, .int .i64 a4] rfl (by (try simp only [List.map_toArray, List.map_cons, List.map_nil]); first | done | rfl | (simp only [List.length_drop, List.length_take]; rfl)) ?_; (with_reducible refine (camshaftref01_Rest.calls a1 a4 t312 _ A25.out).mono ?_); rintro e w' ⟨rfl, ⟨nd, rfl⟩⟩; refine ⟨_, rfl, ?_⟩; (try (rw [drewN_self w142]; generalize hq_ : World.drewN w142 _ = w142; have n0_ : Aside0 (w142.heap[gb302]? = some (.cells #[.bool false, .bool false, .bool false, .bool false] 29 (0, 0))) := ⟨by rw [← hq_]; exact (by (with_reducible repeat (first | refine blk_drewN ?_ _ | refine blk_drew ?_ | refine blk_alloc ?_ _)); exact BK302.out)⟩; have n1_ : Aside0 (Below w.heap.size w w142) := ⟨by rw [← hq_]; exact (by repeat (first | (with_reducible first | exact HB.out | apply below_alloc | apply pw_below_drewN | apply below_drew1 | refine below_set ?_ GE302.out) | exact HB.out))⟩; clear BK302 HB hq_; have BK302 := n0_; have HB := n1_; clear n0_ n1_))) | ((with_reducible refine gate_callee (f := 31) rfl ?_); refine goesL_ (some 177) rfl rfl Try.func31 (by kernel_rfl) rfl #[.int .u32 a1, .int .i64 a4] rfl (by (try simp only [List.map_toArray, List.map_cons, List.map_nil]); first | done | rfl | (simp only [List.length_drop, List.length_take]; rfl)) ?_; (with_reducible refine (camshaftref01_Signs.calls a1 a4 t371 t372 t373 t374 _ A141.out).mono ?_); rintro e w143 ⟨rfl, hb⟩; refine ⟨_, rfl, ?_⟩; have n0_ := Aside0.mk (blk_below (g := gb302) (o := .cells #[.bool false, .bool false, .bool false, .bool false] 29 (0, 0)) (by (with_reducible repeat (first | refine blk_drewN ?_ _ | refine blk_drew ?_ | refine blk_alloc ?_ _)); exact BK302.out) hb); have n1_ := Aside0.mk (below_step (by repeat (first | (with_reducible first | exact HB.out | apply below_alloc | apply pw_below_drewN | apply below_drew1 | refine below_set ?_ GE302.out) | exact HB.out)) hb); clear BK302; clear HB; have BK302 := n0_; have HB := n1_; clear n0_ n1_; (try clear hb); (try clear hb2); (try clear hk); (try clear hi); have hcz144_0 : w143.cell? ⟨gb302, 0, none⟩ = some (.bool false) := (blk_cell BK302.out 0).trans rfl; have hcz144_1 : w143.cell? ⟨gb302, 1, none⟩ = some (.bool false) := (blk_cell BK302.out 1).trans rfl; have hcz144_2 : w143.cell? ⟨gb302, 2, none⟩ = some (.bool false) := (blk_cell BK302.out 2).trans rfl; have hcz144_3 : w143.cell? ⟨gb302, 3, none⟩ = some (.bool false) := (blk_cell BK302.out 3).trans rfl; have hfz144_0 := blk_frozen BK302.out 0; have hfz144_1 := blk_frozen BK302.out 1; have hfz144_2 := blk_frozen BK302.out 2; have hfz144_3 := blk_frozen BK302.out 3))
                          refine bodyPost_ret (results_list (rs := [.tmp 10, .cell 11 29, .tmp 12]) rfl (by simp) (.tmp (.cell gb302 29 #[.bool t371, .bool t372, .bool t373, .bool t374] (0, 0) _ rfl (by (with_reducible repeat (first | refine blk_drewN ?_ _ | refine blk_drew ?_ | refine blk_alloc ?_ _)); refine blk_put (cs := #[.bool t371, .bool t372, .bool t373, .bool false]) ?_ 3 _ rfl; (with_reducible repeat (first | refine blk_drewN ?_ _ | refine blk_drew ?_ | refine blk_alloc ?_ _)); refine blk_put (cs := #[.bool t371, .bool t372, .bool false, .bool false]) ?_ 2 _ rfl; (with_reducible repeat (first | refine blk_drewN ?_ _ | refine blk_drew ?_ | refine blk_alloc ?_ _)); refine blk_put (cs := #[.bool t371, .bool false, .bool false, .bool false]) ?_ 1 _ rfl; (with_reducible repeat (first | refine blk_drewN ?_ _ | refine blk_drew ?_ | refine blk_alloc ?_ _)); refine blk_put (cs := #[.bool false, .bool false, .bool false, .bool false]) ?_ 0 _ rfl; (with_reducible repeat (first | refine blk_drewN ?_ _ | refine blk_drew ?_ | refine blk_alloc ?_ _)); exact BK302.out) Try.underlying29 rfl (by kernel_rfl) (.tmp .nil)))) rfl ?_
                          exact ⟨by first | rfl | (simp [errW_none, errW_some] <;> rfl) | (simp [*, errW_none, errW_some] <;> rfl), by repeat (first | (with_reducible first | exact HB.out | apply below_alloc | apply pw_below_drewN | apply below_drew1 | refine below_set ?_ GE302.out) | exact HB.out)⟩
                        · rw [if_neg c140] at H
                          have c140b0 : (a0 == 17) = false := beq_eq_false_iff_ne.mpr c140
                          have c140b1 : (a0 != 17) = true := bne_iff_ne.mpr c140
                          simp only [Option.some.injEq, Prod.mk.injEq] at H
                          obtain ⟨rfl, rfl, rfl, rfl, rfl, rfl⟩ := H
                          go_enter Try.func42, Try.ntmps42
                          go_wp2_with (first | ((with_reducible refine gate_dst (N := 11) rfl ?_); refine box_event ?hg (N := 11) ?hd (cs := #[.bool false, .bool false, .bool false, .bool false]) (t := 29) ?hr ?_; (case hd => rfl); (case hg => rfl); (case hr => first | (go_simp; done) | (go_simp; rfl)); intro gb302 hg w145 hbox hb; have n0_ := Aside0.mk (below_step (by repeat (first | (with_reducible first | exact HB.out | apply below_alloc | apply pw_below_drewN | apply below_drew1) | exact HB.out)) hb); have n1_ := Aside0.mk (hbox); have n2_ := Aside0.mk ((by rw [hg]; exact (below_size (by repeat (first | (with_reducible first | exact HB.out | apply below_alloc | apply pw_below_drewN | apply below_drew1) | exact HB.out))) : w.heap.size ≤ gb302)); have n3_ := Aside0.mk ((by rw [hg]; exact (below_size (by repeat (first | (with_reducible first | exact HB.out | apply below_alloc | apply pw_below_drewN | apply below_drew1) | exact HB.out))) : w.heap.size ≤ gb302)); clear HB; have HB := n0_; have BK302 := n1_; have GW302 := n2_; have GE302 := n3_; clear n0_ n1_ n2_ n3_; clear hb hbox hg) | ((with_reducible refine gate_callee (f := 44) rfl ?_); refine goesL_ (some 35) rfl rfl Try.func44 (by kernel_rfl) rfl #[.int .i64 a0] rfl (by (try simp only [List.map_toArray, List.map_cons, List.map_nil]); first | done | rfl | (simp only [List.length_drop, List.length_take]; rfl)) ?_; (with_reducible refine (camshaftref08_Logic.calls a0 false _ A6.out).mono ?_); rintro e w' ⟨rfl, ⟨nd, rfl⟩⟩; refine ⟨_, rfl, ?_⟩; (try (rw [drewN_self w145]; generalize hq_ : World.drewN w145 _ = w145; have n0_ : Aside0 (w145.heap[gb302]? = some (.cells #[.bool false, .bool false, .bool false, .bool false] 29 (0, 0))) := ⟨by rw [← hq_]; exact (by (with_reducible repeat (first | refine blk_drewN ?_ _ | refine blk_drew ?_ | refine blk_alloc ?_ _)); exact BK302.out)⟩; have n1_ : Aside0 (Below w.heap.size w w145) := ⟨by rw [← hq_]; exact (by repeat (first | (with_reducible first | exact HB.out | apply below_alloc | apply pw_below_drewN | apply below_drew1 | refine below_set ?_ GE302.out) | exact HB.out))⟩; clear BK302 HB hq_; have BK302 := n0_; have HB := n1_; clear n0_ n1_))) | ((with_reducible refine gate_callee (f := 45) rfl ?_); refine goesL_ (some 66) rfl rfl Try.func45 (by kernel_rfl) rfl #[.int .u32 a1, .int .i64 a4] rfl (by (try simp only [List.map_toArray, List.map_cons, List.map_nil]); first | done | rfl | (simp only [List.length_drop, List.length_take]; rfl)) ?_; (with_reducible refine (camshaftref01_Rest.calls a1 a4 t312 _ A25.out).mono ?_); rintro e w' ⟨rfl, ⟨nd, rfl⟩⟩; refine ⟨_, rfl, ?_⟩; (try (rw [drewN_self w145]; generalize hq_ : World.drewN w145 _ = w145; have n0_ : Aside0 (w145.heap[gb302]? = some (.cells #[.bool false, .bool false, .bool false, .bool false] 29 (0, 0))) := ⟨by rw [← hq_]; exact (by (with_reducible repeat (first | refine blk_drewN ?_ _ | refine blk_drew ?_ | refine blk_alloc ?_ _)); exact BK302.out)⟩; have n1_ : Aside0 (Below w.heap.size w w145) := ⟨by rw [← hq_]; exact (by repeat (first | (with_reducible first | exact HB.out | apply below_alloc | apply pw_below_drewN | apply below_drew1 | refine below_set ?_ GE302.out) | exact HB.out))⟩; clear BK302 HB hq_; have BK302 := n0_; have HB := n1_; clear n0_ n1_)); have hcz146_0 : w145.cell? ⟨gb302, 0, none⟩ = some (.bool false) := (blk_cell BK302.out 0).trans rfl; have hcz146_1 : w145.cell? ⟨gb302, 1, none⟩ = some (.bool false) := (blk_cell BK302.out 1).trans rfl; have hcz146_2 : w145.cell? ⟨gb302, 2, none⟩ = some (.bool false) := (blk_cell BK302.out 2).trans rfl; have hcz146_3 : w145.cell? ⟨gb302, 3, none⟩ = some (.bool false) := (blk_cell BK302.out 3).trans rfl; have hfz146_0 := blk_frozen BK302.out 0; have hfz146_1 := blk_frozen BK302.out 1; have hfz146_2 := blk_frozen BK302.out 2; have hfz146_3 := blk_frozen BK302.out 3))
                          refine bodyPost_ret (results_list (rs := [.tmp 10, .cell 11 29, .tmp 12]) rfl (by simp) (.tmp (.cell gb302 29 #[.bool false, .bool false, .bool false, .bool false] (0, 0) _ rfl (by (with_reducible repeat (first | refine blk_drewN ?_ _ | refine blk_drew ?_ | refine blk_alloc ?_ _)); refine blk_put (cs := #[.bool false, .bool false, .bool false, .bool false]) ?_ 3 _ rfl; (with_reducible repeat (first | refine blk_drewN ?_ _ | refine blk_drew ?_ | refine blk_alloc ?_ _)); refine blk_put (cs := #[.bool false, .bool false, .bool false, .bool false]) ?_ 2 _ rfl; (with_reducible repeat (first | refine blk_drewN ?_ _ | refine blk_drew ?_ | refine blk_alloc ?_ _)); refine blk_put (cs := #[.bool false, .bool false, .bool false, .bool false]) ?_ 1 _ rfl; (with_reducible repeat (first | refine blk_drewN ?_ _ | refine blk_drew ?_ | refine blk_alloc ?_ _)); refine blk_put (cs := #[.bool false, .bool false, .bool false, .bool false]) ?_ 0 _ rfl; (with_reducible repeat (first | refine blk_drewN ?_ _ | refine blk_drew ?_ | refine blk_alloc ?_ _)); exact BK302.out) Try.underlying29 rfl (by kernel_rfl) (.tmp .nil)))) rfl ?_
                          exact ⟨by first | rfl | (simp [errW_none, errW_some] <;> rfl) | (simp [*, errW_none, errW_some] <;> rfl), by repeat (first | (with_reducible first | exact HB.out | apply below_alloc | apply pw_below_drewN | apply below_drew1 | refine below_set ?_ GE302.out) | exact HB.out)⟩

end Go.Proofs.Ytmmmifgddkfehaa.PAlu
