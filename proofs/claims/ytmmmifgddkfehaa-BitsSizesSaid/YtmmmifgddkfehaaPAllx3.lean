-- Written by wip/oprint.py, a program of this session's repo, out of the translation. Not trusted: Lean checks it.
import Derived.Test.YtmmmifgddkfehaaPAllx0
import Derived.Test.YtmmmifgddkfehaaPAllx2
namespace Go.Proofs.Ytmmmifgddkfehaa.PAll
open Go.RowKit Go.Proofs.YtmmmifgddkfehaaW.PrintWords Go.Proofs.YtmmmifgddkfehaaW.PrintLast Go.Proofs.YtmmmifgddkfehaaW.PrintMore
attribute [local go_sem] max2_int min2_int max_two min_two max_three min_three max_four min_four   -- for this text's walks alone
set_option linter.unusedVariables false
set_option linter.unusedSimpArgs false

/-! ### camshaftref01_Size: function 17 -/
def camshaftref01_Size.f (a0 : Int) : Option (Bool) := if a0 = 1 then (some true) else (if a0 = 2 then (some true) else (some (a0 == 4)))
set_option maxHeartbeats 8000000 in
set_option maxRecDepth 100000 in
theorem camshaftref01_Size.calls (a0 : Int) (r : Bool) (w : World) (h : camshaftref01_Size.f a0 = some r) :
    Calls Try.prog 17 #[.int .i64 a0] w fun e w' => e = .returned (.bool r) ∧ Drawn0 w w' := by
  have H : (if a0 = 1 then (some true) else (if a0 = 2 then (some true) else (some (a0 == 4)))) = some r := h
  clear h
  by_cases c2 : a0 = 1
  · rw [if_pos c2] at H
    have c2b0 : (a0 == 1) = true := beq_iff_eq.mpr c2
    have c2b1 : (a0 != 1) = false := bne_eq_false_iff_eq.mpr c2
    clear c2
    obtain rfl := Option.some.inj H
    go_enter Try.func17, Try.ntmps17
    go_wp2
    go_ret
    exact ⟨by first | rfl | (simp; done) | (simp [*]; done), by repeat (first | exact Drawn0.refl _ | apply Drawn0.step)⟩
  · rw [if_neg c2] at H
    have c2b0 : (a0 == 1) = false := beq_eq_false_iff_ne.mpr c2
    have c2b1 : (a0 != 1) = true := bne_iff_ne.mpr c2
    by_cases c3 : a0 = 2
    · rw [if_pos c3] at H
      have c3b0 : (a0 == 2) = true := beq_iff_eq.mpr c3
      have c3b1 : (a0 != 2) = false := bne_eq_false_iff_eq.mpr c3
      clear c3
      obtain rfl := Option.some.inj H
      go_enter Try.func17, Try.ntmps17
      go_wp2
      go_ret
      exact ⟨by first | rfl | (simp; done) | (simp [*]; done), by repeat (first | exact Drawn0.refl _ | apply Drawn0.step)⟩
    · rw [if_neg c3] at H
      have c3b0 : (a0 == 2) = false := beq_eq_false_iff_ne.mpr c3
      have c3b1 : (a0 != 2) = true := bne_iff_ne.mpr c3
      obtain rfl := Option.some.inj H
      go_enter Try.func17, Try.ntmps17
      go_wp2
      go_ret
      exact ⟨by first | rfl | (simp; done) | (simp [*]; done), by repeat (first | exact Drawn0.refl _ | apply Drawn0.step)⟩

/-! ### bits_Put: function 18 -/
def bits_Put.f (a0 : Int) (a1 : Int) (a2 : Int) : Option (Int) := (bits_Mask.f a2).bind fun t113 => ((bits_Mask.f a2).bind fun t114 => (some (Go.bits .or .u32 (Go.bits .andNot .u32 a0 t113) (Go.bits .and .u32 a1 t114))))
set_option maxHeartbeats 8000000 in
set_option maxRecDepth 100000 in
theorem bits_Put.calls (a0 : Int) (a1 : Int) (a2 : Int) (r : Int) (w : World) (h : bits_Put.f a0 a1 a2 = some r) :
    Calls Try.prog 18 #[.int .u32 a0, .int .u32 a1, .int .i64 a2] w fun e w' => e = .returned (.int .u32 r) ∧ Drawn0 w w' := by
  have H : ((bits_Mask.f a2).bind fun t113 => ((bits_Mask.f a2).bind fun t114 => (some (Go.bits .or .u32 (Go.bits .andNot .u32 a0 t113) (Go.bits .and .u32 a1 t114))))) = some r := h
  clear h
  replace H := Option.bind_eq_some_iff.mp H
  obtain ⟨t113, A40, H⟩ := H
  replace H : ((bits_Mask.f a2).bind fun t114 => (some (Go.bits .or .u32 (Go.bits .andNot .u32 a0 t113) (Go.bits .and .u32 a1 t114)))) = some r := H
  have A4 := Aside0.mk A40
  clear A40
  replace H := Option.bind_eq_some_iff.mp H
  obtain ⟨t114, A50, H⟩ := H
  replace H : (some (Go.bits .or .u32 (Go.bits .andNot .u32 a0 t113) (Go.bits .and .u32 a1 t114))) = some r := H
  have A5 := Aside0.mk A50
  clear A50
  obtain rfl := Option.some.inj H
  go_enter Try.func18, Try.ntmps18
  go_wp2_with (first | ((with_reducible refine gate_callee (f := 19) rfl ?_); refine goesL_ (some 9) rfl rfl Try.func19 (by kernel_rfl) rfl #[.int .i64 a2] rfl (by (try simp only [List.map_toArray, List.map_cons, List.map_nil]); first | done | rfl | (simp only [List.length_drop, List.length_take]; rfl)) ?_; (with_reducible refine (bits_Mask.calls a2 t113 _ A4.out).mono ?_); rintro e w' ⟨rfl, ⟨nd, rfl⟩⟩; refine ⟨_, rfl, ?_⟩) | ((with_reducible refine gate_callee (f := 19) rfl ?_); refine goesL_ (some 13) rfl rfl Try.func19 (by kernel_rfl) rfl #[.int .i64 a2] rfl (by (try simp only [List.map_toArray, List.map_cons, List.map_nil]); first | done | rfl | (simp only [List.length_drop, List.length_take]; rfl)) ?_; (with_reducible refine (bits_Mask.calls a2 t114 _ A5.out).mono ?_); rintro e w' ⟨rfl, ⟨nd, rfl⟩⟩; refine ⟨_, rfl, ?_⟩))
  go_ret
  exact ⟨by first | rfl | (simp; done) | (simp [*]; done), by repeat (first | exact Drawn0.refl _ | apply Drawn0.step)⟩

/-! ### camshaftlaw01_BitsPuts: function 3 -/
def camshaftlaw01_BitsPuts.f (a0 : Int) (a1 : Int) (a2 : Int) : Option (Bool) := (camshaftlaw01_alive.f).bind fun t115 => (if t115 = true then ((camshaftref01_Size.f a2).bind fun t116 => (if t116 = true then ((bits_Put.f a0 a1 a2).bind fun t117 => ((bits_Mask.f a2).bind fun t118 => (if (Go.bits .and .u32 t117 t118) = (Go.bits .and .u32 a1 t118) then (if (Go.bits .andNot .u32 t117 t118) = (Go.bits .andNot .u32 a0 t118) then ((bits_Put.f t117 a0 a2).bind fun t119 => (if t119 = a0 then ((bits_Put.f 0 a1 a2).bind fun t120 => (if t120 = (Go.bits .and .u32 a1 t118) then ((bits_Top.f a2).bind fun t121 => (some ((Go.bits .and .u32 t121 t118) != 0))) else (none))) else (none))) else (none)) else (none)))) else (some true))) else (none))
set_option maxHeartbeats 8000000 in
set_option maxRecDepth 100000 in
theorem camshaftlaw01_BitsPuts.calls (a0 : Int) (a1 : Int) (a2 : Int) (r : Bool) (w : World) (h : camshaftlaw01_BitsPuts.f a0 a1 a2 = some r) :
    Calls Try.prog 3 #[.int .u32 a0, .int .u32 a1, .int .i64 a2] w fun e w' => e = .returned (.bool r) ∧ Below w.heap.size w w' := by
  have HB := Aside0.mk (Below.refl w.heap.size w)
  have H : ((camshaftlaw01_alive.f).bind fun t115 => (if t115 = true then ((camshaftref01_Size.f a2).bind fun t116 => (if t116 = true then ((bits_Put.f a0 a1 a2).bind fun t117 => ((bits_Mask.f a2).bind fun t118 => (if (Go.bits .and .u32 t117 t118) = (Go.bits .and .u32 a1 t118) then (if (Go.bits .andNot .u32 t117 t118) = (Go.bits .andNot .u32 a0 t118) then ((bits_Put.f t117 a0 a2).bind fun t119 => (if t119 = a0 then ((bits_Put.f 0 a1 a2).bind fun t120 => (if t120 = (Go.bits .and .u32 a1 t118) then ((bits_Top.f a2).bind fun t121 => (some ((Go.bits .and .u32 t121 t118) != 0))) else (none))) else (none))) else (none)) else (none)))) else (some true))) else (none))) = some r := h
  clear h
  replace H := Option.bind_eq_some_iff.mp H
  obtain ⟨t115, A40, H⟩ := H
  replace H : (if t115 = true then ((camshaftref01_Size.f a2).bind fun t116 => (if t116 = true then ((bits_Put.f a0 a1 a2).bind fun t117 => ((bits_Mask.f a2).bind fun t118 => (if (Go.bits .and .u32 t117 t118) = (Go.bits .and .u32 a1 t118) then (if (Go.bits .andNot .u32 t117 t118) = (Go.bits .andNot .u32 a0 t118) then ((bits_Put.f t117 a0 a2).bind fun t119 => (if t119 = a0 then ((bits_Put.f 0 a1 a2).bind fun t120 => (if t120 = (Go.bits .and .u32 a1 t118) then ((bits_Top.f a2).bind fun t121 => (some ((Go.bits .and .u32 t121 t118) != 0))) else (none))) else (none))) else (none)) else (none)))) else (some true))) else (none)) = some r := H
  have A4 := Aside0.mk A40
  clear A40
  by_cases c5 : t115 = true
  · subst c5
    have H1 : ((camshaftref01_Size.f a2).bind fun t116 => (if t116 = true then ((bits_Put.f a0 a1 a2).bind fun t117 => ((bits_Mask.f a2).bind fun t118 => (if (Go.bits .and .u32 t117 t118) = (Go.bits .and .u32 a1 t118) then (if (Go.bits .andNot .u32 t117 t118) = (Go.bits .andNot .u32 a0 t118) then ((bits_Put.f t117 a0 a2).bind fun t119 => (if t119 = a0 then ((bits_Put.f 0 a1 a2).bind fun t120 => (if t120 = (Go.bits .and .u32 a1 t118) then ((bits_Top.f a2).bind fun t121 => (some ((Go.bits .and .u32 t121 t118) != 0))) else (none))) else (none))) else (none)) else (none)))) else (some true))) = some r := by rw [if_pos rfl] at H; exact H
    clear H
    have H := H1
    clear H1
    replace H := Option.bind_eq_some_iff.mp H
    obtain ⟨t116, A60, H⟩ := H
    replace H : (if t116 = true then ((bits_Put.f a0 a1 a2).bind fun t117 => ((bits_Mask.f a2).bind fun t118 => (if (Go.bits .and .u32 t117 t118) = (Go.bits .and .u32 a1 t118) then (if (Go.bits .andNot .u32 t117 t118) = (Go.bits .andNot .u32 a0 t118) then ((bits_Put.f t117 a0 a2).bind fun t119 => (if t119 = a0 then ((bits_Put.f 0 a1 a2).bind fun t120 => (if t120 = (Go.bits .and .u32 a1 t118) then ((bits_Top.f a2).bind fun t121 => (some ((Go.bits .and .u32 t121 t118) != 0))) else (none))) else (none))) else (none)) else (none)))) else (some true)) = some r := H
    have A6 := Aside0.mk A60
    clear A60
    by_cases c7 : t116 = true
    · subst c7
      have H1 : ((bits_Put.f a0 a1 a2).bind fun t117 => ((bits_Mask.f a2).bind fun t118 => (if (Go.bits .and .u32 t117 t118) = (Go.bits .and .u32 a1 t118) then (if (Go.bits .andNot .u32 t117 t118) = (Go.bits .andNot .u32 a0 t118) then ((bits_Put.f t117 a0 a2).bind fun t119 => (if t119 = a0 then ((bits_Put.f 0 a1 a2).bind fun t120 => (if t120 = (Go.bits .and .u32 a1 t118) then ((bits_Top.f a2).bind fun t121 => (some ((Go.bits .and .u32 t121 t118) != 0))) else (none))) else (none))) else (none)) else (none)))) = some r := by rw [if_pos rfl] at H; exact H
      clear H
      have H := H1
      clear H1
      replace H := Option.bind_eq_some_iff.mp H
      obtain ⟨t117, A80, H⟩ := H
      replace H : ((bits_Mask.f a2).bind fun t118 => (if (Go.bits .and .u32 t117 t118) = (Go.bits .and .u32 a1 t118) then (if (Go.bits .andNot .u32 t117 t118) = (Go.bits .andNot .u32 a0 t118) then ((bits_Put.f t117 a0 a2).bind fun t119 => (if t119 = a0 then ((bits_Put.f 0 a1 a2).bind fun t120 => (if t120 = (Go.bits .and .u32 a1 t118) then ((bits_Top.f a2).bind fun t121 => (some ((Go.bits .and .u32 t121 t118) != 0))) else (none))) else (none))) else (none)) else (none))) = some r := H
      have A8 := Aside0.mk A80
      clear A80
      replace H := Option.bind_eq_some_iff.mp H
      obtain ⟨t118, A90, H⟩ := H
      replace H : (if (Go.bits .and .u32 t117 t118) = (Go.bits .and .u32 a1 t118) then (if (Go.bits .andNot .u32 t117 t118) = (Go.bits .andNot .u32 a0 t118) then ((bits_Put.f t117 a0 a2).bind fun t119 => (if t119 = a0 then ((bits_Put.f 0 a1 a2).bind fun t120 => (if t120 = (Go.bits .and .u32 a1 t118) then ((bits_Top.f a2).bind fun t121 => (some ((Go.bits .and .u32 t121 t118) != 0))) else (none))) else (none))) else (none)) else (none)) = some r := H
      have A9 := Aside0.mk A90
      clear A90
      by_cases c10 : (Go.bits .and .u32 t117 t118) = (Go.bits .and .u32 a1 t118)
      · rw [if_pos c10] at H
        have c10b0 : ((Go.bits .and .u32 t117 t118) == (Go.bits .and .u32 a1 t118)) = true := beq_iff_eq.mpr c10
        have c10b1 : ((Go.bits .and .u32 t117 t118) != (Go.bits .and .u32 a1 t118)) = false := bne_eq_false_iff_eq.mpr c10
        clear c10
        by_cases c11 : (Go.bits .andNot .u32 t117 t118) = (Go.bits .andNot .u32 a0 t118)
        · rw [if_pos c11] at H
          have c11b0 : ((Go.bits .andNot .u32 t117 t118) == (Go.bits .andNot .u32 a0 t118)) = true := beq_iff_eq.mpr c11
          have c11b1 : ((Go.bits .andNot .u32 t117 t118) != (Go.bits .andNot .u32 a0 t118)) = false := bne_eq_false_iff_eq.mpr c11
          clear c11
          replace H := Option.bind_eq_some_iff.mp H
          obtain ⟨t119, A120, H⟩ := H
          replace H : (if t119 = a0 then ((bits_Put.f 0 a1 a2).bind fun t120 => (if t120 = (Go.bits .and .u32 a1 t118) then ((bits_Top.f a2).bind fun t121 => (some ((Go.bits .and .u32 t121 t118) != 0))) else (none))) else (none)) = some r := H
          have A12 := Aside0.mk A120
          clear A120
          by_cases c13 : t119 = a0
          · rw [if_pos c13] at H
            have c13b0 : (t119 == a0) = true := beq_iff_eq.mpr c13
            have c13b1 : (t119 != a0) = false := bne_eq_false_iff_eq.mpr c13
            clear c13
            replace H := Option.bind_eq_some_iff.mp H
            obtain ⟨t120, A140, H⟩ := H
            replace H : (if t120 = (Go.bits .and .u32 a1 t118) then ((bits_Top.f a2).bind fun t121 => (some ((Go.bits .and .u32 t121 t118) != 0))) else (none)) = some r := H
            have A14 := Aside0.mk A140
            clear A140
            by_cases c15 : t120 = (Go.bits .and .u32 a1 t118)
            · rw [if_pos c15] at H
              have c15b0 : (t120 == (Go.bits .and .u32 a1 t118)) = true := beq_iff_eq.mpr c15
              have c15b1 : (t120 != (Go.bits .and .u32 a1 t118)) = false := bne_eq_false_iff_eq.mpr c15
              clear c15
              replace H := Option.bind_eq_some_iff.mp H
              obtain ⟨t121, A160, H⟩ := H
              replace H : (some ((Go.bits .and .u32 t121 t118) != 0)) = some r := H
              have A16 := Aside0.mk A160
              clear A160
              obtain rfl := Option.some.inj H
              go_enter Try.func3, Try.ntmps3
              go_wp2_with (first | ((with_reducible refine gate_callee (f := 16) rfl ?_); refine goesL_ (some 9) rfl rfl Try.func16 (by kernel_rfl) rfl #[] rfl (by (try simp only [List.map_toArray, List.map_cons, List.map_nil]); first | done | rfl | (simp only [List.length_drop, List.length_take]; rfl)) ?_; (with_reducible refine (camshaftlaw01_alive.calls  true _ A4.out).mono ?_); rintro e w17 ⟨rfl, hb⟩; refine ⟨_, rfl, ?_⟩; have n0_ := Aside0.mk (below_step (by repeat (first | (with_reducible first | exact HB.out | apply below_alloc | apply pw_below_drewN | apply below_drew1) | exact HB.out)) hb); clear HB; have HB := n0_; clear n0_; (try clear hb); (try clear hb2); (try clear hk); (try clear hi)) | ((with_reducible refine gate_callee (f := 17) rfl ?_); refine goesL_ (some 12) rfl rfl Try.func17 (by kernel_rfl) rfl #[.int .i64 a2] rfl (by (try simp only [List.map_toArray, List.map_cons, List.map_nil]); first | done | rfl | (simp only [List.length_drop, List.length_take]; rfl)) ?_; (with_reducible refine (camshaftref01_Size.calls a2 true _ A6.out).mono ?_); rintro e w' ⟨rfl, ⟨nd, rfl⟩⟩; refine ⟨_, rfl, ?_⟩) | ((with_reducible refine gate_callee (f := 18) rfl ?_); refine goesL_ (some 17) rfl rfl Try.func18 (by kernel_rfl) rfl #[.int .u32 a0, .int .u32 a1, .int .i64 a2] rfl (by (try simp only [List.map_toArray, List.map_cons, List.map_nil]); first | done | rfl | (simp only [List.length_drop, List.length_take]; rfl)) ?_; (with_reducible refine (bits_Put.calls a0 a1 a2 t117 _ A8.out).mono ?_); rintro e w' ⟨rfl, ⟨nd, rfl⟩⟩; refine ⟨_, rfl, ?_⟩) | ((with_reducible refine gate_callee (f := 19) rfl ?_); refine goesL_ (some 19) rfl rfl Try.func19 (by kernel_rfl) rfl #[.int .i64 a2] rfl (by (try simp only [List.map_toArray, List.map_cons, List.map_nil]); first | done | rfl | (simp only [List.length_drop, List.length_take]; rfl)) ?_; (with_reducible refine (bits_Mask.calls a2 t118 _ A9.out).mono ?_); rintro e w' ⟨rfl, ⟨nd, rfl⟩⟩; refine ⟨_, rfl, ?_⟩) | (go_at_call 18; (with_reducible refine (bits_Put.calls t117 a0 a2 t119 _ A12.out).mono ?_); rintro e w' ⟨rfl, ⟨nd, rfl⟩⟩) | (go_at_call 18; (with_reducible refine (bits_Put.calls 0 a1 a2 t120 _ A14.out).mono ?_); rintro e w' ⟨rfl, ⟨nd, rfl⟩⟩) | (go_at_call 20; (with_reducible refine (bits_Top.calls a2 t121 _ A16.out).mono ?_); rintro e w' ⟨rfl, ⟨nd, rfl⟩⟩))
              go_ret
              exact ⟨by first | rfl | (simp [errW_none, errW_some] <;> rfl) | (simp [*, errW_none, errW_some] <;> rfl), by repeat (first | (with_reducible first | exact HB.out | apply below_alloc | apply pw_below_drewN | apply below_drew1) | exact HB.out)⟩
            · rw [if_neg c15] at H
              exact absurd H (by simp)
          · rw [if_neg c13] at H
            exact absurd H (by simp)
        · rw [if_neg c11] at H
          exact absurd H (by simp)
      · rw [if_neg c10] at H
        exact absurd H (by simp)
    · replace c7 := Bool.eq_false_iff.mpr c7
      subst c7
      have H1 : (some true) = some r := by rw [if_neg (show ¬ (false = true) by decide)] at H; exact H
      clear H
      have H := H1
      clear H1
      obtain rfl := Option.some.inj H
      go_enter Try.func3, Try.ntmps3
      go_wp2_with (first | ((with_reducible refine gate_callee (f := 16) rfl ?_); refine goesL_ (some 9) rfl rfl Try.func16 (by kernel_rfl) rfl #[] rfl (by (try simp only [List.map_toArray, List.map_cons, List.map_nil]); first | done | rfl | (simp only [List.length_drop, List.length_take]; rfl)) ?_; (with_reducible refine (camshaftlaw01_alive.calls  true _ A4.out).mono ?_); rintro e w18 ⟨rfl, hb⟩; refine ⟨_, rfl, ?_⟩; have n0_ := Aside0.mk (below_step (by repeat (first | (with_reducible first | exact HB.out | apply below_alloc | apply pw_below_drewN | apply below_drew1) | exact HB.out)) hb); clear HB; have HB := n0_; clear n0_; (try clear hb); (try clear hb2); (try clear hk); (try clear hi)) | ((with_reducible refine gate_callee (f := 17) rfl ?_); refine goesL_ (some 12) rfl rfl Try.func17 (by kernel_rfl) rfl #[.int .i64 a2] rfl (by (try simp only [List.map_toArray, List.map_cons, List.map_nil]); first | done | rfl | (simp only [List.length_drop, List.length_take]; rfl)) ?_; (with_reducible refine (camshaftref01_Size.calls a2 false _ A6.out).mono ?_); rintro e w' ⟨rfl, ⟨nd, rfl⟩⟩; refine ⟨_, rfl, ?_⟩))
      go_ret
      exact ⟨by first | rfl | (simp [errW_none, errW_some] <;> rfl) | (simp [*, errW_none, errW_some] <;> rfl), by repeat (first | (with_reducible first | exact HB.out | apply below_alloc | apply pw_below_drewN | apply below_drew1) | exact HB.out)⟩
  · replace c5 := Bool.eq_false_iff.mpr c5
    subst c5
    have H1 : (none) = some r := by rw [if_neg (show ¬ (false = true) by decide)] at H; exact H
    clear H
    have H := H1
    clear H1
    exact absurd H (by simp)

/-- THE ONE PURE STATEMENT of camshaftlaw01_BitsPuts: yours. -/
def camshaftlaw01_BitsPuts.Pure : Prop := ∀ (a0 : Int) (a1 : Int) (a2 : Int), (Lit.int .u32 a0).wf = true → (Lit.int .u32 a1).wf = true → (Lit.int .i64 a2).wf = true → camshaftlaw01_BitsPuts.f a0 a1 a2 = some true
theorem camshaftlaw01_BitsPuts.walk (P : camshaftlaw01_BitsPuts.Pure) (a0 : Int) (a1 : Int) (a2 : Int) (w : World) (w0 : (Lit.int .u32 a0).wf = true) (w1 : (Lit.int .u32 a1).wf = true) (w2 : (Lit.int .i64 a2).wf = true) :
    Calls Try.prog 3 #[.int .u32 a0, .int .u32 a1, .int .i64 a2] w fun e w' => e = .returned (.bool true) ∧ Below w.heap.size w w' := by
  have h := P a0 a1 a2 w0 w1 w2
  refine (camshaftlaw01_BitsPuts.calls a0 a1 a2 true w h).mono ?_
  rintro e w' ⟨rfl, hd⟩
  exact ⟨rfl, hd⟩

/-! ### camshaftref01_Wide: function 29 -/
def camshaftref01_Wide.f (a0 : Int) : Option (Int) := if a0 = 1 then (some 256) else (if a0 = 2 then (some 65536) else (some 4294967296))
set_option maxHeartbeats 8000000 in
set_option maxRecDepth 100000 in
theorem camshaftref01_Wide.calls (a0 : Int) (r : Int) (w : World) (h : camshaftref01_Wide.f a0 = some r) :
    Calls Try.prog 29 #[.int .i64 a0] w fun e w' => e = .returned (.int .i64 r) ∧ Drawn0 w w' := by
  have H : (if a0 = 1 then (some 256) else (if a0 = 2 then (some 65536) else (some 4294967296))) = some r := h
  clear h
  by_cases c2 : a0 = 1
  · rw [if_pos c2] at H
    have c2b0 : (a0 == 1) = true := beq_iff_eq.mpr c2
    have c2b1 : (a0 != 1) = false := bne_eq_false_iff_eq.mpr c2
    clear c2
    obtain rfl := Option.some.inj H
    go_enter Try.func29, Try.ntmps29
    go_wp2
    go_ret
    exact ⟨by first | rfl | (simp; done) | (simp [*]; done), by repeat (first | exact Drawn0.refl _ | apply Drawn0.step)⟩
  · rw [if_neg c2] at H
    have c2b0 : (a0 == 1) = false := beq_eq_false_iff_ne.mpr c2
    have c2b1 : (a0 != 1) = true := bne_iff_ne.mpr c2
    by_cases c3 : a0 = 2
    · rw [if_pos c3] at H
      have c3b0 : (a0 == 2) = true := beq_iff_eq.mpr c3
      have c3b1 : (a0 != 2) = false := bne_eq_false_iff_eq.mpr c3
      clear c3
      obtain rfl := Option.some.inj H
      go_enter Try.func29, Try.ntmps29
      go_wp2
      go_ret
      exact ⟨by first | rfl | (simp; done) | (simp [*]; done), by repeat (first | exact Drawn0.refl _ | apply Drawn0.step)⟩
    · rw [if_neg c3] at H
      have c3b0 : (a0 == 2) = false := beq_eq_false_iff_ne.mpr c3
      have c3b1 : (a0 != 2) = true := bne_iff_ne.mpr c3
      obtain rfl := Option.some.inj H
      go_enter Try.func29, Try.ntmps29
      go_wp2
      go_ret
      exact ⟨by first | rfl | (simp; done) | (simp [*]; done), by repeat (first | exact Drawn0.refl _ | apply Drawn0.step)⟩

/-! ### camshaftref01_Rest: function 45 -/
def camshaftref01_Rest.f (a0 : Int) (a1 : Int) : Option (Int) := (camshaftref01_Wide.f a1).bind fun t122 => (if t122 = 0 then (none) else (some (Int.tmod (wrap64 (a0)) t122)))
set_option maxHeartbeats 8000000 in
set_option maxRecDepth 100000 in
theorem camshaftref01_Rest.calls (a0 : Int) (a1 : Int) (r : Int) (w : World) (h : camshaftref01_Rest.f a0 a1 = some r) :
    Calls Try.prog 45 #[.int .u32 a0, .int .i64 a1] w fun e w' => e = .returned (.int .i64 r) ∧ Drawn0 w w' := by
  have H : ((camshaftref01_Wide.f a1).bind fun t122 => (if t122 = 0 then (none) else (some (Int.tmod (wrap64 (a0)) t122)))) = some r := h
  clear h
  replace H := Option.bind_eq_some_iff.mp H
  obtain ⟨t122, A30, H⟩ := H
  replace H : (if t122 = 0 then (none) else (some (Int.tmod (wrap64 (a0)) t122))) = some r := H
  have A3 := Aside0.mk A30
  clear A30
  by_cases c4 : t122 = 0
  · rw [if_pos c4] at H
    exact absurd H (by simp)
  · rw [if_neg c4] at H
    have c4b0 : (t122 == 0) = false := beq_eq_false_iff_ne.mpr c4
    have c4b1 : (t122 != 0) = true := bne_iff_ne.mpr c4
    obtain rfl := Option.some.inj H
    go_enter Try.func45, Try.ntmps45
    go_wp2_with (first | ((with_reducible refine gate_callee (f := 29) rfl ?_); refine goesL_ (some 8) rfl rfl Try.func29 (by kernel_rfl) rfl #[.int .i64 a1] rfl (by (try simp only [List.map_toArray, List.map_cons, List.map_nil]); first | done | rfl | (simp only [List.length_drop, List.length_take]; rfl)) ?_; (with_reducible refine (camshaftref01_Wide.calls a1 t122 _ A3.out).mono ?_); rintro e w' ⟨rfl, ⟨nd, rfl⟩⟩; refine ⟨_, rfl, ?_⟩))
    go_ret
    exact ⟨by first | rfl | (simp; done) | (simp [*]; done), by repeat (first | exact Drawn0.refl _ | apply Drawn0.step)⟩

end Go.Proofs.Ytmmmifgddkfehaa.PAll
