-- Written by wip/oprint.py, a program of this session's repo, out of the translation. Not trusted: Lean checks it.
import Derived.Test.YtmmmifgddkfehaaPAllx0
import Derived.Test.YtmmmifgddkfehaaPAllx1
import Derived.Test.YtmmmifgddkfehaaPAllx2
import Derived.Test.YtmmmifgddkfehaaPAllx3
import Derived.Test.YtmmmifgddkfehaaPAllx4
import Derived.Test.YtmmmifgddkfehaaPAllx8
namespace Go.Proofs.Ytmmmifgddkfehaa.PAll
open Go.RowKit Go.Proofs.YtmmmifgddkfehaaW.PrintWords Go.Proofs.YtmmmifgddkfehaaW.PrintLast Go.Proofs.YtmmmifgddkfehaaW.PrintMore
attribute [local go_sem] max2_int min2_int max_two min_two max_three min_three max_four min_four   -- for this text's walks alone
set_option linter.unusedVariables false
set_option linter.unusedSimpArgs false

attribute [local go_sem high] eqA29
/-! ### camshaftlaw01_BitsExtends: function 6 -/
def camshaftlaw01_BitsExtends.f (a0 : Int) (a1 : Int) : Option (Bool) := (camshaftlaw01_alive.f).bind fun t226 => (if t226 = true then ((camshaftref01_Size.f a1).bind fun t227 => (if t227 = true then ((bits_Extend.f a0 a1).bind fun t228 => ((camshaftref01_Signed.f t228 4).bind fun t229 => ((camshaftref01_Signed.f a0 a1).bind fun t230 => (if t229 = t230 then ((bits_Extend.f t228 a1).bind fun t231 => (if t231 = t228 then ((bits_Signs.f t228 4).bind fun bt232 => ((bits_Signs.f a0 a1).bind fun bt236 => (if (bt232.1 == bt236.1 && (bt232.2.1 == bt236.2.1 && (bt232.2.2.1 == bt236.2.2.1 && (bt232.2.2.2 == bt236.2.2.2)))) = true then ((bits_Neg.f t228 4).bind fun t240 => ((bits_Neg.f a0 a1).bind fun t241 => (some (t240 == t241)))) else (none)))) else (none))) else (none))))) else (some true))) else (none))
set_option maxHeartbeats 8000000 in
set_option maxRecDepth 100000 in
theorem camshaftlaw01_BitsExtends.calls (a0 : Int) (a1 : Int) (r : Bool) (w : World) (h : camshaftlaw01_BitsExtends.f a0 a1 = some r) :
    Calls Try.prog 6 #[.int .u32 a0, .int .i64 a1] w fun e w' => e = .returned (.bool r) ∧ Below w.heap.size w w' := by
  have HB := Aside0.mk (Below.refl w.heap.size w)
  have H : ((camshaftlaw01_alive.f).bind fun t226 => (if t226 = true then ((camshaftref01_Size.f a1).bind fun t227 => (if t227 = true then ((bits_Extend.f a0 a1).bind fun t228 => ((camshaftref01_Signed.f t228 4).bind fun t229 => ((camshaftref01_Signed.f a0 a1).bind fun t230 => (if t229 = t230 then ((bits_Extend.f t228 a1).bind fun t231 => (if t231 = t228 then ((bits_Signs.f t228 4).bind fun bt232 => ((bits_Signs.f a0 a1).bind fun bt236 => (if (bt232.1 == bt236.1 && (bt232.2.1 == bt236.2.1 && (bt232.2.2.1 == bt236.2.2.1 && (bt232.2.2.2 == bt236.2.2.2)))) = true then ((bits_Neg.f t228 4).bind fun t240 => ((bits_Neg.f a0 a1).bind fun t241 => (some (t240 == t241)))) else (none)))) else (none))) else (none))))) else (some true))) else (none))) = some r := h
  clear h
  replace H := Option.bind_eq_some_iff.mp H
  obtain ⟨t226, A30, H⟩ := H
  replace H : (if t226 = true then ((camshaftref01_Size.f a1).bind fun t227 => (if t227 = true then ((bits_Extend.f a0 a1).bind fun t228 => ((camshaftref01_Signed.f t228 4).bind fun t229 => ((camshaftref01_Signed.f a0 a1).bind fun t230 => (if t229 = t230 then ((bits_Extend.f t228 a1).bind fun t231 => (if t231 = t228 then ((bits_Signs.f t228 4).bind fun bt232 => ((bits_Signs.f a0 a1).bind fun bt236 => (if (bt232.1 == bt236.1 && (bt232.2.1 == bt236.2.1 && (bt232.2.2.1 == bt236.2.2.1 && (bt232.2.2.2 == bt236.2.2.2)))) = true then ((bits_Neg.f t228 4).bind fun t240 => ((bits_Neg.f a0 a1).bind fun t241 => (some (t240 == t241)))) else (none)))) else (none))) else (none))))) else (some true))) else (none)) = some r := H
  have A3 := Aside0.mk A30
  clear A30
  by_cases c4 : t226 = true
  · subst c4
    have H1 : ((camshaftref01_Size.f a1).bind fun t227 => (if t227 = true then ((bits_Extend.f a0 a1).bind fun t228 => ((camshaftref01_Signed.f t228 4).bind fun t229 => ((camshaftref01_Signed.f a0 a1).bind fun t230 => (if t229 = t230 then ((bits_Extend.f t228 a1).bind fun t231 => (if t231 = t228 then ((bits_Signs.f t228 4).bind fun bt232 => ((bits_Signs.f a0 a1).bind fun bt236 => (if (bt232.1 == bt236.1 && (bt232.2.1 == bt236.2.1 && (bt232.2.2.1 == bt236.2.2.1 && (bt232.2.2.2 == bt236.2.2.2)))) = true then ((bits_Neg.f t228 4).bind fun t240 => ((bits_Neg.f a0 a1).bind fun t241 => (some (t240 == t241)))) else (none)))) else (none))) else (none))))) else (some true))) = some r := by rw [if_pos rfl] at H; exact H
    clear H
    have H := H1
    clear H1
    replace H := Option.bind_eq_some_iff.mp H
    obtain ⟨t227, A50, H⟩ := H
    replace H : (if t227 = true then ((bits_Extend.f a0 a1).bind fun t228 => ((camshaftref01_Signed.f t228 4).bind fun t229 => ((camshaftref01_Signed.f a0 a1).bind fun t230 => (if t229 = t230 then ((bits_Extend.f t228 a1).bind fun t231 => (if t231 = t228 then ((bits_Signs.f t228 4).bind fun bt232 => ((bits_Signs.f a0 a1).bind fun bt236 => (if (bt232.1 == bt236.1 && (bt232.2.1 == bt236.2.1 && (bt232.2.2.1 == bt236.2.2.1 && (bt232.2.2.2 == bt236.2.2.2)))) = true then ((bits_Neg.f t228 4).bind fun t240 => ((bits_Neg.f a0 a1).bind fun t241 => (some (t240 == t241)))) else (none)))) else (none))) else (none))))) else (some true)) = some r := H
    have A5 := Aside0.mk A50
    clear A50
    by_cases c6 : t227 = true
    · subst c6
      have H1 : ((bits_Extend.f a0 a1).bind fun t228 => ((camshaftref01_Signed.f t228 4).bind fun t229 => ((camshaftref01_Signed.f a0 a1).bind fun t230 => (if t229 = t230 then ((bits_Extend.f t228 a1).bind fun t231 => (if t231 = t228 then ((bits_Signs.f t228 4).bind fun bt232 => ((bits_Signs.f a0 a1).bind fun bt236 => (if (bt232.1 == bt236.1 && (bt232.2.1 == bt236.2.1 && (bt232.2.2.1 == bt236.2.2.1 && (bt232.2.2.2 == bt236.2.2.2)))) = true then ((bits_Neg.f t228 4).bind fun t240 => ((bits_Neg.f a0 a1).bind fun t241 => (some (t240 == t241)))) else (none)))) else (none))) else (none))))) = some r := by rw [if_pos rfl] at H; exact H
      clear H
      have H := H1
      clear H1
      replace H := Option.bind_eq_some_iff.mp H
      obtain ⟨t228, A70, H⟩ := H
      replace H : ((camshaftref01_Signed.f t228 4).bind fun t229 => ((camshaftref01_Signed.f a0 a1).bind fun t230 => (if t229 = t230 then ((bits_Extend.f t228 a1).bind fun t231 => (if t231 = t228 then ((bits_Signs.f t228 4).bind fun bt232 => ((bits_Signs.f a0 a1).bind fun bt236 => (if (bt232.1 == bt236.1 && (bt232.2.1 == bt236.2.1 && (bt232.2.2.1 == bt236.2.2.1 && (bt232.2.2.2 == bt236.2.2.2)))) = true then ((bits_Neg.f t228 4).bind fun t240 => ((bits_Neg.f a0 a1).bind fun t241 => (some (t240 == t241)))) else (none)))) else (none))) else (none)))) = some r := H
      have A7 := Aside0.mk A70
      clear A70
      replace H := Option.bind_eq_some_iff.mp H
      obtain ⟨t229, A80, H⟩ := H
      replace H : ((camshaftref01_Signed.f a0 a1).bind fun t230 => (if t229 = t230 then ((bits_Extend.f t228 a1).bind fun t231 => (if t231 = t228 then ((bits_Signs.f t228 4).bind fun bt232 => ((bits_Signs.f a0 a1).bind fun bt236 => (if (bt232.1 == bt236.1 && (bt232.2.1 == bt236.2.1 && (bt232.2.2.1 == bt236.2.2.1 && (bt232.2.2.2 == bt236.2.2.2)))) = true then ((bits_Neg.f t228 4).bind fun t240 => ((bits_Neg.f a0 a1).bind fun t241 => (some (t240 == t241)))) else (none)))) else (none))) else (none))) = some r := H
      have A8 := Aside0.mk A80
      clear A80
      replace H := Option.bind_eq_some_iff.mp H
      obtain ⟨t230, A90, H⟩ := H
      replace H : (if t229 = t230 then ((bits_Extend.f t228 a1).bind fun t231 => (if t231 = t228 then ((bits_Signs.f t228 4).bind fun bt232 => ((bits_Signs.f a0 a1).bind fun bt236 => (if (bt232.1 == bt236.1 && (bt232.2.1 == bt236.2.1 && (bt232.2.2.1 == bt236.2.2.1 && (bt232.2.2.2 == bt236.2.2.2)))) = true then ((bits_Neg.f t228 4).bind fun t240 => ((bits_Neg.f a0 a1).bind fun t241 => (some (t240 == t241)))) else (none)))) else (none))) else (none)) = some r := H
      have A9 := Aside0.mk A90
      clear A90
      by_cases c10 : t229 = t230
      · rw [if_pos c10] at H
        have c10b0 : (t229 == t230) = true := beq_iff_eq.mpr c10
        have c10b1 : (t229 != t230) = false := bne_eq_false_iff_eq.mpr c10
        clear c10
        replace H := Option.bind_eq_some_iff.mp H
        obtain ⟨t231, A110, H⟩ := H
        replace H : (if t231 = t228 then ((bits_Signs.f t228 4).bind fun bt232 => ((bits_Signs.f a0 a1).bind fun bt236 => (if (bt232.1 == bt236.1 && (bt232.2.1 == bt236.2.1 && (bt232.2.2.1 == bt236.2.2.1 && (bt232.2.2.2 == bt236.2.2.2)))) = true then ((bits_Neg.f t228 4).bind fun t240 => ((bits_Neg.f a0 a1).bind fun t241 => (some (t240 == t241)))) else (none)))) else (none)) = some r := H
        have A11 := Aside0.mk A110
        clear A110
        by_cases c12 : t231 = t228
        · rw [if_pos c12] at H
          have c12b0 : (t231 == t228) = true := beq_iff_eq.mpr c12
          have c12b1 : (t231 != t228) = false := bne_eq_false_iff_eq.mpr c12
          clear c12
          replace H := Option.bind_eq_some_iff.mp H
          obtain ⟨⟨t232, t233, t234, t235⟩, A130, H⟩ := H
          replace H : ((bits_Signs.f a0 a1).bind fun bt236 => (if (t232 == bt236.1 && (t233 == bt236.2.1 && (t234 == bt236.2.2.1 && (t235 == bt236.2.2.2)))) = true then ((bits_Neg.f t228 4).bind fun t240 => ((bits_Neg.f a0 a1).bind fun t241 => (some (t240 == t241)))) else (none))) = some r := H
          have A13 := Aside0.mk A130
          clear A130
          replace H := Option.bind_eq_some_iff.mp H
          obtain ⟨⟨t236, t237, t238, t239⟩, A140, H⟩ := H
          replace H : (if (t232 == t236 && (t233 == t237 && (t234 == t238 && (t235 == t239)))) = true then ((bits_Neg.f t228 4).bind fun t240 => ((bits_Neg.f a0 a1).bind fun t241 => (some (t240 == t241)))) else (none)) = some r := H
          have A14 := Aside0.mk A140
          clear A140
          by_cases c15 : (t232 == t236 && (t233 == t237 && (t234 == t238 && (t235 == t239)))) = true
          · rw [if_pos c15] at H
            have c15b0 : (t232 == t236 && (t233 == t237 && (t234 == t238 && (t235 == t239)))) = true := c15
            (try (have c15b1 : decide (t232 = t236 && (t233 == t237 && (t234 == t238 && (t235 == t239)))) = true := by simpa using c15))
            (try (have c15b2 : (t232 == t236 && (t233 == t237 && (t234 == t238 && (t235 == t239)))) = true := by simpa using c15))
            clear c15
            replace H := Option.bind_eq_some_iff.mp H
            obtain ⟨t240, A160, H⟩ := H
            replace H : ((bits_Neg.f a0 a1).bind fun t241 => (some (t240 == t241))) = some r := H
            have A16 := Aside0.mk A160
            clear A160
            replace H := Option.bind_eq_some_iff.mp H
            obtain ⟨t241, A170, H⟩ := H
            replace H : (some (t240 == t241)) = some r := H
            have A17 := Aside0.mk A170
            clear A170
            obtain rfl := Option.some.inj H
            go_enter Try.func6, Try.ntmps6
            go_wp2_with (first | ((with_reducible refine gate_callee (f := 16) rfl ?_); refine goesL_ (some 6) rfl rfl Try.func16 (by kernel_rfl) rfl #[] rfl (by (try simp only [List.map_toArray, List.map_cons, List.map_nil]); first | done | rfl | (simp only [List.length_drop, List.length_take]; rfl)) ?_; (with_reducible refine (camshaftlaw01_alive.calls  true _ A3.out).mono ?_); rintro e w18 ⟨rfl, hb⟩; refine ⟨_, rfl, ?_⟩; have n0_ := Aside0.mk (below_step (by repeat (first | (with_reducible first | exact HB.out | apply below_alloc | apply pw_below_drewN | apply below_drew1) | exact HB.out)) hb); clear HB; have HB := n0_; clear n0_; (try clear hb); (try clear hb2); (try clear hk); (try clear hi)) | ((with_reducible refine gate_callee (f := 17) rfl ?_); refine goesL_ (some 9) rfl rfl Try.func17 (by kernel_rfl) rfl #[.int .i64 a1] rfl (by (try simp only [List.map_toArray, List.map_cons, List.map_nil]); first | done | rfl | (simp only [List.length_drop, List.length_take]; rfl)) ?_; (with_reducible refine (camshaftref01_Size.calls a1 true _ A5.out).mono ?_); rintro e w' ⟨rfl, ⟨nd, rfl⟩⟩; refine ⟨_, rfl, ?_⟩) | ((with_reducible refine gate_callee (f := 25) rfl ?_); refine goesL_ (some 13) rfl rfl Try.func25 (by kernel_rfl) rfl #[.int .u32 a0, .int .i64 a1] rfl (by (try simp only [List.map_toArray, List.map_cons, List.map_nil]); first | done | rfl | (simp only [List.length_drop, List.length_take]; rfl)) ?_; (with_reducible refine (bits_Extend.calls a0 a1 t228 _ A7.out).mono ?_); rintro e w' ⟨rfl, ⟨nd, rfl⟩⟩; refine ⟨_, rfl, ?_⟩) | ((with_reducible refine gate_callee (f := 26) rfl ?_); refine goesL_ (some 15) rfl rfl Try.func26 (by kernel_rfl) rfl #[.int .u32 t228, .int .i64 4] rfl (by (try simp only [List.map_toArray, List.map_cons, List.map_nil]); first | done | rfl | (simp only [List.length_drop, List.length_take]; rfl)) ?_; (with_reducible refine (camshaftref01_Signed.calls t228 4 t229 _ A8.out).mono ?_); rintro e w' ⟨rfl, ⟨nd, rfl⟩⟩; refine ⟨_, rfl, ?_⟩) | ((with_reducible refine gate_callee (f := 26) rfl ?_); refine goesL_ (some 18) rfl rfl Try.func26 (by kernel_rfl) rfl #[.int .u32 a0, .int .i64 a1] rfl (by (try simp only [List.map_toArray, List.map_cons, List.map_nil]); first | done | rfl | (simp only [List.length_drop, List.length_take]; rfl)) ?_; (with_reducible refine (camshaftref01_Signed.calls a0 a1 t230 _ A9.out).mono ?_); rintro e w' ⟨rfl, ⟨nd, rfl⟩⟩; refine ⟨_, rfl, ?_⟩) | (go_at_call 25; (with_reducible refine (bits_Extend.calls t228 a1 t231 _ A11.out).mono ?_); rintro e w' ⟨rfl, ⟨nd, rfl⟩⟩) | (go_at_call 27; (with_reducible refine (bits_Signs.calls t228 4 t232 t233 t234 t235 _ A13.out).mono ?_); rintro e w19 ⟨rfl, hb⟩; have n0_ := Aside0.mk (below_step (by repeat (first | (with_reducible first | exact HB.out | apply below_alloc | apply pw_below_drewN | apply below_drew1) | exact HB.out)) hb); clear HB; have HB := n0_; clear n0_; (try clear hb); (try clear hb2); (try clear hk); (try clear hi)) | (go_at_call 27; (with_reducible refine (bits_Signs.calls a0 a1 t236 t237 t238 t239 _ A14.out).mono ?_); rintro e w20 ⟨rfl, hb⟩; have n0_ := Aside0.mk (below_step (by repeat (first | (with_reducible first | exact HB.out | apply below_alloc | apply pw_below_drewN | apply below_drew1) | exact HB.out)) hb); clear HB; have HB := n0_; clear n0_; (try clear hb); (try clear hb2); (try clear hk); (try clear hi)) | (go_at_call 28; (with_reducible refine (bits_Neg.calls t228 4 t240 _ A16.out).mono ?_); rintro e w' ⟨rfl, ⟨nd, rfl⟩⟩) | (go_at_call 28; (with_reducible refine (bits_Neg.calls a0 a1 t241 _ A17.out).mono ?_); rintro e w' ⟨rfl, ⟨nd, rfl⟩⟩))
            go_ret
            exact ⟨by first | rfl | (simp [errW_none, errW_some] <;> rfl) | (simp [*, errW_none, errW_some] <;> rfl), by repeat (first | (with_reducible first | exact HB.out | apply below_alloc | apply pw_below_drewN | apply below_drew1) | exact HB.out)⟩
          · rw [if_neg c15] at H
            exact absurd H (by simp)
        · rw [if_neg c12] at H
          exact absurd H (by simp)
      · rw [if_neg c10] at H
        exact absurd H (by simp)
    · replace c6 := Bool.eq_false_iff.mpr c6
      subst c6
      have H1 : (some true) = some r := by rw [if_neg (show ¬ (false = true) by decide)] at H; exact H
      clear H
      have H := H1
      clear H1
      obtain rfl := Option.some.inj H
      go_enter Try.func6, Try.ntmps6
      go_wp2_with (first | ((with_reducible refine gate_callee (f := 16) rfl ?_); refine goesL_ (some 6) rfl rfl Try.func16 (by kernel_rfl) rfl #[] rfl (by (try simp only [List.map_toArray, List.map_cons, List.map_nil]); first | done | rfl | (simp only [List.length_drop, List.length_take]; rfl)) ?_; (with_reducible refine (camshaftlaw01_alive.calls  true _ A3.out).mono ?_); rintro e w21 ⟨rfl, hb⟩; refine ⟨_, rfl, ?_⟩; have n0_ := Aside0.mk (below_step (by repeat (first | (with_reducible first | exact HB.out | apply below_alloc | apply pw_below_drewN | apply below_drew1) | exact HB.out)) hb); clear HB; have HB := n0_; clear n0_; (try clear hb); (try clear hb2); (try clear hk); (try clear hi)) | ((with_reducible refine gate_callee (f := 17) rfl ?_); refine goesL_ (some 9) rfl rfl Try.func17 (by kernel_rfl) rfl #[.int .i64 a1] rfl (by (try simp only [List.map_toArray, List.map_cons, List.map_nil]); first | done | rfl | (simp only [List.length_drop, List.length_take]; rfl)) ?_; (with_reducible refine (camshaftref01_Size.calls a1 false _ A5.out).mono ?_); rintro e w' ⟨rfl, ⟨nd, rfl⟩⟩; refine ⟨_, rfl, ?_⟩))
      go_ret
      exact ⟨by first | rfl | (simp [errW_none, errW_some] <;> rfl) | (simp [*, errW_none, errW_some] <;> rfl), by repeat (first | (with_reducible first | exact HB.out | apply below_alloc | apply pw_below_drewN | apply below_drew1) | exact HB.out)⟩
  · replace c4 := Bool.eq_false_iff.mpr c4
    subst c4
    have H1 : (none) = some r := by rw [if_neg (show ¬ (false = true) by decide)] at H; exact H
    clear H
    have H := H1
    clear H1
    exact absurd H (by simp)

/-- THE ONE PURE STATEMENT of camshaftlaw01_BitsExtends: yours. -/
def camshaftlaw01_BitsExtends.Pure : Prop := ∀ (a0 : Int) (a1 : Int), (Lit.int .u32 a0).wf = true → (Lit.int .i64 a1).wf = true → camshaftlaw01_BitsExtends.f a0 a1 = some true
theorem camshaftlaw01_BitsExtends.walk (P : camshaftlaw01_BitsExtends.Pure) (a0 : Int) (a1 : Int) (w : World) (w0 : (Lit.int .u32 a0).wf = true) (w1 : (Lit.int .i64 a1).wf = true) :
    Calls Try.prog 6 #[.int .u32 a0, .int .i64 a1] w fun e w' => e = .returned (.bool true) ∧ Below w.heap.size w w' := by
  have h := P a0 a1 w0 w1
  refine (camshaftlaw01_BitsExtends.calls a0 a1 true w h).mono ?_
  rintro e w' ⟨rfl, hd⟩
  exact ⟨rfl, hd⟩

/-! ### camshaftref01_Put: function 32 -/
def camshaftref01_Put.f (a0 : Int) (a1 : Int) (a2 : Int) : Option (Int) := (camshaftref01_Rest.f a0 a2).bind fun t242 => ((camshaftref01_Rest.f a1 a2).bind fun t243 => (some ((wrap64 ((wrap64 ((wrap64 (a0)) - t242)) + t243)) % 4294967296)))
set_option maxHeartbeats 8000000 in
set_option maxRecDepth 100000 in
theorem camshaftref01_Put.calls (a0 : Int) (a1 : Int) (a2 : Int) (r : Int) (w : World) (h : camshaftref01_Put.f a0 a1 a2 = some r) :
    Calls Try.prog 32 #[.int .u32 a0, .int .u32 a1, .int .i64 a2] w fun e w' => e = .returned (.int .u32 r) ∧ Drawn0 w w' := by
  have H : ((camshaftref01_Rest.f a0 a2).bind fun t242 => ((camshaftref01_Rest.f a1 a2).bind fun t243 => (some ((wrap64 ((wrap64 ((wrap64 (a0)) - t242)) + t243)) % 4294967296)))) = some r := h
  clear h
  replace H := Option.bind_eq_some_iff.mp H
  obtain ⟨t242, A40, H⟩ := H
  replace H : ((camshaftref01_Rest.f a1 a2).bind fun t243 => (some ((wrap64 ((wrap64 ((wrap64 (a0)) - t242)) + t243)) % 4294967296))) = some r := H
  have A4 := Aside0.mk A40
  clear A40
  replace H := Option.bind_eq_some_iff.mp H
  obtain ⟨t243, A50, H⟩ := H
  replace H : (some ((wrap64 ((wrap64 ((wrap64 (a0)) - t242)) + t243)) % 4294967296)) = some r := H
  have A5 := Aside0.mk A50
  clear A50
  obtain rfl := Option.some.inj H
  go_enter Try.func32, Try.ntmps32
  go_wp2_with (first | ((with_reducible refine gate_callee (f := 45) rfl ?_); refine goesL_ (some 11) rfl rfl Try.func45 (by kernel_rfl) rfl #[.int .u32 a0, .int .i64 a2] rfl (by (try simp only [List.map_toArray, List.map_cons, List.map_nil]); first | done | rfl | (simp only [List.length_drop, List.length_take]; rfl)) ?_; (with_reducible refine (camshaftref01_Rest.calls a0 a2 t242 _ A4.out).mono ?_); rintro e w' ⟨rfl, ⟨nd, rfl⟩⟩; refine ⟨_, rfl, ?_⟩) | ((with_reducible refine gate_callee (f := 45) rfl ?_); refine goesL_ (some 15) rfl rfl Try.func45 (by kernel_rfl) rfl #[.int .u32 a1, .int .i64 a2] rfl (by (try simp only [List.map_toArray, List.map_cons, List.map_nil]); first | done | rfl | (simp only [List.length_drop, List.length_take]; rfl)) ?_; (with_reducible refine (camshaftref01_Rest.calls a1 a2 t243 _ A5.out).mono ?_); rintro e w' ⟨rfl, ⟨nd, rfl⟩⟩; refine ⟨_, rfl, ?_⟩))
  go_ret
  exact ⟨by first | rfl | (simp; done) | (simp [*]; done), by repeat (first | exact Drawn0.refl _ | apply Drawn0.step)⟩

/-! ### camshaftlaw01_BitsSizes: function 7, by hand -/
def camshaftlaw01_BitsSizes.Facts (x : Int) (y : Int) (n : Int) : Prop := ∃ (W : Int) (t : Int) (sx : Int) (ex : Int) (pt : Int) (ng : Bool) (p : Bool) (q : Bool), camshaftref01_Wide.f n = some W ∧ bits_Mask.f n = some (W-1) ∧ bits_Top.f n = some t ∧ bits_Neg.f x n = some ng ∧ camshaftref01_Signed.f x n = some sx ∧ bits_Extend.f x n = some ex ∧ camshaftref01_Bits.f sx 4 = some ex ∧ bits_Signs.f x n = some (p, q, false, false) ∧ camshaftref01_Signs.f x n = some (p, q, false, false) ∧ bits_Put.f x y n = some pt ∧ camshaftref01_Put.f x y n = some pt ∧ Int.tdiv W 2 = t ∧ decide (sx < 0) = ng ∧ 0 ≤ t ∧ 256 ≤ W ∧ W ≤ 4294967296 ∧ t ≤ W
def camshaftlaw01_BitsSizes.Pure : Prop := camshaftlaw01_alive.f = some true ∧ ∀ (x : Int) (y : Int) (n : Int), (Lit.int .u32 x).wf = true → (Lit.int .u32 y).wf = true → (Lit.int .i64 n).wf = true → (camshaftref01_Size.f n = some false ∨ camshaftref01_Size.f n = some true ∧ camshaftlaw01_BitsSizes.Facts x y n)
set_option maxHeartbeats 2000000 in
set_option maxRecDepth 100000 in
theorem camshaftlaw01_BitsSizes.no (x : Int) (y : Int) (n : Int) (w : World) (FA : Aside0 (camshaftlaw01_alive.f = some true)) (FG : Aside0 (camshaftref01_Size.f n = some false)) :
    Calls Try.prog 7 #[.int .u32 x, .int .u32 y, .int .i64 n] w fun e w' => e = .returned (.bool true) ∧ Below w.heap.size w w' := by
  go_enter Try.func7, Try.ntmps7
  go_wp2_with fail
  refine (camshaftlaw01_alive.calls true w FA.out).mono ?_
  rintro e w1 ⟨rfl, hb⟩
  have HB1 := Aside0.mk hb
  clear hb
  go_wp2_with fail
  refine (camshaftref01_Size.calls n false _ FG.out).mono ?_
  rintro e w2 ⟨rfl, ⟨n2, rfl⟩⟩
  go_wp2
  go_ret
  exact ⟨rfl, pw_below_drewN HB1.out _⟩
set_option maxHeartbeats 2000000 in
set_option maxRecDepth 100000 in
theorem camshaftlaw01_BitsSizes.yes (x : Int) (y : Int) (n : Int) (w : World) (FA : Aside0 (camshaftlaw01_alive.f = some true)) (FG : Aside0 (camshaftref01_Size.f n = some true)) (hf : camshaftlaw01_BitsSizes.Facts x y n) :
    Calls Try.prog 7 #[.int .u32 x, .int .u32 y, .int .i64 n] w fun e w' => e = .returned (.bool true) ∧ Below w.heap.size w w' := by
  obtain ⟨W, t, sx, ex, pt, ng, p, q, f0, f1, f2, f3, f4, f5, f6, f7, f8, f9, f10, g0, g1, g2, g3, g4, g5⟩ := hf
  have F0 := Aside0.mk f0
  have F1 := Aside0.mk f1
  have F2 := Aside0.mk f2
  have F3 := Aside0.mk f3
  have F4 := Aside0.mk f4
  have F5 := Aside0.mk f5
  have F6 := Aside0.mk f6
  have F7 := Aside0.mk f7
  have F8 := Aside0.mk f8
  have F9 := Aside0.mk f9
  have F10 := Aside0.mk f10
  clear f0 f1 f2 f3 f4 f5 f6 f7 f8 f9 f10
  go_enter Try.func7, Try.ntmps7
  go_wp2_with fail
  refine (camshaftlaw01_alive.calls true w FA.out).mono ?_
  rintro e w1 ⟨rfl, hb⟩
  have HB1 := Aside0.mk hb
  clear hb
  go_wp2_with fail
  refine (camshaftref01_Size.calls n true _ FG.out).mono ?_
  rintro e w2 ⟨rfl, ⟨n2, rfl⟩⟩
  go_wp2_with fail
  refine (camshaftref01_Wide.calls n W _ F0.out).mono ?_
  rintro e w' ⟨rfl, ⟨m0, rfl⟩⟩
  go_wp2_with fail
  refine (bits_Mask.calls n (W-1) _ F1.out).mono ?_
  rintro e w' ⟨rfl, ⟨m1, rfl⟩⟩
  go_wp2_with fail
  refine (bits_Top.calls n t _ F2.out).mono ?_
  rintro e w' ⟨rfl, ⟨m2, rfl⟩⟩
  go_wp2_with fail
  refine (bits_Neg.calls x n ng _ F3.out).mono ?_
  rintro e w' ⟨rfl, ⟨m3, rfl⟩⟩
  go_wp2_with fail
  refine (camshaftref01_Signed.calls x n sx _ F4.out).mono ?_
  rintro e w' ⟨rfl, ⟨m4, rfl⟩⟩
  go_wp2_with fail
  refine (bits_Extend.calls x n ex _ F5.out).mono ?_
  rintro e w' ⟨rfl, ⟨m5, rfl⟩⟩
  go_wp2_with fail
  refine (camshaftref01_Signed.calls x n sx _ F4.out).mono ?_
  rintro e w' ⟨rfl, ⟨m6, rfl⟩⟩
  go_wp2_with fail
  refine (camshaftref01_Bits.calls sx 4 ex _ F6.out).mono ?_
  rintro e w' ⟨rfl, ⟨m7, rfl⟩⟩
  go_wp2_with fail
  refine (bits_Signs.calls x n p q false false _ F7.out).mono ?_
  rintro e v8 ⟨rfl, hb⟩
  have HB2 := Aside0.mk (below_step (w := w) (by repeat (with_reducible first | exact HB1.out | refine below_drew1 ?_ | refine pw_below_drewN ?_ _ | refine below_alloc ?_ _)) hb)
  clear hb
  go_wp2_with fail
  refine (camshaftref01_Signs.calls x n p q false false _ F8.out).mono ?_
  rintro e v9 ⟨rfl, hb⟩
  have HB3 := Aside0.mk (below_step (w := w) (by repeat (with_reducible first | exact HB2.out | refine below_drew1 ?_ | refine pw_below_drewN ?_ _ | refine below_alloc ?_ _)) hb)
  clear hb
  go_wp2_with fail
  refine (bits_Put.calls x y n pt _ F9.out).mono ?_
  rintro e w' ⟨rfl, ⟨m10, rfl⟩⟩
  go_wp2_with fail
  refine (camshaftref01_Put.calls x y n pt _ F10.out).mono ?_
  rintro e w' ⟨rfl, ⟨m11, rfl⟩⟩
  go_wp2
  go_ret
  refine ⟨?_, ?_⟩
  · simp
  · repeat (with_reducible first | exact HB3.out | refine below_drew1 ?_ | refine pw_below_drewN ?_ _ | refine below_alloc ?_ _)
theorem camshaftlaw01_BitsSizes.walk (P : camshaftlaw01_BitsSizes.Pure) (x : Int) (y : Int) (n : Int) (w : World) (w0 : (Lit.int .u32 x).wf = true) (w1 : (Lit.int .u32 y).wf = true) (w2 : (Lit.int .i64 n).wf = true) :
    Calls Try.prog 7 #[.int .u32 x, .int .u32 y, .int .i64 n] w fun e w' => e = .returned (.bool true) ∧ Below w.heap.size w w' := by
  rcases P.2 x y n w0 w1 w2 with h | ⟨h, hf⟩
  · exact camshaftlaw01_BitsSizes.no x y n w ⟨P.1⟩ ⟨h⟩
  · exact camshaftlaw01_BitsSizes.yes x y n w ⟨P.1⟩ ⟨h⟩ hf

end Go.Proofs.Ytmmmifgddkfehaa.PAll
