-- Written by wip/oprint.py, a program of this session's repo, out of the translation. Not trusted: Lean checks it.
import Derived.Test.YtmmmifgddkfehaaPAlux0
import Derived.Test.YtmmmifgddkfehaaPAlux1
import Derived.Test.YtmmmifgddkfehaaPAlux2
import Derived.Test.YtmmmifgddkfehaaPAlux8
import Derived.Test.YtmmmifgddkfehaaPAlux10
import Derived.Test.YtmmmifgddkfehaaPAlux11
import Derived.Test.YtmmmifgddkfehaaPAlux23
namespace Go.Proofs.Ytmmmifgddkfehaa.PAlu
open Go.RowKit Go.Proofs.YtmmmifgddkfehaaW.PrintWords Go.Proofs.YtmmmifgddkfehaaW.PrintLast
set_option linter.unusedVariables false
set_option linter.unusedSimpArgs false

attribute [local go_sem high] eqA29
/-! ### camshaftlaw08_AluSizes: function 11 -/
def camshaftlaw08_AluSizes.j0 : Nat → Int → Int → Int → Bool → Int → Int → Bool → Option (Bool)
  | 0, _, _, _, _, _, _, _ => none
  | k + 1, x0, x1, x2, x3, x4, x13, x66 => if x66 = true then (none) else ((alu_Do.f x0 x1 x2 x3 4).bind fun bt413 => ((alu_Logic.f x0).bind fun t420 => (if t420 = true then ((camshaftref01_Rest.f bt413.1 x4).bind fun t421 => (some (t421 == (wrap64 (x13))))) else (some true))))
def camshaftlaw08_AluSizes.f (k : Nat) (a0 : Int) (a1 : Int) (a2 : Int) (a3 : Bool) (a4 : Int) (a5 : Int) : Option (Bool) := (camshaftlaw08_alive.f).bind fun t395 => (if t395 = true then ((camshaftref01_Size.f a4).bind fun t396 => (if t396 = true then ((alu_Do.f a0 a1 a2 a3 a4).bind fun bt397 => ((camshaftref01_Put.f a5 a1 a4).bind fun t404 => ((camshaftref01_Put.f (Go.bits .xor .u32 4294967295 a5) a2 a4).bind fun t405 => ((alu_Do.f a0 t404 t405 a3 a4).bind fun bt406 => (if bt397.1 = bt406.1 then (if (!(bt397.2.1 == bt406.2.1) || (!(bt397.2.2.1 == bt406.2.2.1) || (!(bt397.2.2.2.1 == bt406.2.2.2.1) || (!(bt397.2.2.2.2.1 == bt406.2.2.2.2.1))))) = true then (camshaftlaw08_AluSizes.j0 k a0 a1 a2 a3 a4 bt397.1 true) else (camshaftlaw08_AluSizes.j0 k a0 a1 a2 a3 a4 bt397.1 (bt397.2.2.2.2.2 != bt406.2.2.2.2.2))) else (camshaftlaw08_AluSizes.j0 k a0 a1 a2 a3 a4 bt397.1 true)))))) else (some true))) else (none))
theorem camshaftlaw08_AluSizes.mono_l : ∀ k, (∀ y0 y1 y2 y3 y4 y5 y6, LeO (camshaftlaw08_AluSizes.j0 k y0 y1 y2 y3 y4 y5 y6) (camshaftlaw08_AluSizes.j0 (k + 1) y0 y1 y2 y3 y4 y5 y6))
  | 0 => fun _ _ _ _ _ _ _ r h => by simp [camshaftlaw08_AluSizes.j0] at h
  | k + 1 => by
    have ih0 := camshaftlaw08_AluSizes.mono_l k
    · intro y0 y1 y2 y3 y4 y5 y6
      unfold camshaftlaw08_AluSizes.j0
      repeat' first
      | (with_reducible exact ih0 _ _ _ _ _ _ _)
      | (with_reducible exact LeO.refl _)
      | (with_reducible exact LeO.none _)
      | (with_reducible refine LeO.ite ?_ ?_)
      | (with_reducible refine LeO.bind ?_ (fun _ => ?_))
      | exact ih0 _ _ _ _ _ _ _
      | exact LeO.none _
      | refine LeO.ite ?_ ?_
      | refine LeO.bind ?_ (fun _ => ?_)
theorem camshaftlaw08_AluSizes.mono : ∀ a0 a1 a2 a3 a4 a5 k, LeO (camshaftlaw08_AluSizes.f k a0 a1 a2 a3 a4 a5) (camshaftlaw08_AluSizes.f (k + 1) a0 a1 a2 a3 a4 a5) := by
  intro a0 a1 a2 a3 a4 a5 k
  have ih0 := camshaftlaw08_AluSizes.mono_l k
  unfold camshaftlaw08_AluSizes.f
  repeat' first
      | (with_reducible exact ih0 _ _ _ _ _ _ _)
      | (with_reducible exact LeO.refl _)
      | (with_reducible exact LeO.none _)
      | (with_reducible refine LeO.ite ?_ ?_)
      | (with_reducible refine LeO.bind ?_ (fun _ => ?_))
      | exact ih0 _ _ _ _ _ _ _
      | exact LeO.none _
      | refine LeO.ite ?_ ?_
      | refine LeO.bind ?_ (fun _ => ?_)
set_option maxHeartbeats 8000000 in
set_option maxRecDepth 100000 in
theorem camshaftlaw08_AluSizes.calls (k : Nat) (a0 : Int) (a1 : Int) (a2 : Int) (a3 : Bool) (a4 : Int) (a5 : Int) (r : Bool) (w : World) (h : camshaftlaw08_AluSizes.f k a0 a1 a2 a3 a4 a5 = some r) :
    Calls Try.prog 11 #[.int .i64 a0, .int .u32 a1, .int .u32 a2, .bool a3, .int .i64 a4, .int .u32 a5] w fun e w' => e = .returned (.bool r) ∧ Below w.heap.size w w' := by
  have hu29 := Try.underlying29
  have HB := Aside0.mk (Below.refl w.heap.size w)
  have H : ((camshaftlaw08_alive.f).bind fun t395 => (if t395 = true then ((camshaftref01_Size.f a4).bind fun t396 => (if t396 = true then ((alu_Do.f a0 a1 a2 a3 a4).bind fun bt397 => ((camshaftref01_Put.f a5 a1 a4).bind fun t404 => ((camshaftref01_Put.f (Go.bits .xor .u32 4294967295 a5) a2 a4).bind fun t405 => ((alu_Do.f a0 t404 t405 a3 a4).bind fun bt406 => (if bt397.1 = bt406.1 then (if (!(bt397.2.1 == bt406.2.1) || (!(bt397.2.2.1 == bt406.2.2.1) || (!(bt397.2.2.2.1 == bt406.2.2.2.1) || (!(bt397.2.2.2.2.1 == bt406.2.2.2.2.1))))) = true then (camshaftlaw08_AluSizes.j0 k a0 a1 a2 a3 a4 bt397.1 true) else (camshaftlaw08_AluSizes.j0 k a0 a1 a2 a3 a4 bt397.1 (bt397.2.2.2.2.2 != bt406.2.2.2.2.2))) else (camshaftlaw08_AluSizes.j0 k a0 a1 a2 a3 a4 bt397.1 true)))))) else (some true))) else (none))) = some r := h
  clear h
  replace H := Option.bind_eq_some_iff.mp H
  obtain ⟨t395, A70, H⟩ := H
  replace H : (if t395 = true then ((camshaftref01_Size.f a4).bind fun t396 => (if t396 = true then ((alu_Do.f a0 a1 a2 a3 a4).bind fun bt397 => ((camshaftref01_Put.f a5 a1 a4).bind fun t404 => ((camshaftref01_Put.f (Go.bits .xor .u32 4294967295 a5) a2 a4).bind fun t405 => ((alu_Do.f a0 t404 t405 a3 a4).bind fun bt406 => (if bt397.1 = bt406.1 then (if (!(bt397.2.1 == bt406.2.1) || (!(bt397.2.2.1 == bt406.2.2.1) || (!(bt397.2.2.2.1 == bt406.2.2.2.1) || (!(bt397.2.2.2.2.1 == bt406.2.2.2.2.1))))) = true then (camshaftlaw08_AluSizes.j0 k a0 a1 a2 a3 a4 bt397.1 true) else (camshaftlaw08_AluSizes.j0 k a0 a1 a2 a3 a4 bt397.1 (bt397.2.2.2.2.2 != bt406.2.2.2.2.2))) else (camshaftlaw08_AluSizes.j0 k a0 a1 a2 a3 a4 bt397.1 true)))))) else (some true))) else (none)) = some r := H
  have A7 := Aside0.mk A70
  clear A70
  by_cases c8 : t395 = true
  · subst c8
    have H1 : ((camshaftref01_Size.f a4).bind fun t396 => (if t396 = true then ((alu_Do.f a0 a1 a2 a3 a4).bind fun bt397 => ((camshaftref01_Put.f a5 a1 a4).bind fun t404 => ((camshaftref01_Put.f (Go.bits .xor .u32 4294967295 a5) a2 a4).bind fun t405 => ((alu_Do.f a0 t404 t405 a3 a4).bind fun bt406 => (if bt397.1 = bt406.1 then (if (!(bt397.2.1 == bt406.2.1) || (!(bt397.2.2.1 == bt406.2.2.1) || (!(bt397.2.2.2.1 == bt406.2.2.2.1) || (!(bt397.2.2.2.2.1 == bt406.2.2.2.2.1))))) = true then (camshaftlaw08_AluSizes.j0 k a0 a1 a2 a3 a4 bt397.1 true) else (camshaftlaw08_AluSizes.j0 k a0 a1 a2 a3 a4 bt397.1 (bt397.2.2.2.2.2 != bt406.2.2.2.2.2))) else (camshaftlaw08_AluSizes.j0 k a0 a1 a2 a3 a4 bt397.1 true)))))) else (some true))) = some r := by rw [if_pos rfl] at H; exact H
    clear H
    have H := H1
    clear H1
    replace H := Option.bind_eq_some_iff.mp H
    obtain ⟨t396, A90, H⟩ := H
    replace H : (if t396 = true then ((alu_Do.f a0 a1 a2 a3 a4).bind fun bt397 => ((camshaftref01_Put.f a5 a1 a4).bind fun t404 => ((camshaftref01_Put.f (Go.bits .xor .u32 4294967295 a5) a2 a4).bind fun t405 => ((alu_Do.f a0 t404 t405 a3 a4).bind fun bt406 => (if bt397.1 = bt406.1 then (if (!(bt397.2.1 == bt406.2.1) || (!(bt397.2.2.1 == bt406.2.2.1) || (!(bt397.2.2.2.1 == bt406.2.2.2.1) || (!(bt397.2.2.2.2.1 == bt406.2.2.2.2.1))))) = true then (camshaftlaw08_AluSizes.j0 k a0 a1 a2 a3 a4 bt397.1 true) else (camshaftlaw08_AluSizes.j0 k a0 a1 a2 a3 a4 bt397.1 (bt397.2.2.2.2.2 != bt406.2.2.2.2.2))) else (camshaftlaw08_AluSizes.j0 k a0 a1 a2 a3 a4 bt397.1 true)))))) else (some true)) = some r := H
    have A9 := Aside0.mk A90
    clear A90
    by_cases c10 : t396 = true
    · subst c10
      have H1 : ((alu_Do.f a0 a1 a2 a3 a4).bind fun bt397 => ((camshaftref01_Put.f a5 a1 a4).bind fun t404 => ((camshaftref01_Put.f (Go.bits .xor .u32 4294967295 a5) a2 a4).bind fun t405 => ((alu_Do.f a0 t404 t405 a3 a4).bind fun bt406 => (if bt397.1 = bt406.1 then (if (!(bt397.2.1 == bt406.2.1) || (!(bt397.2.2.1 == bt406.2.2.1) || (!(bt397.2.2.2.1 == bt406.2.2.2.1) || (!(bt397.2.2.2.2.1 == bt406.2.2.2.2.1))))) = true then (camshaftlaw08_AluSizes.j0 k a0 a1 a2 a3 a4 bt397.1 true) else (camshaftlaw08_AluSizes.j0 k a0 a1 a2 a3 a4 bt397.1 (bt397.2.2.2.2.2 != bt406.2.2.2.2.2))) else (camshaftlaw08_AluSizes.j0 k a0 a1 a2 a3 a4 bt397.1 true)))))) = some r := by rw [if_pos rfl] at H; exact H
      clear H
      have H := H1
      clear H1
      replace H := Option.bind_eq_some_iff.mp H
      obtain ⟨⟨t397, t398, t399, t400, t401, t402⟩, A110, H⟩ := H
      replace H : ((camshaftref01_Put.f a5 a1 a4).bind fun t404 => ((camshaftref01_Put.f (Go.bits .xor .u32 4294967295 a5) a2 a4).bind fun t405 => ((alu_Do.f a0 t404 t405 a3 a4).bind fun bt406 => (if t397 = bt406.1 then (if (!(t398 == bt406.2.1) || (!(t399 == bt406.2.2.1) || (!(t400 == bt406.2.2.2.1) || (!(t401 == bt406.2.2.2.2.1))))) = true then (camshaftlaw08_AluSizes.j0 k a0 a1 a2 a3 a4 t397 true) else (camshaftlaw08_AluSizes.j0 k a0 a1 a2 a3 a4 t397 (t402 != bt406.2.2.2.2.2))) else (camshaftlaw08_AluSizes.j0 k a0 a1 a2 a3 a4 t397 true))))) = some r := H
      have A11 := Aside0.mk A110
      clear A110
      replace H := Option.bind_eq_some_iff.mp H
      obtain ⟨t404, A120, H⟩ := H
      replace H : ((camshaftref01_Put.f (Go.bits .xor .u32 4294967295 a5) a2 a4).bind fun t405 => ((alu_Do.f a0 t404 t405 a3 a4).bind fun bt406 => (if t397 = bt406.1 then (if (!(t398 == bt406.2.1) || (!(t399 == bt406.2.2.1) || (!(t400 == bt406.2.2.2.1) || (!(t401 == bt406.2.2.2.2.1))))) = true then (camshaftlaw08_AluSizes.j0 k a0 a1 a2 a3 a4 t397 true) else (camshaftlaw08_AluSizes.j0 k a0 a1 a2 a3 a4 t397 (t402 != bt406.2.2.2.2.2))) else (camshaftlaw08_AluSizes.j0 k a0 a1 a2 a3 a4 t397 true)))) = some r := H
      have A12 := Aside0.mk A120
      clear A120
      replace H := Option.bind_eq_some_iff.mp H
      obtain ⟨t405, A130, H⟩ := H
      replace H : ((alu_Do.f a0 t404 t405 a3 a4).bind fun bt406 => (if t397 = bt406.1 then (if (!(t398 == bt406.2.1) || (!(t399 == bt406.2.2.1) || (!(t400 == bt406.2.2.2.1) || (!(t401 == bt406.2.2.2.2.1))))) = true then (camshaftlaw08_AluSizes.j0 k a0 a1 a2 a3 a4 t397 true) else (camshaftlaw08_AluSizes.j0 k a0 a1 a2 a3 a4 t397 (t402 != bt406.2.2.2.2.2))) else (camshaftlaw08_AluSizes.j0 k a0 a1 a2 a3 a4 t397 true))) = some r := H
      have A13 := Aside0.mk A130
      clear A130
      replace H := Option.bind_eq_some_iff.mp H
      obtain ⟨⟨t406, t407, t408, t409, t410, t411⟩, A140, H⟩ := H
      replace H : (if t397 = t406 then (if (!(t398 == t407) || (!(t399 == t408) || (!(t400 == t409) || (!(t401 == t410))))) = true then (camshaftlaw08_AluSizes.j0 k a0 a1 a2 a3 a4 t397 true) else (camshaftlaw08_AluSizes.j0 k a0 a1 a2 a3 a4 t397 (t402 != t411))) else (camshaftlaw08_AluSizes.j0 k a0 a1 a2 a3 a4 t397 true)) = some r := H
      have A14 := Aside0.mk A140
      clear A140
      have HC15 := Aside0.mk H
      clear H
      go_enter Try.func11, Try.ntmps11
      go_upto_region 7 with (first | ((with_reducible refine gate_callee (f := 40) rfl ?_); refine goesL_ (some 22) rfl rfl Try.func40 (by kernel_rfl) rfl #[] rfl (by (try simp only [List.map_toArray, List.map_cons, List.map_nil]); first | done | rfl | (simp only [List.length_drop, List.length_take]; rfl)) ?_; (with_reducible refine (camshaftlaw08_alive.calls  true _ A7.out).mono ?_); rintro e w16 ⟨rfl, hb⟩; refine ⟨_, rfl, ?_⟩; have n0_ := Aside0.mk (below_step (by repeat (first | (with_reducible first | exact HB.out | apply below_alloc | apply pw_below_drewN | apply below_drew1) | exact HB.out)) hb); clear HB; have HB := n0_; clear n0_; (try clear hb); (try clear hb2); (try clear hk); (try clear hi)) | ((with_reducible refine gate_callee (f := 17) rfl ?_); refine goesL_ (some 25) rfl rfl Try.func17 (by kernel_rfl) rfl #[.int .i64 a4] rfl (by (try simp only [List.map_toArray, List.map_cons, List.map_nil]); first | done | rfl | (simp only [List.length_drop, List.length_take]; rfl)) ?_; (with_reducible refine (camshaftref01_Size.calls a4 true _ A9.out).mono ?_); rintro e w' ⟨rfl, ⟨nd, rfl⟩⟩; refine ⟨_, rfl, ?_⟩; (try (rw [drewN_self w16]; generalize hq_ : World.drewN w16 _ = w16; have n0_ : Aside0 (Below w.heap.size w w16) := ⟨by rw [← hq_]; exact (by repeat (first | (with_reducible first | exact HB.out | apply below_alloc | apply pw_below_drewN | apply below_drew1) | exact HB.out))⟩; clear HB hq_; have HB := n0_; clear n0_))) | ((with_reducible refine gate_callee (f := 41) rfl ?_); refine goesL_ (some 33) rfl rfl Try.func41 (by kernel_rfl) rfl #[.int .i64 a0, .int .u32 a1, .int .u32 a2, .bool a3, .int .i64 a4] rfl (by (try simp only [List.map_toArray, List.map_cons, List.map_nil]); first | done | rfl | (simp only [List.length_drop, List.length_take]; rfl)) ?_; (with_reducible refine (alu_Do.calls a0 a1 a2 a3 a4 t397 t398 t399 t400 t401 t402 _ A11.out).mono ?_); rintro e w17 ⟨rfl, hb⟩; refine ⟨_, rfl, ?_⟩; have n0_ := Aside0.mk (below_step (by repeat (first | (with_reducible first | exact HB.out | apply below_alloc | apply pw_below_drewN | apply below_drew1) | exact HB.out)) hb); clear HB; have HB := n0_; clear n0_; (try clear hb); (try clear hb2); (try clear hk); (try clear hi)) | ((with_reducible refine gate_dst (N := 14) rfl ?_); refine box_event ?hg (N := 14) ?hd (cs := #[.bool false, .bool false, .bool false, .bool false]) (t := 29) ?hr ?_; (case hd => rfl); (case hg => rfl); (case hr => first | (go_simp; done) | (go_simp; rfl)); intro gb403 hg w18 hbox hb; have n0_ := Aside0.mk (below_step (by repeat (first | (with_reducible first | exact HB.out | apply below_alloc | apply pw_below_drewN | apply below_drew1) | exact HB.out)) hb); have n1_ := Aside0.mk (hbox); have n2_ := Aside0.mk ((by rw [hg]; exact (below_size (by repeat (first | (with_reducible first | exact HB.out | apply below_alloc | apply pw_below_drewN | apply below_drew1) | exact HB.out))) : w.heap.size ≤ gb403)); have n3_ := Aside0.mk ((by rw [hg]; exact (below_size (by repeat (first | (with_reducible first | exact HB.out | apply below_alloc | apply pw_below_drewN | apply below_drew1) | exact HB.out))) : w.heap.size ≤ gb403)); clear HB; have HB := n0_; have BK403 := n1_; have GW403 := n2_; have GE403 := n3_; clear n0_ n1_ n2_ n3_; clear hb hbox hg; have hcz19_0 : w18.cell? ⟨gb403, 0, none⟩ = some (.bool false) := (blk_cell BK403.out 0).trans rfl; have hcz19_1 : w18.cell? ⟨gb403, 1, none⟩ = some (.bool false) := (blk_cell BK403.out 1).trans rfl; have hcz19_2 : w18.cell? ⟨gb403, 2, none⟩ = some (.bool false) := (blk_cell BK403.out 2).trans rfl; have hcz19_3 : w18.cell? ⟨gb403, 3, none⟩ = some (.bool false) := (blk_cell BK403.out 3).trans rfl; have hfz19_0 := blk_frozen BK403.out 0; have hfz19_1 := blk_frozen BK403.out 1; have hfz19_2 := blk_frozen BK403.out 2; have hfz19_3 := blk_frozen BK403.out 3) | ((with_reducible refine gate_callee (f := 32) rfl ?_); refine goesL_ (some 42) rfl rfl Try.func32 (by kernel_rfl) rfl #[.int .u32 a5, .int .u32 a1, .int .i64 a4] rfl (by (try simp only [List.map_toArray, List.map_cons, List.map_nil]); first | done | rfl | (simp only [List.length_drop, List.length_take]; rfl)) ?_; (with_reducible refine (camshaftref01_Put.calls a5 a1 a4 t404 _ A12.out).mono ?_); rintro e w' ⟨rfl, ⟨nd, rfl⟩⟩; refine ⟨_, rfl, ?_⟩) | ((with_reducible refine gate_callee (f := 32) rfl ?_); refine goesL_ (some 47) rfl rfl Try.func32 (by kernel_rfl) rfl #[.int .u32 (Go.bits .xor .u32 4294967295 a5), .int .u32 a2, .int .i64 a4] rfl (by (try simp only [List.map_toArray, List.map_cons, List.map_nil]); first | done | rfl | (simp only [List.length_drop, List.length_take]; rfl)) ?_; (with_reducible refine (camshaftref01_Put.calls (Go.bits .xor .u32 4294967295 a5) a2 a4 t405 _ A13.out).mono ?_); rintro e w' ⟨rfl, ⟨nd, rfl⟩⟩; refine ⟨_, rfl, ?_⟩) | ((with_reducible refine gate_callee (f := 41) rfl ?_); refine goesL_ (some 50) rfl rfl Try.func41 (by kernel_rfl) rfl #[.int .i64 a0, .int .u32 t404, .int .u32 t405, .bool a3, .int .i64 a4] rfl (by (try simp only [List.map_toArray, List.map_cons, List.map_nil]); first | done | rfl | (simp only [List.length_drop, List.length_take]; rfl)) ?_; (with_reducible refine (alu_Do.calls a0 t404 t405 a3 a4 t406 t407 t408 t409 t410 t411 _ A14.out).mono ?_); rintro e w20 ⟨rfl, hb⟩; refine ⟨_, rfl, ?_⟩; have n0_ := Aside0.mk (blk_below (g := gb403) (o := .cells #[.bool t398, .bool t399, .bool t400, .bool t401] 29 (0, 0)) (by (with_reducible repeat (first | refine blk_drewN ?_ _ | refine blk_drew ?_ | refine blk_alloc ?_ _)); refine blk_put (cs := #[.bool t398, .bool t399, .bool t400, .bool false]) ?_ 3 _ rfl; (with_reducible repeat (first | refine blk_drewN ?_ _ | refine blk_drew ?_ | refine blk_alloc ?_ _)); refine blk_put (cs := #[.bool t398, .bool t399, .bool false, .bool false]) ?_ 2 _ rfl; (with_reducible repeat (first | refine blk_drewN ?_ _ | refine blk_drew ?_ | refine blk_alloc ?_ _)); refine blk_put (cs := #[.bool t398, .bool false, .bool false, .bool false]) ?_ 1 _ rfl; (with_reducible repeat (first | refine blk_drewN ?_ _ | refine blk_drew ?_ | refine blk_alloc ?_ _)); refine blk_put (cs := #[.bool false, .bool false, .bool false, .bool false]) ?_ 0 _ rfl; (with_reducible repeat (first | refine blk_drewN ?_ _ | refine blk_drew ?_ | refine blk_alloc ?_ _)); exact BK403.out) hb); have n1_ := Aside0.mk (below_step (by repeat (first | (with_reducible first | exact HB.out | apply below_alloc | apply pw_below_drewN | apply below_drew1 | refine below_set ?_ GE403.out) | exact HB.out)) hb); clear BK403; clear HB; have BK403 := n0_; have HB := n1_; clear n0_ n1_; (try clear hb); (try clear hb2); (try clear hk); (try clear hi)) | ((with_reducible refine gate_dst (N := 17) rfl ?_); refine box_event ?hg (N := 17) ?hd (cs := #[.bool false, .bool false, .bool false, .bool false]) (t := 29) ?hr ?_; (case hd => rfl); (case hg => rfl); (case hr => first | (go_simp; done) | (go_simp; rfl)); intro gb412 hg w21 hbox hb; have n0_ := Aside0.mk (blk_below (g := gb403) (o := .cells #[.bool t398, .bool t399, .bool t400, .bool t401] 29 (0, 0)) (by (with_reducible repeat (first | refine blk_drewN ?_ _ | refine blk_drew ?_ | refine blk_alloc ?_ _)); exact BK403.out) hb); have n1_ := Aside0.mk (below_step (by repeat (first | (with_reducible first | exact HB.out | apply below_alloc | apply pw_below_drewN | apply below_drew1 | refine below_set ?_ GE403.out) | exact HB.out)) hb); have n2_ := Aside0.mk (hbox); have n3_ := Aside0.mk ((by rw [hg]; exact (below_size (by repeat (first | (with_reducible first | exact HB.out | apply below_alloc | apply pw_below_drewN | apply below_drew1 | refine below_set ?_ GE403.out) | exact HB.out))) : w.heap.size ≤ gb412)); have n4_ := Aside0.mk ((by rw [hg]; exact (below_size (by repeat (first | (with_reducible first | exact HB.out | apply below_alloc | apply pw_below_drewN | apply below_drew1 | refine below_set ?_ GE403.out) | exact HB.out))) : w.heap.size ≤ gb412)); have n5_ := Aside0.mk ((by rw [hg]; exact Nat.ne_of_lt (blk_lt (g := gb403) (o := .cells #[.bool t398, .bool t399, .bool t400, .bool t401] 29 (0, 0)) (by (with_reducible repeat (first | refine blk_drewN ?_ _ | refine blk_drew ?_ | refine blk_alloc ?_ _)); exact BK403.out)) : gb403 ≠ gb412)); have n6_ := Aside0.mk ((by rw [hg]; exact Nat.ne_of_gt (blk_lt (g := gb403) (o := .cells #[.bool t398, .bool t399, .bool t400, .bool t401] 29 (0, 0)) (by (with_reducible repeat (first | refine blk_drewN ?_ _ | refine blk_drew ?_ | refine blk_alloc ?_ _)); exact BK403.out)) : gb412 ≠ gb403)); clear BK403; clear HB; have BK403 := n0_; have HB := n1_; have BK412 := n2_; have GW412 := n3_; have GE412 := n4_; have NB403_412 := n5_; have NB412_403 := n6_; clear n0_ n1_ n2_ n3_ n4_ n5_ n6_; clear hb hbox hg; have hnb22 := NB412_403.out; have hnc22 := NB403_412.out; have hcz23_0 : w21.cell? ⟨gb412, 0, none⟩ = some (.bool false) := (blk_cell BK412.out 0).trans rfl; have hcz23_1 : w21.cell? ⟨gb412, 1, none⟩ = some (.bool false) := (blk_cell BK412.out 1).trans rfl; have hcz23_2 : w21.cell? ⟨gb412, 2, none⟩ = some (.bool false) := (blk_cell BK412.out 2).trans rfl; have hcz23_3 : w21.cell? ⟨gb412, 3, none⟩ = some (.bool false) := (blk_cell BK412.out 3).trans rfl; have hfz23_0 := blk_frozen BK412.out 0; have hfz23_1 := blk_frozen BK412.out 1; have hfz23_2 := blk_frozen BK412.out 2; have hfz23_3 := blk_frozen BK412.out 3))
      (try simp only [Act.put, List.setIfInBounds_toArray, List.set_cons_zero, List.set_cons_succ])
      go_cut [66] (fun v66 wc => ∃ (kq : Nat) (x66_14 : Bool), v66 = .bool x66_14 ∧ Aside0 (camshaftlaw08_AluSizes.j0 kq a0 a1 a2 a3 a4 t397 x66_14 = some r) ∧ Aside0 (kq ≤ k) ∧ Aside0 (wc.heap[gb403]? = some (.cells #[.bool t398, .bool t399, .bool t400, .bool t401] 29 (0, 0))) ∧ Aside0 (wc.heap[gb412]? = some (.cells #[.bool t407, .bool t408, .bool t409, .bool t410] 29 (0, 0))) ∧ Aside0 (Below w.heap.size w wc))
      case first =>
        have H := HC15.out
        clear HC15
        by_cases c24 : t397 = t406
        · rw [if_pos c24] at H
          have c24b0 : (t397 == t406) = true := beq_iff_eq.mpr c24
          have c24b1 : (t397 != t406) = false := bne_eq_false_iff_eq.mpr c24
          clear c24
          (first | rw [c24b0] | (simp only [i64_w, i32_w]; rw [c24b0]) | skip)
          by_cases c25 : (!(t398 == t407) || (!(t399 == t408) || (!(t400 == t409) || (!(t401 == t410))))) = true
          · rw [if_pos c25] at H
            have c25b0 : (!(t398 == t407) || (!(t399 == t408) || (!(t400 == t409) || (!(t401 == t410))))) = true := c25
            clear c25
            have H' := Aside0.mk H
            clear H
            have hnb26 := NB403_412.out
            have hnc26 := NB412_403.out
            have hcz27_0 : w21.cell? ⟨gb403, 0, none⟩ = some (.bool t398) := (blk_cell BK403.out 0).trans rfl
            have hcz27_1 : w21.cell? ⟨gb403, 1, none⟩ = some (.bool t399) := (blk_cell BK403.out 1).trans rfl
            have hcz27_2 : w21.cell? ⟨gb403, 2, none⟩ = some (.bool t400) := (blk_cell BK403.out 2).trans rfl
            have hcz27_3 : w21.cell? ⟨gb403, 3, none⟩ = some (.bool t401) := (blk_cell BK403.out 3).trans rfl
            have hfz27_0 := blk_frozen BK403.out 0
            have hfz27_1 := blk_frozen BK403.out 1
            have hfz27_2 := blk_frozen BK403.out 2
            have hfz27_3 := blk_frozen BK403.out 3
            have hcz28_0 : w21.cell? ⟨gb412, 0, none⟩ = some (.bool false) := (blk_cell BK412.out 0).trans rfl
            have hcz28_1 : w21.cell? ⟨gb412, 1, none⟩ = some (.bool false) := (blk_cell BK412.out 1).trans rfl
            have hcz28_2 : w21.cell? ⟨gb412, 2, none⟩ = some (.bool false) := (blk_cell BK412.out 2).trans rfl
            have hcz28_3 : w21.cell? ⟨gb412, 3, none⟩ = some (.bool false) := (blk_cell BK412.out 3).trans rfl
            have hfz28_0 := blk_frozen BK412.out 0
            have hfz28_1 := blk_frozen BK412.out 1
            have hfz28_2 := blk_frozen BK412.out 2
            have hfz28_3 := blk_frozen BK412.out 3
            go_wp2
            go_meet
            case rel => exact ⟨_, (true), (by first | rfl | (simp; done) | (simp [*]; done)), H', ⟨by first | omega | exact Nat.le_refl _⟩, ⟨by (with_reducible repeat (first | refine blk_drewN ?_ _ | refine blk_drew ?_ | refine blk_alloc ?_ _)); refine blk_far ?_ NB403_412.out _; (with_reducible repeat (first | refine blk_drewN ?_ _ | refine blk_drew ?_ | refine blk_alloc ?_ _)); refine blk_far ?_ NB403_412.out _; (with_reducible repeat (first | refine blk_drewN ?_ _ | refine blk_drew ?_ | refine blk_alloc ?_ _)); refine blk_far ?_ NB403_412.out _; (with_reducible repeat (first | refine blk_drewN ?_ _ | refine blk_drew ?_ | refine blk_alloc ?_ _)); refine blk_far ?_ NB403_412.out _; (with_reducible repeat (first | refine blk_drewN ?_ _ | refine blk_drew ?_ | refine blk_alloc ?_ _)); exact BK403.out⟩, ⟨by (with_reducible repeat (first | refine blk_drewN ?_ _ | refine blk_drew ?_ | refine blk_alloc ?_ _)); refine blk_put (cs := #[.bool t407, .bool t408, .bool t409, .bool false]) ?_ 3 _ rfl; (with_reducible repeat (first | refine blk_drewN ?_ _ | refine blk_drew ?_ | refine blk_alloc ?_ _)); refine blk_put (cs := #[.bool t407, .bool t408, .bool false, .bool false]) ?_ 2 _ rfl; (with_reducible repeat (first | refine blk_drewN ?_ _ | refine blk_drew ?_ | refine blk_alloc ?_ _)); refine blk_put (cs := #[.bool t407, .bool false, .bool false, .bool false]) ?_ 1 _ rfl; (with_reducible repeat (first | refine blk_drewN ?_ _ | refine blk_drew ?_ | refine blk_alloc ?_ _)); refine blk_put (cs := #[.bool false, .bool false, .bool false, .bool false]) ?_ 0 _ rfl; (with_reducible repeat (first | refine blk_drewN ?_ _ | refine blk_drew ?_ | refine blk_alloc ?_ _)); exact BK412.out⟩, ⟨by repeat (first | (with_reducible first | exact HB.out | apply below_alloc | apply pw_below_drewN | apply below_drew1 | refine below_set ?_ GE403.out | refine below_set ?_ GE412.out) | exact HB.out)⟩⟩
          · rw [if_neg c25] at H
            have c25b0 : (!(t398 == t407) || (!(t399 == t408) || (!(t400 == t409) || (!(t401 == t410))))) = false := by simpa using c25
            clear c25
            have H' := Aside0.mk H
            clear H
            have hnb29 := NB403_412.out
            have hnc29 := NB412_403.out
            have hcz30_0 : w21.cell? ⟨gb403, 0, none⟩ = some (.bool t398) := (blk_cell BK403.out 0).trans rfl
            have hcz30_1 : w21.cell? ⟨gb403, 1, none⟩ = some (.bool t399) := (blk_cell BK403.out 1).trans rfl
            have hcz30_2 : w21.cell? ⟨gb403, 2, none⟩ = some (.bool t400) := (blk_cell BK403.out 2).trans rfl
            have hcz30_3 : w21.cell? ⟨gb403, 3, none⟩ = some (.bool t401) := (blk_cell BK403.out 3).trans rfl
            have hfz30_0 := blk_frozen BK403.out 0
            have hfz30_1 := blk_frozen BK403.out 1
            have hfz30_2 := blk_frozen BK403.out 2
            have hfz30_3 := blk_frozen BK403.out 3
            have hcz31_0 : w21.cell? ⟨gb412, 0, none⟩ = some (.bool false) := (blk_cell BK412.out 0).trans rfl
            have hcz31_1 : w21.cell? ⟨gb412, 1, none⟩ = some (.bool false) := (blk_cell BK412.out 1).trans rfl
            have hcz31_2 : w21.cell? ⟨gb412, 2, none⟩ = some (.bool false) := (blk_cell BK412.out 2).trans rfl
            have hcz31_3 : w21.cell? ⟨gb412, 3, none⟩ = some (.bool false) := (blk_cell BK412.out 3).trans rfl
            have hfz31_0 := blk_frozen BK412.out 0
            have hfz31_1 := blk_frozen BK412.out 1
            have hfz31_2 := blk_frozen BK412.out 2
            have hfz31_3 := blk_frozen BK412.out 3
            go_wp2
            go_meet
            case rel => exact ⟨_, ((t402 != t411)), (by first | rfl | (simp; done) | (simp [*]; done)), H', ⟨by first | omega | exact Nat.le_refl _⟩, ⟨by (with_reducible repeat (first | refine blk_drewN ?_ _ | refine blk_drew ?_ | refine blk_alloc ?_ _)); refine blk_far ?_ NB403_412.out _; (with_reducible repeat (first | refine blk_drewN ?_ _ | refine blk_drew ?_ | refine blk_alloc ?_ _)); refine blk_far ?_ NB403_412.out _; (with_reducible repeat (first | refine blk_drewN ?_ _ | refine blk_drew ?_ | refine blk_alloc ?_ _)); refine blk_far ?_ NB403_412.out _; (with_reducible repeat (first | refine blk_drewN ?_ _ | refine blk_drew ?_ | refine blk_alloc ?_ _)); refine blk_far ?_ NB403_412.out _; (with_reducible repeat (first | refine blk_drewN ?_ _ | refine blk_drew ?_ | refine blk_alloc ?_ _)); exact BK403.out⟩, ⟨by (with_reducible repeat (first | refine blk_drewN ?_ _ | refine blk_drew ?_ | refine blk_alloc ?_ _)); refine blk_put (cs := #[.bool t407, .bool t408, .bool t409, .bool false]) ?_ 3 _ rfl; (with_reducible repeat (first | refine blk_drewN ?_ _ | refine blk_drew ?_ | refine blk_alloc ?_ _)); refine blk_put (cs := #[.bool t407, .bool t408, .bool false, .bool false]) ?_ 2 _ rfl; (with_reducible repeat (first | refine blk_drewN ?_ _ | refine blk_drew ?_ | refine blk_alloc ?_ _)); refine blk_put (cs := #[.bool t407, .bool false, .bool false, .bool false]) ?_ 1 _ rfl; (with_reducible repeat (first | refine blk_drewN ?_ _ | refine blk_drew ?_ | refine blk_alloc ?_ _)); refine blk_put (cs := #[.bool false, .bool false, .bool false, .bool false]) ?_ 0 _ rfl; (with_reducible repeat (first | refine blk_drewN ?_ _ | refine blk_drew ?_ | refine blk_alloc ?_ _)); exact BK412.out⟩, ⟨by repeat (first | (with_reducible first | exact HB.out | apply below_alloc | apply pw_below_drewN | apply below_drew1 | refine below_set ?_ GE403.out | refine below_set ?_ GE412.out) | exact HB.out)⟩⟩
        · rw [if_neg c24] at H
          have c24b0 : (t397 == t406) = false := beq_eq_false_iff_ne.mpr c24
          have c24b1 : (t397 != t406) = true := bne_iff_ne.mpr c24
          (first | rw [c24b0] | (simp only [i64_w, i32_w]; rw [c24b0]) | skip)
          have H' := Aside0.mk H
          clear H
          go_wp2
          go_meet
          case rel => exact ⟨_, (true), (by first | rfl | (simp; done) | (simp [*]; done)), H', ⟨by first | omega | exact Nat.le_refl _⟩, ⟨by (with_reducible repeat (first | refine blk_drewN ?_ _ | refine blk_drew ?_ | refine blk_alloc ?_ _)); refine blk_far ?_ NB403_412.out _; (with_reducible repeat (first | refine blk_drewN ?_ _ | refine blk_drew ?_ | refine blk_alloc ?_ _)); refine blk_far ?_ NB403_412.out _; (with_reducible repeat (first | refine blk_drewN ?_ _ | refine blk_drew ?_ | refine blk_alloc ?_ _)); refine blk_far ?_ NB403_412.out _; (with_reducible repeat (first | refine blk_drewN ?_ _ | refine blk_drew ?_ | refine blk_alloc ?_ _)); refine blk_far ?_ NB403_412.out _; (with_reducible repeat (first | refine blk_drewN ?_ _ | refine blk_drew ?_ | refine blk_alloc ?_ _)); exact BK403.out⟩, ⟨by (with_reducible repeat (first | refine blk_drewN ?_ _ | refine blk_drew ?_ | refine blk_alloc ?_ _)); refine blk_put (cs := #[.bool t407, .bool t408, .bool t409, .bool false]) ?_ 3 _ rfl; (with_reducible repeat (first | refine blk_drewN ?_ _ | refine blk_drew ?_ | refine blk_alloc ?_ _)); refine blk_put (cs := #[.bool t407, .bool t408, .bool false, .bool false]) ?_ 2 _ rfl; (with_reducible repeat (first | refine blk_drewN ?_ _ | refine blk_drew ?_ | refine blk_alloc ?_ _)); refine blk_put (cs := #[.bool t407, .bool false, .bool false, .bool false]) ?_ 1 _ rfl; (with_reducible repeat (first | refine blk_drewN ?_ _ | refine blk_drew ?_ | refine blk_alloc ?_ _)); refine blk_put (cs := #[.bool false, .bool false, .bool false, .bool false]) ?_ 0 _ rfl; (with_reducible repeat (first | refine blk_drewN ?_ _ | refine blk_drew ?_ | refine blk_alloc ?_ _)); exact BK412.out⟩, ⟨by repeat (first | (with_reducible first | exact HB.out | apply below_alloc | apply pw_below_drewN | apply below_drew1 | refine below_set ?_ GE403.out | refine below_set ?_ GE412.out) | exact HB.out)⟩⟩
      case rest =>
        clear HC15
        try clear c1
        try clear c2
        try clear p2
        try clear c3
        try clear c4
        try clear c8
        try clear c10
        try clear c11
        try clear c17
        try clear c22
        try clear c24
        try clear c24b0
        try clear c24b1
        try clear c25
        try clear c25b0
        try clear c26
        try clear c29
        try clear hcz19_0
        try clear hcz19_1
        try clear hcz19_2
        try clear hcz19_3
        try clear hcz23_0
        try clear hcz23_1
        try clear hcz23_2
        try clear hcz23_3
        try clear hcz27_0
        try clear hcz27_1
        try clear hcz27_2
        try clear hcz27_3
        try clear hcz28_0
        try clear hcz28_1
        try clear hcz28_2
        try clear hcz28_3
        try clear hcz30_0
        try clear hcz30_1
        try clear hcz30_2
        try clear hcz30_3
        try clear hcz31_0
        try clear hcz31_1
        try clear hcz31_2
        try clear hcz31_3
        try clear hfz19_0
        try clear hfz19_1
        try clear hfz19_2
        try clear hfz19_3
        try clear hfz23_0
        try clear hfz23_1
        try clear hfz23_2
        try clear hfz23_3
        try clear hfz27_0
        try clear hfz27_1
        try clear hfz27_2
        try clear hfz27_3
        try clear hfz28_0
        try clear hfz28_1
        try clear hfz28_2
        try clear hfz28_3
        try clear hfz30_0
        try clear hfz30_1
        try clear hfz30_2
        try clear hfz30_3
        try clear hfz31_0
        try clear hfz31_1
        try clear hfz31_2
        try clear hfz31_3
        obtain ⟨kq, x66_14, rfl, HA, HJ14, BK403, BK412, HB⟩ := hcut
        cases kq with
        | zero => exact absurd HA.out (by simp [camshaftlaw08_AluSizes.j0])
        | succ kj14 =>
          have H := HA.out
          clear HA
          simp only [camshaftlaw08_AluSizes.j0] at H
          by_cases c32 : x66_14 = true
          · subst c32
            have H1 : (none) = some r := by rw [if_pos rfl] at H; exact H
            clear H
            have H := H1
            clear H1
            exact absurd H (by simp)
          · replace c32 := Bool.eq_false_iff.mpr c32
            subst c32
            have H1 : ((alu_Do.f a0 a1 a2 a3 4).bind fun bt413 => ((alu_Logic.f a0).bind fun t420 => (if t420 = true then ((camshaftref01_Rest.f bt413.1 a4).bind fun t421 => (some (t421 == (wrap64 (t397))))) else (some true)))) = some r := by rw [if_neg (show ¬ (false = true) by decide)] at H; exact H
            clear H
            have H := H1
            clear H1
            replace H := Option.bind_eq_some_iff.mp H
            obtain ⟨⟨t413, t414, t415, t416, t417, t418⟩, A330, H⟩ := H
            replace H : ((alu_Logic.f a0).bind fun t420 => (if t420 = true then ((camshaftref01_Rest.f t413 a4).bind fun t421 => (some (t421 == (wrap64 (t397))))) else (some true))) = some r := H
            have A33 := Aside0.mk A330
            clear A330
            replace H := Option.bind_eq_some_iff.mp H
            obtain ⟨t420, A340, H⟩ := H
            replace H : (if t420 = true then ((camshaftref01_Rest.f t413 a4).bind fun t421 => (some (t421 == (wrap64 (t397))))) else (some true)) = some r := H
            have A34 := Aside0.mk A340
            clear A340
            by_cases c35 : t420 = true
            · subst c35
              have H1 : ((camshaftref01_Rest.f t413 a4).bind fun t421 => (some (t421 == (wrap64 (t397))))) = some r := by rw [if_pos rfl] at H; exact H
              clear H
              have H := H1
              clear H1
              replace H := Option.bind_eq_some_iff.mp H
              obtain ⟨t421, A360, H⟩ := H
              replace H : (some (t421 == (wrap64 (t397)))) = some r := H
              have A36 := Aside0.mk A360
              clear A360
              obtain rfl := Option.some.inj H
              go_wp2_with (first | ((with_reducible refine gate_callee (f := 41) rfl ?_); refine goesL_ (some 72) rfl rfl Try.func41 (by kernel_rfl) rfl #[.int .i64 a0, .int .u32 a1, .int .u32 a2, .bool a3, .int .i64 4] rfl (by (try simp only [List.map_toArray, List.map_cons, List.map_nil]); first | done | rfl | (simp only [List.length_drop, List.length_take]; rfl)) ?_; (with_reducible refine (alu_Do.calls a0 a1 a2 a3 4 t413 t414 t415 t416 t417 t418 _ A33.out).mono ?_); rintro e w37 ⟨rfl, hb⟩; refine ⟨_, rfl, ?_⟩; have n0_ := Aside0.mk (blk_below (g := gb403) (o := .cells #[.bool t398, .bool t399, .bool t400, .bool t401] 29 (0, 0)) (by (with_reducible repeat (first | refine blk_drewN ?_ _ | refine blk_drew ?_ | refine blk_alloc ?_ _)); exact BK403.out) hb); have n1_ := Aside0.mk (blk_below (g := gb412) (o := .cells #[.bool t407, .bool t408, .bool t409, .bool t410] 29 (0, 0)) (by (with_reducible repeat (first | refine blk_drewN ?_ _ | refine blk_drew ?_ | refine blk_alloc ?_ _)); exact BK412.out) hb); have n2_ := Aside0.mk (below_step (by repeat (first | (with_reducible first | exact HB.out | apply below_alloc | apply pw_below_drewN | apply below_drew1 | refine below_set ?_ GE403.out | refine below_set ?_ GE412.out) | exact HB.out)) hb); clear BK403; clear BK412; clear HB; have BK403 := n0_; have BK412 := n1_; have HB := n2_; clear n0_ n1_ n2_; (try clear hb); (try clear hb2); (try clear hk); (try clear hi)) | ((with_reducible refine gate_dst (N := 20) rfl ?_); refine box_event ?hg (N := 20) ?hd (cs := #[.bool false, .bool false, .bool false, .bool false]) (t := 29) ?hr ?_; (case hd => rfl); (case hg => rfl); (case hr => first | (go_simp; done) | (go_simp; rfl)); intro gb419 hg w38 hbox hb; have n0_ := Aside0.mk (blk_below (g := gb403) (o := .cells #[.bool t398, .bool t399, .bool t400, .bool t401] 29 (0, 0)) (by (with_reducible repeat (first | refine blk_drewN ?_ _ | refine blk_drew ?_ | refine blk_alloc ?_ _)); exact BK403.out) hb); have n1_ := Aside0.mk (blk_below (g := gb412) (o := .cells #[.bool t407, .bool t408, .bool t409, .bool t410] 29 (0, 0)) (by (with_reducible repeat (first | refine blk_drewN ?_ _ | refine blk_drew ?_ | refine blk_alloc ?_ _)); exact BK412.out) hb); have n2_ := Aside0.mk (below_step (by repeat (first | (with_reducible first | exact HB.out | apply below_alloc | apply pw_below_drewN | apply below_drew1 | refine below_set ?_ GE403.out | refine below_set ?_ GE412.out) | exact HB.out)) hb); have n3_ := Aside0.mk (hbox); have n4_ := Aside0.mk ((by rw [hg]; exact (below_size (by repeat (first | (with_reducible first | exact HB.out | apply below_alloc | apply pw_below_drewN | apply below_drew1 | refine below_set ?_ GE403.out | refine below_set ?_ GE412.out) | exact HB.out))) : w.heap.size ≤ gb419)); have n5_ := Aside0.mk ((by rw [hg]; exact (below_size (by repeat (first | (with_reducible first | exact HB.out | apply below_alloc | apply pw_below_drewN | apply below_drew1 | refine below_set ?_ GE403.out | refine below_set ?_ GE412.out) | exact HB.out))) : w.heap.size ≤ gb419)); have n6_ := Aside0.mk ((by rw [hg]; exact Nat.ne_of_lt (blk_lt (g := gb403) (o := .cells #[.bool t398, .bool t399, .bool t400, .bool t401] 29 (0, 0)) (by (with_reducible repeat (first | refine blk_drewN ?_ _ | refine blk_drew ?_ | refine blk_alloc ?_ _)); exact BK403.out)) : gb403 ≠ gb419)); have n7_ := Aside0.mk ((by rw [hg]; exact Nat.ne_of_gt (blk_lt (g := gb403) (o := .cells #[.bool t398, .bool t399, .bool t400, .bool t401] 29 (0, 0)) (by (with_reducible repeat (first | refine blk_drewN ?_ _ | refine blk_drew ?_ | refine blk_alloc ?_ _)); exact BK403.out)) : gb419 ≠ gb403)); have n8_ := Aside0.mk ((by rw [hg]; exact Nat.ne_of_lt (blk_lt (g := gb412) (o := .cells #[.bool t407, .bool t408, .bool t409, .bool t410] 29 (0, 0)) (by (with_reducible repeat (first | refine blk_drewN ?_ _ | refine blk_drew ?_ | refine blk_alloc ?_ _)); exact BK412.out)) : gb412 ≠ gb419)); have n9_ := Aside0.mk ((by rw [hg]; exact Nat.ne_of_gt (blk_lt (g := gb412) (o := .cells #[.bool t407, .bool t408, .bool t409, .bool t410] 29 (0, 0)) (by (with_reducible repeat (first | refine blk_drewN ?_ _ | refine blk_drew ?_ | refine blk_alloc ?_ _)); exact BK412.out)) : gb419 ≠ gb412)); clear BK403; clear BK412; clear HB; have BK403 := n0_; have BK412 := n1_; have HB := n2_; have BK419 := n3_; have GW419 := n4_; have GE419 := n5_; have NB403_419 := n6_; have NB419_403 := n7_; have NB412_419 := n8_; have NB419_412 := n9_; clear n0_ n1_ n2_ n3_ n4_ n5_ n6_ n7_ n8_ n9_; clear hb hbox hg; have hnb39 := NB419_403.out; have hnc39 := NB403_419.out; have hnb40 := NB419_412.out; have hnc40 := NB412_419.out; have hcz41_0 : w38.cell? ⟨gb419, 0, none⟩ = some (.bool false) := (blk_cell BK419.out 0).trans rfl; have hcz41_1 : w38.cell? ⟨gb419, 1, none⟩ = some (.bool false) := (blk_cell BK419.out 1).trans rfl; have hcz41_2 : w38.cell? ⟨gb419, 2, none⟩ = some (.bool false) := (blk_cell BK419.out 2).trans rfl; have hcz41_3 : w38.cell? ⟨gb419, 3, none⟩ = some (.bool false) := (blk_cell BK419.out 3).trans rfl; have hfz41_0 := blk_frozen BK419.out 0; have hfz41_1 := blk_frozen BK419.out 1; have hfz41_2 := blk_frozen BK419.out 2; have hfz41_3 := blk_frozen BK419.out 3) | ((with_reducible refine gate_callee (f := 43) rfl ?_); refine goesL_ (some 77) rfl rfl Try.func43 (by kernel_rfl) rfl #[.int .i64 a0] rfl (by (try simp only [List.map_toArray, List.map_cons, List.map_nil]); first | done | rfl | (simp only [List.length_drop, List.length_take]; rfl)) ?_; (with_reducible refine (alu_Logic.calls a0 true _ A34.out).mono ?_); rintro e w' ⟨rfl, ⟨nd, rfl⟩⟩; refine ⟨_, rfl, ?_⟩) | (go_at_call 45; (with_reducible refine (camshaftref01_Rest.calls t413 a4 t421 _ A36.out).mono ?_); rintro e w' ⟨rfl, ⟨nd, rfl⟩⟩))
              go_ret
              exact ⟨by first | rfl | (simp [errW_none, errW_some] <;> rfl) | (simp [*, errW_none, errW_some] <;> rfl), by repeat (first | (with_reducible first | exact HB.out | apply below_alloc | apply pw_below_drewN | apply below_drew1 | refine below_set ?_ GE403.out | refine below_set ?_ GE412.out | refine below_set ?_ GE419.out) | exact HB.out)⟩
            · replace c35 := Bool.eq_false_iff.mpr c35
              subst c35
              have H1 : (some true) = some r := by rw [if_neg (show ¬ (false = true) by decide)] at H; exact H
              clear H
              have H := H1
              clear H1
              obtain rfl := Option.some.inj H
              go_wp2_with (first | ((with_reducible refine gate_callee (f := 41) rfl ?_); refine goesL_ (some 72) rfl rfl Try.func41 (by kernel_rfl) rfl #[.int .i64 a0, .int .u32 a1, .int .u32 a2, .bool a3, .int .i64 4] rfl (by (try simp only [List.map_toArray, List.map_cons, List.map_nil]); first | done | rfl | (simp only [List.length_drop, List.length_take]; rfl)) ?_; (with_reducible refine (alu_Do.calls a0 a1 a2 a3 4 t413 t414 t415 t416 t417 t418 _ A33.out).mono ?_); rintro e w42 ⟨rfl, hb⟩; refine ⟨_, rfl, ?_⟩; have n0_ := Aside0.mk (blk_below (g := gb403) (o := .cells #[.bool t398, .bool t399, .bool t400, .bool t401] 29 (0, 0)) (by (with_reducible repeat (first | refine blk_drewN ?_ _ | refine blk_drew ?_ | refine blk_alloc ?_ _)); exact BK403.out) hb); have n1_ := Aside0.mk (blk_below (g := gb412) (o := .cells #[.bool t407, .bool t408, .bool t409, .bool t410] 29 (0, 0)) (by (with_reducible repeat (first | refine blk_drewN ?_ _ | refine blk_drew ?_ | refine blk_alloc ?_ _)); exact BK412.out) hb); have n2_ := Aside0.mk (below_step (by repeat (first | (with_reducible first | exact HB.out | apply below_alloc | apply pw_below_drewN | apply below_drew1 | refine below_set ?_ GE403.out | refine below_set ?_ GE412.out) | exact HB.out)) hb); clear BK403; clear BK412; clear HB; have BK403 := n0_; have BK412 := n1_; have HB := n2_; clear n0_ n1_ n2_; (try clear hb); (try clear hb2); (try clear hk); (try clear hi)) | ((with_reducible refine gate_dst (N := 20) rfl ?_); refine box_event ?hg (N := 20) ?hd (cs := #[.bool false, .bool false, .bool false, .bool false]) (t := 29) ?hr ?_; (case hd => rfl); (case hg => rfl); (case hr => first | (go_simp; done) | (go_simp; rfl)); intro gb419 hg w43 hbox hb; have n0_ := Aside0.mk (blk_below (g := gb403) (o := .cells #[.bool t398, .bool t399, .bool t400, .bool t401] 29 (0, 0)) (by (with_reducible repeat (first | refine blk_drewN ?_ _ | refine blk_drew ?_ | refine blk_alloc ?_ _)); exact BK403.out) hb); have n1_ := Aside0.mk (blk_below (g := gb412) (o := .cells #[.bool t407, .bool t408, .bool t409, .bool t410] 29 (0, 0)) (by (with_reducible repeat (first | refine blk_drewN ?_ _ | refine blk_drew ?_ | refine blk_alloc ?_ _)); exact BK412.out) hb); have n2_ := Aside0.mk (below_step (by repeat (first | (with_reducible first | exact HB.out | apply below_alloc | apply pw_below_drewN | apply below_drew1 | refine below_set ?_ GE403.out | refine below_set ?_ GE412.out) | exact HB.out)) hb); have n3_ := Aside0.mk (hbox); have n4_ := Aside0.mk ((by rw [hg]; exact (below_size (by repeat (first | (with_reducible first | exact HB.out | apply below_alloc | apply pw_below_drewN | apply below_drew1 | refine below_set ?_ GE403.out | refine below_set ?_ GE412.out) | exact HB.out))) : w.heap.size ≤ gb419)); have n5_ := Aside0.mk ((by rw [hg]; exact (below_size (by repeat (first | (with_reducible first | exact HB.out | apply below_alloc | apply pw_below_drewN | apply below_drew1 | refine below_set ?_ GE403.out | refine below_set ?_ GE412.out) | exact HB.out))) : w.heap.size ≤ gb419)); have n6_ := Aside0.mk ((by rw [hg]; exact Nat.ne_of_lt (blk_lt (g := gb403) (o := .cells #[.bool t398, .bool t399, .bool t400, .bool t401] 29 (0, 0)) (by (with_reducible repeat (first | refine blk_drewN ?_ _ | refine blk_drew ?_ | refine blk_alloc ?_ _)); exact BK403.out)) : gb403 ≠ gb419)); have n7_ := Aside0.mk ((by rw [hg]; exact Nat.ne_of_gt (blk_lt (g := gb403) (o := .cells #[.bool t398, .bool t399, .bool t400, .bool t401] 29 (0, 0)) (by (with_reducible repeat (first | refine blk_drewN ?_ _ | refine blk_drew ?_ | refine blk_alloc ?_ _)); exact BK403.out)) : gb419 ≠ gb403)); have n8_ := Aside0.mk ((by rw [hg]; exact Nat.ne_of_lt (blk_lt (g := gb412) (o := .cells #[.bool t407, .bool t408, .bool t409, .bool t410] 29 (0, 0)) (by (with_reducible repeat (first | refine blk_drewN ?_ _ | refine blk_drew ?_ | refine blk_alloc ?_ _)); exact BK412.out)) : gb412 ≠ gb419)); have n9_ := Aside0.mk ((by rw [hg]; exact Nat.ne_of_gt (blk_lt (g := gb412) (o := .cells #[.bool t407, .bool t408, .bool t409, .bool t410] 29 (0, 0)) (by (with_reducible repeat (first | refine blk_drewN ?_ _ | refine blk_drew ?_ | refine blk_alloc ?_ _)); exact BK412.out)) : gb419 ≠ gb412)); clear BK403; clear BK412; clear HB; have BK403 := n0_; have BK412 := n1_; have HB := n2_; have BK419 := n3_; have GW419 := n4_; have GE419 := n5_; have NB403_419 := n6_; have NB419_403 := n7_; have NB412_419 := n8_; have NB419_412 := n9_; clear n0_ n1_ n2_ n3_ n4_ n5_ n6_ n7_ n8_ n9_; clear hb hbox hg; have hnb44 := NB419_403.out; have hnc44 := NB403_419.out; have hnb45 := NB419_412.out; have hnc45 := NB412_419.out; have hcz46_0 : w43.cell? ⟨gb419, 0, none⟩ = some (.bool false) := (blk_cell BK419.out 0).trans rfl; have hcz46_1 : w43.cell? ⟨gb419, 1, none⟩ = some (.bool false) := (blk_cell BK419.out 1).trans rfl; have hcz46_2 : w43.cell? ⟨gb419, 2, none⟩ = some (.bool false) := (blk_cell BK419.out 2).trans rfl; have hcz46_3 : w43.cell? ⟨gb419, 3, none⟩ = some (.bool false) := (blk_cell BK419.out 3).trans rfl; have hfz46_0 := blk_frozen BK419.out 0; have hfz46_1 := blk_frozen BK419.out 1; have hfz46_2 := blk_frozen BK419.out 2; have hfz46_3 := blk_frozen BK419.out 3) | ((with_reducible refine gate_callee (f := 43) rfl ?_); refine goesL_ (some 77) rfl rfl Try.func43 (by kernel_rfl) rfl #[.int .i64 a0] rfl (by (try simp only [List.map_toArray, List.map_cons, List.map_nil]); first | done | rfl | (simp only [List.length_drop, List.length_take]; rfl)) ?_; (with_reducible refine (alu_Logic.calls a0 false _ A34.out).mono ?_); rintro e w' ⟨rfl, ⟨nd, rfl⟩⟩; refine ⟨_, rfl, ?_⟩))
              go_ret
              exact ⟨by first | rfl | (simp [errW_none, errW_some] <;> rfl) | (simp [*, errW_none, errW_some] <;> rfl), by repeat (first | (with_reducible first | exact HB.out | apply below_alloc | apply pw_below_drewN | apply below_drew1 | refine below_set ?_ GE403.out | refine below_set ?_ GE412.out | refine below_set ?_ GE419.out) | exact HB.out)⟩
    · replace c10 := Bool.eq_false_iff.mpr c10
      subst c10
      have H1 : (some true) = some r := by rw [if_neg (show ¬ (false = true) by decide)] at H; exact H
      clear H
      have H := H1
      clear H1
      obtain rfl := Option.some.inj H
      go_enter Try.func11, Try.ntmps11
      go_wp2_with (first | ((with_reducible refine gate_callee (f := 40) rfl ?_); refine goesL_ (some 22) rfl rfl Try.func40 (by kernel_rfl) rfl #[] rfl (by (try simp only [List.map_toArray, List.map_cons, List.map_nil]); first | done | rfl | (simp only [List.length_drop, List.length_take]; rfl)) ?_; (with_reducible refine (camshaftlaw08_alive.calls  true _ A7.out).mono ?_); rintro e w47 ⟨rfl, hb⟩; refine ⟨_, rfl, ?_⟩; have n0_ := Aside0.mk (below_step (by repeat (first | (with_reducible first | exact HB.out | apply below_alloc | apply pw_below_drewN | apply below_drew1) | exact HB.out)) hb); clear HB; have HB := n0_; clear n0_; (try clear hb); (try clear hb2); (try clear hk); (try clear hi)) | ((with_reducible refine gate_callee (f := 17) rfl ?_); refine goesL_ (some 25) rfl rfl Try.func17 (by kernel_rfl) rfl #[.int .i64 a4] rfl (by (try simp only [List.map_toArray, List.map_cons, List.map_nil]); first | done | rfl | (simp only [List.length_drop, List.length_take]; rfl)) ?_; (with_reducible refine (camshaftref01_Size.calls a4 false _ A9.out).mono ?_); rintro e w' ⟨rfl, ⟨nd, rfl⟩⟩; refine ⟨_, rfl, ?_⟩))
      go_ret
      exact ⟨by first | rfl | (simp [errW_none, errW_some] <;> rfl) | (simp [*, errW_none, errW_some] <;> rfl), by repeat (first | (with_reducible first | exact HB.out | apply below_alloc | apply pw_below_drewN | apply below_drew1) | exact HB.out)⟩
  · replace c8 := Bool.eq_false_iff.mpr c8
    subst c8
    have H1 : (none) = some r := by rw [if_neg (show ¬ (false = true) by decide)] at H; exact H
    clear H
    have H := H1
    clear H1
    exact absurd H (by simp)

/-- THE ONE PURE STATEMENT of camshaftlaw08_AluSizes: yours. -/
def camshaftlaw08_AluSizes.Pure : Prop := ∀ (a0 : Int) (a1 : Int) (a2 : Int) (a3 : Bool) (a4 : Int) (a5 : Int), (Lit.int .i64 a0).wf = true → (Lit.int .u32 a1).wf = true → (Lit.int .u32 a2).wf = true → (Lit.int .i64 a4).wf = true → (Lit.int .u32 a5).wf = true → ∃ k, camshaftlaw08_AluSizes.f k a0 a1 a2 a3 a4 a5 = some true
theorem camshaftlaw08_AluSizes.walk (P : camshaftlaw08_AluSizes.Pure) (a0 : Int) (a1 : Int) (a2 : Int) (a3 : Bool) (a4 : Int) (a5 : Int) (w : World) (w0 : (Lit.int .i64 a0).wf = true) (w1 : (Lit.int .u32 a1).wf = true) (w2 : (Lit.int .u32 a2).wf = true) (w4 : (Lit.int .i64 a4).wf = true) (w5 : (Lit.int .u32 a5).wf = true) :
    Calls Try.prog 11 #[.int .i64 a0, .int .u32 a1, .int .u32 a2, .bool a3, .int .i64 a4, .int .u32 a5] w fun e w' => e = .returned (.bool true) ∧ Below w.heap.size w w' := by
  obtain ⟨k, h⟩ := P a0 a1 a2 a3 a4 a5 w0 w1 w2 w4 w5
  refine (camshaftlaw08_AluSizes.calls k a0 a1 a2 a3 a4 a5 true w h).mono ?_
  rintro e w' ⟨rfl, hd⟩
  exact ⟨rfl, hd⟩

end Go.Proofs.Ytmmmifgddkfehaa.PAlu
