-- Written by wip/oprint.py, a program of this session's repo, out of the translation. Not trusted: Lean checks it.
import Derived.Test.YtmmmifgddkfehaaPAllx0
import Derived.Test.YtmmmifgddkfehaaPAllx1
import Derived.Test.YtmmmifgddkfehaaPAllx2
import Derived.Test.YtmmmifgddkfehaaPAllx3
import Derived.Test.YtmmmifgddkfehaaPAllx12
import Derived.Test.YtmmmifgddkfehaaPAllx13
import Derived.Test.YtmmmifgddkfehaaPAllx14
namespace Go.Proofs.Ytmmmifgddkfehaa.PAll
open Go.RowKit Go.Proofs.YtmmmifgddkfehaaW.PrintWords Go.Proofs.YtmmmifgddkfehaaW.PrintLast Go.Proofs.YtmmmifgddkfehaaW.PrintMore
attribute [local go_sem] max2_int min2_int max_two min_two max_three min_three max_four min_four   -- for this text's walks alone
set_option linter.unusedVariables false
set_option linter.unusedSimpArgs false

attribute [local go_sem high] eqA29
/-! ### camshaftlaw01_BitsTimes: function 9 -/
def camshaftlaw01_BitsTimes.f (k : Nat) (a0 : Int) (a1 : Int) (a2 : Int) : Option (Bool) := (camshaftlaw01_alive.f).bind fun t334 => (if t334 = true then ((camshaftref01_Size.f a2).bind fun t335 => (if t335 = true then ((bits_Mul.f a0 a1 a2).bind fun bt336 => ((camshaftref01_Mul.f a0 a1 a2).bind fun bt342 => ((bits_Div.f a0 a1 a2).bind fun bt348 => ((camshaftref01_Div.f k a0 a1 a2).bind fun bt355 => (if bt336.1 = bt342.1 then (if (bt336.2.1 == bt342.2.1 && (bt336.2.2.1 == bt342.2.2.1 && (bt336.2.2.2.1 == bt342.2.2.2.1 && (bt336.2.2.2.2 == bt342.2.2.2.2)))) = true then (if bt348.1 = bt355.1 then (if (bt348.2.1 == bt355.2.1 && (bt348.2.2.1 == bt355.2.2.1 && (bt348.2.2.2.1 == bt355.2.2.2.1 && (bt348.2.2.2.2.1 == bt355.2.2.2.2.1)))) = true then (some (bt348.2.2.2.2.2 == bt355.2.2.2.2.2)) else (none)) else (none)) else (none)) else (none)))))) else (some true))) else (none))
theorem camshaftlaw01_BitsTimes.mono : ∀ a0 a1 a2 k, LeO (camshaftlaw01_BitsTimes.f k a0 a1 a2) (camshaftlaw01_BitsTimes.f (k + 1) a0 a1 a2) := by
  intro a0 a1 a2 k
  unfold camshaftlaw01_BitsTimes.f
  repeat' first
      | (with_reducible exact camshaftref01_Div.mono _ _ _ _)
      | (with_reducible exact LeO.refl _)
      | (with_reducible exact LeO.none _)
      | (with_reducible refine LeO.ite ?_ ?_)
      | (with_reducible refine LeO.bind ?_ (fun _ => ?_))
      | exact camshaftref01_Div.mono _ _ _ _
      | exact LeO.none _
      | refine LeO.ite ?_ ?_
      | refine LeO.bind ?_ (fun _ => ?_)
set_option maxHeartbeats 8000000 in
set_option maxRecDepth 100000 in
theorem camshaftlaw01_BitsTimes.calls (k : Nat) (a0 : Int) (a1 : Int) (a2 : Int) (r : Bool) (w : World) (h : camshaftlaw01_BitsTimes.f k a0 a1 a2 = some r) :
    Calls Try.prog 9 #[.int .u32 a0, .int .u32 a1, .int .i64 a2] w fun e w' => e = .returned (.bool r) ∧ Below w.heap.size w w' := by
  have hu29 := Try.underlying29
  have HB := Aside0.mk (Below.refl w.heap.size w)
  have H : ((camshaftlaw01_alive.f).bind fun t334 => (if t334 = true then ((camshaftref01_Size.f a2).bind fun t335 => (if t335 = true then ((bits_Mul.f a0 a1 a2).bind fun bt336 => ((camshaftref01_Mul.f a0 a1 a2).bind fun bt342 => ((bits_Div.f a0 a1 a2).bind fun bt348 => ((camshaftref01_Div.f k a0 a1 a2).bind fun bt355 => (if bt336.1 = bt342.1 then (if (bt336.2.1 == bt342.2.1 && (bt336.2.2.1 == bt342.2.2.1 && (bt336.2.2.2.1 == bt342.2.2.2.1 && (bt336.2.2.2.2 == bt342.2.2.2.2)))) = true then (if bt348.1 = bt355.1 then (if (bt348.2.1 == bt355.2.1 && (bt348.2.2.1 == bt355.2.2.1 && (bt348.2.2.2.1 == bt355.2.2.2.1 && (bt348.2.2.2.2.1 == bt355.2.2.2.2.1)))) = true then (some (bt348.2.2.2.2.2 == bt355.2.2.2.2.2)) else (none)) else (none)) else (none)) else (none)))))) else (some true))) else (none))) = some r := h
  clear h
  replace H := Option.bind_eq_some_iff.mp H
  obtain ⟨t334, A40, H⟩ := H
  replace H : (if t334 = true then ((camshaftref01_Size.f a2).bind fun t335 => (if t335 = true then ((bits_Mul.f a0 a1 a2).bind fun bt336 => ((camshaftref01_Mul.f a0 a1 a2).bind fun bt342 => ((bits_Div.f a0 a1 a2).bind fun bt348 => ((camshaftref01_Div.f k a0 a1 a2).bind fun bt355 => (if bt336.1 = bt342.1 then (if (bt336.2.1 == bt342.2.1 && (bt336.2.2.1 == bt342.2.2.1 && (bt336.2.2.2.1 == bt342.2.2.2.1 && (bt336.2.2.2.2 == bt342.2.2.2.2)))) = true then (if bt348.1 = bt355.1 then (if (bt348.2.1 == bt355.2.1 && (bt348.2.2.1 == bt355.2.2.1 && (bt348.2.2.2.1 == bt355.2.2.2.1 && (bt348.2.2.2.2.1 == bt355.2.2.2.2.1)))) = true then (some (bt348.2.2.2.2.2 == bt355.2.2.2.2.2)) else (none)) else (none)) else (none)) else (none)))))) else (some true))) else (none)) = some r := H
  have A4 := Aside0.mk A40
  clear A40
  by_cases c5 : t334 = true
  · subst c5
    have H1 : ((camshaftref01_Size.f a2).bind fun t335 => (if t335 = true then ((bits_Mul.f a0 a1 a2).bind fun bt336 => ((camshaftref01_Mul.f a0 a1 a2).bind fun bt342 => ((bits_Div.f a0 a1 a2).bind fun bt348 => ((camshaftref01_Div.f k a0 a1 a2).bind fun bt355 => (if bt336.1 = bt342.1 then (if (bt336.2.1 == bt342.2.1 && (bt336.2.2.1 == bt342.2.2.1 && (bt336.2.2.2.1 == bt342.2.2.2.1 && (bt336.2.2.2.2 == bt342.2.2.2.2)))) = true then (if bt348.1 = bt355.1 then (if (bt348.2.1 == bt355.2.1 && (bt348.2.2.1 == bt355.2.2.1 && (bt348.2.2.2.1 == bt355.2.2.2.1 && (bt348.2.2.2.2.1 == bt355.2.2.2.2.1)))) = true then (some (bt348.2.2.2.2.2 == bt355.2.2.2.2.2)) else (none)) else (none)) else (none)) else (none)))))) else (some true))) = some r := by rw [if_pos rfl] at H; exact H
    clear H
    have H := H1
    clear H1
    replace H := Option.bind_eq_some_iff.mp H
    obtain ⟨t335, A60, H⟩ := H
    replace H : (if t335 = true then ((bits_Mul.f a0 a1 a2).bind fun bt336 => ((camshaftref01_Mul.f a0 a1 a2).bind fun bt342 => ((bits_Div.f a0 a1 a2).bind fun bt348 => ((camshaftref01_Div.f k a0 a1 a2).bind fun bt355 => (if bt336.1 = bt342.1 then (if (bt336.2.1 == bt342.2.1 && (bt336.2.2.1 == bt342.2.2.1 && (bt336.2.2.2.1 == bt342.2.2.2.1 && (bt336.2.2.2.2 == bt342.2.2.2.2)))) = true then (if bt348.1 = bt355.1 then (if (bt348.2.1 == bt355.2.1 && (bt348.2.2.1 == bt355.2.2.1 && (bt348.2.2.2.1 == bt355.2.2.2.1 && (bt348.2.2.2.2.1 == bt355.2.2.2.2.1)))) = true then (some (bt348.2.2.2.2.2 == bt355.2.2.2.2.2)) else (none)) else (none)) else (none)) else (none)))))) else (some true)) = some r := H
    have A6 := Aside0.mk A60
    clear A60
    by_cases c7 : t335 = true
    · subst c7
      have H1 : ((bits_Mul.f a0 a1 a2).bind fun bt336 => ((camshaftref01_Mul.f a0 a1 a2).bind fun bt342 => ((bits_Div.f a0 a1 a2).bind fun bt348 => ((camshaftref01_Div.f k a0 a1 a2).bind fun bt355 => (if bt336.1 = bt342.1 then (if (bt336.2.1 == bt342.2.1 && (bt336.2.2.1 == bt342.2.2.1 && (bt336.2.2.2.1 == bt342.2.2.2.1 && (bt336.2.2.2.2 == bt342.2.2.2.2)))) = true then (if bt348.1 = bt355.1 then (if (bt348.2.1 == bt355.2.1 && (bt348.2.2.1 == bt355.2.2.1 && (bt348.2.2.2.1 == bt355.2.2.2.1 && (bt348.2.2.2.2.1 == bt355.2.2.2.2.1)))) = true then (some (bt348.2.2.2.2.2 == bt355.2.2.2.2.2)) else (none)) else (none)) else (none)) else (none)))))) = some r := by rw [if_pos rfl] at H; exact H
      clear H
      have H := H1
      clear H1
      replace H := Option.bind_eq_some_iff.mp H
      obtain ⟨⟨t336, t337, t338, t339, t340⟩, A80, H⟩ := H
      replace H : ((camshaftref01_Mul.f a0 a1 a2).bind fun bt342 => ((bits_Div.f a0 a1 a2).bind fun bt348 => ((camshaftref01_Div.f k a0 a1 a2).bind fun bt355 => (if t336 = bt342.1 then (if (t337 == bt342.2.1 && (t338 == bt342.2.2.1 && (t339 == bt342.2.2.2.1 && (t340 == bt342.2.2.2.2)))) = true then (if bt348.1 = bt355.1 then (if (bt348.2.1 == bt355.2.1 && (bt348.2.2.1 == bt355.2.2.1 && (bt348.2.2.2.1 == bt355.2.2.2.1 && (bt348.2.2.2.2.1 == bt355.2.2.2.2.1)))) = true then (some (bt348.2.2.2.2.2 == bt355.2.2.2.2.2)) else (none)) else (none)) else (none)) else (none))))) = some r := H
      have A8 := Aside0.mk A80
      clear A80
      replace H := Option.bind_eq_some_iff.mp H
      obtain ⟨⟨t342, t343, t344, t345, t346⟩, A90, H⟩ := H
      replace H : ((bits_Div.f a0 a1 a2).bind fun bt348 => ((camshaftref01_Div.f k a0 a1 a2).bind fun bt355 => (if t336 = t342 then (if (t337 == t343 && (t338 == t344 && (t339 == t345 && (t340 == t346)))) = true then (if bt348.1 = bt355.1 then (if (bt348.2.1 == bt355.2.1 && (bt348.2.2.1 == bt355.2.2.1 && (bt348.2.2.2.1 == bt355.2.2.2.1 && (bt348.2.2.2.2.1 == bt355.2.2.2.2.1)))) = true then (some (bt348.2.2.2.2.2 == bt355.2.2.2.2.2)) else (none)) else (none)) else (none)) else (none)))) = some r := H
      have A9 := Aside0.mk A90
      clear A90
      replace H := Option.bind_eq_some_iff.mp H
      obtain ⟨⟨t348, t349, t350, t351, t352, t353⟩, A100, H⟩ := H
      replace H : ((camshaftref01_Div.f k a0 a1 a2).bind fun bt355 => (if t336 = t342 then (if (t337 == t343 && (t338 == t344 && (t339 == t345 && (t340 == t346)))) = true then (if t348 = bt355.1 then (if (t349 == bt355.2.1 && (t350 == bt355.2.2.1 && (t351 == bt355.2.2.2.1 && (t352 == bt355.2.2.2.2.1)))) = true then (some (t353 == bt355.2.2.2.2.2)) else (none)) else (none)) else (none)) else (none))) = some r := H
      have A10 := Aside0.mk A100
      clear A100
      replace H := Option.bind_eq_some_iff.mp H
      obtain ⟨⟨t355, t356, t357, t358, t359, t360⟩, A110, H⟩ := H
      replace H : (if t336 = t342 then (if (t337 == t343 && (t338 == t344 && (t339 == t345 && (t340 == t346)))) = true then (if t348 = t355 then (if (t349 == t356 && (t350 == t357 && (t351 == t358 && (t352 == t359)))) = true then (some (t353 == t360)) else (none)) else (none)) else (none)) else (none)) = some r := H
      have A11 := Aside0.mk A110
      clear A110
      by_cases c12 : t336 = t342
      · rw [if_pos c12] at H
        have c12b0 : (t336 == t342) = true := beq_iff_eq.mpr c12
        have c12b1 : (t336 != t342) = false := bne_eq_false_iff_eq.mpr c12
        clear c12
        by_cases c13 : (t337 == t343 && (t338 == t344 && (t339 == t345 && (t340 == t346)))) = true
        · rw [if_pos c13] at H
          have c13b0 : (t337 == t343 && (t338 == t344 && (t339 == t345 && (t340 == t346)))) = true := c13
          (try (have c13b1 : decide (t337 = t343 && (t338 == t344 && (t339 == t345 && (t340 == t346)))) = true := by simpa using c13))
          (try (have c13b2 : (t337 == t343 && (t338 == t344 && (t339 == t345 && (t340 == t346)))) = true := by simpa using c13))
          clear c13
          by_cases c14 : t348 = t355
          · rw [if_pos c14] at H
            have c14b0 : (t348 == t355) = true := beq_iff_eq.mpr c14
            have c14b1 : (t348 != t355) = false := bne_eq_false_iff_eq.mpr c14
            clear c14
            by_cases c15 : (t349 == t356 && (t350 == t357 && (t351 == t358 && (t352 == t359)))) = true
            · rw [if_pos c15] at H
              have c15b0 : (t349 == t356 && (t350 == t357 && (t351 == t358 && (t352 == t359)))) = true := c15
              (try (have c15b1 : decide (t349 = t356 && (t350 == t357 && (t351 == t358 && (t352 == t359)))) = true := by simpa using c15))
              (try (have c15b2 : (t349 == t356 && (t350 == t357 && (t351 == t358 && (t352 == t359)))) = true := by simpa using c15))
              clear c15
              obtain rfl := Option.some.inj H
              go_enter Try.func9, Try.ntmps9
              go_wp2_with (first | ((with_reducible refine gate_callee (f := 16) rfl ?_); refine goesL_ (some 17) rfl rfl Try.func16 (by kernel_rfl) rfl #[] rfl (by (try simp only [List.map_toArray, List.map_cons, List.map_nil]); first | done | rfl | (simp only [List.length_drop, List.length_take]; rfl)) ?_; (with_reducible refine (camshaftlaw01_alive.calls  true _ A4.out).mono ?_); rintro e w16 ⟨rfl, hb⟩; refine ⟨_, rfl, ?_⟩; have n0_ := Aside0.mk (below_step (by repeat (first | (with_reducible first | exact HB.out | apply below_alloc | apply pw_below_drewN | apply below_drew1) | exact HB.out)) hb); clear HB; have HB := n0_; clear n0_; (try clear hb); (try clear hb2); (try clear hk); (try clear hi)) | ((with_reducible refine gate_callee (f := 17) rfl ?_); refine goesL_ (some 20) rfl rfl Try.func17 (by kernel_rfl) rfl #[.int .i64 a2] rfl (by (try simp only [List.map_toArray, List.map_cons, List.map_nil]); first | done | rfl | (simp only [List.length_drop, List.length_take]; rfl)) ?_; (with_reducible refine (camshaftref01_Size.calls a2 true _ A6.out).mono ?_); rintro e w' ⟨rfl, ⟨nd, rfl⟩⟩; refine ⟨_, rfl, ?_⟩; (try (rw [drewN_self w16]; generalize hq_ : World.drewN w16 _ = w16; have n0_ : Aside0 (Below w.heap.size w w16) := ⟨by rw [← hq_]; exact (by repeat (first | (with_reducible first | exact HB.out | apply below_alloc | apply pw_below_drewN | apply below_drew1) | exact HB.out))⟩; clear HB hq_; have HB := n0_; clear n0_))) | ((with_reducible refine gate_callee (f := 36) rfl ?_); refine goesL_ (some 26) rfl rfl Try.func36 (by kernel_rfl) rfl #[.int .u32 a0, .int .u32 a1, .int .i64 a2] rfl (by (try simp only [List.map_toArray, List.map_cons, List.map_nil]); first | done | rfl | (simp only [List.length_drop, List.length_take]; rfl)) ?_; (with_reducible refine (bits_Mul.calls a0 a1 a2 t336 t337 t338 t339 t340 _ A8.out).mono ?_); rintro e w17 ⟨rfl, hb⟩; refine ⟨_, rfl, ?_⟩; have n0_ := Aside0.mk (below_step (by repeat (first | (with_reducible first | exact HB.out | apply below_alloc | apply pw_below_drewN | apply below_drew1) | exact HB.out)) hb); clear HB; have HB := n0_; clear n0_; (try clear hb); (try clear hb2); (try clear hk); (try clear hi)) | ((with_reducible refine gate_dst (N := 8) rfl ?_); refine box_event ?hg (N := 8) ?hd (cs := #[.bool false, .bool false, .bool false, .bool false]) (t := 29) ?hr ?_; (case hd => rfl); (case hg => rfl); (case hr => first | (go_simp; done) | (go_simp; rfl)); intro gb341 hg w18 hbox hb; have n0_ := Aside0.mk (below_step (by repeat (first | (with_reducible first | exact HB.out | apply below_alloc | apply pw_below_drewN | apply below_drew1) | exact HB.out)) hb); have n1_ := Aside0.mk (hbox); have n2_ := Aside0.mk ((by rw [hg]; exact (below_size (by repeat (first | (with_reducible first | exact HB.out | apply below_alloc | apply pw_below_drewN | apply below_drew1) | exact HB.out))) : w.heap.size ≤ gb341)); have n3_ := Aside0.mk ((by rw [hg]; exact (below_size (by repeat (first | (with_reducible first | exact HB.out | apply below_alloc | apply pw_below_drewN | apply below_drew1) | exact HB.out))) : w.heap.size ≤ gb341)); clear HB; have HB := n0_; have BK341 := n1_; have GW341 := n2_; have GE341 := n3_; clear n0_ n1_ n2_ n3_; clear hb hbox hg; have hcz19_0 : w18.cell? ⟨gb341, 0, none⟩ = some (.bool false) := (blk_cell BK341.out 0).trans rfl; have hcz19_1 : w18.cell? ⟨gb341, 1, none⟩ = some (.bool false) := (blk_cell BK341.out 1).trans rfl; have hcz19_2 : w18.cell? ⟨gb341, 2, none⟩ = some (.bool false) := (blk_cell BK341.out 2).trans rfl; have hcz19_3 : w18.cell? ⟨gb341, 3, none⟩ = some (.bool false) := (blk_cell BK341.out 3).trans rfl; have hfz19_0 := blk_frozen BK341.out 0; have hfz19_1 := blk_frozen BK341.out 1; have hfz19_2 := blk_frozen BK341.out 2; have hfz19_3 := blk_frozen BK341.out 3) | ((with_reducible refine gate_callee (f := 37) rfl ?_); refine goesL_ (some 33) rfl rfl Try.func37 (by kernel_rfl) rfl #[.int .u32 a0, .int .u32 a1, .int .i64 a2] rfl (by (try simp only [List.map_toArray, List.map_cons, List.map_nil]); first | done | rfl | (simp only [List.length_drop, List.length_take]; rfl)) ?_; (with_reducible refine (camshaftref01_Mul.calls a0 a1 a2 t342 t343 t344 t345 t346 _ A9.out).mono ?_); rintro e w20 ⟨rfl, hb⟩; refine ⟨_, rfl, ?_⟩; have n0_ := Aside0.mk (blk_below (g := gb341) (o := .cells #[.bool t337, .bool t338, .bool t339, .bool t340] 29 (0, 0)) (by (with_reducible repeat (first | refine blk_drewN ?_ _ | refine blk_drew ?_ | refine blk_alloc ?_ _)); refine blk_put (cs := #[.bool t337, .bool t338, .bool t339, .bool false]) ?_ 3 _ rfl; (with_reducible repeat (first | refine blk_drewN ?_ _ | refine blk_drew ?_ | refine blk_alloc ?_ _)); refine blk_put (cs := #[.bool t337, .bool t338, .bool false, .bool false]) ?_ 2 _ rfl; (with_reducible repeat (first | refine blk_drewN ?_ _ | refine blk_drew ?_ | refine blk_alloc ?_ _)); refine blk_put (cs := #[.bool t337, .bool false, .bool false, .bool false]) ?_ 1 _ rfl; (with_reducible repeat (first | refine blk_drewN ?_ _ | refine blk_drew ?_ | refine blk_alloc ?_ _)); refine blk_put (cs := #[.bool false, .bool false, .bool false, .bool false]) ?_ 0 _ rfl; (with_reducible repeat (first | refine blk_drewN ?_ _ | refine blk_drew ?_ | refine blk_alloc ?_ _)); exact BK341.out) hb); have n1_ := Aside0.mk (below_step (by repeat (first | (with_reducible first | exact HB.out | apply below_alloc | apply pw_below_drewN | apply below_drew1 | refine below_set ?_ GE341.out) | exact HB.out)) hb); clear BK341; clear HB; have BK341 := n0_; have HB := n1_; clear n0_ n1_; (try clear hb); (try clear hb2); (try clear hk); (try clear hi)) | ((with_reducible refine gate_dst (N := 10) rfl ?_); refine box_event ?hg (N := 10) ?hd (cs := #[.bool false, .bool false, .bool false, .bool false]) (t := 29) ?hr ?_; (case hd => rfl); (case hg => rfl); (case hr => first | (go_simp; done) | (go_simp; rfl)); intro gb347 hg w21 hbox hb; have n0_ := Aside0.mk (blk_below (g := gb341) (o := .cells #[.bool t337, .bool t338, .bool t339, .bool t340] 29 (0, 0)) (by (with_reducible repeat (first | refine blk_drewN ?_ _ | refine blk_drew ?_ | refine blk_alloc ?_ _)); exact BK341.out) hb); have n1_ := Aside0.mk (below_step (by repeat (first | (with_reducible first | exact HB.out | apply below_alloc | apply pw_below_drewN | apply below_drew1 | refine below_set ?_ GE341.out) | exact HB.out)) hb); have n2_ := Aside0.mk (hbox); have n3_ := Aside0.mk ((by rw [hg]; exact (below_size (by repeat (first | (with_reducible first | exact HB.out | apply below_alloc | apply pw_below_drewN | apply below_drew1 | refine below_set ?_ GE341.out) | exact HB.out))) : w.heap.size ≤ gb347)); have n4_ := Aside0.mk ((by rw [hg]; exact (below_size (by repeat (first | (with_reducible first | exact HB.out | apply below_alloc | apply pw_below_drewN | apply below_drew1 | refine below_set ?_ GE341.out) | exact HB.out))) : w.heap.size ≤ gb347)); have n5_ := Aside0.mk ((by rw [hg]; exact Nat.ne_of_lt (blk_lt (g := gb341) (o := .cells #[.bool t337, .bool t338, .bool t339, .bool t340] 29 (0, 0)) (by (with_reducible repeat (first | refine blk_drewN ?_ _ | refine blk_drew ?_ | refine blk_alloc ?_ _)); exact BK341.out)) : gb341 ≠ gb347)); have n6_ := Aside0.mk ((by rw [hg]; exact Nat.ne_of_gt (blk_lt (g := gb341) (o := .cells #[.bool t337, .bool t338, .bool t339, .bool t340] 29 (0, 0)) (by (with_reducible repeat (first | refine blk_drewN ?_ _ | refine blk_drew ?_ | refine blk_alloc ?_ _)); exact BK341.out)) : gb347 ≠ gb341)); clear BK341; clear HB; have BK341 := n0_; have HB := n1_; have BK347 := n2_; have GW347 := n3_; have GE347 := n4_; have NB341_347 := n5_; have NB347_341 := n6_; clear n0_ n1_ n2_ n3_ n4_ n5_ n6_; clear hb hbox hg; have hnb22 := NB347_341.out; have hnc22 := NB341_347.out; have hcz23_0 : w21.cell? ⟨gb347, 0, none⟩ = some (.bool false) := (blk_cell BK347.out 0).trans rfl; have hcz23_1 : w21.cell? ⟨gb347, 1, none⟩ = some (.bool false) := (blk_cell BK347.out 1).trans rfl; have hcz23_2 : w21.cell? ⟨gb347, 2, none⟩ = some (.bool false) := (blk_cell BK347.out 2).trans rfl; have hcz23_3 : w21.cell? ⟨gb347, 3, none⟩ = some (.bool false) := (blk_cell BK347.out 3).trans rfl; have hfz23_0 := blk_frozen BK347.out 0; have hfz23_1 := blk_frozen BK347.out 1; have hfz23_2 := blk_frozen BK347.out 2; have hfz23_3 := blk_frozen BK347.out 3) | ((with_reducible refine gate_callee (f := 38) rfl ?_); refine goesL_ (some 40) rfl rfl Try.func38 (by kernel_rfl) rfl #[.int .u32 a0, .int .u32 a1, .int .i64 a2] rfl (by (try simp only [List.map_toArray, List.map_cons, List.map_nil]); first | done | rfl | (simp only [List.length_drop, List.length_take]; rfl)) ?_; (with_reducible refine (bits_Div.calls a0 a1 a2 t348 t349 t350 t351 t352 t353 _ A10.out).mono ?_); rintro e w24 ⟨rfl, hb⟩; refine ⟨_, rfl, ?_⟩; have n0_ := Aside0.mk (blk_below (g := gb341) (o := .cells #[.bool t337, .bool t338, .bool t339, .bool t340] 29 (0, 0)) (by (with_reducible repeat (first | refine blk_drewN ?_ _ | refine blk_drew ?_ | refine blk_alloc ?_ _)); refine blk_far ?_ NB341_347.out _; (with_reducible repeat (first | refine blk_drewN ?_ _ | refine blk_drew ?_ | refine blk_alloc ?_ _)); refine blk_far ?_ NB341_347.out _; (with_reducible repeat (first | refine blk_drewN ?_ _ | refine blk_drew ?_ | refine blk_alloc ?_ _)); refine blk_far ?_ NB341_347.out _; (with_reducible repeat (first | refine blk_drewN ?_ _ | refine blk_drew ?_ | refine blk_alloc ?_ _)); refine blk_far ?_ NB341_347.out _; (with_reducible repeat (first | refine blk_drewN ?_ _ | refine blk_drew ?_ | refine blk_alloc ?_ _)); exact BK341.out) hb); have n1_ := Aside0.mk (blk_below (g := gb347) (o := .cells #[.bool t343, .bool t344, .bool t345, .bool t346] 29 (0, 0)) (by (with_reducible repeat (first | refine blk_drewN ?_ _ | refine blk_drew ?_ | refine blk_alloc ?_ _)); refine blk_put (cs := #[.bool t343, .bool t344, .bool t345, .bool false]) ?_ 3 _ rfl; (with_reducible repeat (first | refine blk_drewN ?_ _ | refine blk_drew ?_ | refine blk_alloc ?_ _)); refine blk_put (cs := #[.bool t343, .bool t344, .bool false, .bool false]) ?_ 2 _ rfl; (with_reducible repeat (first | refine blk_drewN ?_ _ | refine blk_drew ?_ | refine blk_alloc ?_ _)); refine blk_put (cs := #[.bool t343, .bool false, .bool false, .bool false]) ?_ 1 _ rfl; (with_reducible repeat (first | refine blk_drewN ?_ _ | refine blk_drew ?_ | refine blk_alloc ?_ _)); refine blk_put (cs := #[.bool false, .bool false, .bool false, .bool false]) ?_ 0 _ rfl; (with_reducible repeat (first | refine blk_drewN ?_ _ | refine blk_drew ?_ | refine blk_alloc ?_ _)); exact BK347.out) hb); have n2_ := Aside0.mk (below_step (by repeat (first | (with_reducible first | exact HB.out | apply below_alloc | apply pw_below_drewN | apply below_drew1 | refine below_set ?_ GE341.out | refine below_set ?_ GE347.out) | exact HB.out)) hb); clear BK341; clear BK347; clear HB; have BK341 := n0_; have BK347 := n1_; have HB := n2_; clear n0_ n1_ n2_; (try clear hb); (try clear hb2); (try clear hk); (try clear hi)) | ((with_reducible refine gate_dst (N := 12) rfl ?_); refine box_event ?hg (N := 12) ?hd (cs := #[.bool false, .bool false, .bool false, .bool false]) (t := 29) ?hr ?_; (case hd => rfl); (case hg => rfl); (case hr => first | (go_simp; done) | (go_simp; rfl)); intro gb354 hg w25 hbox hb; have n0_ := Aside0.mk (blk_below (g := gb341) (o := .cells #[.bool t337, .bool t338, .bool t339, .bool t340] 29 (0, 0)) (by (with_reducible repeat (first | refine blk_drewN ?_ _ | refine blk_drew ?_ | refine blk_alloc ?_ _)); exact BK341.out) hb); have n1_ := Aside0.mk (blk_below (g := gb347) (o := .cells #[.bool t343, .bool t344, .bool t345, .bool t346] 29 (0, 0)) (by (with_reducible repeat (first | refine blk_drewN ?_ _ | refine blk_drew ?_ | refine blk_alloc ?_ _)); exact BK347.out) hb); have n2_ := Aside0.mk (below_step (by repeat (first | (with_reducible first | exact HB.out | apply below_alloc | apply pw_below_drewN | apply below_drew1 | refine below_set ?_ GE341.out | refine below_set ?_ GE347.out) | exact HB.out)) hb); have n3_ := Aside0.mk (hbox); have n4_ := Aside0.mk ((by rw [hg]; exact (below_size (by repeat (first | (with_reducible first | exact HB.out | apply below_alloc | apply pw_below_drewN | apply below_drew1 | refine below_set ?_ GE341.out | refine below_set ?_ GE347.out) | exact HB.out))) : w.heap.size ≤ gb354)); have n5_ := Aside0.mk ((by rw [hg]; exact (below_size (by repeat (first | (with_reducible first | exact HB.out | apply below_alloc | apply pw_below_drewN | apply below_drew1 | refine below_set ?_ GE341.out | refine below_set ?_ GE347.out) | exact HB.out))) : w.heap.size ≤ gb354)); have n6_ := Aside0.mk ((by rw [hg]; exact Nat.ne_of_lt (blk_lt (g := gb341) (o := .cells #[.bool t337, .bool t338, .bool t339, .bool t340] 29 (0, 0)) (by (with_reducible repeat (first | refine blk_drewN ?_ _ | refine blk_drew ?_ | refine blk_alloc ?_ _)); exact BK341.out)) : gb341 ≠ gb354)); have n7_ := Aside0.mk ((by rw [hg]; exact Nat.ne_of_gt (blk_lt (g := gb341) (o := .cells #[.bool t337, .bool t338, .bool t339, .bool t340] 29 (0, 0)) (by (with_reducible repeat (first | refine blk_drewN ?_ _ | refine blk_drew ?_ | refine blk_alloc ?_ _)); exact BK341.out)) : gb354 ≠ gb341)); have n8_ := Aside0.mk ((by rw [hg]; exact Nat.ne_of_lt (blk_lt (g := gb347) (o := .cells #[.bool t343, .bool t344, .bool t345, .bool t346] 29 (0, 0)) (by (with_reducible repeat (first | refine blk_drewN ?_ _ | refine blk_drew ?_ | refine blk_alloc ?_ _)); exact BK347.out)) : gb347 ≠ gb354)); have n9_ := Aside0.mk ((by rw [hg]; exact Nat.ne_of_gt (blk_lt (g := gb347) (o := .cells #[.bool t343, .bool t344, .bool t345, .bool t346] 29 (0, 0)) (by (with_reducible repeat (first | refine blk_drewN ?_ _ | refine blk_drew ?_ | refine blk_alloc ?_ _)); exact BK347.out)) : gb354 ≠ gb347)); clear BK341; clear BK347; clear HB; have BK341 := n0_; have BK347 := n1_; have HB := n2_; have BK354 := n3_; have GW354 := n4_; have GE354 := n5_; have NB341_354 := n6_; have NB354_341 := n7_; have NB347_354 := n8_; have NB354_347 := n9_; clear n0_ n1_ n2_ n3_ n4_ n5_ n6_ n7_ n8_ n9_; clear hb hbox hg; have hnb26 := NB354_341.out; have hnc26 := NB341_354.out; have hnb27 := NB354_347.out; have hnc27 := NB347_354.out; have hcz28_0 : w25.cell? ⟨gb354, 0, none⟩ = some (.bool false) := (blk_cell BK354.out 0).trans rfl; have hcz28_1 : w25.cell? ⟨gb354, 1, none⟩ = some (.bool false) := (blk_cell BK354.out 1).trans rfl; have hcz28_2 : w25.cell? ⟨gb354, 2, none⟩ = some (.bool false) := (blk_cell BK354.out 2).trans rfl; have hcz28_3 : w25.cell? ⟨gb354, 3, none⟩ = some (.bool false) := (blk_cell BK354.out 3).trans rfl; have hfz28_0 := blk_frozen BK354.out 0; have hfz28_1 := blk_frozen BK354.out 1; have hfz28_2 := blk_frozen BK354.out 2; have hfz28_3 := blk_frozen BK354.out 3) | ((with_reducible refine gate_callee (f := 39) rfl ?_); refine goesL_ (some 48) rfl rfl Try.func39 (by kernel_rfl) rfl #[.int .u32 a0, .int .u32 a1, .int .i64 a2] rfl (by (try simp only [List.map_toArray, List.map_cons, List.map_nil]); first | done | rfl | (simp only [List.length_drop, List.length_take]; rfl)) ?_; (with_reducible refine (camshaftref01_Div.calls k a0 a1 a2 t355 t356 t357 t358 t359 t360 _ A11.out).mono ?_); rintro e w29 ⟨rfl, hb⟩; refine ⟨_, rfl, ?_⟩; have n0_ := Aside0.mk (blk_below (g := gb341) (o := .cells #[.bool t337, .bool t338, .bool t339, .bool t340] 29 (0, 0)) (by (with_reducible repeat (first | refine blk_drewN ?_ _ | refine blk_drew ?_ | refine blk_alloc ?_ _)); refine blk_far ?_ NB341_354.out _; (with_reducible repeat (first | refine blk_drewN ?_ _ | refine blk_drew ?_ | refine blk_alloc ?_ _)); refine blk_far ?_ NB341_354.out _; (with_reducible repeat (first | refine blk_drewN ?_ _ | refine blk_drew ?_ | refine blk_alloc ?_ _)); refine blk_far ?_ NB341_354.out _; (with_reducible repeat (first | refine blk_drewN ?_ _ | refine blk_drew ?_ | refine blk_alloc ?_ _)); refine blk_far ?_ NB341_354.out _; (with_reducible repeat (first | refine blk_drewN ?_ _ | refine blk_drew ?_ | refine blk_alloc ?_ _)); exact BK341.out) hb); have n1_ := Aside0.mk (blk_below (g := gb347) (o := .cells #[.bool t343, .bool t344, .bool t345, .bool t346] 29 (0, 0)) (by (with_reducible repeat (first | refine blk_drewN ?_ _ | refine blk_drew ?_ | refine blk_alloc ?_ _)); refine blk_far ?_ NB347_354.out _; (with_reducible repeat (first | refine blk_drewN ?_ _ | refine blk_drew ?_ | refine blk_alloc ?_ _)); refine blk_far ?_ NB347_354.out _; (with_reducible repeat (first | refine blk_drewN ?_ _ | refine blk_drew ?_ | refine blk_alloc ?_ _)); refine blk_far ?_ NB347_354.out _; (with_reducible repeat (first | refine blk_drewN ?_ _ | refine blk_drew ?_ | refine blk_alloc ?_ _)); refine blk_far ?_ NB347_354.out _; (with_reducible repeat (first | refine blk_drewN ?_ _ | refine blk_drew ?_ | refine blk_alloc ?_ _)); exact BK347.out) hb); have n2_ := Aside0.mk (blk_below (g := gb354) (o := .cells #[.bool t349, .bool t350, .bool t351, .bool t352] 29 (0, 0)) (by (with_reducible repeat (first | refine blk_drewN ?_ _ | refine blk_drew ?_ | refine blk_alloc ?_ _)); refine blk_put (cs := #[.bool t349, .bool t350, .bool t351, .bool false]) ?_ 3 _ rfl; (with_reducible repeat (first | refine blk_drewN ?_ _ | refine blk_drew ?_ | refine blk_alloc ?_ _)); refine blk_put (cs := #[.bool t349, .bool t350, .bool false, .bool false]) ?_ 2 _ rfl; (with_reducible repeat (first | refine blk_drewN ?_ _ | refine blk_drew ?_ | refine blk_alloc ?_ _)); refine blk_put (cs := #[.bool t349, .bool false, .bool false, .bool false]) ?_ 1 _ rfl; (with_reducible repeat (first | refine blk_drewN ?_ _ | refine blk_drew ?_ | refine blk_alloc ?_ _)); refine blk_put (cs := #[.bool false, .bool false, .bool false, .bool false]) ?_ 0 _ rfl; (with_reducible repeat (first | refine blk_drewN ?_ _ | refine blk_drew ?_ | refine blk_alloc ?_ _)); exact BK354.out) hb); have n3_ := Aside0.mk (below_step (by repeat (first | (with_reducible first | exact HB.out | apply below_alloc | apply pw_below_drewN | apply below_drew1 | refine below_set ?_ GE341.out | refine below_set ?_ GE347.out | refine below_set ?_ GE354.out) | exact HB.out)) hb); clear BK341; clear BK347; clear BK354; clear HB; have BK341 := n0_; have BK347 := n1_; have BK354 := n2_; have HB := n3_; clear n0_ n1_ n2_ n3_; (try clear hb); (try clear hb2); (try clear hk); (try clear hi)) | ((with_reducible refine gate_dst (N := 15) rfl ?_); refine box_event ?hg (N := 15) ?hd (cs := #[.bool false, .bool false, .bool false, .bool false]) (t := 29) ?hr ?_; (case hd => rfl); (case hg => rfl); (case hr => first | (go_simp; done) | (go_simp; rfl)); intro gb361 hg w30 hbox hb; have n0_ := Aside0.mk (blk_below (g := gb341) (o := .cells #[.bool t337, .bool t338, .bool t339, .bool t340] 29 (0, 0)) (by (with_reducible repeat (first | refine blk_drewN ?_ _ | refine blk_drew ?_ | refine blk_alloc ?_ _)); exact BK341.out) hb); have n1_ := Aside0.mk (blk_below (g := gb347) (o := .cells #[.bool t343, .bool t344, .bool t345, .bool t346] 29 (0, 0)) (by (with_reducible repeat (first | refine blk_drewN ?_ _ | refine blk_drew ?_ | refine blk_alloc ?_ _)); exact BK347.out) hb); have n2_ := Aside0.mk (blk_below (g := gb354) (o := .cells #[.bool t349, .bool t350, .bool t351, .bool t352] 29 (0, 0)) (by (with_reducible repeat (first | refine blk_drewN ?_ _ | refine blk_drew ?_ | refine blk_alloc ?_ _)); exact BK354.out) hb); have n3_ := Aside0.mk (below_step (by repeat (first | (with_reducible first | exact HB.out | apply below_alloc | apply pw_below_drewN | apply below_drew1 | refine below_set ?_ GE341.out | refine below_set ?_ GE347.out | refine below_set ?_ GE354.out) | exact HB.out)) hb); have n4_ := Aside0.mk (hbox); have n5_ := Aside0.mk ((by rw [hg]; exact (below_size (by repeat (first | (with_reducible first | exact HB.out | apply below_alloc | apply pw_below_drewN | apply below_drew1 | refine below_set ?_ GE341.out | refine below_set ?_ GE347.out | refine below_set ?_ GE354.out) | exact HB.out))) : w.heap.size ≤ gb361)); have n6_ := Aside0.mk ((by rw [hg]; exact (below_size (by repeat (first | (with_reducible first | exact HB.out | apply below_alloc | apply pw_below_drewN | apply below_drew1 | refine below_set ?_ GE341.out | refine below_set ?_ GE347.out | refine below_set ?_ GE354.out) | exact HB.out))) : w.heap.size ≤ gb361)); have n7_ := Aside0.mk ((by rw [hg]; exact Nat.ne_of_lt (blk_lt (g := gb341) (o := .cells #[.bool t337, .bool t338, .bool t339, .bool t340] 29 (0, 0)) (by (with_reducible repeat (first | refine blk_drewN ?_ _ | refine blk_drew ?_ | refine blk_alloc ?_ _)); exact BK341.out)) : gb341 ≠ gb361)); have n8_ := Aside0.mk ((by rw [hg]; exact Nat.ne_of_gt (blk_lt (g := gb341) (o := .cells #[.bool t337, .bool t338, .bool t339, .bool t340] 29 (0, 0)) (by (with_reducible repeat (first | refine blk_drewN ?_ _ | refine blk_drew ?_ | refine blk_alloc ?_ _)); exact BK341.out)) : gb361 ≠ gb341)); have n9_ := Aside0.mk ((by rw [hg]; exact Nat.ne_of_lt (blk_lt (g := gb347) (o := .cells #[.bool t343, .bool t344, .bool t345, .bool t346] 29 (0, 0)) (by (with_reducible repeat (first | refine blk_drewN ?_ _ | refine blk_drew ?_ | refine blk_alloc ?_ _)); exact BK347.out)) : gb347 ≠ gb361)); have n10_ := Aside0.mk ((by rw [hg]; exact Nat.ne_of_gt (blk_lt (g := gb347) (o := .cells #[.bool t343, .bool t344, .bool t345, .bool t346] 29 (0, 0)) (by (with_reducible repeat (first | refine blk_drewN ?_ _ | refine blk_drew ?_ | refine blk_alloc ?_ _)); exact BK347.out)) : gb361 ≠ gb347)); have n11_ := Aside0.mk ((by rw [hg]; exact Nat.ne_of_lt (blk_lt (g := gb354) (o := .cells #[.bool t349, .bool t350, .bool t351, .bool t352] 29 (0, 0)) (by (with_reducible repeat (first | refine blk_drewN ?_ _ | refine blk_drew ?_ | refine blk_alloc ?_ _)); exact BK354.out)) : gb354 ≠ gb361)); have n12_ := Aside0.mk ((by rw [hg]; exact Nat.ne_of_gt (blk_lt (g := gb354) (o := .cells #[.bool t349, .bool t350, .bool t351, .bool t352] 29 (0, 0)) (by (with_reducible repeat (first | refine blk_drewN ?_ _ | refine blk_drew ?_ | refine blk_alloc ?_ _)); exact BK354.out)) : gb361 ≠ gb354)); clear BK341; clear BK347; clear BK354; clear HB; have BK341 := n0_; have BK347 := n1_; have BK354 := n2_; have HB := n3_; have BK361 := n4_; have GW361 := n5_; have GE361 := n6_; have NB341_361 := n7_; have NB361_341 := n8_; have NB347_361 := n9_; have NB361_347 := n10_; have NB354_361 := n11_; have NB361_354 := n12_; clear n0_ n1_ n2_ n3_ n4_ n5_ n6_ n7_ n8_ n9_ n10_ n11_ n12_; clear hb hbox hg; have hnb31 := NB361_341.out; have hnc31 := NB341_361.out; have hnb32 := NB361_347.out; have hnc32 := NB347_361.out; have hnb33 := NB361_354.out; have hnc33 := NB354_361.out; have hcz34_0 : w30.cell? ⟨gb361, 0, none⟩ = some (.bool false) := (blk_cell BK361.out 0).trans rfl; have hcz34_1 : w30.cell? ⟨gb361, 1, none⟩ = some (.bool false) := (blk_cell BK361.out 1).trans rfl; have hcz34_2 : w30.cell? ⟨gb361, 2, none⟩ = some (.bool false) := (blk_cell BK361.out 2).trans rfl; have hcz34_3 : w30.cell? ⟨gb361, 3, none⟩ = some (.bool false) := (blk_cell BK361.out 3).trans rfl; have hfz34_0 := blk_frozen BK361.out 0; have hfz34_1 := blk_frozen BK361.out 1; have hfz34_2 := blk_frozen BK361.out 2; have hfz34_3 := blk_frozen BK361.out 3; have hcz35_0 : w30.cell? ⟨gb341, 0, none⟩ = some (.bool t337) := (blk_cell BK341.out 0).trans rfl; have hcz35_1 : w30.cell? ⟨gb341, 1, none⟩ = some (.bool t338) := (blk_cell BK341.out 1).trans rfl; have hcz35_2 : w30.cell? ⟨gb341, 2, none⟩ = some (.bool t339) := (blk_cell BK341.out 2).trans rfl; have hcz35_3 : w30.cell? ⟨gb341, 3, none⟩ = some (.bool t340) := (blk_cell BK341.out 3).trans rfl; have hfz35_0 := blk_frozen BK341.out 0; have hfz35_1 := blk_frozen BK341.out 1; have hfz35_2 := blk_frozen BK341.out 2; have hfz35_3 := blk_frozen BK341.out 3; have hcz36_0 : w30.cell? ⟨gb347, 0, none⟩ = some (.bool t343) := (blk_cell BK347.out 0).trans rfl; have hcz36_1 : w30.cell? ⟨gb347, 1, none⟩ = some (.bool t344) := (blk_cell BK347.out 1).trans rfl; have hcz36_2 : w30.cell? ⟨gb347, 2, none⟩ = some (.bool t345) := (blk_cell BK347.out 2).trans rfl; have hcz36_3 : w30.cell? ⟨gb347, 3, none⟩ = some (.bool t346) := (blk_cell BK347.out 3).trans rfl; have hfz36_0 := blk_frozen BK347.out 0; have hfz36_1 := blk_frozen BK347.out 1; have hfz36_2 := blk_frozen BK347.out 2; have hfz36_3 := blk_frozen BK347.out 3; have hcz37_0 : w30.cell? ⟨gb354, 0, none⟩ = some (.bool t349) := (blk_cell BK354.out 0).trans rfl; have hcz37_1 : w30.cell? ⟨gb354, 1, none⟩ = some (.bool t350) := (blk_cell BK354.out 1).trans rfl; have hcz37_2 : w30.cell? ⟨gb354, 2, none⟩ = some (.bool t351) := (blk_cell BK354.out 2).trans rfl; have hcz37_3 : w30.cell? ⟨gb354, 3, none⟩ = some (.bool t352) := (blk_cell BK354.out 3).trans rfl; have hfz37_0 := blk_frozen BK354.out 0; have hfz37_1 := blk_frozen BK354.out 1; have hfz37_2 := blk_frozen BK354.out 2; have hfz37_3 := blk_frozen BK354.out 3))
              go_ret
              exact ⟨by first | rfl | (simp [errW_none, errW_some] <;> rfl) | (simp [*, errW_none, errW_some] <;> rfl), by repeat (first | (with_reducible first | exact HB.out | apply below_alloc | apply pw_below_drewN | apply below_drew1 | refine below_set ?_ GE341.out | refine below_set ?_ GE347.out | refine below_set ?_ GE354.out | refine below_set ?_ GE361.out) | exact HB.out)⟩
            · rw [if_neg c15] at H
              exact absurd H (by simp)
          · rw [if_neg c14] at H
            exact absurd H (by simp)
        · rw [if_neg c13] at H
          exact absurd H (by simp)
      · rw [if_neg c12] at H
        exact absurd H (by simp)
    · replace c7 := Bool.eq_false_iff.mpr c7
      subst c7
      have H1 : (some true) = some r := by rw [if_neg (show ¬ (false = true) by decide)] at H; exact H
      clear H
      have H := H1
      clear H1
      obtain rfl := Option.some.inj H
      go_enter Try.func9, Try.ntmps9
      go_wp2_with (first | ((with_reducible refine gate_callee (f := 16) rfl ?_); refine goesL_ (some 17) rfl rfl Try.func16 (by kernel_rfl) rfl #[] rfl (by (try simp only [List.map_toArray, List.map_cons, List.map_nil]); first | done | rfl | (simp only [List.length_drop, List.length_take]; rfl)) ?_; (with_reducible refine (camshaftlaw01_alive.calls  true _ A4.out).mono ?_); rintro e w38 ⟨rfl, hb⟩; refine ⟨_, rfl, ?_⟩; have n0_ := Aside0.mk (below_step (by repeat (first | (with_reducible first | exact HB.out | apply below_alloc | apply pw_below_drewN | apply below_drew1) | exact HB.out)) hb); clear HB; have HB := n0_; clear n0_; (try clear hb); (try clear hb2); (try clear hk); (try clear hi)) | ((with_reducible refine gate_callee (f := 17) rfl ?_); refine goesL_ (some 20) rfl rfl Try.func17 (by kernel_rfl) rfl #[.int .i64 a2] rfl (by (try simp only [List.map_toArray, List.map_cons, List.map_nil]); first | done | rfl | (simp only [List.length_drop, List.length_take]; rfl)) ?_; (with_reducible refine (camshaftref01_Size.calls a2 false _ A6.out).mono ?_); rintro e w' ⟨rfl, ⟨nd, rfl⟩⟩; refine ⟨_, rfl, ?_⟩))
      go_ret
      exact ⟨by first | rfl | (simp [errW_none, errW_some] <;> rfl) | (simp [*, errW_none, errW_some] <;> rfl), by repeat (first | (with_reducible first | exact HB.out | apply below_alloc | apply pw_below_drewN | apply below_drew1) | exact HB.out)⟩
  · replace c5 := Bool.eq_false_iff.mpr c5
    subst c5
    have H1 : (none) = some r := by rw [if_neg (show ¬ (false = true) by decide)] at H; exact H
    clear H
    have H := H1
    clear H1
    exact absurd H (by simp)

/-- THE ONE PURE STATEMENT of camshaftlaw01_BitsTimes: yours. -/
def camshaftlaw01_BitsTimes.Pure : Prop := ∀ (a0 : Int) (a1 : Int) (a2 : Int), (Lit.int .u32 a0).wf = true → (Lit.int .u32 a1).wf = true → (Lit.int .i64 a2).wf = true → ∃ k, camshaftlaw01_BitsTimes.f k a0 a1 a2 = some true
theorem camshaftlaw01_BitsTimes.walk (P : camshaftlaw01_BitsTimes.Pure) (a0 : Int) (a1 : Int) (a2 : Int) (w : World) (w0 : (Lit.int .u32 a0).wf = true) (w1 : (Lit.int .u32 a1).wf = true) (w2 : (Lit.int .i64 a2).wf = true) :
    Calls Try.prog 9 #[.int .u32 a0, .int .u32 a1, .int .i64 a2] w fun e w' => e = .returned (.bool true) ∧ Below w.heap.size w w' := by
  obtain ⟨k, h⟩ := P a0 a1 a2 w0 w1 w2
  refine (camshaftlaw01_BitsTimes.calls k a0 a1 a2 true w h).mono ?_
  rintro e w' ⟨rfl, hd⟩
  exact ⟨rfl, hd⟩

/-! ### alu_Logic: function 43 -/
def alu_Logic.f (a0 : Int) : Option (Bool) := if a0 = 1 then (some true) else (if a0 = 2 then (some true) else (if a0 = 12 then (some true) else (if a0 = 13 then (some true) else (if a0 = 14 then (some true) else (if a0 = 15 then (some true) else (if a0 = 18 then (some true) else (some false)))))))
set_option maxHeartbeats 8000000 in
set_option maxRecDepth 100000 in
theorem alu_Logic.calls (a0 : Int) (r : Bool) (w : World) (h : alu_Logic.f a0 = some r) :
    Calls Try.prog 43 #[.int .i64 a0] w fun e w' => e = .returned (.bool r) ∧ Drawn0 w w' := by
  have H : (if a0 = 1 then (some true) else (if a0 = 2 then (some true) else (if a0 = 12 then (some true) else (if a0 = 13 then (some true) else (if a0 = 14 then (some true) else (if a0 = 15 then (some true) else (if a0 = 18 then (some true) else (some false)))))))) = some r := h
  clear h
  by_cases c2 : a0 = 1
  · rw [if_pos c2] at H
    have c2b0 : (a0 == 1) = true := beq_iff_eq.mpr c2
    have c2b1 : (a0 != 1) = false := bne_eq_false_iff_eq.mpr c2
    clear c2
    obtain rfl := Option.some.inj H
    go_enter Try.func43, Try.ntmps43
    go_wp2
    go_ret
    exact ⟨by first | rfl | (simp; done) | (simp [*]; done), by repeat (first | exact Drawn0.refl _ | apply Drawn0.step)⟩
  · rw [if_neg c2] at H
    have c2b0 : (a0 == 1) = false := beq_eq_false_iff_ne.mpr c2
    have c2b1 : (a0 != 1) = true := bne_iff_ne.mpr c2
    by_cases c3 : a0 = 2
    · rw [if_pos c3] at H
      have c3b0 : (a0 == 2) = true := beq_iff_eq.mpr c3
      have c3b1 : (a0 != 2) = false := bne_eq_false_iff_eq.mpr c3
      clear c3
      obtain rfl := Option.some.inj H
      go_enter Try.func43, Try.ntmps43
      go_wp2
      go_ret
      exact ⟨by first | rfl | (simp; done) | (simp [*]; done), by repeat (first | exact Drawn0.refl _ | apply Drawn0.step)⟩
    · rw [if_neg c3] at H
      have c3b0 : (a0 == 2) = false := beq_eq_false_iff_ne.mpr c3
      have c3b1 : (a0 != 2) = true := bne_iff_ne.mpr c3
      by_cases c4 : a0 = 12
      · rw [if_pos c4] at H
        have c4b0 : (a0 == 12) = true := beq_iff_eq.mpr c4
        have c4b1 : (a0 != 12) = false := bne_eq_false_iff_eq.mpr c4
        clear c4
        obtain rfl := Option.some.inj H
        go_enter Try.func43, Try.ntmps43
        go_wp2
        go_ret
        exact ⟨by first | rfl | (simp; done) | (simp [*]; done), by repeat (first | exact Drawn0.refl _ | apply Drawn0.step)⟩
      · rw [if_neg c4] at H
        have c4b0 : (a0 == 12) = false := beq_eq_false_iff_ne.mpr c4
        have c4b1 : (a0 != 12) = true := bne_iff_ne.mpr c4
        by_cases c5 : a0 = 13
        · rw [if_pos c5] at H
          have c5b0 : (a0 == 13) = true := beq_iff_eq.mpr c5
          have c5b1 : (a0 != 13) = false := bne_eq_false_iff_eq.mpr c5
          clear c5
          obtain rfl := Option.some.inj H
          go_enter Try.func43, Try.ntmps43
          go_wp2
          go_ret
          exact ⟨by first | rfl | (simp; done) | (simp [*]; done), by repeat (first | exact Drawn0.refl _ | apply Drawn0.step)⟩
        · rw [if_neg c5] at H
          have c5b0 : (a0 == 13) = false := beq_eq_false_iff_ne.mpr c5
          have c5b1 : (a0 != 13) = true := bne_iff_ne.mpr c5
          by_cases c6 : a0 = 14
          · rw [if_pos c6] at H
            have c6b0 : (a0 == 14) = true := beq_iff_eq.mpr c6
            have c6b1 : (a0 != 14) = false := bne_eq_false_iff_eq.mpr c6
            clear c6
            obtain rfl := Option.some.inj H
            go_enter Try.func43, Try.ntmps43
            go_wp2
            go_ret
            exact ⟨by first | rfl | (simp; done) | (simp [*]; done), by repeat (first | exact Drawn0.refl _ | apply Drawn0.step)⟩
          · rw [if_neg c6] at H
            have c6b0 : (a0 == 14) = false := beq_eq_false_iff_ne.mpr c6
            have c6b1 : (a0 != 14) = true := bne_iff_ne.mpr c6
            by_cases c7 : a0 = 15
            · rw [if_pos c7] at H
              have c7b0 : (a0 == 15) = true := beq_iff_eq.mpr c7
              have c7b1 : (a0 != 15) = false := bne_eq_false_iff_eq.mpr c7
              clear c7
              obtain rfl := Option.some.inj H
              go_enter Try.func43, Try.ntmps43
              go_wp2
              go_ret
              exact ⟨by first | rfl | (simp; done) | (simp [*]; done), by repeat (first | exact Drawn0.refl _ | apply Drawn0.step)⟩
            · rw [if_neg c7] at H
              have c7b0 : (a0 == 15) = false := beq_eq_false_iff_ne.mpr c7
              have c7b1 : (a0 != 15) = true := bne_iff_ne.mpr c7
              by_cases c8 : a0 = 18
              · rw [if_pos c8] at H
                have c8b0 : (a0 == 18) = true := beq_iff_eq.mpr c8
                have c8b1 : (a0 != 18) = false := bne_eq_false_iff_eq.mpr c8
                clear c8
                obtain rfl := Option.some.inj H
                go_enter Try.func43, Try.ntmps43
                go_wp2
                go_ret
                exact ⟨by first | rfl | (simp; done) | (simp [*]; done), by repeat (first | exact Drawn0.refl _ | apply Drawn0.step)⟩
              · rw [if_neg c8] at H
                have c8b0 : (a0 == 18) = false := beq_eq_false_iff_ne.mpr c8
                have c8b1 : (a0 != 18) = true := bne_iff_ne.mpr c8
                obtain rfl := Option.some.inj H
                go_enter Try.func43, Try.ntmps43
                go_wp2
                go_ret
                exact ⟨by first | rfl | (simp; done) | (simp [*]; done), by repeat (first | exact Drawn0.refl _ | apply Drawn0.step)⟩

end Go.Proofs.Ytmmmifgddkfehaa.PAll
