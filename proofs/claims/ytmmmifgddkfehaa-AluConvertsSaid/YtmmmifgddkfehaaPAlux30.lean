-- Written by wip/oprint.py, a program of this session's repo, out of the translation. Not trusted: Lean checks it.
import Derived.Test.YtmmmifgddkfehaaPAlux0
import Derived.Test.YtmmmifgddkfehaaPAlux1
import Derived.Test.YtmmmifgddkfehaaPAlux2
import Derived.Test.YtmmmifgddkfehaaPAlux11
import Derived.Test.YtmmmifgddkfehaaPAlux12
import Derived.Test.YtmmmifgddkfehaaPAlux28
import Derived.Test.YtmmmifgddkfehaaPAlux29
namespace Go.Proofs.Ytmmmifgddkfehaa.PAlu
open Go.RowKit Go.Proofs.YtmmmifgddkfehaaW.PrintWords Go.Proofs.YtmmmifgddkfehaaW.PrintLast
set_option linter.unusedVariables false
set_option linter.unusedSimpArgs false

attribute [local go_sem high] eqA29
/-! ### camshaftlaw08_AluConverts: function 15 -/
mutual
def camshaftlaw08_AluConverts.j0 : Nat → Int → Int → Int → Bool → Bool → Bool → Option (Bool)
  | 0, _, _, _, _, _, _ => none
  | k + 1, x0, x1, x2, x3, x4, x24 => if x24 = true then (some true) else ((alu_Convert.f k x0 x1 x2 x3 x4).bind fun bt548 => ((camshaftref08_Convert.f k x0 x1 x2 x3 x4).bind fun bt554 => (if bt548.1 = bt554.1 then (camshaftlaw08_AluConverts.j1 k x0 x1 x2 x3 bt548.1 (!(bt548.2.1 == bt554.2.1) || (!(bt548.2.2.1 == bt554.2.2.1) || (!(bt548.2.2.2.1 == bt554.2.2.2.1) || (!(bt548.2.2.2.2 == bt554.2.2.2.2))))) bt548.2.1 bt548.2.2.1 bt548.2.2.2.1 bt548.2.2.2.2) else (camshaftlaw08_AluConverts.j1 k x0 x1 x2 x3 bt548.1 true bt548.2.1 bt548.2.2.1 bt548.2.2.2.1 bt548.2.2.2.2))))
def camshaftlaw08_AluConverts.j1 : Nat → Int → Int → Int → Bool → Int → Bool → Bool → Bool → Bool → Bool → Option (Bool)
  | 0, _, _, _, _, _, _, _, _, _, _ => none
  | k + 1, x0, x1, x2, x3, x11, x50, x554000, x554001, x554002, x554003 => if x50 = true then (none) else (if x3 = true then (if x554002 = true then (some true) else ((camshaftref01_Signed.f x11 x2).bind fun t560 => ((camshaftref01_Signed.f x0 x1).bind fun t561 => (some (t560 == t561))))) else (some true))
end
def camshaftlaw08_AluConverts.f (k : Nat) (a0 : Int) (a1 : Int) (a2 : Int) (a3 : Bool) (a4 : Bool) : Option (Bool) := (camshaftlaw08_alive.f).bind fun t545 => (if t545 = true then ((camshaftref01_Size.f a1).bind fun t546 => (if t546 = true then ((camshaftref01_Size.f a2).bind fun t547 => (camshaftlaw08_AluConverts.j0 k a0 a1 a2 a3 a4 (!t547))) else (camshaftlaw08_AluConverts.j0 k a0 a1 a2 a3 a4 true))) else (none))
theorem camshaftlaw08_AluConverts.mono_l : ∀ k, (∀ y0 y1 y2 y3 y4 y5, LeO (camshaftlaw08_AluConverts.j0 k y0 y1 y2 y3 y4 y5) (camshaftlaw08_AluConverts.j0 (k + 1) y0 y1 y2 y3 y4 y5)) ∧ (∀ y0 y1 y2 y3 y4 y5 y6 y7 y8 y9, LeO (camshaftlaw08_AluConverts.j1 k y0 y1 y2 y3 y4 y5 y6 y7 y8 y9) (camshaftlaw08_AluConverts.j1 (k + 1) y0 y1 y2 y3 y4 y5 y6 y7 y8 y9))
  | 0 => ⟨fun _ _ _ _ _ _ r h => by simp [camshaftlaw08_AluConverts.j0] at h, fun _ _ _ _ _ _ _ _ _ _ r h => by simp [camshaftlaw08_AluConverts.j1] at h⟩
  | k + 1 => by
    obtain ⟨ih0, ih1⟩ := camshaftlaw08_AluConverts.mono_l k
    refine ⟨?_, ?_⟩
    · intro y0 y1 y2 y3 y4 y5
      unfold camshaftlaw08_AluConverts.j0
      repeat' first
      | (with_reducible exact ih0 _ _ _ _ _ _)
      | (with_reducible exact ih1 _ _ _ _ _ _ _ _ _ _)
      | (with_reducible exact alu_Convert.mono _ _ _ _ _ _)
      | (with_reducible exact camshaftref08_Convert.mono _ _ _ _ _ _)
      | (with_reducible exact LeO.refl _)
      | (with_reducible exact LeO.none _)
      | (with_reducible refine LeO.ite ?_ ?_)
      | (with_reducible refine LeO.bind ?_ (fun _ => ?_))
      | exact ih0 _ _ _ _ _ _
      | exact ih1 _ _ _ _ _ _ _ _ _ _
      | exact alu_Convert.mono _ _ _ _ _ _
      | exact camshaftref08_Convert.mono _ _ _ _ _ _
      | exact LeO.none _
      | refine LeO.ite ?_ ?_
      | refine LeO.bind ?_ (fun _ => ?_)
    · intro y0 y1 y2 y3 y4 y5 y6 y7 y8 y9
      unfold camshaftlaw08_AluConverts.j1
      repeat' first
      | (with_reducible exact ih0 _ _ _ _ _ _)
      | (with_reducible exact ih1 _ _ _ _ _ _ _ _ _ _)
      | (with_reducible exact alu_Convert.mono _ _ _ _ _ _)
      | (with_reducible exact camshaftref08_Convert.mono _ _ _ _ _ _)
      | (with_reducible exact LeO.refl _)
      | (with_reducible exact LeO.none _)
      | (with_reducible refine LeO.ite ?_ ?_)
      | (with_reducible refine LeO.bind ?_ (fun _ => ?_))
      | exact ih0 _ _ _ _ _ _
      | exact ih1 _ _ _ _ _ _ _ _ _ _
      | exact alu_Convert.mono _ _ _ _ _ _
      | exact camshaftref08_Convert.mono _ _ _ _ _ _
      | exact LeO.none _
      | refine LeO.ite ?_ ?_
      | refine LeO.bind ?_ (fun _ => ?_)
theorem camshaftlaw08_AluConverts.mono : ∀ a0 a1 a2 a3 a4 k, LeO (camshaftlaw08_AluConverts.f k a0 a1 a2 a3 a4) (camshaftlaw08_AluConverts.f (k + 1) a0 a1 a2 a3 a4) := by
  intro a0 a1 a2 a3 a4 k
  obtain ⟨ih0, ih1⟩ := camshaftlaw08_AluConverts.mono_l k
  unfold camshaftlaw08_AluConverts.f
  repeat' first
      | (with_reducible exact ih0 _ _ _ _ _ _)
      | (with_reducible exact ih1 _ _ _ _ _ _ _ _ _ _)
      | (with_reducible exact alu_Convert.mono _ _ _ _ _ _)
      | (with_reducible exact camshaftref08_Convert.mono _ _ _ _ _ _)
      | (with_reducible exact LeO.refl _)
      | (with_reducible exact LeO.none _)
      | (with_reducible refine LeO.ite ?_ ?_)
      | (with_reducible refine LeO.bind ?_ (fun _ => ?_))
      | exact ih0 _ _ _ _ _ _
      | exact ih1 _ _ _ _ _ _ _ _ _ _
      | exact alu_Convert.mono _ _ _ _ _ _
      | exact camshaftref08_Convert.mono _ _ _ _ _ _
      | exact LeO.none _
      | refine LeO.ite ?_ ?_
      | refine LeO.bind ?_ (fun _ => ?_)
set_option maxHeartbeats 8000000 in
set_option maxRecDepth 100000 in
theorem camshaftlaw08_AluConverts.calls (k : Nat) (a0 : Int) (a1 : Int) (a2 : Int) (a3 : Bool) (a4 : Bool) (r : Bool) (w : World) (h : camshaftlaw08_AluConverts.f k a0 a1 a2 a3 a4 = some r) :
    Calls Try.prog 15 #[.int .u32 a0, .int .i64 a1, .int .i64 a2, .bool a3, .bool a4] w fun e w' => e = .returned (.bool r) ∧ Below w.heap.size w w' := by
  have hu29 := Try.underlying29
  have HB := Aside0.mk (Below.refl w.heap.size w)
  have H : ((camshaftlaw08_alive.f).bind fun t545 => (if t545 = true then ((camshaftref01_Size.f a1).bind fun t546 => (if t546 = true then ((camshaftref01_Size.f a2).bind fun t547 => (camshaftlaw08_AluConverts.j0 k a0 a1 a2 a3 a4 (!t547))) else (camshaftlaw08_AluConverts.j0 k a0 a1 a2 a3 a4 true))) else (none))) = some r := h
  clear h
  replace H := Option.bind_eq_some_iff.mp H
  obtain ⟨t545, A60, H⟩ := H
  replace H : (if t545 = true then ((camshaftref01_Size.f a1).bind fun t546 => (if t546 = true then ((camshaftref01_Size.f a2).bind fun t547 => (camshaftlaw08_AluConverts.j0 k a0 a1 a2 a3 a4 (!t547))) else (camshaftlaw08_AluConverts.j0 k a0 a1 a2 a3 a4 true))) else (none)) = some r := H
  have A6 := Aside0.mk A60
  clear A60
  by_cases c7 : t545 = true
  · subst c7
    have H1 : ((camshaftref01_Size.f a1).bind fun t546 => (if t546 = true then ((camshaftref01_Size.f a2).bind fun t547 => (camshaftlaw08_AluConverts.j0 k a0 a1 a2 a3 a4 (!t547))) else (camshaftlaw08_AluConverts.j0 k a0 a1 a2 a3 a4 true))) = some r := by rw [if_pos rfl] at H; exact H
    clear H
    have H := H1
    clear H1
    have HC8 := Aside0.mk H
    clear H
    go_enter Try.func15, Try.ntmps15
    go_upto_region 3 with (first | ((with_reducible refine gate_callee (f := 40) rfl ?_); refine goesL_ (some 15) rfl rfl Try.func40 (by kernel_rfl) rfl #[] rfl (by (try simp only [List.map_toArray, List.map_cons, List.map_nil]); first | done | rfl | (simp only [List.length_drop, List.length_take]; rfl)) ?_; (with_reducible refine (camshaftlaw08_alive.calls  true _ A6.out).mono ?_); rintro e w9 ⟨rfl, hb⟩; refine ⟨_, rfl, ?_⟩; have n0_ := Aside0.mk (below_step (by repeat (first | (with_reducible first | exact HB.out | apply below_alloc | apply pw_below_drewN | apply below_drew1) | exact HB.out)) hb); clear HB; have HB := n0_; clear n0_; (try clear hb); (try clear hb2); (try clear hk); (try clear hi)))
    (try simp only [Act.put, List.setIfInBounds_toArray, List.set_cons_zero, List.set_cons_succ])
    go_cut [24] (fun v24 wc => ∃ (kq : Nat) (x24_7 : Bool), v24 = .bool x24_7 ∧ Aside0 (camshaftlaw08_AluConverts.j0 kq a0 a1 a2 a3 a4 x24_7 = some r) ∧ Aside0 (kq ≤ k) ∧ Aside0 (Below w.heap.size w wc))
    case first =>
      have H := HC8.out
      clear HC8
      replace H := Option.bind_eq_some_iff.mp H
      obtain ⟨t546, A100, H⟩ := H
      replace H : (if t546 = true then ((camshaftref01_Size.f a2).bind fun t547 => (camshaftlaw08_AluConverts.j0 k a0 a1 a2 a3 a4 (!t547))) else (camshaftlaw08_AluConverts.j0 k a0 a1 a2 a3 a4 true)) = some r := H
      have A10 := Aside0.mk A100
      clear A100
      by_cases c11 : t546 = true
      · subst c11
        have H1 : ((camshaftref01_Size.f a2).bind fun t547 => (camshaftlaw08_AluConverts.j0 k a0 a1 a2 a3 a4 (!t547))) = some r := by rw [if_pos rfl] at H; exact H
        clear H
        have H := H1
        clear H1
        replace H := Option.bind_eq_some_iff.mp H
        obtain ⟨t547, A120, H⟩ := H
        replace H : (camshaftlaw08_AluConverts.j0 k a0 a1 a2 a3 a4 (!t547)) = some r := H
        have A12 := Aside0.mk A120
        clear A120
        have H' := Aside0.mk H
        clear H
        go_wp2_with (first | ((with_reducible refine gate_callee (f := 17) rfl ?_); refine goesL_ (some 18) rfl rfl Try.func17 (by kernel_rfl) rfl #[.int .i64 a1] rfl (by (try simp only [List.map_toArray, List.map_cons, List.map_nil]); first | done | rfl | (simp only [List.length_drop, List.length_take]; rfl)) ?_; (with_reducible refine (camshaftref01_Size.calls a1 true _ A10.out).mono ?_); rintro e w' ⟨rfl, ⟨nd, rfl⟩⟩; refine ⟨_, rfl, ?_⟩) | (go_at_call 17; (with_reducible refine (camshaftref01_Size.calls a2 t547 _ A12.out).mono ?_); rintro e w' ⟨rfl, ⟨nd, rfl⟩⟩))
        go_meet
        case rel => exact ⟨_, (!t547), (by first | rfl | (simp; done) | (simp [*]; done)), H', ⟨by first | omega | exact Nat.le_refl _⟩, ⟨by repeat (first | (with_reducible first | exact HB.out | apply below_alloc | apply pw_below_drewN | apply below_drew1) | exact HB.out)⟩⟩
      · replace c11 := Bool.eq_false_iff.mpr c11
        subst c11
        have H1 : (camshaftlaw08_AluConverts.j0 k a0 a1 a2 a3 a4 true) = some r := by rw [if_neg (show ¬ (false = true) by decide)] at H; exact H
        clear H
        have H := H1
        clear H1
        have H' := Aside0.mk H
        clear H
        go_wp2_with (first | ((with_reducible refine gate_callee (f := 17) rfl ?_); refine goesL_ (some 18) rfl rfl Try.func17 (by kernel_rfl) rfl #[.int .i64 a1] rfl (by (try simp only [List.map_toArray, List.map_cons, List.map_nil]); first | done | rfl | (simp only [List.length_drop, List.length_take]; rfl)) ?_; (with_reducible refine (camshaftref01_Size.calls a1 false _ A10.out).mono ?_); rintro e w' ⟨rfl, ⟨nd, rfl⟩⟩; refine ⟨_, rfl, ?_⟩))
        go_meet
        case rel => exact ⟨_, (true), (by first | rfl | (simp; done) | (simp [*]; done)), H', ⟨by first | omega | exact Nat.le_refl _⟩, ⟨by repeat (first | (with_reducible first | exact HB.out | apply below_alloc | apply pw_below_drewN | apply below_drew1) | exact HB.out)⟩⟩
    case rest =>
      clear HC8
      try clear c1
      try clear p2
      try clear c4
      try clear c7
      try clear c11
      obtain ⟨kq, x24_7, rfl, HA, HJ7, HB⟩ := hcut
      cases kq with
      | zero => exact absurd HA.out (by simp [camshaftlaw08_AluConverts.j0])
      | succ kj7 =>
        have H := HA.out
        clear HA
        simp only [camshaftlaw08_AluConverts.j0] at H
        by_cases c13 : x24_7 = true
        · subst c13
          have H1 : (some true) = some r := by rw [if_pos rfl] at H; exact H
          clear H
          have H := H1
          clear H1
          obtain rfl := Option.some.inj H
          go_wp2
          go_ret
          exact ⟨by first | rfl | (simp [errW_none, errW_some] <;> rfl) | (simp [*, errW_none, errW_some] <;> rfl), by repeat (first | (with_reducible first | exact HB.out | apply below_alloc | apply pw_below_drewN | apply below_drew1) | exact HB.out)⟩
        · replace c13 := Bool.eq_false_iff.mpr c13
          subst c13
          have H1 : ((alu_Convert.f kj7 a0 a1 a2 a3 a4).bind fun bt548 => ((camshaftref08_Convert.f kj7 a0 a1 a2 a3 a4).bind fun bt554 => (if bt548.1 = bt554.1 then (camshaftlaw08_AluConverts.j1 kj7 a0 a1 a2 a3 bt548.1 (!(bt548.2.1 == bt554.2.1) || (!(bt548.2.2.1 == bt554.2.2.1) || (!(bt548.2.2.2.1 == bt554.2.2.2.1) || (!(bt548.2.2.2.2 == bt554.2.2.2.2))))) bt548.2.1 bt548.2.2.1 bt548.2.2.2.1 bt548.2.2.2.2) else (camshaftlaw08_AluConverts.j1 kj7 a0 a1 a2 a3 bt548.1 true bt548.2.1 bt548.2.2.1 bt548.2.2.2.1 bt548.2.2.2.2)))) = some r := by rw [if_neg (show ¬ (false = true) by decide)] at H; exact H
          clear H
          have H := H1
          clear H1
          replace H := Option.bind_eq_some_iff.mp H
          obtain ⟨⟨t548, t549, t550, t551, t552⟩, A140, H⟩ := H
          replace H : ((camshaftref08_Convert.f kj7 a0 a1 a2 a3 a4).bind fun bt554 => (if t548 = bt554.1 then (camshaftlaw08_AluConverts.j1 kj7 a0 a1 a2 a3 t548 (!(t549 == bt554.2.1) || (!(t550 == bt554.2.2.1) || (!(t551 == bt554.2.2.2.1) || (!(t552 == bt554.2.2.2.2))))) t549 t550 t551 t552) else (camshaftlaw08_AluConverts.j1 kj7 a0 a1 a2 a3 t548 true t549 t550 t551 t552))) = some r := H
          have A14 := Aside0.mk A140
          clear A140
          replace H := Option.bind_eq_some_iff.mp H
          obtain ⟨⟨t554, t555, t556, t557, t558⟩, A150, H⟩ := H
          replace H : (if t548 = t554 then (camshaftlaw08_AluConverts.j1 kj7 a0 a1 a2 a3 t548 (!(t549 == t555) || (!(t550 == t556) || (!(t551 == t557) || (!(t552 == t558))))) t549 t550 t551 t552) else (camshaftlaw08_AluConverts.j1 kj7 a0 a1 a2 a3 t548 true t549 t550 t551 t552)) = some r := H
          have A15 := Aside0.mk A150
          clear A150
          have HC16 := Aside0.mk H
          clear H
          go_upto_region 7 with (first | ((with_reducible refine gate_callee (f := 46) rfl ?_); refine goesL_ (some 31) rfl rfl Try.func46 (by kernel_rfl) rfl #[.int .u32 a0, .int .i64 a1, .int .i64 a2, .bool a3, .bool a4] rfl (by (try simp only [List.map_toArray, List.map_cons, List.map_nil]); first | done | rfl | (simp only [List.length_drop, List.length_take]; rfl)) ?_; (with_reducible refine (alu_Convert.calls kj7 a0 a1 a2 a3 a4 t548 t549 t550 t551 t552 _ A14.out).mono ?_); rintro e w17 ⟨rfl, hb⟩; refine ⟨_, rfl, ?_⟩; have n0_ := Aside0.mk (below_step (by repeat (first | (with_reducible first | exact HB.out | apply below_alloc | apply pw_below_drewN | apply below_drew1) | exact HB.out)) hb); clear HB; have HB := n0_; clear n0_; (try clear hb); (try clear hb2); (try clear hk); (try clear hi)) | ((with_reducible refine gate_dst (N := 12) rfl ?_); refine box_event ?hg (N := 12) ?hd (cs := #[.bool false, .bool false, .bool false, .bool false]) (t := 29) ?hr ?_; (case hd => rfl); (case hg => rfl); (case hr => first | (go_simp; done) | (go_simp; rfl)); intro gb553 hg w18 hbox hb; have n0_ := Aside0.mk (below_step (by repeat (first | (with_reducible first | exact HB.out | apply below_alloc | apply pw_below_drewN | apply below_drew1) | exact HB.out)) hb); have n1_ := Aside0.mk (hbox); have n2_ := Aside0.mk ((by rw [hg]; exact (below_size (by repeat (first | (with_reducible first | exact HB.out | apply below_alloc | apply pw_below_drewN | apply below_drew1) | exact HB.out))) : w.heap.size ≤ gb553)); have n3_ := Aside0.mk ((by rw [hg]; exact (below_size (by repeat (first | (with_reducible first | exact HB.out | apply below_alloc | apply pw_below_drewN | apply below_drew1) | exact HB.out))) : w.heap.size ≤ gb553)); clear HB; have HB := n0_; have BK553 := n1_; have GW553 := n2_; have GE553 := n3_; clear n0_ n1_ n2_ n3_; clear hb hbox hg; have hcz19_0 : w18.cell? ⟨gb553, 0, none⟩ = some (.bool false) := (blk_cell BK553.out 0).trans rfl; have hcz19_1 : w18.cell? ⟨gb553, 1, none⟩ = some (.bool false) := (blk_cell BK553.out 1).trans rfl; have hcz19_2 : w18.cell? ⟨gb553, 2, none⟩ = some (.bool false) := (blk_cell BK553.out 2).trans rfl; have hcz19_3 : w18.cell? ⟨gb553, 3, none⟩ = some (.bool false) := (blk_cell BK553.out 3).trans rfl; have hfz19_0 := blk_frozen BK553.out 0; have hfz19_1 := blk_frozen BK553.out 1; have hfz19_2 := blk_frozen BK553.out 2; have hfz19_3 := blk_frozen BK553.out 3) | ((with_reducible refine gate_callee (f := 47) rfl ?_); refine goesL_ (some 40) rfl rfl Try.func47 (by kernel_rfl) rfl #[.int .u32 a0, .int .i64 a1, .int .i64 a2, .bool a3, .bool a4] rfl (by (try simp only [List.map_toArray, List.map_cons, List.map_nil]); first | done | rfl | (simp only [List.length_drop, List.length_take]; rfl)) ?_; (with_reducible refine (camshaftref08_Convert.calls kj7 a0 a1 a2 a3 a4 t554 t555 t556 t557 t558 _ A15.out).mono ?_); rintro e w20 ⟨rfl, hb⟩; refine ⟨_, rfl, ?_⟩; have n0_ := Aside0.mk (blk_below (g := gb553) (o := .cells #[.bool t549, .bool t550, .bool t551, .bool t552] 29 (0, 0)) (by (with_reducible repeat (first | refine blk_drewN ?_ _ | refine blk_drew ?_ | refine blk_alloc ?_ _)); refine blk_put (cs := #[.bool t549, .bool t550, .bool t551, .bool false]) ?_ 3 _ rfl; (with_reducible repeat (first | refine blk_drewN ?_ _ | refine blk_drew ?_ | refine blk_alloc ?_ _)); refine blk_put (cs := #[.bool t549, .bool t550, .bool false, .bool false]) ?_ 2 _ rfl; (with_reducible repeat (first | refine blk_drewN ?_ _ | refine blk_drew ?_ | refine blk_alloc ?_ _)); refine blk_put (cs := #[.bool t549, .bool false, .bool false, .bool false]) ?_ 1 _ rfl; (with_reducible repeat (first | refine blk_drewN ?_ _ | refine blk_drew ?_ | refine blk_alloc ?_ _)); refine blk_put (cs := #[.bool false, .bool false, .bool false, .bool false]) ?_ 0 _ rfl; (with_reducible repeat (first | refine blk_drewN ?_ _ | refine blk_drew ?_ | refine blk_alloc ?_ _)); exact BK553.out) hb); have n1_ := Aside0.mk (below_step (by repeat (first | (with_reducible first | exact HB.out | apply below_alloc | apply pw_below_drewN | apply below_drew1 | refine below_set ?_ GE553.out) | exact HB.out)) hb); clear BK553; clear HB; have BK553 := n0_; have HB := n1_; clear n0_ n1_; (try clear hb); (try clear hb2); (try clear hk); (try clear hi)) | ((with_reducible refine gate_dst (N := 14) rfl ?_); refine box_event ?hg (N := 14) ?hd (cs := #[.bool false, .bool false, .bool false, .bool false]) (t := 29) ?hr ?_; (case hd => rfl); (case hg => rfl); (case hr => first | (go_simp; done) | (go_simp; rfl)); intro gb559 hg w21 hbox hb; have n0_ := Aside0.mk (blk_below (g := gb553) (o := .cells #[.bool t549, .bool t550, .bool t551, .bool t552] 29 (0, 0)) (by (with_reducible repeat (first | refine blk_drewN ?_ _ | refine blk_drew ?_ | refine blk_alloc ?_ _)); exact BK553.out) hb); have n1_ := Aside0.mk (below_step (by repeat (first | (with_reducible first | exact HB.out | apply below_alloc | apply pw_below_drewN | apply below_drew1 | refine below_set ?_ GE553.out) | exact HB.out)) hb); have n2_ := Aside0.mk (hbox); have n3_ := Aside0.mk ((by rw [hg]; exact (below_size (by repeat (first | (with_reducible first | exact HB.out | apply below_alloc | apply pw_below_drewN | apply below_drew1 | refine below_set ?_ GE553.out) | exact HB.out))) : w.heap.size ≤ gb559)); have n4_ := Aside0.mk ((by rw [hg]; exact (below_size (by repeat (first | (with_reducible first | exact HB.out | apply below_alloc | apply pw_below_drewN | apply below_drew1 | refine below_set ?_ GE553.out) | exact HB.out))) : w.heap.size ≤ gb559)); have n5_ := Aside0.mk ((by rw [hg]; exact Nat.ne_of_lt (blk_lt (g := gb553) (o := .cells #[.bool t549, .bool t550, .bool t551, .bool t552] 29 (0, 0)) (by (with_reducible repeat (first | refine blk_drewN ?_ _ | refine blk_drew ?_ | refine blk_alloc ?_ _)); exact BK553.out)) : gb553 ≠ gb559)); have n6_ := Aside0.mk ((by rw [hg]; exact Nat.ne_of_gt (blk_lt (g := gb553) (o := .cells #[.bool t549, .bool t550, .bool t551, .bool t552] 29 (0, 0)) (by (with_reducible repeat (first | refine blk_drewN ?_ _ | refine blk_drew ?_ | refine blk_alloc ?_ _)); exact BK553.out)) : gb559 ≠ gb553)); clear BK553; clear HB; have BK553 := n0_; have HB := n1_; have BK559 := n2_; have GW559 := n3_; have GE559 := n4_; have NB553_559 := n5_; have NB559_553 := n6_; clear n0_ n1_ n2_ n3_ n4_ n5_ n6_; clear hb hbox hg; have hnb22 := NB559_553.out; have hnc22 := NB553_559.out; have hcz23_0 : w21.cell? ⟨gb559, 0, none⟩ = some (.bool false) := (blk_cell BK559.out 0).trans rfl; have hcz23_1 : w21.cell? ⟨gb559, 1, none⟩ = some (.bool false) := (blk_cell BK559.out 1).trans rfl; have hcz23_2 : w21.cell? ⟨gb559, 2, none⟩ = some (.bool false) := (blk_cell BK559.out 2).trans rfl; have hcz23_3 : w21.cell? ⟨gb559, 3, none⟩ = some (.bool false) := (blk_cell BK559.out 3).trans rfl; have hfz23_0 := blk_frozen BK559.out 0; have hfz23_1 := blk_frozen BK559.out 1; have hfz23_2 := blk_frozen BK559.out 2; have hfz23_3 := blk_frozen BK559.out 3))
          (try simp only [Act.put, List.setIfInBounds_toArray, List.set_cons_zero, List.set_cons_succ])
          go_cut [50] (fun v50 wc => ∃ (kq : Nat) (x50_15 : Bool), v50 = .bool x50_15 ∧ Aside0 (camshaftlaw08_AluConverts.j1 kq a0 a1 a2 a3 t548 x50_15 t549 t550 t551 t552 = some r) ∧ Aside0 (kq ≤ kj7) ∧ Aside0 (wc.heap[gb553]? = some (.cells #[.bool t549, .bool t550, .bool t551, .bool t552] 29 (0, 0))) ∧ Aside0 (wc.heap[gb559]? = some (.cells #[.bool t555, .bool t556, .bool t557, .bool t558] 29 (0, 0))) ∧ Aside0 (Below w.heap.size w wc))
          case first =>
            have H := HC16.out
            clear HC16
            by_cases c24 : t548 = t554
            · rw [if_pos c24] at H
              have c24b0 : (t548 == t554) = true := beq_iff_eq.mpr c24
              have c24b1 : (t548 != t554) = false := bne_eq_false_iff_eq.mpr c24
              clear c24
              (first | rw [c24b0] | (simp only [i64_w, i32_w]; rw [c24b0]) | skip)
              have H' := Aside0.mk H
              clear H
              have hnb25 := NB553_559.out
              have hnc25 := NB559_553.out
              have hcz26_0 : w21.cell? ⟨gb553, 0, none⟩ = some (.bool t549) := (blk_cell BK553.out 0).trans rfl
              have hcz26_1 : w21.cell? ⟨gb553, 1, none⟩ = some (.bool t550) := (blk_cell BK553.out 1).trans rfl
              have hcz26_2 : w21.cell? ⟨gb553, 2, none⟩ = some (.bool t551) := (blk_cell BK553.out 2).trans rfl
              have hcz26_3 : w21.cell? ⟨gb553, 3, none⟩ = some (.bool t552) := (blk_cell BK553.out 3).trans rfl
              have hfz26_0 := blk_frozen BK553.out 0
              have hfz26_1 := blk_frozen BK553.out 1
              have hfz26_2 := blk_frozen BK553.out 2
              have hfz26_3 := blk_frozen BK553.out 3
              have hcz27_0 : w21.cell? ⟨gb559, 0, none⟩ = some (.bool false) := (blk_cell BK559.out 0).trans rfl
              have hcz27_1 : w21.cell? ⟨gb559, 1, none⟩ = some (.bool false) := (blk_cell BK559.out 1).trans rfl
              have hcz27_2 : w21.cell? ⟨gb559, 2, none⟩ = some (.bool false) := (blk_cell BK559.out 2).trans rfl
              have hcz27_3 : w21.cell? ⟨gb559, 3, none⟩ = some (.bool false) := (blk_cell BK559.out 3).trans rfl
              have hfz27_0 := blk_frozen BK559.out 0
              have hfz27_1 := blk_frozen BK559.out 1
              have hfz27_2 := blk_frozen BK559.out 2
              have hfz27_3 := blk_frozen BK559.out 3
              go_wp2
              go_meet
              case rel => exact ⟨_, ((!(t549 == t555) || (!(t550 == t556) || (!(t551 == t557) || (!(t552 == t558)))))), (by first | rfl | (simp; done) | (simp [*]; done)), H', ⟨by have := HJ7.out; first | omega | exact Nat.le_refl _⟩, ⟨by (with_reducible repeat (first | refine blk_drewN ?_ _ | refine blk_drew ?_ | refine blk_alloc ?_ _)); refine blk_far ?_ NB553_559.out _; (with_reducible repeat (first | refine blk_drewN ?_ _ | refine blk_drew ?_ | refine blk_alloc ?_ _)); refine blk_far ?_ NB553_559.out _; (with_reducible repeat (first | refine blk_drewN ?_ _ | refine blk_drew ?_ | refine blk_alloc ?_ _)); refine blk_far ?_ NB553_559.out _; (with_reducible repeat (first | refine blk_drewN ?_ _ | refine blk_drew ?_ | refine blk_alloc ?_ _)); refine blk_far ?_ NB553_559.out _; (with_reducible repeat (first | refine blk_drewN ?_ _ | refine blk_drew ?_ | refine blk_alloc ?_ _)); exact BK553.out⟩, ⟨by (with_reducible repeat (first | refine blk_drewN ?_ _ | refine blk_drew ?_ | refine blk_alloc ?_ _)); refine blk_put (cs := #[.bool t555, .bool t556, .bool t557, .bool false]) ?_ 3 _ rfl; (with_reducible repeat (first | refine blk_drewN ?_ _ | refine blk_drew ?_ | refine blk_alloc ?_ _)); refine blk_put (cs := #[.bool t555, .bool t556, .bool false, .bool false]) ?_ 2 _ rfl; (with_reducible repeat (first | refine blk_drewN ?_ _ | refine blk_drew ?_ | refine blk_alloc ?_ _)); refine blk_put (cs := #[.bool t555, .bool false, .bool false, .bool false]) ?_ 1 _ rfl; (with_reducible repeat (first | refine blk_drewN ?_ _ | refine blk_drew ?_ | refine blk_alloc ?_ _)); refine blk_put (cs := #[.bool false, .bool false, .bool false, .bool false]) ?_ 0 _ rfl; (with_reducible repeat (first | refine blk_drewN ?_ _ | refine blk_drew ?_ | refine blk_alloc ?_ _)); exact BK559.out⟩, ⟨by repeat (first | (with_reducible first | exact HB.out | apply below_alloc | apply pw_below_drewN | apply below_drew1 | refine below_set ?_ GE553.out | refine below_set ?_ GE559.out) | exact HB.out)⟩⟩
            · rw [if_neg c24] at H
              have c24b0 : (t548 == t554) = false := beq_eq_false_iff_ne.mpr c24
              have c24b1 : (t548 != t554) = true := bne_iff_ne.mpr c24
              (first | rw [c24b0] | (simp only [i64_w, i32_w]; rw [c24b0]) | skip)
              have H' := Aside0.mk H
              clear H
              go_wp2
              go_meet
              case rel => exact ⟨_, (true), (by first | rfl | (simp; done) | (simp [*]; done)), H', ⟨by have := HJ7.out; first | omega | exact Nat.le_refl _⟩, ⟨by (with_reducible repeat (first | refine blk_drewN ?_ _ | refine blk_drew ?_ | refine blk_alloc ?_ _)); refine blk_far ?_ NB553_559.out _; (with_reducible repeat (first | refine blk_drewN ?_ _ | refine blk_drew ?_ | refine blk_alloc ?_ _)); refine blk_far ?_ NB553_559.out _; (with_reducible repeat (first | refine blk_drewN ?_ _ | refine blk_drew ?_ | refine blk_alloc ?_ _)); refine blk_far ?_ NB553_559.out _; (with_reducible repeat (first | refine blk_drewN ?_ _ | refine blk_drew ?_ | refine blk_alloc ?_ _)); refine blk_far ?_ NB553_559.out _; (with_reducible repeat (first | refine blk_drewN ?_ _ | refine blk_drew ?_ | refine blk_alloc ?_ _)); exact BK553.out⟩, ⟨by (with_reducible repeat (first | refine blk_drewN ?_ _ | refine blk_drew ?_ | refine blk_alloc ?_ _)); refine blk_put (cs := #[.bool t555, .bool t556, .bool t557, .bool false]) ?_ 3 _ rfl; (with_reducible repeat (first | refine blk_drewN ?_ _ | refine blk_drew ?_ | refine blk_alloc ?_ _)); refine blk_put (cs := #[.bool t555, .bool t556, .bool false, .bool false]) ?_ 2 _ rfl; (with_reducible repeat (first | refine blk_drewN ?_ _ | refine blk_drew ?_ | refine blk_alloc ?_ _)); refine blk_put (cs := #[.bool t555, .bool false, .bool false, .bool false]) ?_ 1 _ rfl; (with_reducible repeat (first | refine blk_drewN ?_ _ | refine blk_drew ?_ | refine blk_alloc ?_ _)); refine blk_put (cs := #[.bool false, .bool false, .bool false, .bool false]) ?_ 0 _ rfl; (with_reducible repeat (first | refine blk_drewN ?_ _ | refine blk_drew ?_ | refine blk_alloc ?_ _)); exact BK559.out⟩, ⟨by repeat (first | (with_reducible first | exact HB.out | apply below_alloc | apply pw_below_drewN | apply below_drew1 | refine below_set ?_ GE553.out | refine below_set ?_ GE559.out) | exact HB.out)⟩⟩
          case rest =>
            clear HC16
            try clear c1
            try clear c2
            try clear p2
            try clear c4
            try clear c7
            try clear c11
            try clear c13
            try clear c15
            try clear c17
            try clear c22
            try clear c24
            try clear c24b0
            try clear c24b1
            try clear c25
            try clear hcz19_0
            try clear hcz19_1
            try clear hcz19_2
            try clear hcz19_3
            try clear hcz23_0
            try clear hcz23_1
            try clear hcz23_2
            try clear hcz23_3
            try clear hcz26_0
            try clear hcz26_1
            try clear hcz26_2
            try clear hcz26_3
            try clear hcz27_0
            try clear hcz27_1
            try clear hcz27_2
            try clear hcz27_3
            try clear hfz19_0
            try clear hfz19_1
            try clear hfz19_2
            try clear hfz19_3
            try clear hfz23_0
            try clear hfz23_1
            try clear hfz23_2
            try clear hfz23_3
            try clear hfz26_0
            try clear hfz26_1
            try clear hfz26_2
            try clear hfz26_3
            try clear hfz27_0
            try clear hfz27_1
            try clear hfz27_2
            try clear hfz27_3
            try clear p2
            obtain ⟨kq, x50_15, rfl, HA, HJ15, BK553, BK559, HB⟩ := hcut
            cases kq with
            | zero => exact absurd HA.out (by simp [camshaftlaw08_AluConverts.j1])
            | succ kj15 =>
              have H := HA.out
              clear HA
              simp only [camshaftlaw08_AluConverts.j1] at H
              by_cases c28 : x50_15 = true
              · subst c28
                have H1 : (none) = some r := by rw [if_pos rfl] at H; exact H
                clear H
                have H := H1
                clear H1
                exact absurd H (by simp)
              · replace c28 := Bool.eq_false_iff.mpr c28
                subst c28
                have H1 : (if a3 = true then (if t551 = true then (some true) else ((camshaftref01_Signed.f t548 a2).bind fun t560 => ((camshaftref01_Signed.f a0 a1).bind fun t561 => (some (t560 == t561))))) else (some true)) = some r := by rw [if_neg (show ¬ (false = true) by decide)] at H; exact H
                clear H
                have H := H1
                clear H1
                by_cases c29 : a3 = true
                · subst c29
                  have H1 : (if t551 = true then (some true) else ((camshaftref01_Signed.f t548 a2).bind fun t560 => ((camshaftref01_Signed.f a0 a1).bind fun t561 => (some (t560 == t561))))) = some r := by rw [if_pos rfl] at H; exact H
                  clear H
                  have H := H1
                  clear H1
                  by_cases c30 : t551 = true
                  · subst c30
                    have H1 : (some true) = some r := by rw [if_pos rfl] at H; exact H
                    clear H
                    have H := H1
                    clear H1
                    obtain rfl := Option.some.inj H
                    have hnb31 := NB553_559.out
                    have hnc31 := NB559_553.out
                    have hcz32_0 : wc.cell? ⟨gb553, 0, none⟩ = some (.bool t549) := (blk_cell BK553.out 0).trans rfl
                    have hcz32_1 : wc.cell? ⟨gb553, 1, none⟩ = some (.bool t550) := (blk_cell BK553.out 1).trans rfl
                    have hcz32_2 : wc.cell? ⟨gb553, 2, none⟩ = some (.bool true) := (blk_cell BK553.out 2).trans rfl
                    have hcz32_3 : wc.cell? ⟨gb553, 3, none⟩ = some (.bool t552) := (blk_cell BK553.out 3).trans rfl
                    have hfz32_0 := blk_frozen BK553.out 0
                    have hfz32_1 := blk_frozen BK553.out 1
                    have hfz32_2 := blk_frozen BK553.out 2
                    have hfz32_3 := blk_frozen BK553.out 3
                    go_wp2
                    go_ret
                    exact ⟨by first | rfl | (simp [errW_none, errW_some] <;> rfl) | (simp [*, errW_none, errW_some] <;> rfl), by repeat (first | (with_reducible first | exact HB.out | apply below_alloc | apply pw_below_drewN | apply below_drew1 | refine below_set ?_ GE553.out | refine below_set ?_ GE559.out) | exact HB.out)⟩
                  · replace c30 := Bool.eq_false_iff.mpr c30
                    subst c30
                    have H1 : ((camshaftref01_Signed.f t548 a2).bind fun t560 => ((camshaftref01_Signed.f a0 a1).bind fun t561 => (some (t560 == t561)))) = some r := by rw [if_neg (show ¬ (false = true) by decide)] at H; exact H
                    clear H
                    have H := H1
                    clear H1
                    replace H := Option.bind_eq_some_iff.mp H
                    obtain ⟨t560, A330, H⟩ := H
                    replace H : ((camshaftref01_Signed.f a0 a1).bind fun t561 => (some (t560 == t561))) = some r := H
                    have A33 := Aside0.mk A330
                    clear A330
                    replace H := Option.bind_eq_some_iff.mp H
                    obtain ⟨t561, A340, H⟩ := H
                    replace H : (some (t560 == t561)) = some r := H
                    have A34 := Aside0.mk A340
                    clear A340
                    obtain rfl := Option.some.inj H
                    have hnb35 := NB553_559.out
                    have hnc35 := NB559_553.out
                    have hcz36_0 : wc.cell? ⟨gb553, 0, none⟩ = some (.bool t549) := (blk_cell BK553.out 0).trans rfl
                    have hcz36_1 : wc.cell? ⟨gb553, 1, none⟩ = some (.bool t550) := (blk_cell BK553.out 1).trans rfl
                    have hcz36_2 : wc.cell? ⟨gb553, 2, none⟩ = some (.bool false) := (blk_cell BK553.out 2).trans rfl
                    have hcz36_3 : wc.cell? ⟨gb553, 3, none⟩ = some (.bool t552) := (blk_cell BK553.out 3).trans rfl
                    have hfz36_0 := blk_frozen BK553.out 0
                    have hfz36_1 := blk_frozen BK553.out 1
                    have hfz36_2 := blk_frozen BK553.out 2
                    have hfz36_3 := blk_frozen BK553.out 3
                    go_wp2_with (first | (go_at_call 26; (with_reducible refine (camshaftref01_Signed.calls t548 a2 t560 _ A33.out).mono ?_); rintro e w' ⟨rfl, ⟨nd, rfl⟩⟩) | (go_at_call 26; (with_reducible refine (camshaftref01_Signed.calls a0 a1 t561 _ A34.out).mono ?_); rintro e w' ⟨rfl, ⟨nd, rfl⟩⟩))
                    go_ret
                    exact ⟨by first | rfl | (simp [errW_none, errW_some] <;> rfl) | (simp [*, errW_none, errW_some] <;> rfl), by repeat (first | (with_reducible first | exact HB.out | apply below_alloc | apply pw_below_drewN | apply below_drew1 | refine below_set ?_ GE553.out | refine below_set ?_ GE559.out) | exact HB.out)⟩
                · replace c29 := Bool.eq_false_iff.mpr c29
                  subst c29
                  have H1 : (some true) = some r := by rw [if_neg (show ¬ (false = true) by decide)] at H; exact H
                  clear H
                  have H := H1
                  clear H1
                  obtain rfl := Option.some.inj H
                  go_wp2
                  go_ret
                  exact ⟨by first | rfl | (simp [errW_none, errW_some] <;> rfl) | (simp [*, errW_none, errW_some] <;> rfl), by repeat (first | (with_reducible first | exact HB.out | apply below_alloc | apply pw_below_drewN | apply below_drew1 | refine below_set ?_ GE553.out | refine below_set ?_ GE559.out) | exact HB.out)⟩
  · replace c7 := Bool.eq_false_iff.mpr c7
    subst c7
    have H1 : (none) = some r := by rw [if_neg (show ¬ (false = true) by decide)] at H; exact H
    clear H
    have H := H1
    clear H1
    exact absurd H (by simp)

/-- THE ONE PURE STATEMENT of camshaftlaw08_AluConverts: yours. -/
def camshaftlaw08_AluConverts.Pure : Prop := ∀ (a0 : Int) (a1 : Int) (a2 : Int) (a3 : Bool) (a4 : Bool), (Lit.int .u32 a0).wf = true → (Lit.int .i64 a1).wf = true → (Lit.int .i64 a2).wf = true → ∃ k, camshaftlaw08_AluConverts.f k a0 a1 a2 a3 a4 = some true
theorem camshaftlaw08_AluConverts.walk (P : camshaftlaw08_AluConverts.Pure) (a0 : Int) (a1 : Int) (a2 : Int) (a3 : Bool) (a4 : Bool) (w : World) (w0 : (Lit.int .u32 a0).wf = true) (w1 : (Lit.int .i64 a1).wf = true) (w2 : (Lit.int .i64 a2).wf = true) :
    Calls Try.prog 15 #[.int .u32 a0, .int .i64 a1, .int .i64 a2, .bool a3, .bool a4] w fun e w' => e = .returned (.bool true) ∧ Below w.heap.size w w' := by
  obtain ⟨k, h⟩ := P a0 a1 a2 a3 a4 w0 w1 w2
  refine (camshaftlaw08_AluConverts.calls k a0 a1 a2 a3 a4 true w h).mono ?_
  rintro e w' ⟨rfl, hd⟩
  exact ⟨rfl, hd⟩

end Go.Proofs.Ytmmmifgddkfehaa.PAlu
