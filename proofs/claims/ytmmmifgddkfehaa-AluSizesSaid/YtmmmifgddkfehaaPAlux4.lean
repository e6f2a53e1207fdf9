-- Written by wip/oprint.py, a program of this session's repo, out of the translation. Not trusted: Lean checks it.
import Derived.Test.YtmmmifgddkfehaaPAlux0
import Derived.Test.YtmmmifgddkfehaaPAlux2
import Derived.Test.YtmmmifgddkfehaaPAlux3
namespace Go.Proofs.Ytmmmifgddkfehaa.PAlu
open Go.RowKit Go.Proofs.YtmmmifgddkfehaaW.PrintWords Go.Proofs.YtmmmifgddkfehaaW.PrintLast
set_option linter.unusedVariables false
set_option linter.unusedSimpArgs false

/-! ### bits_Sub: function 23 -/
def bits_Sub.f (a0 : Int) (a1 : Int) (a2 : Bool) (a3 : Int) : Option (Int × Bool × Bool × Bool × Bool) := (bits_Add.f a0 (Go.bits .xor .u32 4294967295 a1) (!a2) a3).bind fun bt108 => ((bits_Mask.f a3).bind fun t114 => (if t114 = 0 then (some (bt108.1, bt108.2.1, bt108.2.2.1, bt108.2.2.2.1, false)) else (some (bt108.1, bt108.2.1, bt108.2.2.1, bt108.2.2.2.1, !bt108.2.2.2.2))))
set_option maxHeartbeats 8000000 in
set_option maxRecDepth 100000 in
theorem bits_Sub.calls (a0 : Int) (a1 : Int) (a2 : Bool) (a3 : Int) (r1 : Int) (r2 : Bool) (r3 : Bool) (r4 : Bool) (r5 : Bool) (w : World) (h : bits_Sub.f a0 a1 a2 a3 = some (r1, r2, r3, r4, r5)) :
    Calls Try.prog 23 #[.int .u32 a0, .int .u32 a1, .bool a2, .int .i64 a3] w fun e w' => e = .returned (.tuple #[.int .u32 r1, .agg #[.bool r2, .bool r3, .bool r4, .bool r5]]) ∧ Below w.heap.size w w' := by
  have hu29 := Try.underlying29
  have HB := Aside0.mk (Below.refl w.heap.size w)
  have H : ((bits_Add.f a0 (Go.bits .xor .u32 4294967295 a1) (!a2) a3).bind fun bt108 => ((bits_Mask.f a3).bind fun t114 => (if t114 = 0 then (some (bt108.1, bt108.2.1, bt108.2.2.1, bt108.2.2.2.1, false)) else (some (bt108.1, bt108.2.1, bt108.2.2.1, bt108.2.2.2.1, !bt108.2.2.2.2))))) = some (r1, r2, r3, r4, r5) := h
  clear h
  replace H := Option.bind_eq_some_iff.mp H
  obtain ⟨⟨t108, t109, t110, t111, t112⟩, A50, H⟩ := H
  replace H : ((bits_Mask.f a3).bind fun t114 => (if t114 = 0 then (some (t108, t109, t110, t111, false)) else (some (t108, t109, t110, t111, !t112)))) = some (r1, r2, r3, r4, r5) := H
  have A5 := Aside0.mk A50
  clear A50
  replace H := Option.bind_eq_some_iff.mp H
  obtain ⟨t114, A60, H⟩ := H
  replace H : (if t114 = 0 then (some (t108, t109, t110, t111, false)) else (some (t108, t109, t110, t111, !t112))) = some (r1, r2, r3, r4, r5) := H
  have A6 := Aside0.mk A60
  clear A60
  by_cases c7 : t114 = 0
  · rw [if_pos c7] at H
    have c7b0 : (t114 == 0) = true := beq_iff_eq.mpr c7
    have c7b1 : (t114 != 0) = false := bne_eq_false_iff_eq.mpr c7
    clear c7
    simp only [Option.some.injEq, Prod.mk.injEq] at H
    obtain ⟨rfl, rfl, rfl, rfl, rfl⟩ := H
    go_enter Try.func23, Try.ntmps23
    try go_wp2_with (first | ((with_reducible refine gate_dst (N := 9) rfl ?_); refine box_event ?hg (N := 9) ?hd (cs := #[.bool false, .bool false, .bool false, .bool false]) (t := 29) ?hr ?_; (case hd => rfl); (case hg => rfl); (case hr => first | (go_simp; done) | (go_simp; rfl)); intro gb107 hg w8 hbox hb; have n0_ := Aside0.mk (below_step (by repeat (first | (with_reducible first | exact HB.out | apply below_alloc | apply pw_below_drewN | apply below_drew1) | exact HB.out)) hb); have n1_ := Aside0.mk (hbox); have n2_ := Aside0.mk ((by rw [hg]; exact (below_size (by repeat (first | (with_reducible first | exact HB.out | apply below_alloc | apply pw_below_drewN | apply below_drew1) | exact HB.out))) : w.heap.size ≤ gb107)); have n3_ := Aside0.mk ((by rw [hg]; exact (below_size (by repeat (first | (with_reducible first | exact HB.out | apply below_alloc | apply pw_below_drewN | apply below_drew1) | exact HB.out))) : w.heap.size ≤ gb107)); clear HB; have HB := n0_; have BK107 := n1_; have GW107 := n2_; have GE107 := n3_; clear n0_ n1_ n2_ n3_; clear hb hbox hg) | ((with_reducible refine gate_callee (f := 21) rfl ?_); refine goesL_ (some 19) rfl rfl Try.func21 (by kernel_rfl) rfl #[.int .u32 a0, .int .u32 (Go.bits .xor .u32 4294967295 a1), .bool (!a2), .int .i64 a3] rfl (by (try simp only [List.map_toArray, List.map_cons, List.map_nil]); first | done | rfl | (simp only [List.length_drop, List.length_take]; rfl)) ?_; (with_reducible refine (bits_Add.calls a0 (Go.bits .xor .u32 4294967295 a1) (!a2) a3 t108 t109 t110 t111 t112 _ A5.out).mono ?_); rintro e w9 ⟨rfl, hb⟩; refine ⟨_, rfl, ?_⟩; have n0_ := Aside0.mk (blk_below (g := gb107) (o := .cells #[.bool false, .bool false, .bool false, .bool false] 29 (0, 0)) (by (with_reducible repeat (first | refine blk_drewN ?_ _ | refine blk_drew ?_ | refine blk_alloc ?_ _)); exact BK107.out) hb); have n1_ := Aside0.mk (below_step (by repeat (first | (with_reducible first | exact HB.out | apply below_alloc | apply pw_below_drewN | apply below_drew1 | refine below_set ?_ GE107.out) | exact HB.out)) hb); clear BK107; clear HB; have BK107 := n0_; have HB := n1_; clear n0_ n1_; (try clear hb); (try clear hb2); (try clear hk); (try clear hi)) | ((with_reducible refine gate_dst (N := 11) rfl ?_); refine box_event ?hg (N := 11) ?hd (cs := #[.bool false, .bool false, .bool false, .bool false]) (t := 29) ?hr ?_; (case hd => rfl); (case hg => rfl); (case hr => first | (go_simp; done) | (go_simp; rfl)); intro gb113 hg w10 hbox hb; have n0_ := Aside0.mk (blk_below (g := gb107) (o := .cells #[.bool false, .bool false, .bool false, .bool false] 29 (0, 0)) (by (with_reducible repeat (first | refine blk_drewN ?_ _ | refine blk_drew ?_ | refine blk_alloc ?_ _)); exact BK107.out) hb); have n1_ := Aside0.mk (below_step (by repeat (first | (with_reducible first | exact HB.out | apply below_alloc | apply pw_below_drewN | apply below_drew1 | refine below_set ?_ GE107.out) | exact HB.out)) hb); have n2_ := Aside0.mk (hbox); have n3_ := Aside0.mk ((by rw [hg]; exact (below_size (by repeat (first | (with_reducible first | exact HB.out | apply below_alloc | apply pw_below_drewN | apply below_drew1 | refine below_set ?_ GE107.out) | exact HB.out))) : w.heap.size ≤ gb113)); have n4_ := Aside0.mk ((by rw [hg]; exact (below_size (by repeat (first | (with_reducible first | exact HB.out | apply below_alloc | apply pw_below_drewN | apply below_drew1 | refine below_set ?_ GE107.out) | exact HB.out))) : w.heap.size ≤ gb113)); have n5_ := Aside0.mk ((by rw [hg]; exact Nat.ne_of_lt (blk_lt (g := gb107) (o := .cells #[.bool false, .bool false, .bool false, .bool false] 29 (0, 0)) (by (with_reducible repeat (first | refine blk_drewN ?_ _ | refine blk_drew ?_ | refine blk_alloc ?_ _)); exact BK107.out)) : gb107 ≠ gb113)); have n6_ := Aside0.mk ((by rw [hg]; exact Nat.ne_of_gt (blk_lt (g := gb107) (o := .cells #[.bool false, .bool false, .bool false, .bool false] 29 (0, 0)) (by (with_reducible repeat (first | refine blk_drewN ?_ _ | refine blk_drew ?_ | refine blk_alloc ?_ _)); exact BK107.out)) : gb113 ≠ gb107)); clear BK107; clear HB; have BK107 := n0_; have HB := n1_; have BK113 := n2_; have GW113 := n3_; have GE113 := n4_; have NB107_113 := n5_; have NB113_107 := n6_; clear n0_ n1_ n2_ n3_ n4_ n5_ n6_; clear hb hbox hg; have hnb11 := NB113_107.out; have hnc11 := NB107_113.out; have hcz12_0 : w10.cell? ⟨gb113, 0, none⟩ = some (.bool false) := (blk_cell BK113.out 0).trans rfl; have hcz12_1 : w10.cell? ⟨gb113, 1, none⟩ = some (.bool false) := (blk_cell BK113.out 1).trans rfl; have hcz12_2 : w10.cell? ⟨gb113, 2, none⟩ = some (.bool false) := (blk_cell BK113.out 2).trans rfl; have hcz12_3 : w10.cell? ⟨gb113, 3, none⟩ = some (.bool false) := (blk_cell BK113.out 3).trans rfl; have hfz12_0 := blk_frozen BK113.out 0; have hfz12_1 := blk_frozen BK113.out 1; have hfz12_2 := blk_frozen BK113.out 2; have hfz12_3 := blk_frozen BK113.out 3) | ((with_reducible refine gate_callee (f := 19) rfl ?_); refine goesL_ (some 23) rfl rfl Try.func19 (by kernel_rfl) rfl #[.int .i64 a3] rfl (by (try simp only [List.map_toArray, List.map_cons, List.map_nil]); first | done | rfl | (simp only [List.length_drop, List.length_take]; rfl)) ?_; (with_reducible refine (bits_Mask.calls a3 t114 _ A6.out).mono ?_); rintro e w' ⟨rfl, ⟨nd, rfl⟩⟩; refine ⟨_, rfl, ?_⟩))
    have n0_ : Aside0 ((((((w10.setCell ⟨gb113, 0, none⟩ (.bool t109)).setCell ⟨gb113, 1, none⟩ (.bool t110)).setCell ⟨gb113, 2, none⟩ (.bool t111)).setCell ⟨gb113, 3, none⟩ (.bool t112)).setCell ⟨gb113, 3, none⟩ (.bool false)).heap[gb107]? = some (.cells #[.bool false, .bool false, .bool false, .bool false] 29 (0, 0))) := ⟨by (with_reducible repeat (first | refine blk_drewN ?_ _ | refine blk_drew ?_ | refine blk_alloc ?_ _)); refine blk_far ?_ NB107_113.out _; (with_reducible repeat (first | refine blk_drewN ?_ _ | refine blk_drew ?_ | refine blk_alloc ?_ _)); refine blk_far ?_ NB107_113.out _; (with_reducible repeat (first | refine blk_drewN ?_ _ | refine blk_drew ?_ | refine blk_alloc ?_ _)); refine blk_far ?_ NB107_113.out _; (with_reducible repeat (first | refine blk_drewN ?_ _ | refine blk_drew ?_ | refine blk_alloc ?_ _)); refine blk_far ?_ NB107_113.out _; (with_reducible repeat (first | refine blk_drewN ?_ _ | refine blk_drew ?_ | refine blk_alloc ?_ _)); refine blk_far ?_ NB107_113.out _; (with_reducible repeat (first | refine blk_drewN ?_ _ | refine blk_drew ?_ | refine blk_alloc ?_ _)); exact BK107.out⟩
    have n1_ : Aside0 ((((((w10.setCell ⟨gb113, 0, none⟩ (.bool t109)).setCell ⟨gb113, 1, none⟩ (.bool t110)).setCell ⟨gb113, 2, none⟩ (.bool t111)).setCell ⟨gb113, 3, none⟩ (.bool t112)).setCell ⟨gb113, 3, none⟩ (.bool false)).heap[gb113]? = some (.cells #[.bool t109, .bool t110, .bool t111, .bool false] 29 (0, 0))) := ⟨by (with_reducible repeat (first | refine blk_drewN ?_ _ | refine blk_drew ?_ | refine blk_alloc ?_ _)); refine blk_put (cs := #[.bool t109, .bool t110, .bool t111, .bool t112]) ?_ 3 _ rfl; (with_reducible repeat (first | refine blk_drewN ?_ _ | refine blk_drew ?_ | refine blk_alloc ?_ _)); refine blk_put (cs := #[.bool t109, .bool t110, .bool t111, .bool false]) ?_ 3 _ rfl; (with_reducible repeat (first | refine blk_drewN ?_ _ | refine blk_drew ?_ | refine blk_alloc ?_ _)); refine blk_put (cs := #[.bool t109, .bool t110, .bool false, .bool false]) ?_ 2 _ rfl; (with_reducible repeat (first | refine blk_drewN ?_ _ | refine blk_drew ?_ | refine blk_alloc ?_ _)); refine blk_put (cs := #[.bool t109, .bool false, .bool false, .bool false]) ?_ 1 _ rfl; (with_reducible repeat (first | refine blk_drewN ?_ _ | refine blk_drew ?_ | refine blk_alloc ?_ _)); refine blk_put (cs := #[.bool false, .bool false, .bool false, .bool false]) ?_ 0 _ rfl; (with_reducible repeat (first | refine blk_drewN ?_ _ | refine blk_drew ?_ | refine blk_alloc ?_ _)); exact BK113.out⟩
    have n2_ : Aside0 (Below w.heap.size w (((((w10.setCell ⟨gb113, 0, none⟩ (.bool t109)).setCell ⟨gb113, 1, none⟩ (.bool t110)).setCell ⟨gb113, 2, none⟩ (.bool t111)).setCell ⟨gb113, 3, none⟩ (.bool t112)).setCell ⟨gb113, 3, none⟩ (.bool false))) := ⟨by repeat (first | (with_reducible first | exact HB.out | apply below_alloc | apply pw_below_drewN | apply below_drew1 | refine below_set ?_ GE107.out | refine below_set ?_ GE113.out) | exact HB.out)⟩
    (try clear BK107)
    (try clear BK113)
    (try clear HB)
    (repeat rw [own_setCell_drewN]); (repeat rw [World.drewN_drewN])
    generalize (((((w10.setCell ⟨gb113, 0, none⟩ (.bool t109)).setCell ⟨gb113, 1, none⟩ (.bool t110)).setCell ⟨gb113, 2, none⟩ (.bool t111)).setCell ⟨gb113, 3, none⟩ (.bool t112)).setCell ⟨gb113, 3, none⟩ (.bool false)) = w13 at n0_ n1_ n2_ ⊢
    have BK107 := n0_
    have BK113 := n1_
    have HB := n2_
    clear n0_ n1_ n2_
    (try (rw [drewN_self w13]; generalize hq_ : World.drewN w13 _ = w13; have n0_ : Aside0 (w13.heap[gb107]? = some (.cells #[.bool false, .bool false, .bool false, .bool false] 29 (0, 0))) := ⟨by rw [← hq_]; exact (by (with_reducible repeat (first | refine blk_drewN ?_ _ | refine blk_drew ?_ | refine blk_alloc ?_ _)); exact BK107.out)⟩; have n1_ : Aside0 (w13.heap[gb113]? = some (.cells #[.bool t109, .bool t110, .bool t111, .bool false] 29 (0, 0))) := ⟨by rw [← hq_]; exact (by (with_reducible repeat (first | refine blk_drewN ?_ _ | refine blk_drew ?_ | refine blk_alloc ?_ _)); exact BK113.out)⟩; have n2_ : Aside0 (Below w.heap.size w w13) := ⟨by rw [← hq_]; exact (by repeat (first | (with_reducible first | exact HB.out | apply below_alloc | apply pw_below_drewN | apply below_drew1 | refine below_set ?_ GE107.out | refine below_set ?_ GE113.out) | exact HB.out))⟩; clear BK107 BK113 HB hq_; have BK107 := n0_; have BK113 := n1_; have HB := n2_; clear n0_ n1_ n2_))
    have n0_ := Aside0.mk (blk_drew BK107.out)
    have n1_ := Aside0.mk (blk_drew BK113.out)
    have n2_ := Aside0.mk (below_drew1 HB.out)
    clear BK107
    clear BK113
    clear HB
    have BK107 := n0_
    have BK113 := n1_
    have HB := n2_
    clear n0_ n1_ n2_
    refine start_ (n := 4) (S := fun w' => w'.cell? ⟨gb113, 0, none⟩ = some (.bool t109) ∧ w'.cell? ⟨gb113, 1, none⟩ = some (.bool t110) ∧ w'.cell? ⟨gb113, 2, none⟩ = some (.bool t111) ∧ w'.cell? ⟨gb113, 3, none⟩ = some (.bool false)) (ds := []) #[false, false, false, false] (by kernel_rfl) rfl rfl ⟨(blk_cell BK113.out 0).trans rfl, (blk_cell BK113.out 1).trans rfl, (blk_cell BK113.out 2).trans rfl, (blk_cell BK113.out 3).trans rfl⟩ (fun hHeld => ?_)
    generalize w13.drew = w14 at BK107 BK113 HB hHeld ⊢
    refine pure_ (i := 0) (N := some 31) (v := ?_) (a' := ?_) #[true, false, false, false] rfl rfl (by kernel_rfl) (fun _ _ _ h => h) (Or.inl ⟨by rfl, ?_⟩) ?_ ?_
    rotate_left
    · intro w'
      go_simp
      with_reducible rfl
    rotate_left
    · simp only [Act.put, List.setIfInBounds_toArray, List.set_cons_zero, List.set_cons_succ, i64_w, i32_w]
      rfl
    refine pure_ (i := 2) (N := some 8) (v := ?_) (a' := ?_) #[true, false, true, false] rfl rfl (by kernel_rfl) (fun _ _ _ h => h) (Or.inl ⟨by rfl, ?_⟩) ?_ ?_
    rotate_left
    · intro w'
      go_simp
      with_reducible rfl
    rotate_left
    · simp only [Act.put, List.setIfInBounds_toArray, List.set_cons_zero, List.set_cons_succ, i64_w, i32_w]
      rfl
    refine take_ (i := 1) (N := some 32) (v := ?_) (a' := ?_) #[true, true, true, false] rfl rfl (by kernel_rfl) (fun _ _ _ h => h) (Or.inl ⟨by rfl, ?_⟩) hHeld ?_ ?_
    rotate_left
    · rintro w' ⟨s0, s1, s2, s3⟩
      go_simp
      with_reducible rfl
    rotate_left
    · simp only [Act.put, List.setIfInBounds_toArray, List.set_cons_zero, List.set_cons_succ, i64_w, i32_w]
      rfl
    refine one_ (i := 3) (N := none) #[true, true, true, true] rfl rfl (by kernel_rfl) (by decide) (fun K hK => ?_)
    have hs15 : w14.cell? ⟨gb107, 0, none⟩ = some (.bool false) := (blk_cell BK107.out 0).trans rfl
    have hfs15 := blk_frozen BK107.out 0
    have hns15_1 := NB113_107.out
    have hms15_1 := NB107_113.out
    have hs16 : w14.cell? ⟨gb107, 1, none⟩ = some (.bool false) := (blk_cell BK107.out 1).trans rfl
    have hfs16 := blk_frozen BK107.out 1
    have hns16_1 := NB113_107.out
    have hms16_1 := NB107_113.out
    have hs17 : w14.cell? ⟨gb107, 2, none⟩ = some (.bool false) := (blk_cell BK107.out 2).trans rfl
    have hfs17 := blk_frozen BK107.out 2
    have hns17_1 := NB113_107.out
    have hms17_1 := NB107_113.out
    have hs18 : w14.cell? ⟨gb107, 3, none⟩ = some (.bool false) := (blk_cell BK107.out 3).trans rfl
    have hfs18 := blk_frozen BK107.out 3
    have hns18_1 := NB113_107.out
    have hms18_1 := NB107_113.out
    refine skip_ (w1 := ?_) (by rfl) rfl ?_ ?_
    rotate_left
    · go_simp
      rfl
    refine hK.out _ _ ⟨((cell_far (p := ⟨gb107, _, none⟩) NB113_107.out _).trans (((cell_far (p := ⟨gb107, _, none⟩) NB113_107.out _).trans (((cell_far (p := ⟨gb107, _, none⟩) NB113_107.out _).trans (((cell_far (p := ⟨gb107, _, none⟩) NB113_107.out _).trans (hHeld.1)))))))), ((cell_far (p := ⟨gb107, _, none⟩) NB113_107.out _).trans (((cell_far (p := ⟨gb107, _, none⟩) NB113_107.out _).trans (((cell_far (p := ⟨gb107, _, none⟩) NB113_107.out _).trans (((cell_far (p := ⟨gb107, _, none⟩) NB113_107.out _).trans (hHeld.2.1)))))))), ((cell_far (p := ⟨gb107, _, none⟩) NB113_107.out _).trans (((cell_far (p := ⟨gb107, _, none⟩) NB113_107.out _).trans (((cell_far (p := ⟨gb107, _, none⟩) NB113_107.out _).trans (((cell_far (p := ⟨gb107, _, none⟩) NB113_107.out _).trans (hHeld.2.2.1)))))))), ((cell_far (p := ⟨gb107, _, none⟩) NB113_107.out _).trans (((cell_far (p := ⟨gb107, _, none⟩) NB113_107.out _).trans (((cell_far (p := ⟨gb107, _, none⟩) NB113_107.out _).trans (((cell_far (p := ⟨gb107, _, none⟩) NB113_107.out _).trans (hHeld.2.2.2))))))))⟩ (fun hHeld => ?_)
    clear hK K
    refine done_ (by kernel_rfl) ?_
    try go_wp2
    refine bodyPost_ret (results_tc rfl _ _ gb107 29 #[.bool t109, .bool t110, .bool t111, .bool false] (0, 0) _ rfl (by (with_reducible repeat (first | refine blk_drewN ?_ _ | refine blk_drew ?_ | refine blk_alloc ?_ _)); refine blk_put (cs := #[.bool t109, .bool t110, .bool t111, .bool false]) ?_ 3 _ rfl; (with_reducible repeat (first | refine blk_drewN ?_ _ | refine blk_drew ?_ | refine blk_alloc ?_ _)); refine blk_put (cs := #[.bool t109, .bool t110, .bool false, .bool false]) ?_ 2 _ rfl; (with_reducible repeat (first | refine blk_drewN ?_ _ | refine blk_drew ?_ | refine blk_alloc ?_ _)); refine blk_put (cs := #[.bool t109, .bool false, .bool false, .bool false]) ?_ 1 _ rfl; (with_reducible repeat (first | refine blk_drewN ?_ _ | refine blk_drew ?_ | refine blk_alloc ?_ _)); refine blk_put (cs := #[.bool false, .bool false, .bool false, .bool false]) ?_ 0 _ rfl; (with_reducible repeat (first | refine blk_drewN ?_ _ | refine blk_drew ?_ | refine blk_alloc ?_ _)); exact BK107.out) Try.underlying29 rfl (by kernel_rfl)) rfl ?_
    exact ⟨by first | rfl | (simp [errW_none, errW_some] <;> rfl) | (simp [*, errW_none, errW_some] <;> rfl), by repeat (first | (with_reducible first | exact HB.out | apply below_alloc | apply pw_below_drewN | apply below_drew1 | refine below_set ?_ GE107.out | refine below_set ?_ GE113.out) | exact HB.out)⟩
  · rw [if_neg c7] at H
    have c7b0 : (t114 == 0) = false := beq_eq_false_iff_ne.mpr c7
    have c7b1 : (t114 != 0) = true := bne_iff_ne.mpr c7
    simp only [Option.some.injEq, Prod.mk.injEq] at H
    obtain ⟨rfl, rfl, rfl, rfl, rfl⟩ := H
    go_enter Try.func23, Try.ntmps23
    try go_wp2_with (first | ((with_reducible refine gate_dst (N := 9) rfl ?_); refine box_event ?hg (N := 9) ?hd (cs := #[.bool false, .bool false, .bool false, .bool false]) (t := 29) ?hr ?_; (case hd => rfl); (case hg => rfl); (case hr => first | (go_simp; done) | (go_simp; rfl)); intro gb107 hg w19 hbox hb; have n0_ := Aside0.mk (below_step (by repeat (first | (with_reducible first | exact HB.out | apply below_alloc | apply pw_below_drewN | apply below_drew1) | exact HB.out)) hb); have n1_ := Aside0.mk (hbox); have n2_ := Aside0.mk ((by rw [hg]; exact (below_size (by repeat (first | (with_reducible first | exact HB.out | apply below_alloc | apply pw_below_drewN | apply below_drew1) | exact HB.out))) : w.heap.size ≤ gb107)); have n3_ := Aside0.mk ((by rw [hg]; exact (below_size (by repeat (first | (with_reducible first | exact HB.out | apply below_alloc | apply pw_below_drewN | apply below_drew1) | exact HB.out))) : w.heap.size ≤ gb107)); clear HB; have HB := n0_; have BK107 := n1_; have GW107 := n2_; have GE107 := n3_; clear n0_ n1_ n2_ n3_; clear hb hbox hg) | ((with_reducible refine gate_callee (f := 21) rfl ?_); refine goesL_ (some 19) rfl rfl Try.func21 (by kernel_rfl) rfl #[.int .u32 a0, .int .u32 (Go.bits .xor .u32 4294967295 a1), .bool (!a2), .int .i64 a3] rfl (by (try simp only [List.map_toArray, List.map_cons, List.map_nil]); first | done | rfl | (simp only [List.length_drop, List.length_take]; rfl)) ?_; (with_reducible refine (bits_Add.calls a0 (Go.bits .xor .u32 4294967295 a1) (!a2) a3 t108 t109 t110 t111 t112 _ A5.out).mono ?_); rintro e w20 ⟨rfl, hb⟩; refine ⟨_, rfl, ?_⟩; have n0_ := Aside0.mk (blk_below (g := gb107) (o := .cells #[.bool false, .bool false, .bool false, .bool false] 29 (0, 0)) (by (with_reducible repeat (first | refine blk_drewN ?_ _ | refine blk_drew ?_ | refine blk_alloc ?_ _)); exact BK107.out) hb); have n1_ := Aside0.mk (below_step (by repeat (first | (with_reducible first | exact HB.out | apply below_alloc | apply pw_below_drewN | apply below_drew1 | refine below_set ?_ GE107.out) | exact HB.out)) hb); clear BK107; clear HB; have BK107 := n0_; have HB := n1_; clear n0_ n1_; (try clear hb); (try clear hb2); (try clear hk); (try clear hi)) | ((with_reducible refine gate_dst (N := 11) rfl ?_); refine box_event ?hg (N := 11) ?hd (cs := #[.bool false, .bool false, .bool false, .bool false]) (t := 29) ?hr ?_; (case hd => rfl); (case hg => rfl); (case hr => first | (go_simp; done) | (go_simp; rfl)); intro gb113 hg w21 hbox hb; have n0_ := Aside0.mk (blk_below (g := gb107) (o := .cells #[.bool false, .bool false, .bool false, .bool false] 29 (0, 0)) (by (with_reducible repeat (first | refine blk_drewN ?_ _ | refine blk_drew ?_ | refine blk_alloc ?_ _)); exact BK107.out) hb); have n1_ := Aside0.mk (below_step (by repeat (first | (with_reducible first | exact HB.out | apply below_alloc | apply pw_below_drewN | apply below_drew1 | refine below_set ?_ GE107.out) | exact HB.out)) hb); have n2_ := Aside0.mk (hbox); have n3_ := Aside0.mk ((by rw [hg]; exact (below_size (by repeat (first | (with_reducible first | exact HB.out | apply below_alloc | apply pw_below_drewN | apply below_drew1 | refine below_set ?_ GE107.out) | exact HB.out))) : w.heap.size ≤ gb113)); have n4_ := Aside0.mk ((by rw [hg]; exact (below_size (by repeat (first | (with_reducible first | exact HB.out | apply below_alloc | apply pw_below_drewN | apply below_drew1 | refine below_set ?_ GE107.out) | exact HB.out))) : w.heap.size ≤ gb113)); have n5_ := Aside0.mk ((by rw [hg]; exact Nat.ne_of_lt (blk_lt (g := gb107) (o := .cells #[.bool false, .bool false, .bool false, .bool false] 29 (0, 0)) (by (with_reducible repeat (first | refine blk_drewN ?_ _ | refine blk_drew ?_ | refine blk_alloc ?_ _)); exact BK107.out)) : gb107 ≠ gb113)); have n6_ := Aside0.mk ((by rw [hg]; exact Nat.ne_of_gt (blk_lt (g := gb107) (o := .cells #[.bool false, .bool false, .bool false, .bool false] 29 (0, 0)) (by (with_reducible repeat (first | refine blk_drewN ?_ _ | refine blk_drew ?_ | refine blk_alloc ?_ _)); exact BK107.out)) : gb113 ≠ gb107)); clear BK107; clear HB; have BK107 := n0_; have HB := n1_; have BK113 := n2_; have GW113 := n3_; have GE113 := n4_; have NB107_113 := n5_; have NB113_107 := n6_; clear n0_ n1_ n2_ n3_ n4_ n5_ n6_; clear hb hbox hg; have hnb22 := NB113_107.out; have hnc22 := NB107_113.out; have hcz23_0 : w21.cell? ⟨gb113, 0, none⟩ = some (.bool false) := (blk_cell BK113.out 0).trans rfl; have hcz23_1 : w21.cell? ⟨gb113, 1, none⟩ = some (.bool false) := (blk_cell BK113.out 1).trans rfl; have hcz23_2 : w21.cell? ⟨gb113, 2, none⟩ = some (.bool false) := (blk_cell BK113.out 2).trans rfl; have hcz23_3 : w21.cell? ⟨gb113, 3, none⟩ = some (.bool false) := (blk_cell BK113.out 3).trans rfl; have hfz23_0 := blk_frozen BK113.out 0; have hfz23_1 := blk_frozen BK113.out 1; have hfz23_2 := blk_frozen BK113.out 2; have hfz23_3 := blk_frozen BK113.out 3) | ((with_reducible refine gate_callee (f := 19) rfl ?_); refine goesL_ (some 23) rfl rfl Try.func19 (by kernel_rfl) rfl #[.int .i64 a3] rfl (by (try simp only [List.map_toArray, List.map_cons, List.map_nil]); first | done | rfl | (simp only [List.length_drop, List.length_take]; rfl)) ?_; (with_reducible refine (bits_Mask.calls a3 t114 _ A6.out).mono ?_); rintro e w' ⟨rfl, ⟨nd, rfl⟩⟩; refine ⟨_, rfl, ?_⟩))
    have n0_ : Aside0 ((((((w21.setCell ⟨gb113, 0, none⟩ (.bool t109)).setCell ⟨gb113, 1, none⟩ (.bool t110)).setCell ⟨gb113, 2, none⟩ (.bool t111)).setCell ⟨gb113, 3, none⟩ (.bool t112)).setCell ⟨gb113, 3, none⟩ (.bool (!t112))).heap[gb107]? = some (.cells #[.bool false, .bool false, .bool false, .bool false] 29 (0, 0))) := ⟨by (with_reducible repeat (first | refine blk_drewN ?_ _ | refine blk_drew ?_ | refine blk_alloc ?_ _)); refine blk_far ?_ NB107_113.out _; (with_reducible repeat (first | refine blk_drewN ?_ _ | refine blk_drew ?_ | refine blk_alloc ?_ _)); refine blk_far ?_ NB107_113.out _; (with_reducible repeat (first | refine blk_drewN ?_ _ | refine blk_drew ?_ | refine blk_alloc ?_ _)); refine blk_far ?_ NB107_113.out _; (with_reducible repeat (first | refine blk_drewN ?_ _ | refine blk_drew ?_ | refine blk_alloc ?_ _)); refine blk_far ?_ NB107_113.out _; (with_reducible repeat (first | refine blk_drewN ?_ _ | refine blk_drew ?_ | refine blk_alloc ?_ _)); refine blk_far ?_ NB107_113.out _; (with_reducible repeat (first | refine blk_drewN ?_ _ | refine blk_drew ?_ | refine blk_alloc ?_ _)); exact BK107.out⟩
    have n1_ : Aside0 ((((((w21.setCell ⟨gb113, 0, none⟩ (.bool t109)).setCell ⟨gb113, 1, none⟩ (.bool t110)).setCell ⟨gb113, 2, none⟩ (.bool t111)).setCell ⟨gb113, 3, none⟩ (.bool t112)).setCell ⟨gb113, 3, none⟩ (.bool (!t112))).heap[gb113]? = some (.cells #[.bool t109, .bool t110, .bool t111, .bool (!t112)] 29 (0, 0))) := ⟨by (with_reducible repeat (first | refine blk_drewN ?_ _ | refine blk_drew ?_ | refine blk_alloc ?_ _)); refine blk_put (cs := #[.bool t109, .bool t110, .bool t111, .bool t112]) ?_ 3 _ rfl; (with_reducible repeat (first | refine blk_drewN ?_ _ | refine blk_drew ?_ | refine blk_alloc ?_ _)); refine blk_put (cs := #[.bool t109, .bool t110, .bool t111, .bool false]) ?_ 3 _ rfl; (with_reducible repeat (first | refine blk_drewN ?_ _ | refine blk_drew ?_ | refine blk_alloc ?_ _)); refine blk_put (cs := #[.bool t109, .bool t110, .bool false, .bool false]) ?_ 2 _ rfl; (with_reducible repeat (first | refine blk_drewN ?_ _ | refine blk_drew ?_ | refine blk_alloc ?_ _)); refine blk_put (cs := #[.bool t109, .bool false, .bool false, .bool false]) ?_ 1 _ rfl; (with_reducible repeat (first | refine blk_drewN ?_ _ | refine blk_drew ?_ | refine blk_alloc ?_ _)); refine blk_put (cs := #[.bool false, .bool false, .bool false, .bool false]) ?_ 0 _ rfl; (with_reducible repeat (first | refine blk_drewN ?_ _ | refine blk_drew ?_ | refine blk_alloc ?_ _)); exact BK113.out⟩
    have n2_ : Aside0 (Below w.heap.size w (((((w21.setCell ⟨gb113, 0, none⟩ (.bool t109)).setCell ⟨gb113, 1, none⟩ (.bool t110)).setCell ⟨gb113, 2, none⟩ (.bool t111)).setCell ⟨gb113, 3, none⟩ (.bool t112)).setCell ⟨gb113, 3, none⟩ (.bool (!t112)))) := ⟨by repeat (first | (with_reducible first | exact HB.out | apply below_alloc | apply pw_below_drewN | apply below_drew1 | refine below_set ?_ GE107.out | refine below_set ?_ GE113.out) | exact HB.out)⟩
    (try clear BK107)
    (try clear BK113)
    (try clear HB)
    (repeat rw [own_setCell_drewN]); (repeat rw [World.drewN_drewN])
    generalize (((((w21.setCell ⟨gb113, 0, none⟩ (.bool t109)).setCell ⟨gb113, 1, none⟩ (.bool t110)).setCell ⟨gb113, 2, none⟩ (.bool t111)).setCell ⟨gb113, 3, none⟩ (.bool t112)).setCell ⟨gb113, 3, none⟩ (.bool (!t112))) = w24 at n0_ n1_ n2_ ⊢
    have BK107 := n0_
    have BK113 := n1_
    have HB := n2_
    clear n0_ n1_ n2_
    (try (rw [drewN_self w24]; generalize hq_ : World.drewN w24 _ = w24; have n0_ : Aside0 (w24.heap[gb107]? = some (.cells #[.bool false, .bool false, .bool false, .bool false] 29 (0, 0))) := ⟨by rw [← hq_]; exact (by (with_reducible repeat (first | refine blk_drewN ?_ _ | refine blk_drew ?_ | refine blk_alloc ?_ _)); exact BK107.out)⟩; have n1_ : Aside0 (w24.heap[gb113]? = some (.cells #[.bool t109, .bool t110, .bool t111, .bool (!t112)] 29 (0, 0))) := ⟨by rw [← hq_]; exact (by (with_reducible repeat (first | refine blk_drewN ?_ _ | refine blk_drew ?_ | refine blk_alloc ?_ _)); exact BK113.out)⟩; have n2_ : Aside0 (Below w.heap.size w w24) := ⟨by rw [← hq_]; exact (by repeat (first | (with_reducible first | exact HB.out | apply below_alloc | apply pw_below_drewN | apply below_drew1 | refine below_set ?_ GE107.out | refine below_set ?_ GE113.out) | exact HB.out))⟩; clear BK107 BK113 HB hq_; have BK107 := n0_; have BK113 := n1_; have HB := n2_; clear n0_ n1_ n2_))
    have n0_ := Aside0.mk (blk_drew BK107.out)
    have n1_ := Aside0.mk (blk_drew BK113.out)
    have n2_ := Aside0.mk (below_drew1 HB.out)
    clear BK107
    clear BK113
    clear HB
    have BK107 := n0_
    have BK113 := n1_
    have HB := n2_
    clear n0_ n1_ n2_
    refine start_ (n := 4) (S := fun w' => w'.cell? ⟨gb113, 0, none⟩ = some (.bool t109) ∧ w'.cell? ⟨gb113, 1, none⟩ = some (.bool t110) ∧ w'.cell? ⟨gb113, 2, none⟩ = some (.bool t111) ∧ w'.cell? ⟨gb113, 3, none⟩ = some (.bool (!t112))) (ds := []) #[false, false, false, false] (by kernel_rfl) rfl rfl ⟨(blk_cell BK113.out 0).trans rfl, (blk_cell BK113.out 1).trans rfl, (blk_cell BK113.out 2).trans rfl, (blk_cell BK113.out 3).trans rfl⟩ (fun hHeld => ?_)
    generalize w24.drew = w25 at BK107 BK113 HB hHeld ⊢
    refine pure_ (i := 0) (N := some 31) (v := ?_) (a' := ?_) #[true, false, false, false] rfl rfl (by kernel_rfl) (fun _ _ _ h => h) (Or.inl ⟨by rfl, ?_⟩) ?_ ?_
    rotate_left
    · intro w'
      go_simp
      with_reducible rfl
    rotate_left
    · simp only [Act.put, List.setIfInBounds_toArray, List.set_cons_zero, List.set_cons_succ, i64_w, i32_w]
      rfl
    refine pure_ (i := 2) (N := some 8) (v := ?_) (a' := ?_) #[true, false, true, false] rfl rfl (by kernel_rfl) (fun _ _ _ h => h) (Or.inl ⟨by rfl, ?_⟩) ?_ ?_
    rotate_left
    · intro w'
      go_simp
      with_reducible rfl
    rotate_left
    · simp only [Act.put, List.setIfInBounds_toArray, List.set_cons_zero, List.set_cons_succ, i64_w, i32_w]
      rfl
    refine take_ (i := 1) (N := some 32) (v := ?_) (a' := ?_) #[true, true, true, false] rfl rfl (by kernel_rfl) (fun _ _ _ h => h) (Or.inl ⟨by rfl, ?_⟩) hHeld ?_ ?_
    rotate_left
    · rintro w' ⟨s0, s1, s2, s3⟩
      go_simp
      with_reducible rfl
    rotate_left
    · simp only [Act.put, List.setIfInBounds_toArray, List.set_cons_zero, List.set_cons_succ, i64_w, i32_w]
      rfl
    refine one_ (i := 3) (N := none) #[true, true, true, true] rfl rfl (by kernel_rfl) (by decide) (fun K hK => ?_)
    have hs26 : w25.cell? ⟨gb107, 0, none⟩ = some (.bool false) := (blk_cell BK107.out 0).trans rfl
    have hfs26 := blk_frozen BK107.out 0
    have hns26_1 := NB113_107.out
    have hms26_1 := NB107_113.out
    have hs27 : w25.cell? ⟨gb107, 1, none⟩ = some (.bool false) := (blk_cell BK107.out 1).trans rfl
    have hfs27 := blk_frozen BK107.out 1
    have hns27_1 := NB113_107.out
    have hms27_1 := NB107_113.out
    have hs28 : w25.cell? ⟨gb107, 2, none⟩ = some (.bool false) := (blk_cell BK107.out 2).trans rfl
    have hfs28 := blk_frozen BK107.out 2
    have hns28_1 := NB113_107.out
    have hms28_1 := NB107_113.out
    have hs29 : w25.cell? ⟨gb107, 3, none⟩ = some (.bool false) := (blk_cell BK107.out 3).trans rfl
    have hfs29 := blk_frozen BK107.out 3
    have hns29_1 := NB113_107.out
    have hms29_1 := NB107_113.out
    refine skip_ (w1 := ?_) (by rfl) rfl ?_ ?_
    rotate_left
    · go_simp
      rfl
    refine hK.out _ _ ⟨((cell_far (p := ⟨gb107, _, none⟩) NB113_107.out _).trans (((cell_far (p := ⟨gb107, _, none⟩) NB113_107.out _).trans (((cell_far (p := ⟨gb107, _, none⟩) NB113_107.out _).trans (((cell_far (p := ⟨gb107, _, none⟩) NB113_107.out _).trans (hHeld.1)))))))), ((cell_far (p := ⟨gb107, _, none⟩) NB113_107.out _).trans (((cell_far (p := ⟨gb107, _, none⟩) NB113_107.out _).trans (((cell_far (p := ⟨gb107, _, none⟩) NB113_107.out _).trans (((cell_far (p := ⟨gb107, _, none⟩) NB113_107.out _).trans (hHeld.2.1)))))))), ((cell_far (p := ⟨gb107, _, none⟩) NB113_107.out _).trans (((cell_far (p := ⟨gb107, _, none⟩) NB113_107.out _).trans (((cell_far (p := ⟨gb107, _, none⟩) NB113_107.out _).trans (((cell_far (p := ⟨gb107, _, none⟩) NB113_107.out _).trans (hHeld.2.2.1)))))))), ((cell_far (p := ⟨gb107, _, none⟩) NB113_107.out _).trans (((cell_far (p := ⟨gb107, _, none⟩) NB113_107.out _).trans (((cell_far (p := ⟨gb107, _, none⟩) NB113_107.out _).trans (((cell_far (p := ⟨gb107, _, none⟩) NB113_107.out _).trans (hHeld.2.2.2))))))))⟩ (fun hHeld => ?_)
    clear hK K
    refine done_ (by kernel_rfl) ?_
    try go_wp2
    refine bodyPost_ret (results_tc rfl _ _ gb107 29 #[.bool t109, .bool t110, .bool t111, .bool (!t112)] (0, 0) _ rfl (by (with_reducible repeat (first | refine blk_drewN ?_ _ | refine blk_drew ?_ | refine blk_alloc ?_ _)); refine blk_put (cs := #[.bool t109, .bool t110, .bool t111, .bool false]) ?_ 3 _ rfl; (with_reducible repeat (first | refine blk_drewN ?_ _ | refine blk_drew ?_ | refine blk_alloc ?_ _)); refine blk_put (cs := #[.bool t109, .bool t110, .bool false, .bool false]) ?_ 2 _ rfl; (with_reducible repeat (first | refine blk_drewN ?_ _ | refine blk_drew ?_ | refine blk_alloc ?_ _)); refine blk_put (cs := #[.bool t109, .bool false, .bool false, .bool false]) ?_ 1 _ rfl; (with_reducible repeat (first | refine blk_drewN ?_ _ | refine blk_drew ?_ | refine blk_alloc ?_ _)); refine blk_put (cs := #[.bool false, .bool false, .bool false, .bool false]) ?_ 0 _ rfl; (with_reducible repeat (first | refine blk_drewN ?_ _ | refine blk_drew ?_ | refine blk_alloc ?_ _)); exact BK107.out) Try.underlying29 rfl (by kernel_rfl)) rfl ?_
    exact ⟨by first | rfl | (simp [errW_none, errW_some] <;> rfl) | (simp [*, errW_none, errW_some] <;> rfl), by repeat (first | (with_reducible first | exact HB.out | apply below_alloc | apply pw_below_drewN | apply below_drew1 | refine below_set ?_ GE107.out | refine below_set ?_ GE113.out) | exact HB.out)⟩

end Go.Proofs.Ytmmmifgddkfehaa.PAlu
