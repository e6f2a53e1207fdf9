/- UseqFresh: the row and the card. Printed by lawrow.py. -/
import Derived.Test.YtcplfckncandkaaGreatDoorCards
import Derived.Test.YtcplfckncandkaaGreatDoorTie
import Derived.Test.YtcplfckncandkaaGreatDoorPFE
import Derived.Test.YtcplfckncandkaaGreatDoorLawUseqFreshJ
import Derived.ProofKit
import Derived.OpenShut
import Derived.LaidMore
import Derived.Lay
import Derived.SevenTiedAt
import Derived.Stop.Joined
import Derived.LaidLaws
import Derived.LaidHandle
import Derived.ChangeOld
import Derived.Below
import Derived.SizedLaws
import Derived.ChangeVars
import Derived.JoinedOf
import Derived.RowKit
import Derived.RowKitTokens
import Derived.WalkKit
import Derived.ShutString
import Derived.Carry
namespace Go.Proofs.YtcplfckncandkaaGreatDoor.useqFresh
open Go.ChangeMaps (open_string shut_string)
open Go Go.ChangeShapes Go.WideShapes Go.ChangeAt Go.RowKit Go.E Go.Proofs.YtcplfckncandkaaGreatDoorE
set_option maxRecDepth 100000
set_option linter.unusedVariables false
theorem own : ownKnob Tryz.prog.godebug = none := by kernel_rfl
theorem walk (W : World) {l0 : List (Step5)} (ok0 : ∀ s ∈ l0, (fun _ => True) s) {av0 v0 : Value} {p0 : Pl} (tv0 : Tv 12 l0.length av0) (ob0 : ∃ obj, W.heap[p0.b]? = some obj ∧ ∀ [Sym] (β : Emb), OR β p0 obj (.table (l0.flatMap stepRow))) (vr0 : ∀ [Sym] (β : Emb), β 12 = some p0 → VR β av0 v0) (s1 : Int) (h : laidMetH Tryz.prog Rows.useqFreshRow.laid W) : Calls Tryz.prog 5 #[v0, .int .i64 s1] W fun e W' => e = .returned (.bool true) ∧ RowKit.Below W.heap.size W W' := by
  rw [MakeChecks.laidMetH_plain _ _ _ (by kernel_rfl)] at h
  exact law_at1 (show Lk0.func 5 = some (5, Tryz.f5) by kernel_rfl) h ⟨_, _, List.mem_of_getElem? (i := 6) rfl⟩ ⟨_, _, List.mem_of_getElem? (i := 5) rfl⟩ (List.mem_of_getElem? (i := 4) (by kernel_rfl)) (List.mem_of_getElem? (i := 8) (by kernel_rfl))
    ob0 (args := [av0, .int .i64 s1]) (args' := [v0, .int .i64 s1]) (fun β b0 => .cons (vr0 β b0) (.cons (.int _ _) (.nil))) (fun {_} => useqFresh_ok (gdP _) (Nat.le_refl _) s1 l0 av0 (tv0.rg stepRow_len (stP_F _) (by show 12 < 12 + 1; omega)))
theorem lifted (os : Os) (started : os.Started) (H : Type) (enc : TypeId × Value → H) :
    ReturnsInHanded {} Tryz.checked os 5 .any (fun w args => (Rows.useqFreshSpec.pre enc Tryz.prog Tryz.f5 [] false w args ∧ laidMetH Tryz.prog Rows.useqFreshRow.laid w) ∧ sizedMet enc Tryz.prog Tryz.f5 (OpenSpec.ofChange Rows.useqFreshSpec) false w args)
      (Rows.useqFreshSpec.post enc Tryz.prog Tryz.f5 false true false false) := by
  refine returnsInHanded_of_change_and (C := Tryz.checked) (X := fun w _ => laidMetH Tryz.prog Rows.useqFreshRow.laid w) (fun _ _ _ hh h => h.of_heap hh) own started (by kernel_rfl) Tryz.func5
    (ChangeSpec.witness_shaped (enc := enc) (C := Tryz.checked) (os := os) (X := fun w _ => laidMetH Tryz.prog Rows.useqFreshRow.laid w) false (World.laidAll Tryz.prog os Rows.useqFreshRow.laid) #[.slice none 0 0, .int .i64 0] 8 (World.laidAll_os _ _ _)
      (World.shaped_of_ZipB (by kernel_rfl) (by kernel_rfl)) (by kernel_rfl) (by kernel_rfl) (by kernel_rfl)
      (by rw [MakeChecks.laidMetH_plain _ _ _ (by kernel_rfl)]; exact laidMet_laidAll _ (by kernel_rfl) (by kernel_rfl))) ?_
  intro W base args ds gs before hval0 hW _ _ hL _
  have hval : ∀ (j : Nat) t v, Tryz.f5.params[j]? = some t → args[j]? = some v → Value.okWide Tryz.prog W .any base t v := hval0
  have hW' := hW
  obtain ⟨p, q, hA0, hV, rfl, hfz, hnd⟩ := hW
  have hA : DataW.TrodAll enc Tryz.prog W 0 (fun _ => true) true Tryz.f5.params.toList args.toList ds p := hA0
  rw [Tryz.params5] at hA hval
  obtain ⟨v0, v1, d0, d1, _, _, rfl, rfl, rfl, h0, h1⟩ := trodAll_two hA
  obtain ⟨rfl, rfl⟩ := trodVars_none hV
  have hL1 := hL
  rw [MakeChecks.laidMetH_plain _ _ _ (by kernel_rfl)] at hL1
  obtain ⟨l0, av0, p0, ok0, tv0, ob0, vr0⟩ := arg_row (f := stepRow) (ok := fun _ => True) (ks := [.b, .i .i64, .b, .i .i64, .i .i64]) (d := 2) 12 5 (err_cells hL1 ⟨_, _, List.mem_of_getElem? (i := 6) rfl⟩) Tryz.underlying22 (by kernel_rfl) (by kernel_rfl) (by decide) step_ty (fun _ => by first | rfl | exact flat_i _ | exact stepRow_flat _) (hval 0 22 v0 rfl rfl) h0
  have ag0 : ∀ W', RowKit.Below W.heap.size W W' → DataW.Trod enc Tryz.prog W' 0 (fun b => decide (b < W.heap.size)) true 22 v0 d0 _ := fun W' bel => RowKit.Below.trod (by kernel_rfl) (by kernel_rfl) (of_decide_eq_true (by kernel_rfl)) h0 bel (h0.elim fun n hn x hx => DataW.trod_lt n _ _ _ hn x hx)
  obtain ⟨s1, rfl, rfl, rfl, wn1⟩ := open_int Tryz.underlying3 (hval 1 3 v1 rfl rfl) h1
  clear hA0 hval0
  refine (walk W ok0 tv0 ob0 vr0 s1 hL).mono fun e W' ⟨he, bel⟩ => ?_
  subst he
  exact ⟨_, rfl, _, _, _, [], _, [], hW', trodAll_mk1 (shut_bool Tryz.underlying4 _), trodAll_mk2 (ag0 _ bel) (shut_int Tryz.underlying3 wn1), rfl, bel.frame _, fun h => by cases h⟩
theorem holds : Rows.UseqFreshSaid :=
  OpenClaim.holds_of_wide 5 Tryz.f5 rfl rfl rfl rfl rfl rfl rfl ⟨rfl, rfl, rfl, rfl, rfl⟩ rfl rfl rfl rfl rfl (by kernel_rfl) Tryz.func5 joined
    (of_decide_eq_true (by kernel_rfl)) (by unfold Func.isWrapper; first | (rw [if_pos (by decide +kernel)]; kernel_rfl) | (rw [if_neg (by decide +kernel)]; exact ⟨rfl, rfl⟩))
    (fun os started H enc _ => lifted os started H enc)
theorem card_holds : Rows.UseqFreshCardSaid :=
  Claim7.holds_tied_plain_at .later [] [.data, .data, .data, .data, .widerDeep, .sentinel, .sentinel, .listed, .data, .pinned] true (true, "87ff6205dac9ccfa21fc493e1d02bdbf1890eff2894fcda8dcaa9b3c3a9ad496") true holds (fun _ h => by cases h) (by kernel_rfl) (fun _ h => by cases h) useqFresh_row_tie rfl ⟨rfl, rfl⟩ (by kernel_rfl) rfl
    (fun f fn hf hfn => by
      obtain rfl : f = 5 := Option.some.inj ((show Tryz.prog.funcNamed "camshaft/camshaftlaw23.UseqFresh" = some 5 by kernel_rfl).symm.trans hf) |>.symm
      obtain rfl : fn = Tryz.f5 := (Option.some.inj (Tryz.func5.symm.trans hfn)).symm
      exact ⟨by kernel_rfl, fun j t ht => by
        rw [Tryz.params5] at ht
        have hm : t ∈ [22, 3] := by simpa using Array.mem_of_getElem? ht
        have hall : ([22, 3].all fun u => !Tryz.prog.wantsStandIn u) = true := by kernel_rfl
        exact (show Tryz.prog.wantsStandIn t = false by simpa using List.all_eq_true.1 hall t hm)⟩)
    (by kernel_rfl)
end Go.Proofs.YtcplfckncandkaaGreatDoor.useqFresh
namespace Go.Proofs.YtcplfckncandkaaGreatDoor
/-- The card, under a short name, for the claim. -/
theorem useqFresh_card : Rows.UseqFreshCardSaid := useqFresh.card_holds
#print axioms useqFresh_card
end Go.Proofs.YtcplfckncandkaaGreatDoor
