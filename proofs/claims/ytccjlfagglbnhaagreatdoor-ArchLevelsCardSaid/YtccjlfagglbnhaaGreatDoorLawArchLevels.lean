/- ArchLevels: the row and the card. Printed by lawrow.py. -/
import Derived.Test.YtccjlfagglbnhaaGreatDoorCards
import Derived.Test.YtccjlfagglbnhaaGreatDoorTie
import Derived.Test.YtccjlfagglbnhaaGreatDoorPVC
import Derived.Test.YtccjlfagglbnhaaGreatDoorLawArchLevelsJ
import Derived.ProofKit
import Derived.OpenShut
import Derived.LaidMore
import Derived.Lay
import Derived.SevenTiedAt
import Derived.Stop.Joined
import Derived.LaidLaws
import Derived.LaidHandle
import Derived.ChangeOld
import Derived.Below
import Derived.SizedLaws
import Derived.ChangeVars
import Derived.JoinedOf
import Derived.RowKit
import Derived.RowKitTokens
import Derived.WalkKit
import Derived.ShutString
import Derived.Carry
namespace Go.Proofs.YtccjlfagglbnhaaGreatDoor.archLevels
open Go.ChangeMaps (open_string shut_string)
open Go Go.ChangeShapes Go.WideShapes Go.ChangeAt Go.RowKit Go.E Go.Proofs.YtccjlfagglbnhaaGreatDoorE
set_option maxRecDepth 100000
set_option linter.unusedVariables false
theorem own : ownKnob Tryz.prog.godebug = none := by kernel_rfl
theorem walk (W : World) (s0 : Int) (w0 : (Lit.int .u32 s0).wf = true) (s1 : Int) (w1 : (Lit.int .u32 s1).wf = true) (h : laidMetH Tryz.prog Rows.archLevelsRow.laid W) : Calls Tryz.prog 3 #[.int .u32 s0, .int .u32 s1] W fun e W' => e = .returned (.bool true) ∧ RowKit.Below W.heap.size W W' := by
  rw [MakeChecks.laidMetH_plain _ _ _ (by kernel_rfl)] at h
  exact law_at0 (show Lk0.func 3 = some (3, Tryz.f3) by kernel_rfl) h (List.mem_of_getElem? (i := 2) (by kernel_rfl))
     (args := [.int .u32 s0, .int .u32 s1]) (args' := [.int .u32 s0, .int .u32 s1]) (by rfl) (fun x hx => by simp at hx; rcases hx with rfl | rfl <;> rfl) (fun {_} => archLevels_ok s0 w0 s1 w1)
theorem lifted (os : Os) (started : os.Started) (H : Type) (enc : TypeId × Value → H) :
    ReturnsInHanded {} Tryz.checked os 3 .any (fun w args => (Rows.archLevelsSpec.pre enc Tryz.prog Tryz.f3 [] false w args ∧ laidMetH Tryz.prog Rows.archLevelsRow.laid w) ∧ sizedMet enc Tryz.prog Tryz.f3 (OpenSpec.ofChange Rows.archLevelsSpec) false w args)
      (Rows.archLevelsSpec.post enc Tryz.prog Tryz.f3 false true false false) := by
  refine returnsInHanded_of_change_and (C := Tryz.checked) (X := fun w _ => laidMetH Tryz.prog Rows.archLevelsRow.laid w) (fun _ _ _ hh h => h.of_heap hh) own started (by kernel_rfl) Tryz.func3
    (ChangeSpec.witness_shaped (enc := enc) (C := Tryz.checked) (os := os) (X := fun w _ => laidMetH Tryz.prog Rows.archLevelsRow.laid w) false (World.laidAll Tryz.prog os Rows.archLevelsRow.laid) #[.int .u32 0, .int .u32 0] 8 (World.laidAll_os _ _ _)
      (World.shaped_of_ZipB (by kernel_rfl) (by kernel_rfl)) (by kernel_rfl) (by kernel_rfl) (by kernel_rfl)
      (by rw [MakeChecks.laidMetH_plain _ _ _ (by kernel_rfl)]; exact laidMet_laidAll _ (by kernel_rfl) (by kernel_rfl))) ?_
  intro W base args ds gs before hval0 hW _ _ hL _
  have hval : ∀ (j : Nat) t v, Tryz.f3.params[j]? = some t → args[j]? = some v → Value.okWide Tryz.prog W .any base t v := hval0
  have hW' := hW
  obtain ⟨p, q, hA0, hV, rfl, hfz, hnd⟩ := hW
  have hA : DataW.TrodAll enc Tryz.prog W 0 (fun _ => true) true Tryz.f3.params.toList args.toList ds p := hA0
  rw [Tryz.params3] at hA hval
  obtain ⟨v0, v1, d0, d1, _, _, rfl, rfl, rfl, h0, h1⟩ := trodAll_two hA
  obtain ⟨rfl, rfl⟩ := trodVars_none hV
  have hL1 := hL
  rw [MakeChecks.laidMetH_plain _ _ _ (by kernel_rfl)] at hL1
  obtain ⟨s0, rfl, rfl, rfl, wn0⟩ := open_int Tryz.underlying22 (hval 0 22 v0 rfl rfl) h0
  obtain ⟨s1, rfl, rfl, rfl, wn1⟩ := open_int Tryz.underlying22 (hval 1 22 v1 rfl rfl) h1
  clear hA0 hval0
  refine (walk W s0 wn0 s1 wn1 hL).mono fun e W' ⟨he, bel⟩ => ?_
  subst he
  exact ⟨_, rfl, _, _, _, [], _, [], hW', trodAll_mk1 (shut_bool Tryz.underlying4 _), trodAll_mk2 (shut_int Tryz.underlying22 wn0) (shut_int Tryz.underlying22 wn1), rfl, bel.frame _, fun h => by cases h⟩
theorem holds : Rows.ArchLevelsSaid :=
  OpenClaim.holds_of_wide 3 Tryz.f3 rfl rfl rfl rfl rfl rfl rfl ⟨rfl, rfl, rfl, rfl, rfl⟩ rfl rfl rfl rfl rfl (by kernel_rfl) Tryz.func3 joined
    (of_decide_eq_true (by kernel_rfl)) (by unfold Func.isWrapper; first | (rw [if_pos (by decide +kernel)]; kernel_rfl) | (rw [if_neg (by decide +kernel)]; exact ⟨rfl, rfl⟩))
    (fun os started H enc _ => lifted os started H enc)
theorem card_holds : Rows.ArchLevelsCardSaid :=
  Claim7.holds_tied_plain_at .later [] [.data, .listed, .data, .pinned, .pinned] true (true, "35c8f11c11a596d1d4f7a378e1d78f5c1df82d08ae47723b48563814694ef0d6") false holds (fun _ h => by cases h) (by kernel_rfl) (fun _ h => by cases h) archLevels_row_tie rfl ⟨rfl, rfl⟩ (by kernel_rfl) rfl
    (fun f fn hf hfn => by
      obtain rfl : f = 3 := Option.some.inj ((show Tryz.prog.funcNamed "camshaft/camshaftlaw13.ArchLevels" = some 3 by kernel_rfl).symm.trans hf) |>.symm
      obtain rfl : fn = Tryz.f3 := (Option.some.inj (Tryz.func3.symm.trans hfn)).symm
      exact ⟨by kernel_rfl, fun j t ht => by
        rw [Tryz.params3] at ht
        have hm : t ∈ [22, 22] := by simpa using Array.mem_of_getElem? ht
        have hall : ([22, 22].all fun u => !Tryz.prog.wantsStandIn u) = true := by kernel_rfl
        exact (show Tryz.prog.wantsStandIn t = false by simpa using List.all_eq_true.1 hall t hm)⟩)
    (by kernel_rfl)
end Go.Proofs.YtccjlfagglbnhaaGreatDoor.archLevels
namespace Go.Proofs.YtccjlfagglbnhaaGreatDoor
/-- The card, under a short name, for the claim. -/
theorem archLevels_card : Rows.ArchLevelsCardSaid := archLevels.card_holds
#print axioms archLevels_card
end Go.Proofs.YtccjlfagglbnhaaGreatDoor
