/- DpathPicks: the row and the card. Printed by lawrow.py. -/
import Derived.Test.YtlpigjmjgclgiaaDoorCards
import Derived.Test.YtlpigjmjgclgiaaDoorTie
import Derived.Test.YtlpigjmjgclgiaaDoorPKC
import Derived.Test.YtlpigjmjgclgiaaDoorLawDpathPicksJ
import Derived.ProofKit
import Derived.OpenShut
import Derived.LaidMore
import Derived.Lay
import Derived.SevenTiedAt
import Derived.Stop.Joined
import Derived.LaidLaws
import Derived.LaidHandle
import Derived.ChangeOld
import Derived.Below
import Derived.SizedLaws
import Derived.ChangeVars
import Derived.JoinedOf
import Derived.RowKit
import Derived.RowKitTokens
import Derived.WalkKit
import Derived.ShutString
import Derived.Carry
namespace Go.Proofs.YtlpigjmjgclgiaaDoor.dpathPicks
open Go.ChangeMaps (open_string shut_string)
open Go Go.ChangeShapes Go.WideShapes Go.ChangeAt Go.RowKit Go.E Go.Proofs.YtlpigjmjgclgiaaDoorE
set_option maxRecDepth 100000
set_option linter.unusedVariables false
theorem own : ownKnob Tryd.prog.godebug = none := by kernel_rfl
theorem walk (W : World) (s0 : Int) (w0 : (Lit.int .u32 s0).wf = true) (h : laidMetH Tryd.prog Rows.dpathPicksRow.laid W) : Calls Tryd.prog 4 #[.int .u32 s0] W fun e W' => e = .returned (.bool true) ∧ RowKit.Below W.heap.size W W' := by
  rw [MakeChecks.laidMetH_plain _ _ _ (by kernel_rfl)] at h
  exact law_at0 (show Lk0.func 4 = some (4, Tryd.f4) by kernel_rfl) h (List.mem_of_getElem? (i := 0) (by kernel_rfl))
     (args := [.int .u32 s0]) (args' := [.int .u32 s0]) (by rfl) (fun x hx => by simp at hx; subst hx; rfl) (fun {_} => dpathPicks_ok s0 w0)
theorem lifted (os : Os) (started : os.Started) (H : Type) (enc : TypeId × Value → H) :
    ReturnsInHanded {} Tryd.checked os 4 .any (fun w args => (Rows.dpathPicksSpec.pre enc Tryd.prog Tryd.f4 [] false w args ∧ laidMetH Tryd.prog Rows.dpathPicksRow.laid w) ∧ sizedMet enc Tryd.prog Tryd.f4 (OpenSpec.ofChange Rows.dpathPicksSpec) false w args)
      (Rows.dpathPicksSpec.post enc Tryd.prog Tryd.f4 false true false false) := by
  refine returnsInHanded_of_change_and (C := Tryd.checked) (X := fun w _ => laidMetH Tryd.prog Rows.dpathPicksRow.laid w) (fun _ _ _ hh h => h.of_heap hh) own started (by kernel_rfl) Tryd.func4
    (ChangeSpec.witness_shaped (enc := enc) (C := Tryd.checked) (os := os) (X := fun w _ => laidMetH Tryd.prog Rows.dpathPicksRow.laid w) false (World.laidAll Tryd.prog os Rows.dpathPicksRow.laid) #[.int .u32 0] 8 (World.laidAll_os _ _ _)
      (World.shaped_of_ZipB (by kernel_rfl) (by kernel_rfl)) (by kernel_rfl) (by kernel_rfl) (by kernel_rfl)
      (by rw [MakeChecks.laidMetH_plain _ _ _ (by kernel_rfl)]; exact laidMet_laidAll _ (by kernel_rfl) (by kernel_rfl))) ?_
  intro W base args ds gs before hval0 hW _ _ hL _
  have hval : ∀ (j : Nat) t v, Tryd.f4.params[j]? = some t → args[j]? = some v → Value.okWide Tryd.prog W .any base t v := hval0
  have hW' := hW
  obtain ⟨p, q, hA0, hV, rfl, hfz, hnd⟩ := hW
  have hA : DataW.TrodAll enc Tryd.prog W 0 (fun _ => true) true Tryd.f4.params.toList args.toList ds p := hA0
  rw [Tryd.params4] at hA hval
  obtain ⟨v0, d0, rfl, rfl, h0⟩ := trodAll_one hA
  obtain ⟨rfl, rfl⟩ := trodVars_none hV
  have hL1 := hL
  rw [MakeChecks.laidMetH_plain _ _ _ (by kernel_rfl)] at hL1
  obtain ⟨s0, rfl, rfl, rfl, wn0⟩ := open_int Tryd.underlying31 (hval 0 31 v0 rfl rfl) h0
  clear hA0 hval0
  refine (walk W s0 wn0 hL).mono fun e W' ⟨he, bel⟩ => ?_
  subst he
  exact ⟨_, rfl, _, _, _, [], _, [], hW', trodAll_mk1 (shut_bool Tryd.underlying4 _), trodAll_mk1 (shut_int Tryd.underlying31 wn0), rfl, bel.frame _, fun h => by cases h⟩
theorem holds : Rows.DpathPicksSaid :=
  OpenClaim.holds_of_wide 4 Tryd.f4 rfl rfl rfl rfl rfl rfl rfl ⟨rfl, rfl, rfl, rfl, rfl⟩ rfl rfl rfl rfl rfl (by kernel_rfl) Tryd.func4 joined
    (of_decide_eq_true (by kernel_rfl)) (by unfold Func.isWrapper; first | (rw [if_pos (by decide +kernel)]; kernel_rfl) | (rw [if_neg (by decide +kernel)]; exact ⟨rfl, rfl⟩))
    (fun os started H enc _ => lifted os started H enc)
theorem card_holds : Rows.DpathPicksCardSaid :=
  Claim7.holds_tied_plain_at .later [] [.data] true (true, "1c1048780741a9d674591ee4f52a8f348f0f037f6c88f3e99ec2fb58e19c645c") false holds (fun _ h => by cases h) (by kernel_rfl) (fun _ h => by cases h) dpathPicks_row_tie rfl ⟨rfl, rfl⟩ (by kernel_rfl) rfl
    (fun f fn hf hfn => by
      obtain rfl : f = 4 := Option.some.inj ((show Tryd.prog.funcNamed "camshaft/camshaftlaw20.DpathPicks" = some 4 by kernel_rfl).symm.trans hf) |>.symm
      obtain rfl : fn = Tryd.f4 := (Option.some.inj (Tryd.func4.symm.trans hfn)).symm
      exact ⟨by kernel_rfl, fun j t ht => by
        rw [Tryd.params4] at ht
        have hm : t ∈ [31] := by simpa using Array.mem_of_getElem? ht
        have hall : ([31].all fun u => !Tryd.prog.wantsStandIn u) = true := by kernel_rfl
        exact (show Tryd.prog.wantsStandIn t = false by simpa using List.all_eq_true.1 hall t hm)⟩)
    (by kernel_rfl)
end Go.Proofs.YtlpigjmjgclgiaaDoor.dpathPicks
namespace Go.Proofs.YtlpigjmjgclgiaaDoor
/-- The card, under a short name, for the claim. -/
theorem dpathPicks_card : Rows.DpathPicksCardSaid := dpathPicks.card_holds
#print axioms dpathPicks_card
end Go.Proofs.YtlpigjmjgclgiaaDoor
