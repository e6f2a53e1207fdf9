/- UparseLines: the row and the card. Printed by lawrow.py. -/
import Derived.Test.YthngaoncjpgeiaaDoorCards
import Derived.Test.YthngaoncjpgeiaaDoorTie
import Derived.Test.YthngaoncjpgeiaaDoorPar11
import Derived.ProofKit
import Derived.OpenShut
import Derived.LaidMore
import Derived.Lay
import Derived.SevenTiedAt
import Derived.Stop.Joined
import Derived.LaidLaws
import Derived.LaidHandle
import Derived.ChangeOld
import Derived.Below
import Derived.SizedLaws
import Derived.ChangeVars
import Derived.JoinedOf
import Derived.RowKit
import Derived.RowKitTokens
import Derived.WalkKit
import Derived.ShutString
namespace Go.Proofs.YthngaoncjpgeiaaDoor.uparseLines
open Go.ChangeMaps (open_string shut_string)
open Go Go.ChangeShapes Go.WideShapes Go.ChangeAt Go.RowKit Go.E Go.Proofs.YthngaoncjpgeiaaDoorE
set_option maxRecDepth 100000
set_option linter.unusedVariables false
theorem own : ownKnob Tryd.prog.godebug = none := by kernel_rfl
theorem walk (W : World) (s0 : ByteArray) (h : laidMetH Tryd.prog Rows.uparseLinesRow.laid W) : Calls Tryd.prog 10 #[.string s0] W fun e W' => e = .returned (.bool true) ∧ RowKit.Below W.heap.size W W' := by
  rw [MakeChecks.laidMetH_plain _ _ _ (by kernel_rfl)] at h
  exact law_at (show Lk0.func 10 = some (10, Tryd.f10) by kernel_rfl) h ⟨_, _, by show _ ∈ [_, _, _, _, _, _, _]; simp only [List.mem_cons]; exact .inr (.inr (.inr (.inr (.inr (.inl rfl)))))⟩ ⟨_, _, by show _ ∈ [_, _, _, _, _, _, _]; simp only [List.mem_cons]; exact .inr (.inr (.inr (.inr (.inl rfl))))⟩
    (args := [.string s0]) (fun x hx => by simp at hx; subst hx; rfl) (fun {_} => uparseLines_ok gd0 (Nat.le_refl _) s0)
theorem lifted (os : Os) (started : os.Started) (H : Type) (enc : TypeId × Value → H) :
    ReturnsInHanded {} Tryd.checked os 10 .any (fun w args => (Rows.uparseLinesSpec.pre enc Tryd.prog Tryd.f10 [] false w args ∧ laidMetH Tryd.prog Rows.uparseLinesRow.laid w) ∧ sizedMet enc Tryd.prog Tryd.f10 (OpenSpec.ofChange Rows.uparseLinesSpec) false w args)
      (Rows.uparseLinesSpec.post enc Tryd.prog Tryd.f10 false true false false) := by
  refine returnsInHanded_of_change_and (C := Tryd.checked) (X := fun w _ => laidMetH Tryd.prog Rows.uparseLinesRow.laid w) (fun _ _ _ hh h => h.of_heap hh) own started (by kernel_rfl) Tryd.func10
    (ChangeSpec.witness_shaped (enc := enc) (C := Tryd.checked) (os := os) (X := fun w _ => laidMetH Tryd.prog Rows.uparseLinesRow.laid w) false (World.laidAll Tryd.prog os Rows.uparseLinesRow.laid) #[.string ByteArray.empty] 8 (World.laidAll_os _ _ _)
      (World.shaped_of_ZipB (by kernel_rfl) (by kernel_rfl)) (by kernel_rfl) (by kernel_rfl) (by kernel_rfl)
      (by rw [MakeChecks.laidMetH_plain _ _ _ (by kernel_rfl)]; exact laidMet_laidAll _ (by kernel_rfl) (by kernel_rfl))) ?_
  intro W base args ds gs before hval0 hW _ _ hL _
  have hval : ∀ (j : Nat) t v, Tryd.f10.params[j]? = some t → args[j]? = some v → Value.okWide Tryd.prog W .any base t v := hval0
  have hW' := hW
  obtain ⟨p, q, hA0, hV, rfl, hfz, hnd⟩ := hW
  have hA : DataW.TrodAll enc Tryd.prog W 0 (fun _ => true) true Tryd.f10.params.toList args.toList ds p := hA0
  rw [Tryd.params10] at hA hval
  obtain ⟨v0, d0, rfl, rfl, h0⟩ := trodAll_one hA
  obtain ⟨rfl, rfl⟩ := trodVars_none hV
  obtain ⟨s0, rfl, rfl, rfl, wn0⟩ := open_string Tryd.underlying9 (hval 0 9 v0 rfl rfl) h0
  clear hA0 hval0
  refine (walk W s0 hL).mono fun e W' ⟨he, bel⟩ => ?_
  subst he
  exact ⟨_, rfl, _, _, _, [], _, [], hW', trodAll_mk1 (shut_bool Tryd.underlying4 _), trodAll_mk1 (shut_string Tryd.underlying9 wn0), rfl, bel.frame _, fun h => by cases h⟩
theorem holds : Rows.UparseLinesSaid :=
  OpenClaim.holds_of_wide 10 Tryd.f10 rfl rfl rfl rfl rfl rfl rfl ⟨rfl, rfl, rfl, rfl, rfl⟩ rfl rfl rfl rfl rfl (by kernel_rfl) Tryd.func10 (by kernel_rfl)
    (of_decide_eq_true (by kernel_rfl)) (by unfold Func.isWrapper; first | (rw [if_pos (by decide +kernel)]; kernel_rfl) | (rw [if_neg (by decide +kernel)]; exact ⟨rfl, rfl⟩))
    (fun os started H enc _ => lifted os started H enc)
theorem card_holds : Rows.UparseLinesCardSaid :=
  Claim7.holds_tied_plain_at .later [] [.data, .data, .data, .data, .sentinel, .sentinel, .pinned] true (true, "d9203cce8fe538d0953e4602755e4d9347b0735882329c633d4391b6f9500646") true holds (fun _ h => by cases h) (by kernel_rfl) (fun _ h => by cases h) uparseLines_row_tie rfl ⟨rfl, rfl⟩ (by kernel_rfl) rfl
    (fun f fn hf hfn => by
      obtain rfl : f = 10 := Option.some.inj ((show Tryd.prog.funcNamed "camshaft/camshaftlaw16.UparseLines" = some 10 by kernel_rfl).symm.trans hf) |>.symm
      obtain rfl : fn = Tryd.f10 := (Option.some.inj (Tryd.func10.symm.trans hfn)).symm
      exact ⟨by kernel_rfl, fun j t ht => by
        rw [Tryd.params10] at ht
        have hm : t ∈ [9] := by simpa using Array.mem_of_getElem? ht
        have hall : ([9].all fun u => !Tryd.prog.wantsStandIn u) = true := by kernel_rfl
        exact (show Tryd.prog.wantsStandIn t = false by simpa using List.all_eq_true.1 hall t hm)⟩)
    (by kernel_rfl)
end Go.Proofs.YthngaoncjpgeiaaDoor.uparseLines
namespace Go.Proofs.YthngaoncjpgeiaaDoor
/-- The card, under a short name, for the claim. -/
theorem uparseLines_card : Rows.UparseLinesCardSaid := uparseLines.card_holds
#print axioms uparseLines_card
end Go.Proofs.YthngaoncjpgeiaaDoor
