/- UasmNames: the row and the card. Printed by lawrow.py. -/
import Derived.Test.YthngaoncjpgeiaaGreatDoorCards
import Derived.Test.YthngaoncjpgeiaaGreatDoorTie
import Derived.Test.YthngaoncjpgeiaaGreatDoorLawN
import Derived.Test.YthngaoncjpgeiaaGreatDoorLawUasmNamesJ
import Derived.ProofKit
import Derived.OpenShut
import Derived.LaidMore
import Derived.Lay
import Derived.SevenTiedAt
import Derived.Stop.Joined
import Derived.LaidLaws
import Derived.LaidHandle
import Derived.ChangeOld
import Derived.Below
import Derived.SizedLaws
import Derived.ChangeVars
import Derived.JoinedOf
import Derived.RowKit
import Derived.RowKitTokens
import Derived.WalkKit
import Derived.ShutString
namespace Go.Proofs.YthngaoncjpgeiaaGreatDoor.uasmNames
open Go.ChangeMaps (open_string shut_string)
open Go Go.ChangeShapes Go.WideShapes Go.ChangeAt Go.RowKit Go.E Go.Proofs.YthngaoncjpgeiaaGreatDoorE
set_option maxRecDepth 100000
set_option linter.unusedVariables false
theorem own : ownKnob Tryz.prog.godebug = none := by kernel_rfl
theorem walk (W : World) (s0 : ByteArray) (s1 : List Int) (z1 : s1.length = 12) (s2 : Int) (h : laidMetH Tryz.prog Rows.uasmNamesRow.laid W) : Calls Tryz.prog 4 #[.string s0, .agg (s1.map (Value.int .i64)).toArray, .int .i64 s2] W fun e W' => e = .returned (.bool true) ∧ RowKit.Below W.heap.size W W' := by
  rw [MakeChecks.laidMetH_plain _ _ _ (by kernel_rfl)] at h
  exact law_at (show Lk0.func 4 = some (4, Tryz.f4) by kernel_rfl) h ⟨_, _, List.mem_of_getElem? (i := 6) rfl⟩ ⟨_, _, List.mem_of_getElem? (i := 5) rfl⟩ (List.mem_of_getElem? (i := 4) (by kernel_rfl)) (List.mem_of_getElem? (i := 8) (by kernel_rfl))
    (args := [.string s0, .agg (s1.map (Value.int .i64)).toArray, .int .i64 s2]) (fun x hx => by simp at hx; rcases hx with rfl | rfl | rfl <;> first | rfl | exact flat_ints _) (fun {_} => uasmNames_ok s0 s1 z1 s2)
theorem lifted (os : Os) (started : os.Started) (H : Type) (enc : TypeId × Value → H) :
    ReturnsInHanded {} Tryz.checked os 4 .any (fun w args => (Rows.uasmNamesSpec.pre enc Tryz.prog Tryz.f4 [] false w args ∧ laidMetH Tryz.prog Rows.uasmNamesRow.laid w) ∧ sizedMet enc Tryz.prog Tryz.f4 (OpenSpec.ofChange Rows.uasmNamesSpec) false w args)
      (Rows.uasmNamesSpec.post enc Tryz.prog Tryz.f4 false true false false) := by
  refine returnsInHanded_of_change_and (C := Tryz.checked) (X := fun w _ => laidMetH Tryz.prog Rows.uasmNamesRow.laid w) (fun _ _ _ hh h => h.of_heap hh) own started (by kernel_rfl) Tryz.func4
    (ChangeSpec.witness_shaped (enc := enc) (C := Tryz.checked) (os := os) (X := fun w _ => laidMetH Tryz.prog Rows.uasmNamesRow.laid w) false (World.laidAll Tryz.prog os Rows.uasmNamesRow.laid) #[.string ByteArray.empty, .agg #[.int .i64 0, .int .i64 0, .int .i64 0, .int .i64 0, .int .i64 0, .int .i64 0, .int .i64 0, .int .i64 0, .int .i64 0, .int .i64 0, .int .i64 0, .int .i64 0], .int .i64 0] 8 (World.laidAll_os _ _ _)
      (World.shaped_of_ZipB (by kernel_rfl) (by kernel_rfl)) (by kernel_rfl) (by kernel_rfl) (by kernel_rfl)
      (by rw [MakeChecks.laidMetH_plain _ _ _ (by kernel_rfl)]; exact laidMet_laidAll _ (by kernel_rfl) (by kernel_rfl))) ?_
  intro W base args ds gs before hval0 hW _ _ hL _
  have hval : ∀ (j : Nat) t v, Tryz.f4.params[j]? = some t → args[j]? = some v → Value.okWide Tryz.prog W .any base t v := hval0
  have hW' := hW
  obtain ⟨p, q, hA0, hV, rfl, hfz, hnd⟩ := hW
  have hA : DataW.TrodAll enc Tryz.prog W 0 (fun _ => true) true Tryz.f4.params.toList args.toList ds p := hA0
  rw [Tryz.params4] at hA hval
  obtain ⟨v0, v1, v2, d0, d1, d2, _, _, _, rfl, rfl, rfl, h0, h1, h2⟩ := trodAll_three hA
  obtain ⟨rfl, rfl⟩ := trodVars_none hV
  obtain ⟨s0, rfl, rfl, rfl, wn0⟩ := open_string Tryz.underlying9 (hval 0 9 v0 rfl rfl) h0
  obtain ⟨s1, z1, rfl, rfl, rfl, wn1⟩ := open_intF Tryz.underlying35 (by kernel_rfl) (allI Tryz.underlying3 (by kernel_rfl)) (by kernel_rfl) (hval 1 35 v1 rfl rfl) h1
  obtain ⟨s2, rfl, rfl, rfl, wn2⟩ := open_int Tryz.underlying3 (hval 2 3 v2 rfl rfl) h2
  clear hA0 hval0
  refine (walk W s0 s1 z1 s2 hL).mono fun e W' ⟨he, bel⟩ => ?_
  subst he
  exact ⟨_, rfl, _, _, _, [], _, [], hW', trodAll_mk1 (shut_bool Tryz.underlying4 _), trodAll_mk3 (shut_string Tryz.underlying9 wn0) (shut_intF Tryz.underlying35 (by kernel_rfl) (allI Tryz.underlying3 (by kernel_rfl)) (by kernel_rfl) z1 wn1) (shut_int Tryz.underlying3 wn2), rfl, bel.frame _, fun h => by cases h⟩
theorem holds : Rows.UasmNamesSaid :=
  OpenClaim.holds_of_wide 4 Tryz.f4 rfl rfl rfl rfl rfl rfl rfl ⟨rfl, rfl, rfl, rfl, rfl⟩ rfl rfl rfl rfl rfl (by kernel_rfl) Tryz.func4 joined
    (of_decide_eq_true (by kernel_rfl)) (by unfold Func.isWrapper; first | (rw [if_pos (by decide +kernel)]; kernel_rfl) | (rw [if_neg (by decide +kernel)]; exact ⟨rfl, rfl⟩))
    (fun os started H enc _ => lifted os started H enc)
theorem card_holds : Rows.UasmNamesCardSaid :=
  Claim7.holds_tied_plain_at .later [] [.data, .data, .data, .data, .widerDeep, .sentinel, .sentinel, .listed, .data, .pinned] true (true, "edee7755ddb427803807fd9bf3907d9630c93be4132d55aecfeca864362cdbca") true holds (fun _ h => by cases h) (by kernel_rfl) (fun _ h => by cases h) uasmNames_row_tie rfl ⟨rfl, rfl⟩ (by kernel_rfl) rfl
    (fun f fn hf hfn => by
      obtain rfl : f = 4 := Option.some.inj ((show Tryz.prog.funcNamed "camshaft/camshaftlaw17.UasmNames" = some 4 by kernel_rfl).symm.trans hf) |>.symm
      obtain rfl : fn = Tryz.f4 := (Option.some.inj (Tryz.func4.symm.trans hfn)).symm
      exact ⟨by kernel_rfl, fun j t ht => by
        rw [Tryz.params4] at ht
        have hm : t ∈ [9, 35, 3] := by simpa using Array.mem_of_getElem? ht
        have hall : ([9, 35, 3].all fun u => !Tryz.prog.wantsStandIn u) = true := by kernel_rfl
        exact (show Tryz.prog.wantsStandIn t = false by simpa using List.all_eq_true.1 hall t hm)⟩)
    (by kernel_rfl)
end Go.Proofs.YthngaoncjpgeiaaGreatDoor.uasmNames
namespace Go.Proofs.YthngaoncjpgeiaaGreatDoor
/-- The card, under a short name, for the claim. -/
theorem uasmNames_card : Rows.UasmNamesCardSaid := uasmNames.card_holds
#print axioms uasmNames_card
end Go.Proofs.YthngaoncjpgeiaaGreatDoor
