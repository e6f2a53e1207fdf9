/- DpathUndo: the row and the card. Printed by lawrow.py. -/
import Derived.Test.YtlpigjmjgclgiaaDoorCards
import Derived.Test.YtlpigjmjgclgiaaDoorTie
import Derived.Test.YtlpigjmjgclgiaaDoorPUD
import Derived.Test.YtlpigjmjgclgiaaDoorLawDpathUndoJ
import Derived.ProofKit
import Derived.OpenShut
import Derived.LaidMore
import Derived.Lay
import Derived.SevenTiedAt
import Derived.Stop.Joined
import Derived.LaidLaws
import Derived.LaidHandle
import Derived.ChangeOld
import Derived.Below
import Derived.SizedLaws
import Derived.ChangeVars
import Derived.JoinedOf
import Derived.RowKit
import Derived.RowKitTokens
import Derived.WalkKit
import Derived.ShutString
import Derived.Carry
namespace Go.Proofs.YtlpigjmjgclgiaaDoor.dpathUndo
open Go.ChangeMaps (open_string shut_string)
open Go Go.ChangeShapes Go.WideShapes Go.ChangeAt Go.RowKit Go.E Go.Proofs.YtlpigjmjgclgiaaDoorE
set_option maxRecDepth 100000
set_option linter.unusedVariables false
theorem own : ownKnob Tryd.prog.godebug = none := by kernel_rfl
theorem walk (W : World) {sM : StM} (ur : ∀ i, U32 (sM.r i)) (up : U32 sM.psl) (uk : U32 sM.ksp) (uu : U32 sM.usp) {l1 : List Wo} {av1 v1 : Value} {p1 : Pl} (tv1 : Tv 1 l1.length av1) (ob1 : ∃ obj, W.heap[p1.b]? = some obj ∧ ∀ [Sym] (β : Emb), OR β p1 obj (.table (l1.flatMap Wo.row))) (vr1 : ∀ [Sym] (β : Emb), β 1 = some p1 → VR β av1 v1) (h : laidMetH Tryd.prog Rows.dpathUndoRow.laid W) : Calls Tryd.prog 5 #[sM.val, v1] W fun e W' => e = .returned (.bool true) ∧ RowKit.Below W.heap.size W W' := by
  rw [MakeChecks.laidMetH_plain _ _ _ (by kernel_rfl)] at h
  exact law_at1 (show Lk0.func 5 = some (5, Tryd.f5) by kernel_rfl) h (List.mem_of_getElem? (i := 0) (by kernel_rfl))
    ob1 (args := [sM.val, av1]) (args' := [sM.val, v1]) (fun β b1 => .cons (flat3_refl (StM.flat _)) (.cons (vr1 β b1) .nil)) (fun {_} => dpathUndo_ok ur up uk uu tv1)
theorem lifted (os : Os) (started : os.Started) (H : Type) (enc : TypeId × Value → H) :
    ReturnsInHanded {} Tryd.checked os 5 .any (fun w args => (Rows.dpathUndoSpec.pre enc Tryd.prog Tryd.f5 [] false w args ∧ laidMetH Tryd.prog Rows.dpathUndoRow.laid w) ∧ sizedMet enc Tryd.prog Tryd.f5 (OpenSpec.ofChange Rows.dpathUndoSpec) false w args)
      (Rows.dpathUndoSpec.post enc Tryd.prog Tryd.f5 false true false false) := by
  refine returnsInHanded_of_change_and (C := Tryd.checked) (X := fun w _ => laidMetH Tryd.prog Rows.dpathUndoRow.laid w) (fun _ _ _ hh h => h.of_heap hh) own started (by kernel_rfl) Tryd.func5
    (ChangeSpec.witness_shaped (enc := enc) (C := Tryd.checked) (os := os) (X := fun w _ => laidMetH Tryd.prog Rows.dpathUndoRow.laid w) false (World.laidAll Tryd.prog os Rows.dpathUndoRow.laid) #[.agg #[.int .u32 0, .int .u32 0, .int .u32 0, .int .u32 0, .int .u32 0, .int .u32 0, .int .u32 0, .int .u32 0, .int .u32 0, .int .u32 0, .int .u32 0, .int .u32 0, .int .u32 0, .int .u32 0, .int .u32 0, .int .u32 0, .int .u32 0, .int .u32 0, .int .u32 0, .int .u32 0, .int .u32 0, .int .u32 0, .int .u32 0, .int .u32 0, .int .u32 0, .int .i64 0], .slice none 0 0] 8 (World.laidAll_os _ _ _)
      (World.shaped_of_ZipB (by kernel_rfl) (by kernel_rfl)) (by kernel_rfl) (by kernel_rfl) (by kernel_rfl)
      (by rw [MakeChecks.laidMetH_plain _ _ _ (by kernel_rfl)]; exact laidMet_laidAll _ (by kernel_rfl) (by kernel_rfl))) ?_
  intro W base args ds gs before hval0 hW _ _ hL _
  have hval : ∀ (j : Nat) t v, Tryd.f5.params[j]? = some t → args[j]? = some v → Value.okWide Tryd.prog W .any base t v := hval0
  have hW' := hW
  obtain ⟨p, q, hA0, hV, rfl, hfz, hnd⟩ := hW
  have hA : DataW.TrodAll enc Tryd.prog W 0 (fun _ => true) true Tryd.f5.params.toList args.toList ds p := hA0
  rw [Tryd.params5] at hA hval
  obtain ⟨v0, v1, d0, d1, _, _, rfl, rfl, rfl, h0, h1⟩ := trodAll_two hA
  obtain ⟨rfl, rfl⟩ := trodVars_none hV
  have hL1 := hL
  rw [MakeChecks.laidMetH_plain _ _ _ (by kernel_rfl)] at hL1
  have hv0 := hval 0 44 v0 rfl rfl
  have ag0 : ∀ W', RowKit.Below W.heap.size W W' → DataW.Trod enc Tryd.prog W' 0 (fun b => decide (b < W.heap.size)) true 44 v0 d0 _ := fun W' bel => RowKit.Below.trod (by kernel_rfl) (by kernel_rfl) (of_decide_eq_true (by kernel_rfl)) h0 bel (h0.elim fun n hn x hx => DataW.trod_lt n _ _ _ hn x hx)
  have ag1 : ∀ W', RowKit.Below W.heap.size W W' → DataW.Trod enc Tryd.prog W' 0 (fun b => decide (b < W.heap.size)) true 45 v1 d1 _ := fun W' bel => RowKit.Below.trod (by kernel_rfl) (by kernel_rfl) (of_decide_eq_true (by kernel_rfl)) h1 bel (h1.elim fun n hn x hx => DataW.trod_lt n _ _ _ hn x hx)
  obtain ⟨sM, rfl, ur, up, uk, uu⟩ := open_state hv0 h0
  obtain ⟨l1, av1, p1, ok1, tv1, ob1, vr1⟩ := arg_row (f := Wo.row) (ok := fun _ => True) (ks := (List.replicate 12 (.i .i64))) (d := 2) 1 0 (err_cells hL1 (List.mem_of_getElem? (i := 0) (by kernel_rfl))) Tryd.underlying45 (by kernel_rfl) (by kernel_rfl) (by decide) wo_ty woRow_flat (hval 1 45 v1 rfl rfl) h1
  clear hA0 hval0
  refine (walk W ur up uk uu tv1 ob1 vr1 hL).mono fun e W' ⟨he, bel⟩ => ?_
  subst he
  exact ⟨_, rfl, _, _, _, [], _, [], hW', trodAll_mk1 (shut_bool Tryd.underlying4 _), trodAll_mk2 (ag0 _ bel) (ag1 _ bel), rfl, bel.frame _, fun h => by cases h⟩
theorem holds : Rows.DpathUndoSaid :=
  OpenClaim.holds_of_wide 5 Tryd.f5 rfl rfl rfl rfl rfl rfl rfl ⟨rfl, rfl, rfl, rfl, rfl⟩ rfl rfl rfl rfl rfl (by kernel_rfl) Tryd.func5 joined
    (of_decide_eq_true (by kernel_rfl)) (by unfold Func.isWrapper; first | (rw [if_pos (by decide +kernel)]; kernel_rfl) | (rw [if_neg (by decide +kernel)]; exact ⟨rfl, rfl⟩))
    (fun os started H enc _ => lifted os started H enc)
theorem card_holds : Rows.DpathUndoCardSaid :=
  Claim7.holds_tied_plain_at .later [] [.data] true (true, "1c1048780741a9d674591ee4f52a8f348f0f037f6c88f3e99ec2fb58e19c645c") false holds (fun _ h => by cases h) (by kernel_rfl) (fun _ h => by cases h) dpathUndo_row_tie rfl ⟨rfl, rfl⟩ (by kernel_rfl) rfl
    (fun f fn hf hfn => by
      obtain rfl : f = 5 := Option.some.inj ((show Tryd.prog.funcNamed "camshaft/camshaftlaw20.DpathUndo" = some 5 by kernel_rfl).symm.trans hf) |>.symm
      obtain rfl : fn = Tryd.f5 := (Option.some.inj (Tryd.func5.symm.trans hfn)).symm
      exact ⟨by kernel_rfl, fun j t ht => by
        rw [Tryd.params5] at ht
        have hm : t ∈ [44, 45] := by simpa using Array.mem_of_getElem? ht
        have hall : ([44, 45].all fun u => !Tryd.prog.wantsStandIn u) = true := by kernel_rfl
        exact (show Tryd.prog.wantsStandIn t = false by simpa using List.all_eq_true.1 hall t hm)⟩)
    (by kernel_rfl)
end Go.Proofs.YtlpigjmjgclgiaaDoor.dpathUndo
namespace Go.Proofs.YtlpigjmjgclgiaaDoor
/-- The card, under a short name, for the claim. -/
theorem dpathUndo_card : Rows.DpathUndoCardSaid := dpathUndo.card_holds
#print axioms dpathUndo_card
end Go.Proofs.YtlpigjmjgclgiaaDoor
