/- DpathBlocks: the row and the card. Printed by lawrow.py. -/
import Derived.Test.YtlpigjmjgclgiaaDoorCards
import Derived.Test.YtlpigjmjgclgiaaDoorTie
import Derived.Test.YtlpigjmjgclgiaaDoorPBC
import Derived.Test.YtlpigjmjgclgiaaDoorLawDpathBlocksJ
import Derived.ProofKit
import Derived.OpenShut
import Derived.LaidMore
import Derived.Lay
import Derived.SevenTiedAt
import Derived.Stop.Joined
import Derived.LaidLaws
import Derived.LaidHandle
import Derived.ChangeOld
import Derived.Below
import Derived.SizedLaws
import Derived.ChangeVars
import Derived.JoinedOf
import Derived.RowKit
import Derived.RowKitTokens
import Derived.WalkKit
import Derived.ShutString
import Derived.Carry
namespace Go.Proofs.YtlpigjmjgclgiaaDoor.dpathBlocks
open Go.ChangeMaps (open_string shut_string)
open Go Go.ChangeShapes Go.WideShapes Go.ChangeAt Go.RowKit Go.E Go.Proofs.YtlpigjmjgclgiaaDoorE
set_option maxRecDepth 100000
set_option linter.unusedVariables false
theorem own : ownKnob Tryd.prog.godebug = none := by kernel_rfl
theorem walk (W : World) {l0 : List (Nat)} (ok0 : ∀ s ∈ l0, (fun s => s < 4294967296) s) {av0 v0 : Value} {p0 : Pl} (tv0 : Tv 1 l0.length av0) (ob0 : ∃ obj, W.heap[p0.b]? = some obj ∧ ∀ [Sym] (β : Emb), OR β p0 obj (.table (l0.flatMap u32R))) (vr0 : ∀ [Sym] (β : Emb), β 1 = some p0 → VR β av0 v0) (s1 : Int) (h : laidMetH Tryd.prog Rows.dpathBlocksRow.laid W) : Calls Tryd.prog 3 #[v0, .int .i64 s1] W fun e W' => e = .returned (.bool true) ∧ RowKit.Below W.heap.size W W' := by
  rw [MakeChecks.laidMetH_plain _ _ _ (by kernel_rfl)] at h
  exact law_at1 (show Lk0.func 3 = some (3, Tryd.f3) by kernel_rfl) h (List.mem_of_getElem? (i := 0) (by kernel_rfl))
    ob0 (args := [av0, .int .i64 s1]) (args' := [v0, .int .i64 s1]) (fun β b0 => .cons (vr0 β b0) (.cons (.int _ _) (.nil))) (fun {_} => dpathBlocks_ok ok0 tv0 s1)
theorem lifted (os : Os) (started : os.Started) (H : Type) (enc : TypeId × Value → H) :
    ReturnsInHanded {} Tryd.checked os 3 .any (fun w args => (Rows.dpathBlocksSpec.pre enc Tryd.prog Tryd.f3 [] false w args ∧ laidMetH Tryd.prog Rows.dpathBlocksRow.laid w) ∧ sizedMet enc Tryd.prog Tryd.f3 (OpenSpec.ofChange Rows.dpathBlocksSpec) false w args)
      (Rows.dpathBlocksSpec.post enc Tryd.prog Tryd.f3 false true false false) := by
  refine returnsInHanded_of_change_and (C := Tryd.checked) (X := fun w _ => laidMetH Tryd.prog Rows.dpathBlocksRow.laid w) (fun _ _ _ hh h => h.of_heap hh) own started (by kernel_rfl) Tryd.func3
    (ChangeSpec.witness_shaped (enc := enc) (C := Tryd.checked) (os := os) (X := fun w _ => laidMetH Tryd.prog Rows.dpathBlocksRow.laid w) false (World.laidAll Tryd.prog os Rows.dpathBlocksRow.laid) #[.slice none 0 0, .int .i64 0] 8 (World.laidAll_os _ _ _)
      (World.shaped_of_ZipB (by kernel_rfl) (by kernel_rfl)) (by kernel_rfl) (by kernel_rfl) (by kernel_rfl)
      (by rw [MakeChecks.laidMetH_plain _ _ _ (by kernel_rfl)]; exact laidMet_laidAll _ (by kernel_rfl) (by kernel_rfl))) ?_
  intro W base args ds gs before hval0 hW _ _ hL _
  have hval : ∀ (j : Nat) t v, Tryd.f3.params[j]? = some t → args[j]? = some v → Value.okWide Tryd.prog W .any base t v := hval0
  have hW' := hW
  obtain ⟨p, q, hA0, hV, rfl, hfz, hnd⟩ := hW
  have hA : DataW.TrodAll enc Tryd.prog W 0 (fun _ => true) true Tryd.f3.params.toList args.toList ds p := hA0
  rw [Tryd.params3] at hA hval
  obtain ⟨v0, v1, d0, d1, _, _, rfl, rfl, rfl, h0, h1⟩ := trodAll_two hA
  obtain ⟨rfl, rfl⟩ := trodVars_none hV
  have hL1 := hL
  rw [MakeChecks.laidMetH_plain _ _ _ (by kernel_rfl)] at hL1
  obtain ⟨l0, av0, p0, ok0, tv0, ob0, vr0⟩ := arg_row (f := u32R) (ok := fun s => s < 4294967296) (ks := [.i .u32]) (d := 2) 1 0 (err_cells hL1 (List.mem_of_getElem? (i := 0) (by kernel_rfl))) Tryd.underlying22 (by kernel_rfl) (by kernel_rfl) (by decide) u32_ty (fun _ => by first | rfl | exact flat_i _ | exact stepRow_flat _) (hval 0 22 v0 rfl rfl) h0
  have ag0 : ∀ W', RowKit.Below W.heap.size W W' → DataW.Trod enc Tryd.prog W' 0 (fun b => decide (b < W.heap.size)) true 22 v0 d0 _ := fun W' bel => RowKit.Below.trod (by kernel_rfl) (by kernel_rfl) (of_decide_eq_true (by kernel_rfl)) h0 bel (h0.elim fun n hn x hx => DataW.trod_lt n _ _ _ hn x hx)
  obtain ⟨s1, rfl, rfl, rfl, wn1⟩ := open_int Tryd.underlying3 (hval 1 3 v1 rfl rfl) h1
  clear hA0 hval0
  refine (walk W ok0 tv0 ob0 vr0 s1 hL).mono fun e W' ⟨he, bel⟩ => ?_
  subst he
  exact ⟨_, rfl, _, _, _, [], _, [], hW', trodAll_mk1 (shut_bool Tryd.underlying4 _), trodAll_mk2 (ag0 _ bel) (shut_int Tryd.underlying3 wn1), rfl, bel.frame _, fun h => by cases h⟩
theorem holds : Rows.DpathBlocksSaid :=
  OpenClaim.holds_of_wide 3 Tryd.f3 rfl rfl rfl rfl rfl rfl rfl ⟨rfl, rfl, rfl, rfl, rfl⟩ rfl rfl rfl rfl rfl (by kernel_rfl) Tryd.func3 joined
    (of_decide_eq_true (by kernel_rfl)) (by unfold Func.isWrapper; first | (rw [if_pos (by decide +kernel)]; kernel_rfl) | (rw [if_neg (by decide +kernel)]; exact ⟨rfl, rfl⟩))
    (fun os started H enc _ => lifted os started H enc)
theorem card_holds : Rows.DpathBlocksCardSaid :=
  Claim7.holds_tied_plain_at .later [] [.data] true (true, "1c1048780741a9d674591ee4f52a8f348f0f037f6c88f3e99ec2fb58e19c645c") false holds (fun _ h => by cases h) (by kernel_rfl) (fun _ h => by cases h) dpathBlocks_row_tie rfl ⟨rfl, rfl⟩ (by kernel_rfl) rfl
    (fun f fn hf hfn => by
      obtain rfl : f = 3 := Option.some.inj ((show Tryd.prog.funcNamed "camshaft/camshaftlaw20.DpathBlocks" = some 3 by kernel_rfl).symm.trans hf) |>.symm
      obtain rfl : fn = Tryd.f3 := (Option.some.inj (Tryd.func3.symm.trans hfn)).symm
      exact ⟨by kernel_rfl, fun j t ht => by
        rw [Tryd.params3] at ht
        have hm : t ∈ [22, 3] := by simpa using Array.mem_of_getElem? ht
        have hall : ([22, 3].all fun u => !Tryd.prog.wantsStandIn u) = true := by kernel_rfl
        exact (show Tryd.prog.wantsStandIn t = false by simpa using List.all_eq_true.1 hall t hm)⟩)
    (by kernel_rfl)
end Go.Proofs.YtlpigjmjgclgiaaDoor.dpathBlocks
namespace Go.Proofs.YtlpigjmjgclgiaaDoor
/-- The card, under a short name, for the claim. -/
theorem dpathBlocks_card : Rows.DpathBlocksCardSaid := dpathBlocks.card_holds
#print axioms dpathBlocks_card
end Go.Proofs.YtlpigjmjgclgiaaDoor
