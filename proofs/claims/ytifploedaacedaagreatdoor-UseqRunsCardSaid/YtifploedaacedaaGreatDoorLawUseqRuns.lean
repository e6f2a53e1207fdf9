/- UseqRuns: the row and the card. Printed by lawrow.py. -/
import Derived.Test.YtifploedaacedaaGreatDoorCards
import Derived.Test.YtifploedaacedaaGreatDoorTie
import Derived.Test.YtifploedaacedaaGreatDoorPRF
import Derived.Test.YtifploedaacedaaGreatDoorLawUseqRunsJ
import Derived.ProofKit
import Derived.OpenShut
import Derived.LaidMore
import Derived.Lay
import Derived.SevenTiedAt
import Derived.Stop.Joined
import Derived.LaidLaws
import Derived.LaidHandle
import Derived.ChangeOld
import Derived.Below
import Derived.SizedLaws
import Derived.ChangeVars
import Derived.JoinedOf
import Derived.RowKit
import Derived.RowKitTokens
import Derived.WalkKit
import Derived.ShutString
import Derived.Carry
namespace Go.Proofs.YtifploedaacedaaGreatDoor.useqRuns
open Go.ChangeMaps (open_string shut_string)
open Go Go.ChangeShapes Go.WideShapes Go.ChangeAt Go.RowKit Go.E Go.Proofs.YtifploedaacedaaGreatDoorE
set_option maxRecDepth 100000
set_option linter.unusedVariables false
theorem own : ownKnob Tryz.prog.godebug = none := by kernel_rfl
theorem walk (W : World) {lA : List (Nat)} (okA : ∀ s ∈ lA, (fun s => s < 2 ^ 64) s) {avA r0 : Value} {pA : Pl} (tvA : Tv 12 lA.length avA) (obA : ∃ obj, W.heap[pA.b]? = some obj ∧ ∀ [Sym] (β : Emb), OR β pA obj (.table (lA.flatMap uRow))) (vrA : ∀ [Sym] (β : Emb), β 12 = some pA → VR β avA r0) {lB : List (En)} (okB : ∀ s ∈ lB, (fun _ => True) s) {avB r1 : Value} {pB : Pl} (tvB : Tv 13 lB.length avB) (obB : ∃ obj, W.heap[pB.b]? = some obj ∧ ∀ [Sym] (β : Emb), OR β pB obj (.table (lB.flatMap enRow))) (vrB : ∀ [Sym] (β : Emb), β 13 = some pB → VR β avB r1) {lC : List (Step5)} (okC : ∀ s ∈ lC, (fun _ => True) s) {avC v1 : Value} {pC : Pl} (tvC : Tv 14 lC.length avC) (obC : ∃ obj, W.heap[pC.b]? = some obj ∧ ∀ [Sym] (β : Emb), OR β pC obj (.table (lC.flatMap stepRow))) (vrC : ∀ [Sym] (β : Emb), β 14 = some pC → VR β avC v1) (h : laidMetH Tryz.prog Rows.useqRunsRow.laid W) : Calls Tryz.prog 10 #[.agg #[r0, r1], v1] W fun e W' => e = .returned (.bool true) ∧ RowKit.Below W.heap.size W W' := by
  rw [MakeChecks.laidMetH_plain _ _ _ (by kernel_rfl)] at h
  exact law_at3 (show Lk0.func 10 = some (10, Tryz.f10) by kernel_rfl) h ⟨_, _, List.mem_of_getElem? (i := 6) rfl⟩ ⟨_, _, List.mem_of_getElem? (i := 5) rfl⟩ (List.mem_of_getElem? (i := 4) (by kernel_rfl)) (List.mem_of_getElem? (i := 8) (by kernel_rfl))
    obA obB obC (args := [romV avA avB, avC]) (args' := [.agg #[r0, r1], v1]) (fun β b0 b1 b2 => .cons (VR.agg2 (vrA β b0) (vrB β b1)) (.cons (vrC β b2) .nil)) (fun {_} => useqRuns_ok okA tvA tvB tvC)
theorem lifted (os : Os) (started : os.Started) (H : Type) (enc : TypeId × Value → H) :
    ReturnsInHanded {} Tryz.checked os 10 .any (fun w args => (Rows.useqRunsSpec.pre enc Tryz.prog Tryz.f10 [] false w args ∧ laidMetH Tryz.prog Rows.useqRunsRow.laid w) ∧ sizedMet enc Tryz.prog Tryz.f10 (OpenSpec.ofChange Rows.useqRunsSpec) false w args)
      (Rows.useqRunsSpec.post enc Tryz.prog Tryz.f10 false true false false) := by
  refine returnsInHanded_of_change_and (C := Tryz.checked) (X := fun w _ => laidMetH Tryz.prog Rows.useqRunsRow.laid w) (fun _ _ _ hh h => h.of_heap hh) own started (by kernel_rfl) Tryz.func10
    (ChangeSpec.witness_shaped (enc := enc) (C := Tryz.checked) (os := os) (X := fun w _ => laidMetH Tryz.prog Rows.useqRunsRow.laid w) false (World.laidAll Tryz.prog os Rows.useqRunsRow.laid) #[.agg #[.slice none 0 0, .slice none 0 0], .slice none 0 0] 8 (World.laidAll_os _ _ _)
      (World.shaped_of_ZipB (by kernel_rfl) (by kernel_rfl)) (by kernel_rfl) (by kernel_rfl) (by kernel_rfl)
      (by rw [MakeChecks.laidMetH_plain _ _ _ (by kernel_rfl)]; exact laidMet_laidAll _ (by kernel_rfl) (by kernel_rfl))) ?_
  intro W base args ds gs before hval0 hW _ _ hL _
  have hval : ∀ (j : Nat) t v, Tryz.f10.params[j]? = some t → args[j]? = some v → Value.okWide Tryz.prog W .any base t v := hval0
  have hW' := hW
  obtain ⟨p, q, hA0, hV, rfl, hfz, hnd⟩ := hW
  have hA : DataW.TrodAll enc Tryz.prog W 0 (fun _ => true) true Tryz.f10.params.toList args.toList ds p := hA0
  rw [Tryz.params10] at hA hval
  obtain ⟨v0, v1, d0, d1, _, _, rfl, rfl, rfl, h0, h1⟩ := trodAll_two hA
  obtain ⟨rfl, rfl⟩ := trodVars_none hV
  have hL1 := hL
  rw [MakeChecks.laidMetH_plain _ _ _ (by kernel_rfl)] at hL1
  have hv0 := hval 0 26 v0 rfl rfl
  have hv1 := hval 1 67 v1 rfl rfl
  have ag0 : ∀ W', RowKit.Below W.heap.size W W' → DataW.Trod enc Tryz.prog W' 0 (fun b => decide (b < W.heap.size)) true 26 v0 d0 _ := fun W' bel => RowKit.Below.trod (by kernel_rfl) (by kernel_rfl) (of_decide_eq_true (by kernel_rfl)) h0 bel (h0.elim fun n hn x hx => DataW.trod_lt n _ _ _ hn x hx)
  have ag1 : ∀ W', RowKit.Below W.heap.size W W' → DataW.Trod enc Tryz.prog W' 0 (fun b => decide (b < W.heap.size)) true 67 v1 d1 _ := fun W' bel => RowKit.Below.trod (by kernel_rfl) (by kernel_rfl) (of_decide_eq_true (by kernel_rfl)) h1 bel (h1.elim fun n hn x hx => DataW.trod_lt n _ _ _ hn x hx)
  obtain ⟨r0, r1, rd0, rd1, rp0, rp1, rfl, w0, w1, t0, t1⟩ := open_two Tryz.underlying26 (by kernel_rfl) (by kernel_rfl) rfl rfl (by kernel_rfl) (by kernel_rfl) Tryz.underlying23 Tryz.underlying24 hv0 h0
  obtain ⟨lA, avA, pA, okA, tvA, obA, vrA⟩ := arg_row (f := uRow) (ok := fun s => s < 2 ^ 64) (ks := [.i .u64]) (d := 2) 12 6 (err_cells hL1 ⟨_, _, List.mem_of_getElem? (i := 6) rfl⟩) Tryz.underlying23 (by kernel_rfl) (by kernel_rfl) (by decide) u64_ty uRow_flat w0 t0
  obtain ⟨lB, avB, pB, okB, tvB, obB, vrB⟩ := arg_row (f := enRow) (ok := fun _ => True) (ks := [.s, .i .i64]) (d := 2) 13 6 (err_cells hL1 ⟨_, _, List.mem_of_getElem? (i := 6) rfl⟩) Tryz.underlying24 (by kernel_rfl) (by kernel_rfl) (by decide) en_ty enRow_flat w1 t1
  obtain ⟨lC, avC, pC, okC, tvC, obC, vrC⟩ := arg_row (f := stepRow) (ok := fun _ => True) (ks := [.b, .i .i64, .b, .i .i64, .i .i64]) (d := 2) 14 6 (err_cells hL1 ⟨_, _, List.mem_of_getElem? (i := 6) rfl⟩) Tryz.underlying67 (by kernel_rfl) (by kernel_rfl) (by decide) step_ty stepRow_flat hv1 h1
  clear hA0 hval0
  refine (walk W okA tvA obA vrA okB tvB obB vrB okC tvC obC vrC hL).mono fun e W' ⟨he, bel⟩ => ?_
  subst he
  exact ⟨_, rfl, _, _, _, [], _, [], hW', trodAll_mk1 (shut_bool Tryz.underlying4 _), trodAll_mk2 (ag0 _ bel) (ag1 _ bel), rfl, bel.frame _, fun h => by cases h⟩
theorem holds : Rows.UseqRunsSaid :=
  OpenClaim.holds_of_wide 10 Tryz.f10 rfl rfl rfl rfl rfl rfl rfl ⟨rfl, rfl, rfl, rfl, rfl⟩ rfl rfl rfl rfl rfl (by kernel_rfl) Tryz.func10 joined
    (of_decide_eq_true (by kernel_rfl)) (by unfold Func.isWrapper; first | (rw [if_pos (by decide +kernel)]; kernel_rfl) | (rw [if_neg (by decide +kernel)]; exact ⟨rfl, rfl⟩))
    (fun os started H enc _ => lifted os started H enc)
theorem card_holds : Rows.UseqRunsCardSaid :=
  Claim7.holds_tied_plain_at .later [] [.data, .data, .data, .data, .widerDeep, .sentinel, .sentinel, .listed, .data, .pinned] true (true, "da1f23d6cce7c2e8c503d476b67a27e93900f45ef63ef4c73eb5b416e1a20df6") true holds (fun _ h => by cases h) (by kernel_rfl) (fun _ h => by cases h) useqRuns_row_tie rfl ⟨rfl, rfl⟩ (by kernel_rfl) rfl
    (fun f fn hf hfn => by
      obtain rfl : f = 10 := Option.some.inj ((show Tryz.prog.funcNamed "camshaft/camshaftlaw23.UseqRuns" = some 10 by kernel_rfl).symm.trans hf) |>.symm
      obtain rfl : fn = Tryz.f10 := (Option.some.inj (Tryz.func10.symm.trans hfn)).symm
      exact ⟨by kernel_rfl, fun j t ht => by
        rw [Tryz.params10] at ht
        have hm : t ∈ [26, 67] := by simpa using Array.mem_of_getElem? ht
        have hall : ([26, 67].all fun u => !Tryz.prog.wantsStandIn u) = true := by kernel_rfl
        exact (show Tryz.prog.wantsStandIn t = false by simpa using List.all_eq_true.1 hall t hm)⟩)
    (by kernel_rfl)
end Go.Proofs.YtifploedaacedaaGreatDoor.useqRuns
namespace Go.Proofs.YtifploedaacedaaGreatDoor
/-- The card, under a short name, for the claim. -/
theorem useqRuns_card : Rows.UseqRunsCardSaid := useqRuns.card_holds
#print axioms useqRuns_card
end Go.Proofs.YtifploedaacedaaGreatDoor
