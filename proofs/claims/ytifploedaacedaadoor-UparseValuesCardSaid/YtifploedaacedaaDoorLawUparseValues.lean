/- UparseValues: the row and the card. Printed by lawrow.py. -/
import Derived.Test.YtifploedaacedaaDoorCards
import Derived.Test.YtifploedaacedaaDoorTie
import Derived.Test.YtifploedaacedaaDoorPVD
import Derived.Test.YtifploedaacedaaDoorLawUparseValuesJ
import Derived.ProofKit
import Derived.OpenShut
import Derived.LaidMore
import Derived.Lay
import Derived.SevenTiedAt
import Derived.Stop.Joined
import Derived.LaidLaws
import Derived.LaidHandle
import Derived.ChangeOld
import Derived.Below
import Derived.SizedLaws
import Derived.ChangeVars
import Derived.JoinedOf
import Derived.RowKit
import Derived.RowKitTokens
import Derived.WalkKit
import Derived.ShutString
import Derived.Carry
namespace Go.Proofs.YtifploedaacedaaDoor.uparseValues
open Go.ChangeMaps (open_string shut_string)
open Go Go.ChangeShapes Go.WideShapes Go.ChangeAt Go.RowKit Go.E Go.Proofs.YtifploedaacedaaDoorE
set_option maxRecDepth 100000
set_option linter.unusedVariables false
theorem own : ownKnob Tryd.prog.godebug = none := by kernel_rfl
theorem walk (W : World) (s0 : ByteArray) (w0 : s0.size ≤ 9223372036854775807) {l1 : List (ByteArray)} (ok1 : ∀ s ∈ l1, (fun s => s.size ≤ 9223372036854775807) s) {av1 v1 : Value} {p1 : Pl} (tv1 : Tv 12 l1.length av1) (ob1 : ∃ obj, W.heap[p1.b]? = some obj ∧ ∀ [Sym] (β : Emb), OR β p1 obj (.table (l1.flatMap strRow))) (vr1 : ∀ [Sym] (β : Emb), β 12 = some p1 → VR β av1 v1) {l2 : List (Int)} (ok2 : ∀ s ∈ l2, (fun _ => True) s) {av2 v2 : Value} {p2 : Pl} (tv2 : Tv 13 l2.length av2) (ob2 : ∃ obj, W.heap[p2.b]? = some obj ∧ ∀ [Sym] (β : Emb), OR β p2 obj (.table (l2.flatMap intRow))) (vr2 : ∀ [Sym] (β : Emb), β 13 = some p2 → VR β av2 v2) (h : laidMetH Tryd.prog Rows.uparseValuesRow.laid W) : Calls Tryd.prog 4 #[.string s0, v1, v2] W fun e W' => e = .returned (.bool true) ∧ RowKit.Below W.heap.size W W' := by
  rw [MakeChecks.laidMetH_plain _ _ _ (by kernel_rfl)] at h
  exact law_at2 (show Lk0.func 4 = some (4, Tryd.f4) by kernel_rfl) h ⟨_, _, List.mem_of_getElem? (i := 5) rfl⟩ ⟨_, _, List.mem_of_getElem? (i := 4) rfl⟩
    ob1 ob2 (args := [.string s0, av1, av2]) (args' := [.string s0, v1, v2]) (fun β b1 b2 => .cons (.string _) (.cons (vr1 β b1) (.cons (vr2 β b2) (.nil)))) (fun {_} => uparseValues_ok (gdP _ _) (Nat.le_refl _) s0 w0 l1 l2 ok1 av1 av2 (tv1.rg strRow_len (stP_F _ _) (by show 12 < 12 + 2; omega)) (tv2.rg intRow_len (stP_G _ _) (by show 13 < 12 + 2; omega)))
theorem lifted (os : Os) (started : os.Started) (H : Type) (enc : TypeId × Value → H) :
    ReturnsInHanded {} Tryd.checked os 4 .any (fun w args => (Rows.uparseValuesSpec.pre enc Tryd.prog Tryd.f4 [] false w args ∧ laidMetH Tryd.prog Rows.uparseValuesRow.laid w) ∧ sizedMet enc Tryd.prog Tryd.f4 (OpenSpec.ofChange Rows.uparseValuesSpec) false w args)
      (Rows.uparseValuesSpec.post enc Tryd.prog Tryd.f4 false true false false) := by
  refine returnsInHanded_of_change_and (C := Tryd.checked) (X := fun w _ => laidMetH Tryd.prog Rows.uparseValuesRow.laid w) (fun _ _ _ hh h => h.of_heap hh) own started (by kernel_rfl) Tryd.func4
    (ChangeSpec.witness_shaped (enc := enc) (C := Tryd.checked) (os := os) (X := fun w _ => laidMetH Tryd.prog Rows.uparseValuesRow.laid w) false (World.laidAll Tryd.prog os Rows.uparseValuesRow.laid) #[.string ByteArray.empty, .slice none 0 0, .slice none 0 0] 8 (World.laidAll_os _ _ _)
      (World.shaped_of_ZipB (by kernel_rfl) (by kernel_rfl)) (by kernel_rfl) (by kernel_rfl) (by kernel_rfl)
      (by rw [MakeChecks.laidMetH_plain _ _ _ (by kernel_rfl)]; exact laidMet_laidAll _ (by kernel_rfl) (by kernel_rfl))) ?_
  intro W base args ds gs before hval0 hW _ _ hL _
  have hval : ∀ (j : Nat) t v, Tryd.f4.params[j]? = some t → args[j]? = some v → Value.okWide Tryd.prog W .any base t v := hval0
  have hW' := hW
  obtain ⟨p, q, hA0, hV, rfl, hfz, hnd⟩ := hW
  have hA : DataW.TrodAll enc Tryd.prog W 0 (fun _ => true) true Tryd.f4.params.toList args.toList ds p := hA0
  rw [Tryd.params4] at hA hval
  obtain ⟨v0, v1, v2, d0, d1, d2, _, _, _, rfl, rfl, rfl, h0, h1, h2⟩ := trodAll_three hA
  obtain ⟨rfl, rfl⟩ := trodVars_none hV
  have hL1 := hL
  rw [MakeChecks.laidMetH_plain _ _ _ (by kernel_rfl)] at hL1
  obtain ⟨s0, rfl, rfl, rfl, wn0⟩ := open_string Tryd.underlying9 (hval 0 9 v0 rfl rfl) h0
  obtain ⟨l1, av1, p1, ok1, tv1, ob1, vr1⟩ := arg_row (f := strRow) (ok := fun s => s.size ≤ 9223372036854775807) (ks := [.s]) (d := 2) 12 4 (err_cells hL1 ⟨_, _, List.mem_of_getElem? (i := 5) rfl⟩) Tryd.underlying22 (by kernel_rfl) (by kernel_rfl) (by decide) strs_ty (fun _ => by first | rfl | exact flat_i _) (hval 1 22 v1 rfl rfl) h1
  have ag1 : ∀ W', RowKit.Below W.heap.size W W' → DataW.Trod enc Tryd.prog W' 0 (fun b => decide (b < W.heap.size)) true 22 v1 d1 _ := fun W' bel => RowKit.Below.trod (by kernel_rfl) (by kernel_rfl) (of_decide_eq_true (by kernel_rfl)) h1 bel (h1.elim fun n hn x hx => DataW.trod_lt n _ _ _ hn x hx)
  obtain ⟨l2, av2, p2, ok2, tv2, ob2, vr2⟩ := arg_row (f := intRow) (ok := fun _ => True) (ks := [.i .i64]) (d := 2) 13 4 (err_cells hL1 ⟨_, _, List.mem_of_getElem? (i := 5) rfl⟩) Tryd.underlying23 (by kernel_rfl) (by kernel_rfl) (by decide) ints_ty (fun _ => by first | rfl | exact flat_i _) (hval 2 23 v2 rfl rfl) h2
  have ag2 : ∀ W', RowKit.Below W.heap.size W W' → DataW.Trod enc Tryd.prog W' 0 (fun b => decide (b < W.heap.size)) true 23 v2 d2 _ := fun W' bel => RowKit.Below.trod (by kernel_rfl) (by kernel_rfl) (of_decide_eq_true (by kernel_rfl)) h2 bel (h2.elim fun n hn x hx => DataW.trod_lt n _ _ _ hn x hx)
  clear hA0 hval0
  refine (walk W s0 wn0 ok1 tv1 ob1 vr1 ok2 tv2 ob2 vr2 hL).mono fun e W' ⟨he, bel⟩ => ?_
  subst he
  exact ⟨_, rfl, _, _, _, [], _, [], hW', trodAll_mk1 (shut_bool Tryd.underlying4 _), trodAll_mk3 (shut_string Tryd.underlying9 wn0) (ag1 _ bel) (ag2 _ bel), rfl, bel.frame _, fun h => by cases h⟩
theorem holds : Rows.UparseValuesSaid :=
  OpenClaim.holds_of_wide 4 Tryd.f4 rfl rfl rfl rfl rfl rfl rfl ⟨rfl, rfl, rfl, rfl, rfl⟩ rfl rfl rfl rfl rfl (by kernel_rfl) Tryd.func4 joined
    (of_decide_eq_true (by kernel_rfl)) (by unfold Func.isWrapper; first | (rw [if_pos (by decide +kernel)]; kernel_rfl) | (rw [if_neg (by decide +kernel)]; exact ⟨rfl, rfl⟩))
    (fun os started H enc _ => lifted os started H enc)
theorem card_holds : Rows.UparseValuesCardSaid :=
  Claim7.holds_tied_plain_at .later [] [.data, .data, .data, .data, .sentinel, .sentinel, .pinned] true (true, "c9e2bc1dee1c0bbcd4a19afaf68552777561d7c0bd16630976dda804a353174f") true holds (fun _ h => by cases h) (by kernel_rfl) (fun _ h => by cases h) uparseValues_row_tie rfl ⟨rfl, rfl⟩ (by kernel_rfl) rfl
    (fun f fn hf hfn => by
      obtain rfl : f = 4 := Option.some.inj ((show Tryd.prog.funcNamed "camshaft/camshaftlaw16.UparseValues" = some 4 by kernel_rfl).symm.trans hf) |>.symm
      obtain rfl : fn = Tryd.f4 := (Option.some.inj (Tryd.func4.symm.trans hfn)).symm
      exact ⟨by kernel_rfl, fun j t ht => by
        rw [Tryd.params4] at ht
        have hm : t ∈ [9, 22, 23] := by simpa using Array.mem_of_getElem? ht
        have hall : ([9, 22, 23].all fun u => !Tryd.prog.wantsStandIn u) = true := by kernel_rfl
        exact (show Tryd.prog.wantsStandIn t = false by simpa using List.all_eq_true.1 hall t hm)⟩)
    (by kernel_rfl)
end Go.Proofs.YtifploedaacedaaDoor.uparseValues
namespace Go.Proofs.YtifploedaacedaaDoor
/-- The card, under a short name, for the claim. -/
theorem uparseValues_card : Rows.UparseValuesCardSaid := uparseValues.card_holds
#print axioms uparseValues_card
end Go.Proofs.YtifploedaacedaaDoor
