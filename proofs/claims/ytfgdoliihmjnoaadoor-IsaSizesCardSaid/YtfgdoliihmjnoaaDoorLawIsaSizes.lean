/- IsaSizes: the row and the card, out of the closed runs. Printed by mkrow10.py. -/
import Derived.Test.YtfgdoliihmjnoaaDoorCards
import Derived.Test.YtfgdoliihmjnoaaDoorTie
import Derived.Test.YtfgdoliihmjnoaaDoorERs0
import Derived.Test.YtfgdoliihmjnoaaDoorERs1
import Derived.ProofKit
import Derived.OpenShut
import Derived.LaidMore
import Derived.Lay
import Derived.SevenTiedAt
import Derived.Stop.Joined
import Derived.LaidLaws
import Derived.LaidHandle
import Derived.ChangeOld
import Derived.Below
import Derived.SizedLaws
import Derived.ChangeVars
import Derived.JoinedOf
import Derived.RowKit
import Derived.RowKitTokens
import Derived.WalkKit
import Derived.ShutString
namespace Go.Proofs.YtfgdoliihmjnoaaDoor.isaSizes
open Go Go.ChangeShapes Go.WideShapes Go.ChangeAt Go.RowKit Go.E Go.Proofs.YtfgdoliihmjnoaaDoorE
set_option maxRecDepth 100000
set_option linter.unusedVariables false
theorem own : ownKnob Tryd.prog.godebug = none := by kernel_rfl
theorem neg (n : Nat) : okTrue (runF Tryd.prog Lk0 300 4 [.int .i64 (.negSucc n)] st0) = true := by kernel_rfl
theorem big (n : Nat) : okTrue (runF Tryd.prog Lk0 300 4 [.int .i64 (.ofNat (n + 24))] st0) = true := by kernel_rfl
theorem run (low : Int) : ∃ n st', runE Tryd.prog Lk0 n 4 [.int .i64 low] st0 = some (.bool true, st') ∧ st'.log = [] := by
  have key : ∀ n v, okTrue (runF Tryd.prog Lk0 n 4 [.int .i64 v] st0) = true → ∃ n st', runE Tryd.prog Lk0 n 4 [.int .i64 v] st0 = some (.bool true, st') ∧ st'.log = [] := fun n v h => by
    obtain ⟨st', h1, h2⟩ := okTrue_some h
    exact ⟨n, st', runF_le Lk0_ok h1, h2⟩
  cases low with
  | negSucc n => exact key _ _ (neg n)
  | ofNat m =>
    match m with
    | 0 => exact key _ _ sz0
    | 1 => exact key _ _ sz1
    | 2 => exact key _ _ sz2
    | 3 => exact key _ _ sz3
    | 4 => exact key _ _ sz4
    | 5 => exact key _ _ sz5
    | 6 => exact key _ _ sz6
    | 7 => exact key _ _ sz7
    | 8 => exact key _ _ sz8
    | 9 => exact key _ _ sz9
    | 10 => exact key _ _ sz10
    | 11 => exact key _ _ sz11
    | 12 => exact key _ _ sz12
    | 13 => exact key _ _ sz13
    | 14 => exact key _ _ sz14
    | 15 => exact key _ _ sz15
    | 16 => exact key _ _ sz16
    | 17 => exact key _ _ sz17
    | 18 => exact key _ _ sz18
    | 19 => exact key _ _ sz19
    | 20 => exact key _ _ sz20
    | 21 => exact key _ _ sz21
    | 22 => exact key _ _ sz22
    | 23 => exact key _ _ sz23
    | n + 24 => exact key _ _ (big n)

theorem table {W : World} (h : laidMetH Tryd.prog Rows.isaSizesRow.laid W) : ∃ obj, W.heap[0]? = some obj ∧ ∀ β, OR β ⟨0, 0, 0, 0⟩ obj (.table (space.map (Value.int .u8))) := by
  rw [MakeChecks.laidMetH_plain _ _ _ (by kernel_rfl)] at h
  exact laid_ints h (n := "strings.asciiSpace") (ds := space.map fun m => .lit (.int .u8 m)) (List.mem_cons_of_mem _ (List.mem_cons_of_mem _ (List.mem_cons_self ..))) (g := 0) (t := 92) (e := 5) (k := 256) (by kernel_rfl) (by kernel_rfl) Tryd.underlying92 Tryd.underlying5 (by kernel_rfl) space rfl
theorem walk (low : Int) (W : World) (h : laidMetH Tryd.prog Rows.isaSizesRow.laid W) : Calls Tryd.prog 4 #[.int .i64 low] W fun e W' => e = .returned (.bool true) ∧ RowKit.Below W.heap.size W W' := by
  obtain ⟨n, st', h1, h2⟩ := run low
  obtain ⟨obj, h3, h4⟩ := table h
  have h5 : Lk0.func 4 = some (4, Tryd.f4) := by kernel_rfl
  exact law_calls Lk0_ok h5 (l := tab0) (nx := 20) h1 rfl h2 (fun x hx => by simp at hx; subst hx; rfl) (fun x hx => by
    have : x = (0, .table (space.map (Value.int .u8))) := by simpa [tab0] using hx
    subst this
    exact ⟨obj, h3, h4 _⟩) (fun g hg => by
    have hg' : Nat.beq g 0 = true := hg
    have : g = 0 := Nat.eq_of_beq_eq_true hg'
    subst this; simp [tab0]) (fun x hx => by
    have : x = (0, .table (space.map (Value.int .u8))) := by simpa [tab0] using hx
    subst this; decide)

theorem lifted (os : Os) (started : os.Started) (H : Type) (enc : TypeId × Value → H) :
    ReturnsInHanded {} Tryd.checked os 4 .any (fun w args => (Rows.isaSizesSpec.pre enc Tryd.prog Tryd.f4 [] false w args ∧ laidMetH Tryd.prog Rows.isaSizesRow.laid w) ∧ sizedMet enc Tryd.prog Tryd.f4 (OpenSpec.ofChange Rows.isaSizesSpec) false w args)
      (Rows.isaSizesSpec.post enc Tryd.prog Tryd.f4 false true false false) := by
  refine returnsInHanded_of_change_and (C := Tryd.checked) (X := fun w _ => laidMetH Tryd.prog Rows.isaSizesRow.laid w) (fun _ _ _ hh h => h.of_heap hh) own started (by kernel_rfl) Tryd.func4
    (ChangeSpec.witness_shaped (enc := enc) (C := Tryd.checked) (os := os) (X := fun w _ => laidMetH Tryd.prog Rows.isaSizesRow.laid w) false (World.laidAll Tryd.prog os Rows.isaSizesRow.laid) #[.int .i64 0] 8 (World.laidAll_os _ _ _)
      (World.shaped_of_ZipB (by kernel_rfl) (by kernel_rfl)) (by kernel_rfl) (by kernel_rfl) (by kernel_rfl)
      (by rw [MakeChecks.laidMetH_plain _ _ _ (by kernel_rfl)]; exact laidMet_laidAll _ (by kernel_rfl) (by kernel_rfl))) ?_
  intro W base args ds gs before hval0 hW _ _ hL _
  have hval : ∀ (j : Nat) t v, Tryd.f4.params[j]? = some t → args[j]? = some v → Value.okWide Tryd.prog W .any base t v := hval0
  have hW' := hW
  obtain ⟨p, q, hA0, hV, rfl, hfz, hnd⟩ := hW
  have hA : DataW.TrodAll enc Tryd.prog W 0 (fun _ => true) true Tryd.f4.params.toList args.toList ds p := hA0
  rw [Tryd.params4] at hA hval
  obtain ⟨v0, d0, rfl, rfl, h0⟩ := trodAll_one hA
  obtain ⟨rfl, rfl⟩ := trodVars_none hV
  obtain ⟨n, rfl, rfl, rfl, wn⟩ := open_int Tryd.underlying3 (hval 0 3 v0 rfl rfl) h0
  clear hA0 hval0
  refine (walk n W hL).mono fun e W' ⟨he, bel⟩ => ?_
  subst he
  exact ⟨_, rfl, _, _, _, [], _, [], hW', trodAll_mk1 (shut_bool Tryd.underlying4 _), trodAll_mk1 (shut_int Tryd.underlying3 wn), rfl, bel.frame _, fun h => by cases h⟩
theorem holds : Rows.IsaSizesSaid :=
  OpenClaim.holds_of_wide 4 Tryd.f4 rfl rfl rfl rfl rfl rfl rfl ⟨rfl, rfl, rfl, rfl, rfl⟩ rfl rfl rfl rfl rfl (by kernel_rfl) Tryd.func4 (by kernel_rfl)
    (of_decide_eq_true (by kernel_rfl)) (by unfold Func.isWrapper; first | (rw [if_pos (by decide +kernel)]; kernel_rfl) | (rw [if_neg (by decide +kernel)]; exact ⟨rfl, rfl⟩))
    (fun os started H enc _ => lifted os started H enc)
theorem card_holds : Rows.IsaSizesCardSaid :=
  Claim7.holds_tied_plain_at .later [] [.data, .listed, .data, .pinned, .pinned] true (true, "1e1e248acc660a677998e05a53df8622417f417e7bf64ebac2106d3cebcb75fa") true holds (fun _ h => by cases h) (by kernel_rfl) (fun _ h => by cases h) isaSizes_row_tie rfl ⟨rfl, rfl⟩ (by kernel_rfl) rfl
    (fun f fn hf hfn => by
      obtain rfl : f = 4 := Option.some.inj ((show Tryd.prog.funcNamed "camshaft/camshaftlaw10.IsaSizes" = some 4 by kernel_rfl).symm.trans hf) |>.symm
      obtain rfl : fn = Tryd.f4 := (Option.some.inj (Tryd.func4.symm.trans hfn)).symm
      exact ⟨by kernel_rfl, fun j t ht => by
        rw [Tryd.params4] at ht
        have hm : t ∈ [3] := by simpa using Array.mem_of_getElem? ht
        have hall : ([3].all fun u => !Tryd.prog.wantsStandIn u) = true := by kernel_rfl
        exact (show Tryd.prog.wantsStandIn t = false by simpa using List.all_eq_true.1 hall t hm)⟩)
    (by kernel_rfl)
#print axioms card_holds
end Go.Proofs.YtfgdoliihmjnoaaDoor.isaSizes
namespace Go.Proofs.YtfgdoliihmjnoaaDoor
/-- The card, under a short name, for the claim. -/
theorem isaSizes_card : Rows.IsaSizesCardSaid := isaSizes.card_holds
end Go.Proofs.YtfgdoliihmjnoaaDoor
