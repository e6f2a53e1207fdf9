/- IsaFinds: the row and the card, out of the closed runs. Printed by mkrow10.py. -/
import Derived.Test.YtfgdoliihmjnoaaDoorCards
import Derived.Test.YtfgdoliihmjnoaaDoorTie
import Derived.Test.YtfgdoliihmjnoaaDoorERg0
import Derived.Test.YtfgdoliihmjnoaaDoorERg1
import Derived.Test.YtfgdoliihmjnoaaDoorERg2
import Derived.Test.YtfgdoliihmjnoaaDoorERg3
import Derived.Test.YtfgdoliihmjnoaaDoorERg4
import Derived.Test.YtfgdoliihmjnoaaDoorERg5
import Derived.ProofKit
import Derived.OpenShut
import Derived.LaidMore
import Derived.Lay
import Derived.SevenTiedAt
import Derived.Stop.Joined
import Derived.LaidLaws
import Derived.LaidHandle
import Derived.ChangeOld
import Derived.Below
import Derived.SizedLaws
import Derived.ChangeVars
import Derived.JoinedOf
import Derived.RowKit
import Derived.RowKitTokens
import Derived.WalkKit
import Derived.ShutString
namespace Go.Proofs.YtfgdoliihmjnoaaDoor.isaFinds
open Go.ChangeMaps (open_string shut_string)
open Go Go.ChangeShapes Go.WideShapes Go.ChangeAt Go.RowKit Go.E Go.Proofs.YtfgdoliihmjnoaaDoorE
set_option maxRecDepth 100000
set_option linter.unusedVariables false
theorem own : ownKnob Tryd.prog.godebug = none := by kernel_rfl
abbrev symI0 : Sym := ⟨fun _ => .int .i64 0, fun _ => .inl ⟨_, _, rfl⟩⟩
theorem named : AllN (fun l => okTrue (runF Tryd.prog LkF 900 12 [.string ⟨⟨l⟩⟩] st0) = true) namesL := ⟨fnd0, fnd1, fnd2, fnd3, fnd4, fnd5, fnd6, fnd7, fnd8, fnd9, fnd10, fnd11, fnd12, fnd13, fnd14, fnd15, fnd16, fnd17, fnd18, fnd19, fnd20, fnd21, fnd22, fnd23, fnd24, fnd25, fnd26, fnd27, fnd28, fnd29, fnd30, fnd31, fnd32, fnd33, fnd34, fnd35, fnd36, fnd37, fnd38, fnd39, fnd40, fnd41, fnd42, fnd43, fnd44, fnd45, fnd46, fnd47, fnd48, fnd49, fnd50, fnd51, fnd52, fnd53, fnd54, fnd55, fnd56, fnd57, fnd58, fnd59, fnd60, fnd61, fnd62, fnd63, fnd64, fnd65, fnd66, fnd67, fnd68, fnd69, fnd70, fnd71, fnd72, fnd73, fnd74, fnd75, fnd76, fnd77, fnd78, fnd79, fnd80, fnd81, fnd82, fnd83, fnd84, fnd85, fnd86, fnd87, fnd88, fnd89, fnd90, fnd91, fnd92, fnd93, fnd94, fnd95, fnd96, fnd97, fnd98, fnd99, fnd100, fnd101, fnd102, fnd103, fnd104, fnd105, fnd106, fnd107, fnd108, fnd109, fnd110, fnd111, fnd112, fnd113, fnd114, fnd115, fnd116, fnd117, fnd118, fnd119, fnd120, fnd121, fnd122, fnd123, fnd124, fnd125, fnd126, fnd127, fnd128, fnd129, fnd130, fnd131, fnd132, fnd133, fnd134, fnd135, fnd136, fnd137, fnd138, trivial⟩
theorem table [Sym] {W : World} (h : laidMetH Tryd.prog Rows.isaFindsRow.laid W) : ∃ obj, W.heap[0]? = some obj ∧ ∀ β, OR β ⟨0, 0, 0, 0⟩ obj (.table (space.map (Value.int .u8))) := by
  rw [MakeChecks.laidMetH_plain _ _ _ (by kernel_rfl)] at h
  exact laid_ints h (n := "strings.asciiSpace") (ds := space.map fun m => .lit (.int .u8 m)) (List.mem_cons_of_mem _ (List.mem_cons_of_mem _ (List.mem_cons_self ..))) (g := 0) (t := 92) (e := 5) (k := 256) (by kernel_rfl) (by kernel_rfl) Tryd.underlying92 Tryd.underlying5 (by kernel_rfl) space rfl
theorem walk (s : ByteArray) (W : World) (h : laidMetH Tryd.prog Rows.isaFindsRow.laid W) : Calls Tryd.prog 12 #[.string s] W fun e W' => e = .returned (.bool true) ∧ RowKit.Below W.heap.size W W' := by
  have hob : ∀ [Sym], ∀ x ∈ tab0, ∃ obj, W.heap[x.1]? = some obj ∧ OR (startB tab0) ⟨x.1, 0, 0, 0⟩ obj x.2 := fun {_} x hx => by
    obtain ⟨obj, h3, h4⟩ := table h
    have : x = (0, .table (space.map (Value.int .u8))) := by simpa [tab0] using hx
    subst this
    exact ⟨obj, h3, h4 _⟩
  by_cases hn : inN s = true
  · letI : Sym := symI0
    have hn' := hn
    unfold inN at hn'
    obtain ⟨l, hl, he⟩ := List.any_eq_true.1 hn'
    have es : s = ⟨⟨l⟩⟩ := by
      have e := eqB_eq _ _ he
      cases s with
      | mk d => cases d with
        | mk r => simp only at e; rw [e]
    subst es
    obtain ⟨st', h1, h2⟩ := okTrue_some (named.get _ l hl)
    exact law_calls LkF_ok conF_ok (show LkF.func 12 = some (12, Tryd.f12) by kernel_rfl) (l := tab0) (nx := 20) (args := [.string ⟨⟨l⟩⟩]) (runF_le LkF_ok h1) rfl h2 (fun x hx => by simp at hx; subst hx; rfl) hob globIn (tabLt (by decide))
  · have hs : inN s = false := by simpa using hn
    letI : Sym := symS s
    have hv : VR (startB tab0) (.map (some 0)) (.string s) := VR.sym 0
    have fin : ∀ b st', (LkS b).Ok Tryd.prog → runE Tryd.prog (LkS b) 900 12 [.map (some 0)] st0 = some (.bool true, st') → st'.log = [] → Calls Tryd.prog 12 #[.string s] W fun e W' => e = .returned (.bool true) ∧ RowKit.Below W.heap.size W W' := fun b st' hok h1 h2 =>
      law_calls' hok (LkS_con b) (show (LkS b).func 12 = some (12, Tryd.f12) by kernel_rfl) (l := tab0) (nx := 20) (args' := [.string s]) h1 rfl h2 (VRs.cons hv VRs.nil) hob globIn (tabLt (by decide))
    by_cases hl : s.size ≤ 256
    · have hok : (LkS true).Ok Tryd.prog := LkS_ok hs (by simp [hl])
      obtain ⟨st', h1, h2⟩ := okTrue_some fnd_short
      exact fin true st' hok (runF_le hok h1) h2
    · have hok : (LkS false).Ok Tryd.prog := LkS_ok hs (by simp [hl])
      obtain ⟨st', h1, h2⟩ := okTrue_some fnd_long
      exact fin false st' hok (runF_le hok h1) h2

theorem lifted (os : Os) (started : os.Started) (H : Type) (enc : TypeId × Value → H) :
    ReturnsInHanded {} Tryd.checked os 12 .any (fun w args => (Rows.isaFindsSpec.pre enc Tryd.prog Tryd.f12 [] false w args ∧ laidMetH Tryd.prog Rows.isaFindsRow.laid w) ∧ sizedMet enc Tryd.prog Tryd.f12 (OpenSpec.ofChange Rows.isaFindsSpec) false w args)
      (Rows.isaFindsSpec.post enc Tryd.prog Tryd.f12 false true false false) := by
  refine returnsInHanded_of_change_and (C := Tryd.checked) (X := fun w _ => laidMetH Tryd.prog Rows.isaFindsRow.laid w) (fun _ _ _ hh h => h.of_heap hh) own started (by kernel_rfl) Tryd.func12
    (ChangeSpec.witness_shaped (enc := enc) (C := Tryd.checked) (os := os) (X := fun w _ => laidMetH Tryd.prog Rows.isaFindsRow.laid w) false (World.laidAll Tryd.prog os Rows.isaFindsRow.laid) #[.string ByteArray.empty] 8 (World.laidAll_os _ _ _)
      (World.shaped_of_ZipB (by kernel_rfl) (by kernel_rfl)) (by kernel_rfl) (by kernel_rfl) (by kernel_rfl)
      (by rw [MakeChecks.laidMetH_plain _ _ _ (by kernel_rfl)]; exact laidMet_laidAll _ (by kernel_rfl) (by kernel_rfl))) ?_
  intro W base args ds gs before hval0 hW _ _ hL _
  have hval : ∀ (j : Nat) t v, Tryd.f12.params[j]? = some t → args[j]? = some v → Value.okWide Tryd.prog W .any base t v := hval0
  have hW' := hW
  obtain ⟨p, q, hA0, hV, rfl, hfz, hnd⟩ := hW
  have hA : DataW.TrodAll enc Tryd.prog W 0 (fun _ => true) true Tryd.f12.params.toList args.toList ds p := hA0
  rw [Tryd.params12] at hA hval
  obtain ⟨v0, d0, rfl, rfl, h0⟩ := trodAll_one hA
  obtain ⟨rfl, rfl⟩ := trodVars_none hV
  obtain ⟨n, rfl, rfl, rfl, wn⟩ := open_string Tryd.underlying9 (hval 0 9 v0 rfl rfl) h0
  clear hA0 hval0
  refine (walk n W hL).mono fun e W' ⟨he, bel⟩ => ?_
  subst he
  exact ⟨_, rfl, _, _, _, [], _, [], hW', trodAll_mk1 (shut_bool Tryd.underlying4 _), trodAll_mk1 (shut_string Tryd.underlying9 wn), rfl, bel.frame _, fun h => by cases h⟩
theorem holds : Rows.IsaFindsSaid :=
  OpenClaim.holds_of_wide 12 Tryd.f12 rfl rfl rfl rfl rfl rfl rfl ⟨rfl, rfl, rfl, rfl, rfl⟩ rfl rfl rfl rfl rfl (by kernel_rfl) Tryd.func12 (by kernel_rfl)
    (of_decide_eq_true (by kernel_rfl)) (by unfold Func.isWrapper; first | (rw [if_pos (by decide +kernel)]; kernel_rfl) | (rw [if_neg (by decide +kernel)]; exact ⟨rfl, rfl⟩))
    (fun os started H enc _ => lifted os started H enc)
theorem card_holds : Rows.IsaFindsCardSaid :=
  Claim7.holds_tied_plain_at .later [] [.data, .listed, .data, .pinned, .pinned] true (true, "1e1e248acc660a677998e05a53df8622417f417e7bf64ebac2106d3cebcb75fa") true holds (fun _ h => by cases h) (by kernel_rfl) (fun _ h => by cases h) isaFinds_row_tie rfl ⟨rfl, rfl⟩ (by kernel_rfl) rfl
    (fun f fn hf hfn => by
      obtain rfl : f = 12 := Option.some.inj ((show Tryd.prog.funcNamed "camshaft/camshaftlaw10.IsaFinds" = some 12 by kernel_rfl).symm.trans hf) |>.symm
      obtain rfl : fn = Tryd.f12 := (Option.some.inj (Tryd.func12.symm.trans hfn)).symm
      exact ⟨by kernel_rfl, fun j t ht => by
        rw [Tryd.params12] at ht
        have hm : t ∈ [9] := by simpa using Array.mem_of_getElem? ht
        have hall : ([9].all fun u => !Tryd.prog.wantsStandIn u) = true := by kernel_rfl
        exact (show Tryd.prog.wantsStandIn t = false by simpa using List.all_eq_true.1 hall t hm)⟩)
    (by kernel_rfl)
#print axioms card_holds
end Go.Proofs.YtfgdoliihmjnoaaDoor.isaFinds
namespace Go.Proofs.YtfgdoliihmjnoaaDoor
/-- The card, under a short name, for the claim. -/
theorem isaFinds_card : Rows.IsaFindsCardSaid := isaFinds.card_holds
end Go.Proofs.YtfgdoliihmjnoaaDoor
