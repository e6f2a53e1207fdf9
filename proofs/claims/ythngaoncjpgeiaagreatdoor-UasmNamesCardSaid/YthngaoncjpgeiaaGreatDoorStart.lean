/- The start of a law. -/
import Derived.Test.YthngaoncjpgeiaaGreatDoorLex8a
import Derived.Test.YthngaoncjpgeiaaGreatDoorT3
set_option linter.unusedVariables false
set_option linter.unusedSimpArgs false
namespace Go.Proofs.YthngaoncjpgeiaaGreatDoorE
open Go Go.E Go.Proofs
noncomputable def tab0 : List (Nat × AObj) := [(9, .table [.chan (some 9)]), (10, .table [.chan (some 10)]), (0, .table fieldsC), (1, .table asciiC)]
noncomputable def st0 : SS := ⟨tabM tab0, 12, 12⟩
theorem gd0 : Gd st0 := ⟨by simp [st0, tabM, tab0, PT.get_upd], by simp [st0, tabM, tab0, PT.get_upd], by simp [st0, tabM, tab0, PT.get_upd], by simp [st0, tabM, tab0, PT.get_upd], Nat.le_refl _⟩
theorem globIn : ∀ g, Lk0.glob g = true → g ∈ tab0.map (·.1) := fun g h => by
  have h' : (Nat.beq g 9 || Nat.beq g 10 || Nat.beq g 0 || Nat.beq g 1) = true := h
  simp only [Bool.or_eq_true, beq_dec, decide_eq_true_eq] at h'
  rcases h' with ((rfl | rfl) | rfl) | rfl <;> simp [tab0]
theorem tabLt : ∀ x ∈ tab0, x.1 < 12 := fun x hx => by
  simp only [tab0, List.mem_cons, List.not_mem_nil, or_false] at hx
  rcases hx with rfl | rfl | rfl | rfl <;> decide
abbrev symE (a4 : TypeId) (u4 : Value) (a5 : TypeId) (u5 : Value) : Sym where
  v i := if i = 9 then .iface a4 u4 else .iface a5 u5
  ok i := by
    refine .inr (.inr ?_)
    split <;> exact ⟨_, _, rfl⟩
abbrev laidF : DataW Unit := .agg ((wfields.map fun m => (m.1, (m.2 : Int))).map fun m => .agg [.lit (.string m.1), .lit (.int .i64 m.2)])
abbrev laidS : DataW Unit := .agg (Lib.asciiSpaceTab.map fun m => .lit (.int .u8 m))
/-- A law of this seat, at its start. -/
theorem law_at {f : Nat} {fn : Func} (hf : Lk0.func f = some (f, fn)) {W : World} {laid : List (String × DataW Unit)} (h : laidMet Tryz.prog laid W) (h4 : ∃ nm d, ("strconv.ErrSyntax", DataW.iface nm d) ∈ laid) (h5 : ∃ nm d, ("strconv.ErrRange", DataW.iface nm d) ∈ laid)
    (hF : ("camshaft/uword.fields", laidF) ∈ laid) (hS : ("strings.asciiSpace", laidS) ∈ laid)
    {args : List Value} (hargs : ∀ x ∈ args, flat3 x = true) (hlaw : ∀ [Sym], ∃ st', cc f args st0 = some (.bool true, st')) :
    Calls Tryz.prog f args.toArray W fun e W' => e = .returned (.bool true) ∧ RowKit.Below W.heap.size W W' := by
  obtain ⟨nm4, d4, m4⟩ := h4
  obtain ⟨nm5, d5, m5⟩ := h5
  obtain ⟨a4, u4, c4⟩ := laid_iface h m4 (g := 9) (t := 224) (by kernel_rfl) (by kernel_rfl) Tryz.underlying224
  obtain ⟨a5, u5, c5⟩ := laid_iface h m5 (g := 10) (t := 224) (by kernel_rfl) (by kernel_rfl) Tryz.underlying224
  letI : Sym := symE a4 u4 a5 u5
  have hE : ErrSym := ⟨⟨a4, u4, rfl⟩, ⟨a5, u5, rfl⟩⟩
  obtain ⟨oF, f1, f2⟩ := laid_pairs h hF (g := 0) (kk := .i64) (by kernel_rfl) (by kernel_rfl) Tryz.underlying132 Tryz.underlying131 (by kernel_rfl) rfl rfl rfl Tryz.underlying9 Tryz.underlying3 rfl rfl (by kernel_rfl) (by kernel_rfl) _ (by simp [wfields]) rfl
  obtain ⟨oS, s1, s2⟩ := laid_ints h hS (g := 1) (kk := .u8) (by kernel_rfl) (by kernel_rfl) Tryz.underlying188 Tryz.underlying5 (by kernel_rfl) _ rfl
  obtain ⟨st', hl⟩ := hlaw
  refine law_cS Lk0_ok (conF_ok hE) hf (l := tab0) (nx := 12) hl rfl hargs (fun x hx => ?_) globIn tabLt
  simp only [tab0, List.mem_cons, List.not_mem_nil, or_false] at hx
  rcases hx with rfl | rfl | rfl | rfl
  · exact table1 (i := 9) c4
  · exact table1 (i := 10) c5
  · exact ⟨oF, f1, f2 _⟩
  · exact ⟨oS, s1, s2 _⟩
end Go.Proofs.YthngaoncjpgeiaaGreatDoorE
