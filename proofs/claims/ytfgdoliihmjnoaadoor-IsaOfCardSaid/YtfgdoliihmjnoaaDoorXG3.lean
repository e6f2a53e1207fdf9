/- Laws asked at values that stand for their arguments. -/
import Derived.Test.YtfgdoliihmjnoaaDoorXG2
set_option linter.unusedSimpArgs false
set_option linter.unusedVariables false
namespace Go.E
open Go

theorem law_calls' [Sym] {P : Program} {L : Lk} (hL : L.Ok P) (hC : ConOk P L) {n f : Nat} {fn : Func} (hf : L.func f = some (f, fn)) {l : List (Nat × AObj)} {nx : Nat} {W : World} {args args' : List Value} {v : Value} {st' : St}
    (h : runE P L n f args (start l nx) = some (v, st')) (hv : flat3 v = true) (hlog : st'.log = []) (hargs : VRs (startB l) args args')
    (hob : ∀ x ∈ l, ∃ obj, W.heap[x.1]? = some obj ∧ OR (startB l) ⟨x.1, 0, 0, 0⟩ obj x.2) (hg : ∀ g, L.glob g = true → g ∈ l.map (·.1)) (hn : ∀ x ∈ l, x.1 < nx) :
    Calls P f args'.toArray W fun e W' => e = .returned v ∧ RowKit.Below W.heap.size W W' := by
  refine (run_sound hL hC h (start_inv hob hg hn) hargs hf).mono fun e w' ⟨v', he, β', hp, hvr⟩ => ⟨by rw [he, flat3_eq hv hvr], ⟨hp.os, hp.tape, hp.output, hp.size, fun k hk => ?_⟩⟩
  rcases hp.frame k hk with h1 | ⟨i, p, h1, _, h3, h4⟩
  · exact h1
  · exfalso
    rw [hlog] at h4
    rcases h4 with h4 | h4
    · cases h4
    · have hw : (tabM l).get i ≠ none := h3
      cases hm : (tabM l).get i with
      | none => exact hw hm
      | some ob =>
        have h5 := hn _ (tabM_mem l i ob hm)
        have h6 : nx ≤ i := h4
        simp only at h5
        omega

theorem sym_cmp {P : Program} {op : BinOp} {a b : Int} {v : Value} (t : TypeId) (x y : Operand) (h : arithF op .i64 a b = some v) :
    pureV P (do eqGuard op t x y (.int .i64 a) (.int .i64 b); binOp op t (.int .i64 a) (.int .i64 b)) = some v := by
  obtain ⟨h1, h2⟩ := arith_bin (P := P) t h
  simp only [pureV, runPure_bind, guard_int, h1, h2, Option.bind_some, cond_true]
theorem sym_str {P : Program} {a b : ByteArray} (t : TypeId) (x y : Operand) :
    pureV P (do eqGuard .eql t x y (.string a) (.string b); binOp .eql t (.string a) (.string b)) = some (.bool (a.toList == b.toList)) := rfl
end Go.E
