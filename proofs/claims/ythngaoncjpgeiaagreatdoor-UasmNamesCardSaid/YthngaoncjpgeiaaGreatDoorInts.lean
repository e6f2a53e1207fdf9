/- A struct of numbers, by value: opened and shut. -/
import Derived.OpenShut
import Derived.Deep.Fields
import Derived.ChangeSame
import Derived.WideShapes
import Derived.ShutString
import Derived.Test.YthngaoncjpgeiaaGreatDoorXF
namespace Go.E
open Go Go.ChangeShapes Go.WideShapes Go.Deep
section
variable {H : Type} {enc : TypeId × Value → H} {P : Program} {w : World} {base : Nat} {spare : Nat → Bool} {held : Bool}
theorem mapM_at {α β : Type} {F : α → Option β} : ∀ (l : List α) (xs : List β), l.length = xs.length → (∀ (i : Nat) (f : α), l[i]? = some f → F f = xs[i]?) → l.mapM F = some xs
  | [], [], _, _ => rfl
  | a :: l, x :: xs, hl, h => by
    have h0 : F a = some x := by simpa using h 0 a rfl
    have hr := mapM_at l xs (by simpa using hl) fun i f hi => by simpa using h (i + 1) f (by simpa using hi)
    simp [List.mapM_cons, h0, hr]
def intOf : Value → Int
  | .int _ z => z
  | _ => 0
theorem open_intF {r : Reach} {b0 : Nat} {t : TypeId} {fs : Array Field} {v : Value} {d : DataW H} {p : List MemPlace} (hs : P.underlying t = some (.struct fs)) (hone : oneCellFields P fs = true) (hi : ∀ (i : Nat) (f : Field), fs[i]? = some f → P.underlying f.type = some (.int .i64))
    (hC : P.cellsOf t = fs.size) (hv : Value.okWide P w r b0 t v) (h : DataW.Trod enc P w base spare held t v d p) :
    ∃ zs : List Int, zs.length = fs.size ∧ v = .agg (zs.map (Value.int .i64)).toArray ∧ d = .agg (zs.map fun z => .lit (.int .i64 z)) ∧ p = [] ∧ ∀ z, z ∈ zs → (Lit.int .i64 z).wf = true := by
  obtain ⟨cs, rfl, hsz⟩ := okWide_struct hs hv
  obtain ⟨fuel, hf⟩ := h
  obtain ⟨xs, n, _, hx, hl, hlen, hf⟩ := DataW.trod_struct hs hf
  have key : ∀ i, i < fs.size → ∃ z, cs[i]? = some (.int .i64 z) ∧ xs[i]? = some (.lit (.int .i64 z), []) ∧ (Lit.int .i64 z).wf = true := by
    intro i hi'
    obtain ⟨f, hfi⟩ : ∃ f, fs[i]? = some f := ⟨_, Array.getElem?_eq_getElem hi'⟩
    obtain ⟨o, k⟩ := hone_of hone i f hfi
    have h1 := hf i f hfi
    rw [o, k] at h1
    obtain ⟨y, hy⟩ : ∃ y, xs[i]? = some y := ⟨_, List.getElem?_eq_getElem (by omega)⟩
    obtain ⟨z, e1, e2, e3⟩ := DataW.trod_int (hi i f hfi) (h1.trans hy)
    have h0 : (((Value.agg cs).cells.toList.drop i).take 1)[0]? = some (.int .i64 z) := by rw [e1]; rfl
    rw [List.getElem?_take_of_lt (by omega), List.getElem?_drop] at h0
    exact ⟨z, by simpa [Value.cells] using h0, by rw [hy, e2], e3⟩
  have hsz' : cs.size = fs.size := hsz.trans hC
  refine ⟨cs.toList.map intOf, by simpa using hsz', ?_, ?_, ?_, ?_⟩
  · congr 1
    apply Array.ext_getElem?
    intro i
    by_cases hi' : i < fs.size
    · obtain ⟨z, e1, _, _⟩ := key i hi'
      have e1' : cs.toList[i]? = some (.int .i64 z) := by simpa using e1
      rw [e1]
      simp [List.getElem?_map, e1', intOf]
    · rw [Array.getElem?_eq_none (by omega), Array.getElem?_eq_none (by simp; omega)]
  · simp only [Prod.mk.injEq] at hx
    rw [hx.1]
    congr 1
    apply List.ext_getElem?
    intro i
    by_cases hi' : i < fs.size
    · obtain ⟨z, e1, e2, _⟩ := key i hi'
      have e1' : cs.toList[i]? = some (.int .i64 z) := by simpa using e1
      simp [List.getElem?_map, e1', e2, intOf]
    · rw [List.getElem?_eq_none (by simp; omega), List.getElem?_eq_none (by simp; omega)]
  · simp only [Prod.mk.injEq] at hx
    rw [hx.2, List.flatMap_eq_nil_iff]
    intro y hy
    obtain ⟨i, hi', rfl⟩ := List.mem_iff_getElem.1 hy
    obtain ⟨z, _, e2, _⟩ := key i (by omega)
    rw [List.getElem?_eq_getElem hi'] at e2
    simp only [Option.some.injEq] at e2
    rw [e2]
  · intro z hz
    obtain ⟨v, hv, rfl⟩ := List.mem_map.1 hz
    obtain ⟨i, hi', rfl⟩ := List.mem_iff_getElem.1 hv
    obtain ⟨z, e1, _, e3⟩ := key i (by have : cs.toList.length = cs.size := by simp
                                       omega)
    have e1' : cs.toList[i]? = some (.int .i64 z) := by simpa using e1
    rw [List.getElem?_eq_getElem hi'] at e1'
    simp only [Option.some.injEq] at e1'
    rw [e1']
    exact e3
theorem shut_intF {t : TypeId} {fs : Array Field} {zs : List Int} (hs : P.underlying t = some (.struct fs)) (hone : oneCellFields P fs = true) (hi : ∀ (i : Nat) (f : Field), fs[i]? = some f → P.underlying f.type = some (.int .i64))
    (hC : P.cellsOf t = fs.size) (hz : zs.length = fs.size) (hw : ∀ z, z ∈ zs → (Lit.int .i64 z).wf = true) :
    DataW.Trod enc P w base spare held t (.agg (zs.map (Value.int .i64)).toArray) (.agg (zs.map fun z => .lit (.int .i64 z))) [] := by
  have := trod_struct_mk (enc := enc) (w := w) (base := base) (spare := spare) (held := held) (n := 1) (cs := zs.map (Value.int .i64)) (xs := zs.map fun z => (.lit (.int .i64 z), [])) hs (by rw [List.length_map, hz, hC]) (mapM_at _ _ (by simp [hz]) fun i f hf => by
    have hf' : fs[i]? = some f := by simpa using hf
    obtain ⟨o, k⟩ := hone_of hone i f hf'
    have hlt : i < fs.size := (Array.getElem?_eq_some_iff.1 hf').1
    obtain ⟨z, hzi⟩ : ∃ z, zs[i]? = some z := ⟨_, List.getElem?_eq_getElem (by omega)⟩
    have hd : ((zs.map (Value.int .i64)).drop i).take 1 = [.int .i64 z] := by
      rw [← List.map_drop, ← List.map_take]
      have : zs.drop i = z :: zs.drop (i + 1) := by
        rw [List.drop_eq_getElem_cons (by omega)]
        congr 1
        rw [List.getElem?_eq_getElem (by omega)] at hzi
        exact Option.some.inj hzi
      rw [this]; rfl
    rw [o, k, hd, trod_int_mk 0 (hi i f hf') (hw z (List.mem_of_getElem? hzi))]
    simp [List.getElem?_map, hzi])
  refine ⟨2, ?_⟩
  have e1 : (zs.map fun z => ((DataW.lit (.int .i64 z), []) : DataW H × List MemPlace)).map (·.1) = zs.map fun z => .lit (.int .i64 z) := by rw [List.map_map]; rfl
  have e2 : (zs.map fun z => ((DataW.lit (.int .i64 z), []) : DataW H × List MemPlace)).flatMap (·.2) = [] := by rw [List.flatMap_eq_nil_iff]; intro y hy; obtain ⟨z, _, rfl⟩ := List.mem_map.1 hy; rfl
  rw [e1, e2] at this
  simpa [Value.cells] using this
end
end Go.E
namespace Go.E
open Go
theorem allI {P : Program} {fs : Array Field} {k : TypeId} (hk : P.underlying k = some (.int .i64)) (h : (fs.toList.all fun f => Nat.beq f.type k) = true) : ∀ (i : Nat) (f : Field), fs[i]? = some f → P.underlying f.type = some (.int .i64) := fun i f hf => by
  have hm : f ∈ fs.toList := by simpa using Array.mem_of_getElem? hf
  have := List.all_eq_true.1 h f hm
  have e : f.type = k := Nat.eq_of_beq_eq_true this
  rw [e]; exact hk
theorem flat_ints (zs : List Int) : flat3 (.agg (zs.map (Value.int .i64)).toArray) = true := by
  show ((zs.map (Value.int .i64)).toArray.toList.all flat1) = true
  simp [flat1]
end Go.E
