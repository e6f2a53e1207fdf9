/- The relation between abstract values and a world's, and its small laws. -/
import Derived.Test.YtfgdoliihmjnoaaDoorXE1
import Derived.Laws.Cells
set_option linter.unusedSimpArgs false
set_option linter.unusedVariables false
namespace Go.E

/-- Where an abstract block lies: the block, where in it, how many cells the block has, how many an element has. -/
structure Pl where
  b : Nat
  o : Nat
  s : Nat
  z : Nat

abbrev Emb := Nat → Option Pl

inductive VR [Sym] (β : Emb) : Value → Value → Prop
  | bool (b : Bool) : VR β (.bool b) (.bool b)
  | int (k : IntKind) (n : Int) : VR β (.int k n) (.int k n)
  | float (k : FloatKind) (b : Nat) : VR β (.float k b) (.float k b)
  | complex (k : FloatKind) (a b : Nat) : VR β (.complex k a b) (.complex k a b)
  | string (s : ByteArray) : VR β (.string s) (.string s)
  | ptr0 : VR β (.pointer none) (.pointer none)
  | ptr {i k : Nat} {p : Pl} : β i = some p → VR β (.pointer (some ⟨i, k, none⟩)) (.pointer (some ⟨p.b, p.o + k, none⟩))
  | slice0 : VR β (.slice none 0 0) (.slice none 0 0)
  | slice {i k k' l c c' : Nat} {p : Pl} : β i = some p → l ≤ c → c ≤ c' → (c = 0 ∨ k' = p.o + k) → (c' = c ∨ (p.z ≠ 0 ∧ k' + c' * p.z ≤ p.s)) →
      VR β (.slice (some ⟨i, k, none⟩) l c) (.slice (some ⟨p.b, k', none⟩) l c')
  | map0 : VR β (.map none) (.map none)
  | sym (i : Nat) : VR β (.map (some i)) (Sym.v i)
  | chan0 : VR β (.chan none) (.chan none)
  | nilFunc : VR β .nilFunc .nilFunc
  | nilIface : VR β .nilIface .nilIface
  | func {f : FuncId} {xs ys xs' ys' : Array Value} : xs.size = xs'.size → (∀ (i : Nat) x y, xs[i]? = some x → xs'[i]? = some y → VR β x y) →
      ys.size = ys'.size → (∀ (i : Nat) x y, ys[i]? = some x → ys'[i]? = some y → VR β x y) → VR β (.func (.func f) xs ys) (.func (.func f) xs' ys')
  | iface {t : TypeId} {v v' : Value} : VR β v v' → VR β (.iface t v) (.iface t v')
  | agg {xs ys : Array Value} : xs.size = ys.size → (∀ (i : Nat) x y, xs[i]? = some x → ys[i]? = some y → VR β x y) → VR β (.agg xs) (.agg ys)
  | tuple {xs ys : Array Value} : xs.size = ys.size → (∀ (i : Nat) x y, xs[i]? = some x → ys[i]? = some y → VR β x y) → VR β (.tuple xs) (.tuple ys)

/-- Lists of related values. -/
def VRs [Sym] (β : Emb) (l l' : List Value) : Prop := l.length = l'.length ∧ ∀ (i : Nat) x y, l[i]? = some x → l'[i]? = some y → VR β x y

theorem VRs.nil [Sym] {β : Emb} : VRs β [] [] := ⟨rfl, fun i x y h => by simp at h⟩
theorem VRs.cons [Sym] {β : Emb} {x y : Value} {l l' : List Value} (h : VR β x y) (hs : VRs β l l') : VRs β (x :: l) (y :: l') :=
  ⟨by simp [hs.1], fun i a b ha hb => by
    cases i with
    | zero => simp at ha hb; subst ha; subst hb; exact h
    | succ i => simp at ha hb; exact hs.2 i a b ha hb⟩
theorem VRs.of_cons [Sym] {β : Emb} {x : Value} {l l' : List Value} (h : VRs β (x :: l) l') : ∃ y r, l' = y :: r ∧ VR β x y ∧ VRs β l r := by
  cases l' with
  | nil => simp [VRs] at h
  | cons y r =>
    refine ⟨y, r, rfl, h.2 0 x y rfl rfl, by simpa using h.1, fun i a b ha hb => h.2 (i + 1) a b (by simpa using ha) (by simpa using hb)⟩
theorem VRs.of_nil [Sym] {β : Emb} {l' : List Value} (h : VRs β [] l') : l' = [] := by
  cases l' with
  | nil => rfl
  | cons y r => simp [VRs] at h
theorem VRs.append [Sym] {β : Emb} {a a' b b' : List Value} (h : VRs β a a') (k : VRs β b b') : VRs β (a ++ b) (a' ++ b') := by
  induction a generalizing a' with
  | nil => rw [h.of_nil]; simpa using k
  | cons x a ih =>
    obtain ⟨y, r, rfl, hx, hr⟩ := h.of_cons
    exact VRs.cons hx (ih hr)
theorem VRs.take [Sym] {β : Emb} {a a' : List Value} (n : Nat) (h : VRs β a a') : VRs β (a.take n) (a'.take n) :=
  ⟨by simp [h.1], fun i x y hx hy => by
    rw [List.getElem?_take] at hx hy
    split at hx
    · rename_i hi; rw [if_pos hi] at hy; exact h.2 i x y hx hy
    · cases hx⟩
theorem VRs.drop [Sym] {β : Emb} {a a' : List Value} (n : Nat) (h : VRs β a a') : VRs β (a.drop n) (a'.drop n) :=
  ⟨by simp [h.1], fun i x y hx hy => by
    rw [List.getElem?_drop] at hx hy
    exact h.2 _ x y hx hy⟩
theorem VRs.get [Sym] {β : Emb} {a a' : List Value} (h : VRs β a a') {i : Nat} {x : Value} (hx : a[i]? = some x) : ∃ y, a'[i]? = some y ∧ VR β x y := by
  have hi : i < a.length := (List.getElem?_eq_some_iff.1 hx).1
  have hi' : i < a'.length := h.1 ▸ hi
  exact ⟨a'[i], List.getElem?_eq_getElem hi', h.2 i x _ hx (List.getElem?_eq_getElem hi')⟩
theorem VRs.agg [Sym] {β : Emb} {xs ys : Array Value} (h : VRs β xs.toList ys.toList) : VR β (.agg xs) (.agg ys) :=
  .agg (by simpa using h.1) fun i x y hx hy => h.2 i x y (by simpa using hx) (by simpa using hy)
theorem VRs.tuple [Sym] {β : Emb} {xs ys : Array Value} (h : VRs β xs.toList ys.toList) : VR β (.tuple xs) (.tuple ys) :=
  .tuple (by simpa using h.1) fun i x y hx hy => h.2 i x y (by simpa using hx) (by simpa using hy)
theorem VRs.of_array [Sym] {β : Emb} {xs ys : Array Value} (h : xs.size = ys.size) (h' : ∀ (i : Nat) x y, xs[i]? = some x → ys[i]? = some y → VR β x y) : VRs β xs.toList ys.toList :=
  ⟨by simpa using h, fun i x y hx hy => h' i x y (by simpa using hx) (by simpa using hy)⟩

theorem VR.mono [Sym] {β β' : Emb} (hb : ∀ i p, β i = some p → β' i = some p) {v v' : Value} (h : VR β v v') : VR β' v v' := by
  induction h with
  | bool b => exact .bool b
  | int k n => exact .int k n
  | float k b => exact .float k b
  | complex k a b => exact .complex k a b
  | string s => exact .string s
  | ptr0 => exact .ptr0
  | ptr h => exact .ptr (hb _ _ h)
  | slice0 => exact .slice0
  | slice h a b c d => exact .slice (hb _ _ h) a b c d
  | map0 => exact .map0
  | sym i => exact .sym i
  | chan0 => exact .chan0
  | nilFunc => exact .nilFunc
  | nilIface => exact .nilIface
  | func a _ b _ ih1 ih2 => exact .func a ih1 b ih2
  | iface _ ih => exact .iface ih
  | agg a _ ih => exact .agg a ih
  | tuple a _ ih => exact .tuple a ih
theorem VRs.mono [Sym] {β β' : Emb} (hb : ∀ i p, β i = some p → β' i = some p) {l l' : List Value} (h : VRs β l l') : VRs β' l l' :=
  ⟨h.1, fun i x y hx hy => (h.2 i x y hx hy).mono hb⟩

theorem VR.of_tuple [Sym] {β : Emb} {u : Value} {ys : Array Value} (h : VR β u (.tuple ys)) : ∃ xs, u = .tuple xs := by
  generalize e : Value.tuple ys = v at h
  cases h with
  | tuple a b => exact ⟨_, rfl⟩
  | sym i => rcases Sym.ok i with ⟨k, n, e'⟩ | ⟨s, e'⟩ <;> rw [e'] at e <;> cases e
  | _ => cases e
theorem VR.undef [Sym] {β : Emb} : VR β undef undef := .tuple rfl fun i x y h => by simp at h

theorem VR.one_eq [Sym] {β : Emb} {v v' : Value} (h : VR β v v') : one v' = one v := by cases h <;> first | rfl | (rename_i i; rcases Sym.ok i with ⟨k, n, e⟩ | ⟨s, e⟩ <;> rw [e] <;> rfl)
theorem VR.cells [Sym] {β : Emb} {v v' : Value} (h : VR β v v') : VRs β v.cells.toList v'.cells.toList := by
  cases h with
  | agg a b => exact VRs.of_array a b
  | sym i =>
    have e : (Sym.v i).cells = #[Sym.v i] := by rcases Sym.ok i with ⟨k, n, e⟩ | ⟨s, e⟩ <;> rw [e] <;> rfl
    rw [e]; exact VRs.cons (.sym i) VRs.nil
  | _ => exact VRs.cons (by constructor <;> assumption) VRs.nil

theorem eq_of_all {xs ys : Array Value} (h : xs.size = ys.size) (h' : ∀ (i : Nat) x y, xs[i]? = some x → ys[i]? = some y → y = x) : ys = xs := by
  apply Array.ext
  · exact h.symm
  · intro i h1 h2
    exact h' i xs[i] ys[i] (Array.getElem?_eq_getElem h2) (Array.getElem?_eq_getElem h1)

theorem flat1_refl [Sym] {β : Emb} {v : Value} (h : flat1 v = true) : VR β v v := by
  unfold flat1 at h
  split at h <;> first
    | (constructor; done)
    | (cases h; done)
    | skip
  rename_i f a b
  simp only [Bool.and_eq_true, Array.isEmpty_iff] at h
  obtain ⟨rfl, rfl⟩ := h
  exact .func rfl (fun i x y h => by simp at h) rfl (fun i x y h => by simp at h)
theorem all_refl [Sym] {β : Emb} {p : Value → Bool} (hp : ∀ v, p v = true → VR β v v) {cs : Array Value} (h : cs.toList.all p = true) :
    ∀ (i : Nat) x y, cs[i]? = some x → cs[i]? = some y → VR β x y := by
  intro i x y hx hy
  rw [hx] at hy
  cases hy
  exact hp x (List.all_eq_true.1 h x (by simpa using Array.mem_of_getElem? hx))
theorem flat2_refl [Sym] {β : Emb} {v : Value} (h : flat2 v = true) : VR β v v := by
  unfold flat2 at h
  split at h
  · exact .agg rfl (all_refl (fun v => flat1_refl) h)
  · exact flat1_refl h
theorem flat3_refl [Sym] {β : Emb} {v : Value} (h : flat3 v = true) : VR β v v := by
  unfold flat3 at h
  split at h
  · exact .iface (flat2_refl h)
  · exact .tuple rfl (all_refl (fun v => flat2_refl) h)
  · exact flat2_refl h

theorem flat1_eq [Sym] {β : Emb} {v v' : Value} (h : flat1 v = true) (r : VR β v v') : v' = v := by
  cases r with
  | func a ha b hb =>
    simp only [flat1, Bool.and_eq_true, Array.isEmpty_iff] at h
    obtain ⟨rfl, rfl⟩ := h
    simp at a b
    rw [Eq.comm, Array.size_eq_zero_iff] at a b
    rw [a, b]
  | _ => first | rfl | (simp [flat1] at h; done)
theorem flat2_eq [Sym] {β : Emb} {v v' : Value} (h : flat2 v = true) (r : VR β v v') : v' = v := by
  unfold flat2 at h
  split at h
  · rename_i cs
    cases r with
    | agg a b =>
      congr 1
      exact eq_of_all a fun i x y hx hy => flat1_eq (List.all_eq_true.1 h x (by simpa using Array.mem_of_getElem? hx)) (b i x y hx hy)
  · exact flat1_eq h r
theorem flat3_eq [Sym] {β : Emb} {v v' : Value} (h : flat3 v = true) (r : VR β v v') : v' = v := by
  unfold flat3 at h
  split at h
  · cases r with
    | iface r => rw [flat2_eq h r]
  · rename_i cs
    cases r with
    | tuple a b =>
      congr 1
      exact eq_of_all a fun i x y hx hy => flat2_eq (List.all_eq_true.1 h x (by simpa using Array.mem_of_getElem? hx)) (b i x y hx hy)
  · exact flat2_eq h r

theorem symOk_eq [Sym] {β : Emb} {v v' : Value} (h : symOk v = true) (r : VR β v v') : v' = desym v := by
  unfold symOk at h
  split at h
  · cases r; rfl
  · rename_i hne
    rw [flat1_eq h r]
    unfold desym
    split
    · rename_i i; exact absurd rfl (hne i)
    · rfl
theorem symOk_refl [Sym] {β : Emb} {v : Value} (h : symOk v = true) : VR β v (desym v) := by
  unfold symOk at h
  split at h
  · exact .sym _
  · rename_i hne
    unfold desym
    split
    · rename_i i; exact absurd rfl (hne i)
    · exact flat1_refl h

/-! ### Blocks -/
def OR [Sym] (β : Emb) (p : Pl) (obj : Obj) : AObj → Prop
  | .cells c z => ∃ arr T fr, obj = .cells arr T fr ∧ arr.size = p.s ∧ p.z = z ∧ p.o + c.length ≤ p.s ∧ (∀ k, k < p.s → ¬ (fr.1 ≤ k ∧ k < fr.2)) ∧
      ∀ j v, c[j]? = some v → ∃ v', arr[p.o + j]? = some v' ∧ VR β v v'
  | .iter s pos => p.o = 0 ∧ obj = .stringIter s pos
  | .table c => ∃ arr T fr, obj = .cells arr T fr ∧ ∀ j v, c[j]? = some v → ∃ v', arr[p.o + j]? = some v' ∧ VR β v v'

theorem OR.mono [Sym] {β β' : Emb} (hb : ∀ i p, β i = some p → β' i = some p) {p : Pl} {obj : Obj} {ob : AObj} (h : OR β p obj ob) : OR β' p obj ob := by
  cases ob with
  | cells c z =>
    obtain ⟨arr, T, fr, h1, h2, h3, h4, h5, h6⟩ := h
    exact ⟨arr, T, fr, h1, h2, h3, h4, h5, fun j v hv => let ⟨v', a, b⟩ := h6 j v hv; ⟨v', a, b.mono hb⟩⟩
  | iter s pos => exact h
  | table c =>
    obtain ⟨arr, T, fr, h1, h6⟩ := h
    exact ⟨arr, T, fr, h1, fun j v hv => let ⟨v', a, b⟩ := h6 j v hv; ⟨v', a, b.mono hb⟩⟩
theorem OR.table [Sym] {β : Emb} {p : Pl} {obj : Obj} {c : List Value} {z : Nat} (h : OR β p obj (.cells c z)) : OR β p obj (.table c) :=
  let ⟨arr, T, fr, h1, _, _, _, _, h6⟩ := h
  ⟨arr, T, fr, h1, h6⟩

abbrev View := Nat → Option AObj
structure Rep [Sym] (β : Emb) (V : View) (w : World) : Prop where
  inb : ∀ i p, β i = some p → p.b < w.heap.size
  obj : ∀ i p ob, β i = some p → V i = some ob → ∃ obj, w.heap[p.b]? = some obj ∧ OR β p obj ob
  inj : ∀ i j p q, β i = some p → β j = some q → V i ≠ none → V j ≠ none → p.b = q.b → i = j

def GOk (β : Emb) (L : Lk) : Prop := ∀ g, L.glob g = true → ∃ p, β g = some p ∧ p.b = g ∧ p.o = 0

/-! ### Running -/
def aggD : TypeDesc → Bool
  | .struct _ | .array _ _ => true
  | _ => false
theorem aggD_no {d : TypeDesc} (h1 : ∀ f, d = .struct f → False) (h2 : ∀ n e, d = .array n e → False) : aggD d = false := by
  cases d <;> first | rfl | exact absurd rfl (h1 _) | exact absurd rfl (h2 _ _)
section
variable {P : Program}
theorem runPure_run {α : Type} : ∀ (s : Sem α) (a : α), runPure P s = some a → ∀ w, s.run P w = .ok a w := by
  intro s
  induction s with
  | pure a => intro b h w; simp [runPure] at h; subst h; rfl
  | program k ih => intro b h w; exact ih P b h w
  | mark m k ih => intro b h w; exact ih b h w
  | _ => intro b h; simp [runPure] at h

theorem run_bind {α γ : Type} (s : Sem α) (f : α → Sem γ) (w : World) : (s >>= f).run P w = match s.run P w with
    | .ok a w' => (f a).run P w'
    | .halt h w' => .halt h w' := by
  show (Sem.bind s f).run P w = _
  induction s generalizing w with
  | pure a => rfl
  | load m a k ih =>
    simp only [Sem.bind, Sem.run]
    split
    · exact ih _ w
    · split
      · exact ih _ w
      · rfl
  | store m a v k ih =>
    cases v <;> simp only [Sem.bind, Sem.run] <;> first
      | rfl
      | (split
         · split
           · rfl
           · exact ih _
         · split
           · exact ih _
           · rfl)
  | new o k ih => simp only [Sem.bind, Sem.run]; exact ih _ _
  | shape r k ih => simp only [Sem.bind, Sem.run]; exact ih _ _
  | freeze a n k ih => simp only [Sem.bind, Sem.run]; exact ih _
  | frozen a k ih => simp only [Sem.bind, Sem.run]; exact ih _ _
  | getObj r k ih =>
    simp only [Sem.bind, Sem.run]
    split
    · rfl
    · exact ih _ _
    · rfl
  | setObj r o k ih =>
    simp only [Sem.bind, Sem.run]
    split
    · rfl
    · exact ih _
    · rfl
  | choose q k ih =>
    simp only [Sem.bind, Sem.run]
    split
    · exact ih _ _
    · exact ih _ _
  | sys c k ih => simp only [Sem.bind, Sem.run]; exact ih _ _
  | program k ih => simp only [Sem.bind, Sem.run]; exact ih _ _
  | mark m k ih => simp only [Sem.bind, Sem.run]; exact ih _
  | halt h => rfl

theorem run_ok {α γ : Type} {s : Sem α} {f : α → Sem γ} {w w' : World} {a : α} (h : s.run P w = .ok a w') : (s >>= f).run P w = (f a).run P w' := by
  rw [run_bind, h]
@[simp] theorem run_pure {α : Type} (a : α) (w : World) : (pure a : Sem α).run P w = .ok a w := rfl
@[simp] theorem run_program (w : World) : (program : Sem Program).run P w = .ok P w := rfl
theorem run_underlying {t : TypeId} {d : TypeDesc} (h : P.underlying t = some d) (w : World) : (underlying t).run P w = .ok d w := by
  unfold underlying; rw [run_ok (run_program w)]; simp [h]
theorem run_info {t : TypeId} {i : TypeInfo} (h : P.info? t = some i) (w : World) : (typeInfo t).run P w = .ok i w := by
  unfold typeInfo; rw [run_ok (run_program w)]; simp [h]
theorem run_size {t : TypeId} {i : TypeInfo} (h : P.info? t = some i) (w : World) : (sizeOf t).run P w = .ok i.size w := by
  unfold sizeOf; rw [run_ok (run_info h w)]; rfl
theorem run_zero {t : TypeId} {i : TypeInfo} {z : Value} (h : P.info? t = some i) (hz : i.zero = some z) (w : World) : (zeroValue t).run P w = .ok z w := by
  unfold zeroValue; rw [run_ok (run_info h w)]; simp [hz]
theorem run_isAgg {t : TypeId} {d : TypeDesc} (h : P.underlying t = some d) (w : World) : (isAgg t).run P w = .ok (aggD d) w := by
  unfold isAgg; rw [run_ok (run_underlying h w)]; cases d <;> rfl
end
end Go.E
