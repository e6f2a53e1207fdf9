/- Blanks and comments change nothing but columns: the plain law. -/
import Derived.Test.YthngaoncjpgeiaaDoorLex11
set_option linter.unusedVariables false
set_option linter.unusedSimpArgs false
namespace Go.Proofs.YthngaoncjpgeiaaDoorE
open Go Go.E Go.Proofs

def tkey (t : Tok) : Nat × List UInt8 × Int := (t.kd, t.tx, t.nm)
def RelE : Except Nat (List Tok) → Except Nat (List Tok) → Prop
  | .ok a, .ok b => a.map tkey = b.map tkey
  | .error _, .error _ => True
  | _, _ => False
theorem runL_app (l r : List UInt8) : runL (l ++ 32 :: r) = runL l := by
  induction l with
  | nil => rw [List.nil_append, runL_cons]; rfl
  | cons a l ih => rw [List.cons_append, runL_cons, runL_cons, ih]
theorem stepT_app {l : List UInt8} (r : List UInt8) (h : l ≠ []) : stepT (l ++ 32 :: r) = stepT l := by
  cases l with
  | nil => exact absurd rfl h
  | cons a l =>
    have e := runL_app (a :: l) r
    rw [List.cons_append] at e ⊢
    rw [stepT_cons, stepT_cons, e]
    have e2 : (a :: (l ++ 32 :: r)).take (runL (a :: l)) = (a :: l).take (runL (a :: l)) := by
      rw [← List.cons_append, List.take_append_of_le_length (runL_le _)]
    rw [e2]
theorem RelE.cons {kd : Nat} {tx : List UInt8} {x : Int} {c c' : Nat} {a b : Except Nat (List Tok)} (h : RelE a b) : RelE (consE ⟨kd, tx, x, c⟩ a) (consE ⟨kd, tx, x, c'⟩ b) := by
  cases a <;> cases b <;> first | exact h | (show List.map tkey _ = List.map tkey _; have h' : List.map tkey _ = List.map tkey _ := h; simp only [List.map_cons, h']; rfl)
theorem lexL_tail (r : List UInt8) (k c : Nat) : lexL (k + 2) c (32 :: 59 :: r) = .ok [] := rfl
theorem lexL_app (r : List UInt8) : ∀ (k c : Nat) (l : List UInt8) (k' c' : Nat), l.length ≤ k → l.length + 2 ≤ k' → RelE (lexL k c l) (lexL k' c' (l ++ 32 :: 59 :: r)) := by
  intro k
  induction k with
  | zero =>
    intro c l k' c' h1 h2
    have : l = [] := by cases l with | nil => rfl | cons a r => simp at h1
    subst this
    obtain ⟨j, rfl⟩ : ∃ j, k' = j + 2 := ⟨k' - 2, by simp at h2; omega⟩
    rw [List.nil_append, lexL_tail]
    rfl
  | succ k ih =>
    intro c l k' c' h1 h2
    cases l with
    | nil =>
      obtain ⟨j, rfl⟩ : ∃ j, k' = j + 2 := ⟨k' - 2, by simp at h2; omega⟩
      rw [List.nil_append, lexL_tail]
      rfl
    | cons a l =>
      obtain ⟨j, rfl⟩ : ∃ j, k' = j + 1 := ⟨k' - 1, by simp at h2; omega⟩
      unfold lexL
      rw [stepT_app _ (by simp)]
      cases hs : stepT (a :: l) with
      | stop => rfl
      | bad => trivial
      | blank => exact ih (c + 1) l j (c' + 1) (by simpa using h1) (by simpa using h2)
      | tok kd n x =>
        obtain ⟨g1, g2, _⟩ := stepT_tok hs
        have e1 : ((a :: l) ++ 32 :: 59 :: r).take n = (a :: l).take n := List.take_append_of_le_length g2
        have e2 : ((a :: l) ++ 32 :: 59 :: r).drop n = (a :: l).drop n ++ 32 :: 59 :: r := List.drop_append_of_le_length g2
        show RelE (consE ⟨kd, (a :: l).take n, x, c + 1⟩ _) (consE ⟨kd, ((a :: l) ++ 32 :: 59 :: r).take n, x, c' + 1⟩ _)
        rw [e1, e2]
        refine RelE.cons (ih (c + n) _ j (c' + n) ?_ ?_)
        · rw [List.length_drop]; simp at h1 ⊢; omega
        · rw [List.length_drop]; simp at h2 ⊢; omega

def tailP : List UInt8 := [32, 59, 32, 109, 111, 114, 101, 32, 61, 32, 53]
def wrapP (p : List UInt8) : List UInt8 := 32 :: 9 :: (p ++ tailP)
theorem lineX_wrap (p : List UInt8) : RelE (lineX p) (lineX (wrapP p)) := by
  have h := lexL_app [32, 109, 111, 114, 101, 32, 61, 32, 53] p.length 0 p (p.length + 11) 2 (Nat.le_refl _) (by omega)
  have e : lexL (wrapP p).length 0 (wrapP p) = lexL (p.length + 11) 2 (p ++ tailP) := by
    have : (wrapP p).length = p.length + 11 + 1 + 1 := by simp [wrapP, tailP]
    rw [this]
    rfl
  unfold lineX
  rw [e]
  have h' : RelE (lexL p.length 0 p) (lexL (p.length + 11) 2 (p ++ tailP)) := h
  cases hx : lexL p.length 0 p <;> cases hy : lexL (p.length + 11) 2 (p ++ tailP) <;> rw [hx, hy] at h'
  · trivial
  · exact h'
  · exact h'
  · have h2 : List.map tkey _ = List.map tkey _ := h'
    show List.map tkey _ = List.map tkey _
    rw [List.map_append, List.map_append, h2]
    rfl
def tkeyL (t : Nat × Tok) : Nat × Nat × List UInt8 × Int := (t.1, tkey t.2)
def RelP : Except (Nat × Nat) (List (Nat × Tok)) → Except (Nat × Nat) (List (Nat × Tok)) → Prop
  | .ok a, .ok b => a.map tkeyL = b.map tkeyL
  | .error _, .error _ => True
  | _, _ => False
theorem RelP.cons {i : Nat} {ts us : List Tok} {a b : Except (Nat × Nat) (List (Nat × Tok))} (h : ts.map tkey = us.map tkey) (hr : RelP a b) : RelP (consL (ts.map fun t => (i, t)) a) (consL (us.map fun t => (i, t)) b) := by
  cases a <;> cases b <;> try exact hr
  have h2 : List.map tkeyL _ = List.map tkeyL _ := hr
  show List.map tkeyL _ = List.map tkeyL _
  rw [List.map_append, List.map_append, h2, List.map_map, List.map_map]
  congr 1
  have e : ∀ l : List Tok, List.map (tkeyL ∘ fun t => (i, t)) l = (l.map tkey).map fun x => (i, x) := fun l => by rw [List.map_map]; rfl
  rw [e, e, h]
theorem lexPs_wrap (ps : List (List UInt8)) (i : Nat) : RelP (lexPs i ps) (lexPs i (ps.map wrapP)) := by
  induction ps generalizing i with
  | nil => rfl
  | cons p r ih =>
    have h := lineX_wrap p
    have hr := ih (i + 1)
    rw [List.map_cons]
    unfold lexPs
    cases hx : lineX p <;> cases hy : lineX (wrapP p) <;> rw [hx, hy] at h
    · trivial
    · exact h.elim
    · exact h.elim
    · exact RelP.cons h hr

theorem pieces_cons (c x : UInt8) (l : List UInt8) : pieces c (x :: l) = if x = c then [] :: pieces c l else match pieces c l with
    | [] => [[x]]
    | y :: z => (x :: y) :: z := rfl
theorem pieces_append (c : UInt8) (a b : List UInt8) : pieces c (a ++ c :: b) = pieces c a ++ pieces c b := by
  induction a with
  | nil =>
    show pieces c (c :: b) = pieces c [] ++ _
    conv => lhs; unfold pieces
    rw [if_pos rfl]; rfl
  | cons x a ih =>
    rw [List.cons_append]
    rw [pieces_cons, pieces_cons c x a, ih]
    split
    · rfl
    · cases hp : pieces c a with
      | nil => exact absurd hp (pieces_ne c a)
      | cons y z => rfl
theorem pieces_none {c : UInt8} {l : List UInt8} (h : c ∉ l) : pieces c l = [l] := by
  induction l with
  | nil => rfl
  | cons x l ih =>
    simp only [List.mem_cons, not_or] at h
    unfold pieces
    rw [if_neg (fun e => h.1 e.symm), ih h.2]
theorem pieces_sum (c : UInt8) (l : List UInt8) : ((pieces c l).map (·.length)).sum + (pieces c l).length = l.length + 1 := by
  induction l with
  | nil => rfl
  | cons x l ih =>
    unfold pieces
    split
    · simp; omega
    · cases hp : pieces c l with
      | nil => exact absurd hp (pieces_ne c l)
      | cons y z => rw [hp] at ih; simp at ih ⊢; omega
theorem wrapP_no {p : List UInt8} (h : (10 : UInt8) ∉ p) : (10 : UInt8) ∉ wrapP p := by
  simp [wrapP, tailP, h]
/-- The text that the law makes. -/
def joinT : List (List UInt8) → List UInt8 → List UInt8
  | [], t => t
  | p :: r, t => joinT r (t ++ 10 :: wrapP p)
def allT : List (List UInt8) → List UInt8
  | [] => []
  | p :: r => joinT r (wrapP p)
theorem joinT_pieces (ps : List (List UInt8)) (t : List UInt8) (h : ∀ p ∈ ps, (10 : UInt8) ∉ p) : pieces 10 (joinT ps t) = pieces 10 t ++ ps.map wrapP := by
  induction ps generalizing t with
  | nil => simp [joinT]
  | cons p r ih =>
    unfold joinT
    rw [ih _ (fun q hq => h q (List.mem_cons_of_mem _ hq)), pieces_append, pieces_none (wrapP_no (h p (List.mem_cons_self ..)))]
    simp
theorem joinT_len (ps : List (List UInt8)) (t : List UInt8) : (joinT ps t).length = t.length + (ps.map (·.length)).sum + 14 * ps.length := by
  induction ps generalizing t with
  | nil => simp [joinT]
  | cons p r ih =>
    unfold joinT
    rw [ih]
    simp [wrapP, tailP]
    omega
theorem allT_pieces (l : List UInt8) : pieces 10 (allT (pieces 10 l)) = (pieces 10 l).map wrapP := by
  have h := pieces_no 10 l
  cases hp : pieces 10 l with
  | nil => exact absurd hp (pieces_ne 10 l)
  | cons p r =>
    rw [hp] at h
    unfold allT
    rw [joinT_pieces _ _ (fun q hq => h q (List.mem_cons_of_mem _ hq)), pieces_none (wrapP_no (h p (List.mem_cons_self ..)))]
    simp
theorem allT_len (l : List UInt8) : (allT (pieces 10 l)).length ≤ l.length + 14 * (l.length + 1) := by
  have h1 := pieces_sum 10 l
  have h2 := pieces_len 10 l
  cases hp : pieces 10 l with
  | nil => simp [allT]
  | cons p r =>
    rw [hp] at h1 h2
    unfold allT
    rw [joinT_len]
    simp [wrapP, tailP] at h1 h2 ⊢
    omega
theorem lexT_blank (l : List UInt8) : RelP (lexT l) (lexT (allT (pieces 10 l))) := by
  unfold lexT
  rw [allT_pieces]
  exact lexPs_wrap _ _
end Go.Proofs.YthngaoncjpgeiaaDoorE
