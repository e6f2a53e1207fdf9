/- What lines say: the plain reading of tokens. -/
import Derived.Test.YthngaoncjpgeiaaDoorLex12
set_option linter.unusedVariables false
set_option linter.unusedSimpArgs false
namespace Go.Proofs.YthngaoncjpgeiaaDoorE
open Go Go.E Go.Proofs

structure Val where
  nm : List UInt8
  x : Int
  col : Nat
structure Pr where
  fd : List UInt8
  col : Nat
  v : Val
structure PLine where
  ln : Nat
  lab : List UInt8
  dir : List UInt8
  args : List Val
  prs : List Pr

def isSign (t : Tok) (s : List UInt8) : Bool := decide (t.kd = 3) && decide (t.tx = s)
/-- A value: it, and how many tokens it has; or how far on the one stands that doesn't fit. -/
def takeT : List Tok → Except Nat (Val × Nat)
  | [] => .error 0
  | t :: r => if t.kd = 2 then .ok (⟨[], t.nm, t.col⟩, 1) else if t.kd = 1 then (match r with
      | [] => .error 0
      | s :: u => if isSign s [43] = true then (match u with
          | n :: _ => if n.kd = 2 then .ok (⟨t.tx, n.nm, t.col⟩, 3) else .error 2
          | [] => .error 2)
        else if isSign s [45] = true then (match u with
          | n :: _ => if n.kd = 2 then .ok (⟨t.tx, -n.nm, t.col⟩, 3) else .error 2
          | [] => .error 2)
        else .ok (⟨t.tx, 0, t.col⟩, 1)) else .error 0
def argsT : Nat → List Tok → Except Nat (List Val)
  | 0, _ => .ok []
  | _ + 1, [] => .ok []
  | k + 1, t :: r => if t.kd = 0 then .ok [] else match takeT (t :: r) with
    | .error o => .error o
    | .ok (v, n) => match argsT k ((t :: r).drop n) with
      | .error o => .error (n + o)
      | .ok vs => .ok (v :: vs)
def pairT (seen : List (List UInt8)) : List Tok → Except Nat (Pr × Nat)
  | [] => .error 0
  | t :: r => if t.kd = 1 ∧ t.tx ∉ seen then (match r with
      | [] => .error 1
      | e :: u => if isSign e [61] = true then (match takeT u with
          | .error o => .error (2 + o)
          | .ok (v, n) => .ok (⟨t.tx, t.col, v⟩, 2 + n)) else .error 1)
    else .error 0
def pairsT : Nat → List (List UInt8) → List Tok → Except Nat (List Pr)
  | 0, _, _ => .ok []
  | _ + 1, _, [] => .ok []
  | k + 1, seen, t :: r => if t.kd = 0 then .ok [] else match pairT seen (t :: r) with
    | .error o => .error o
    | .ok (p, n) => match pairsT k (seen ++ [p.fd]) ((t :: r).drop n) with
      | .error o => .error (n + o)
      | .ok ps => .ok (p :: ps)
/-- A line behind its label. -/
def restT (lab : List UInt8) : List Tok → Except Nat PLine
  | [] => .error 0
  | t :: r => if isSign t [46] = true then (match r with
      | [] => .error 1
      | d :: u => if d.kd = 1 then (match argsT u.length u with
          | .error o => .error (2 + o)
          | .ok vs => .ok ⟨0, lab, d.tx, vs, []⟩) else .error 1)
    else match pairsT (t :: r).length [] (t :: r) with
      | .error o => .error o
      | .ok ps => .ok ⟨0, lab, [], [], ps⟩
def readT : List Tok → Except Nat PLine
  | t :: s :: r => if t.kd = 1 ∧ isSign s [58] = true then (match restT t.tx r with
      | .error o => .error (2 + o)
      | .ok x => .ok x) else restT [] (t :: s :: r)
  | l => restT [] l
def colAt (l : List Tok) (o : Nat) : Nat := ((l[o]?).map (·.col)).getD 0
def parseLs : Nat → List (List Tok) → Except (Nat × Nat) (List PLine)
  | _, [] => .ok []
  | i, ts :: r => match readT ts with
    | .error o => .error (i + 1, colAt ts o)
    | .ok x => match parseLs (i + 1) r with
      | .error e => .error e
      | .ok xs => .ok (if 1 < ts.length then { x with ln := i + 1 } :: xs else xs)
def lexLs : Nat → List (List UInt8) → Except (Nat × Nat) (List (List Tok))
  | _, [] => .ok []
  | i, p :: r => match lineX p with
    | .error c => .error (i + 1, c)
    | .ok ts => match lexLs (i + 1) r with
      | .error e => .error e
      | .ok tss => .ok (ts :: tss)
def parsT (l : List UInt8) : Except (Nat × Nat) (List PLine) := match lexLs 0 (pieces 10 l) with
  | .error e => .error e
  | .ok tss => parseLs 0 tss
/-- The tokens of lines, with their numbers. -/
def flat : Nat → List (List Tok) → List (Nat × Tok)
  | _, [] => []
  | i, ts :: r => ts.map (fun t => (i + 1, t)) ++ flat (i + 1) r
theorem lexPs_flat (ps : List (List UInt8)) (i : Nat) : lexPs i ps = match lexLs i ps with
    | .error e => .error e
    | .ok tss => .ok (flat i tss) := by
  induction ps generalizing i with
  | nil => rfl
  | cons p r ih =>
    unfold lexPs lexLs
    cases hx : lineX p with
    | error c => rfl
    | ok ts =>
      simp only
      rw [ih (i + 1)]
      cases hy : lexLs (i + 1) r with
      | error e => rfl
      | ok tss => rfl

/-- The tokens of one line: the last one, and it alone, is an end. -/
def Lin : List Tok → Prop
  | [] => False
  | t :: r => (t.kd = 0 ∧ r = []) ∨ (t.kd ≠ 0 ∧ Lin r)
theorem Lin.tail {t : Tok} {r : List Tok} (h : Lin (t :: r)) (hk : t.kd ≠ 0) : Lin r := h.elim (fun x => absurd x.1 hk) (·.2)
theorem Lin.last {t : Tok} {r : List Tok} (h : Lin (t :: r)) (hk : t.kd = 0) : r = [] := h.elim (·.2) fun x => absurd hk x.1
theorem Lin.ne {r : List Tok} (h : Lin r) : ∃ t u, r = t :: u := by
  cases r with
  | nil => exact h.elim
  | cons t u => exact ⟨t, u, rfl⟩
structure TokOk (t : Tok) : Prop where
  kd : t.kd ≤ 3
  tx : t.kd = 1 → t.tx ≠ []
  nm0 : 0 ≤ t.nm
  nm1 : t.nm ≤ 2147483647
theorem numO_range {l : List UInt8} {m : Nat} (h : numO (numL l) = some m) : m ≤ 2147483647 := by
  have key : ∀ B q, numO (parseT B q) = some m → m ≤ 2147483647 := by
    intro B q h
    have hr := puV_range (B := B) (l := q)
    cases hp : parseT B q with
    | none => rw [hp] at h; cases h
    | some x => cases x with
      | none => rw [hp] at h; cases h
      | some k =>
        rw [hp] at h hr
        have : k = m := by injection h
        subst this
        simp only [puV] at hr
        omega
  unfold numL at h
  split at h
  · exact key _ _ h
  · exact key _ _ h
theorem stepT_ok {l : List UInt8} {kd n : Nat} {x : Int} {c : Nat} (h : stepT l = .tok kd n x) : TokOk ⟨kd, l.take n, x, c⟩ ∧ kd ≠ 0 := by
  obtain ⟨h1, h2, h3⟩ := stepT_tok h
  have hne : l.take n ≠ [] := by
    intro e
    have := congrArg List.length e
    rw [List.length_take] at this
    simp at this
    rcases this with rfl | rfl
    · omega
    · simp at h2; omega
  have hx : 0 ≤ x ∧ x ≤ 2147483647 := by
    cases l with
    | nil => cases h
    | cons c r =>
      rw [stepT_cons] at h
      split at h
      · cases h
      · split at h
        · cases h
        · split at h
          · split at h
            · cases h
            · cases h; omega
          · split at h
            · split at h
              · rename_i m hm
                cases h
                have := numO_range hm
                omega
              · cases h
            · split at h
              · cases h; omega
              · cases h
  exact ⟨⟨by show kd ≤ 3; omega, fun _ => hne, hx.1, hx.2⟩, by omega⟩
theorem Lin.snoc {ts : List Tok} {e : Tok} (h : ∀ t ∈ ts, t.kd ≠ 0) (he : e.kd = 0) : Lin (ts ++ [e]) := by
  induction ts with
  | nil => exact .inl ⟨he, rfl⟩
  | cons t r ih => exact .inr ⟨h t (List.mem_cons_self ..), ih fun u hu => h u (List.mem_cons_of_mem _ hu)⟩
theorem lexL_ok (k col : Nat) (l : List UInt8) (ts : List Tok) (h : lexL k col l = .ok ts) : ∀ t ∈ ts, TokOk t ∧ t.kd ≠ 0 := by
  induction k generalizing col l ts with
  | zero => cases h; intro t ht; cases ht
  | succ k ih =>
    unfold lexL at h
    split at h
    · cases h; intro t ht; cases ht
    · exact ih _ _ _ h
    · rename_i kd n x hs
      cases hx : lexL k (col + n) (l.drop n) with
      | error e => rw [hx] at h; cases h
      | ok us =>
        rw [hx] at h; cases h
        intro t ht
        rcases List.mem_cons.1 ht with rfl | ht
        · exact stepT_ok hs
        · exact ih _ _ _ hx t ht
    · cases h
theorem lineX_ok {p : List UInt8} {ts : List Tok} (h : lineX p = .ok ts) : Lin ts ∧ ∀ t ∈ ts, TokOk t := by
  unfold lineX at h
  split at h
  · rename_i us hu
    cases h
    have h1 := lexL_ok _ _ _ _ hu
    refine ⟨Lin.snoc (fun t ht => (h1 t ht).2) rfl, fun t ht => ?_⟩
    rcases List.mem_append.1 ht with ht | ht
    · exact (h1 t ht).1
    · have : t = endT p := by simpa using ht
      subst this
      exact ⟨by simp [endT], fun h => by simp [endT] at h, by simp [endT], by simp [endT]⟩
  · cases h
theorem lexLs_ok (ps : List (List UInt8)) (i : Nat) (tss : List (List Tok)) (h : lexLs i ps = .ok tss) : ∀ ts ∈ tss, Lin ts ∧ ∀ t ∈ ts, TokOk t := by
  induction ps generalizing i tss with
  | nil => cases h; intro ts hts; cases hts
  | cons p r ih =>
    unfold lexLs at h
    cases hx : lineX p with
    | error c => rw [hx] at h; cases h
    | ok ts =>
      rw [hx] at h
      cases hy : lexLs (i + 1) r with
      | error e => rw [hy] at h; cases h
      | ok us =>
        rw [hy] at h; cases h
        intro ts' ht
        rcases List.mem_cons.1 ht with rfl | ht
        · exact lineX_ok hx
        · exact ih _ _ hy ts' ht
theorem takeT_n {l : List Tok} {v : Val} {n : Nat} (h : takeT l = .ok (v, n)) : n = 1 ∨ n = 3 := by
  unfold takeT at h
  repeat' (split at h)
  all_goals first
    | (cases h; done)
    | (cases h; omega)
theorem isSign_kd {t : Tok} {s : List UInt8} (h : isSign t s = true) : t.kd = 3 := by
  simp [isSign] at h; exact h.1
theorem takeT_cons (t : Tok) (r : List Tok) : takeT (t :: r) = (if t.kd = 2 then .ok (⟨[], t.nm, t.col⟩, 1) else if t.kd = 1 then (match r with
      | [] => .error 0
      | s :: u => if isSign s [43] = true then (match u with
          | n :: _ => if n.kd = 2 then .ok (⟨t.tx, n.nm, t.col⟩, 3) else .error 2
          | [] => .error 2)
        else if isSign s [45] = true then (match u with
          | n :: _ => if n.kd = 2 then .ok (⟨t.tx, -n.nm, t.col⟩, 3) else .error 2
          | [] => .error 2)
        else .ok (⟨t.tx, 0, t.col⟩, 1)) else .error 0) := rfl
theorem pairT_cons (seen : List (List UInt8)) (t : Tok) (r : List Tok) : pairT seen (t :: r) = (if t.kd = 1 ∧ t.tx ∉ seen then (match r with
      | [] => .error 1
      | e :: u => if isSign e [61] = true then (match takeT u with
          | .error o => .error (2 + o)
          | .ok (v, n) => .ok (⟨t.tx, t.col, v⟩, 2 + n)) else .error 1)
    else .error 0) := rfl
theorem takeT_lin {l : List Tok} (hl : Lin l) : match takeT l with
    | .ok (_, n) => Lin (l.drop n) ∧ 0 < n
    | .error o => o < l.length := by
  obtain ⟨t, r, rfl⟩ := hl.ne
  rw [takeT_cons]
  by_cases h2 : t.kd = 2
  · rw [if_pos h2]
    exact ⟨hl.tail (by omega), by omega⟩
  · rw [if_neg h2]
    by_cases h1 : t.kd = 1
    · rw [if_pos h1]
      have hr := hl.tail (by omega)
      obtain ⟨s, u, rfl⟩ := hr.ne
      simp only
      by_cases hp : isSign s [43] = true
      · rw [if_pos hp]
        have hu := hr.tail (by have := isSign_kd hp; omega)
        obtain ⟨n, w, rfl⟩ := hu.ne
        simp only
        by_cases hn : n.kd = 2
        · rw [if_pos hn]; exact ⟨hu.tail (by omega), by omega⟩
        · rw [if_neg hn]; simp
      · rw [if_neg hp]
        by_cases hm : isSign s [45] = true
        · rw [if_pos hm]
          have hu := hr.tail (by have := isSign_kd hm; omega)
          obtain ⟨n, w, rfl⟩ := hu.ne
          simp only
          by_cases hn : n.kd = 2
          · rw [if_pos hn]; exact ⟨hu.tail (by omega), by omega⟩
          · rw [if_neg hn]; simp
        · rw [if_neg hm]; exact ⟨hr, by omega⟩
    · rw [if_neg h1]; simp
theorem pairT_lin {seen : List (List UInt8)} {l : List Tok} (hl : Lin l) : match pairT seen l with
    | .ok (_, n) => Lin (l.drop n) ∧ 0 < n
    | .error o => o < l.length := by
  obtain ⟨t, r, rfl⟩ := hl.ne
  rw [pairT_cons]
  by_cases h1 : t.kd = 1 ∧ t.tx ∉ seen
  · rw [if_pos h1]
    have hr := hl.tail (by omega)
    obtain ⟨e, u, rfl⟩ := hr.ne
    simp only
    by_cases he : isSign e [61] = true
    · rw [if_pos he]
      have hu := hr.tail (by have := isSign_kd he; omega)
      have h := takeT_lin hu
      cases hx : takeT u with
      | error o => rw [hx] at h; simp only at h ⊢; simp; omega
      | ok y =>
        obtain ⟨v, n⟩ := y
        rw [hx] at h
        simp only at h ⊢
        rw [Nat.add_comm 2 n]
        exact ⟨h.1, by omega⟩
    · rw [if_neg he]; simp
  · rw [if_neg h1]; simp
theorem argsT_err (k : Nat) (l : List Tok) (hl : Lin l) (o : Nat) (h : argsT k l = .error o) : o < l.length := by
  induction k generalizing l o with
  | zero => cases h
  | succ k ih =>
    obtain ⟨t, r, rfl⟩ := hl.ne
    unfold argsT at h
    split at h
    · cases h
    · have hx := takeT_lin hl
      cases hy : takeT (t :: r) with
      | error o' => rw [hy] at h hx; cases h; exact hx
      | ok y =>
        obtain ⟨v, n⟩ := y
        rw [hy] at h hx
        simp only at h hx
        cases hz : argsT k ((t :: r).drop n) with
        | ok vs => rw [hz] at h; cases h
        | error o' =>
          rw [hz] at h
          have := ih _ hx.1 o' hz
          rw [List.length_drop] at this
          have h' : n + o' = o := by injection h
          omega
theorem pairsT_err (k : Nat) (seen : List (List UInt8)) (l : List Tok) (hl : Lin l) (o : Nat) (h : pairsT k seen l = .error o) : o < l.length := by
  induction k generalizing seen l o with
  | zero => cases h
  | succ k ih =>
    obtain ⟨t, r, rfl⟩ := hl.ne
    unfold pairsT at h
    split at h
    · cases h
    · have hx := pairT_lin (seen := seen) hl
      cases hy : pairT seen (t :: r) with
      | error o' => rw [hy] at h hx; cases h; exact hx
      | ok y =>
        obtain ⟨v, n⟩ := y
        rw [hy] at h hx
        simp only at h hx
        cases hz : pairsT k (seen ++ [v.fd]) ((t :: r).drop n) with
        | ok vs => rw [hz] at h; cases h
        | error o' =>
          rw [hz] at h
          have := ih _ _ hx.1 o' hz
          rw [List.length_drop] at this
          have h' : n + o' = o := by injection h
          omega
theorem restT_cons (lab : List UInt8) (t : Tok) (r : List Tok) : restT lab (t :: r) = if isSign t [46] = true then (match r with
      | [] => .error 1
      | d :: u => if d.kd = 1 then (match argsT u.length u with
          | .error o => .error (2 + o)
          | .ok vs => .ok ⟨0, lab, d.tx, vs, []⟩) else .error 1)
    else match pairsT (t :: r).length [] (t :: r) with
      | .error o => .error o
      | .ok ps => .ok ⟨0, lab, [], [], ps⟩ := rfl
theorem readT_two (t s : Tok) (r : List Tok) : readT (t :: s :: r) = if t.kd = 1 ∧ isSign s [58] = true then (match restT t.tx r with
      | .error o => .error (2 + o)
      | .ok x => .ok x) else restT [] (t :: s :: r) := rfl
theorem restT_err (lab : List UInt8) (l : List Tok) (hl : Lin l) (o : Nat) (h : restT lab l = .error o) : o < l.length := by
  obtain ⟨t, r, rfl⟩ := hl.ne
  rw [restT_cons] at h
  by_cases hs : isSign t [46] = true
  · rw [if_pos hs] at h
    have hr := hl.tail (by have := isSign_kd hs; omega)
    obtain ⟨d, u, rfl⟩ := hr.ne
    simp only at h
    by_cases hd : d.kd = 1
    · rw [if_pos hd] at h
      have hu := hr.tail (by omega)
      cases hx : argsT u.length u with
      | ok vs => rw [hx] at h; cases h
      | error o' =>
        rw [hx] at h
        have := argsT_err _ _ hu o' hx
        have h' : 2 + o' = o := by injection h
        simp; omega
    · rw [if_neg hd] at h; cases h; simp
  · rw [if_neg hs] at h
    cases hx : pairsT (t :: r).length [] (t :: r) with
    | ok vs => rw [hx] at h; cases h
    | error o' =>
      rw [hx] at h
      have := pairsT_err _ _ _ hl o' hx
      have h' : o' = o := by injection h
      omega
theorem readT_err (l : List Tok) (hl : Lin l) (o : Nat) (h : readT l = .error o) : o < l.length := by
  obtain ⟨t, r, rfl⟩ := hl.ne
  cases r with
  | nil => exact restT_err [] _ hl o h
  | cons s r =>
    rw [readT_two] at h
    split at h
    · rename_i hc
      have hr : Lin r := (hl.tail (by omega)).tail (by have := isSign_kd hc.2; omega)
      cases hx : restT t.tx r with
      | ok x => rw [hx] at h; cases h
      | error o' =>
        rw [hx] at h
        have := restT_err _ _ hr o' hx
        have h' : 2 + o' = o := by injection h
        simp; omega
    · exact restT_err [] _ hl o h
end Go.Proofs.YthngaoncjpgeiaaDoorE
