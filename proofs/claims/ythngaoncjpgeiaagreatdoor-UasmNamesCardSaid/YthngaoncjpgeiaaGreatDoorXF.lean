/- An evaluator over the given code, and its soundness. -/
import Derived.Test.YthngaoncjpgeiaaGreatDoorXD
/- The second evaluator's operations that build, write and call are sound. -/
set_option linter.unusedSimpArgs false
set_option linter.unusedVariables false
namespace Go.E
open Go

theorem fold_spl : ∀ (c : List Value) (k off : Nat) (arr : Array Value), off + k + c.length ≤ arr.size →
    ((c.zipIdx k).foldl (fun (cs : Array Value) (x : Value × Nat) => cs.setIfInBounds (off + x.2) x.1) arr).toList = arr.toList.take (off + k) ++ (c ++ arr.toList.drop (off + k + c.length))
  | [], k, off, arr, h => by simp
  | x :: c, k, off, arr, h => by
    simp only [List.length_cons] at h
    have hlen : off + k < arr.toList.length := by simp; omega
    simp only [List.zipIdx_cons, List.foldl_cons]
    rw [fold_spl c (k + 1) off _ (by simp; omega)]
    simp only [Array.toList_setIfInBounds, List.set_eq_take_append_cons_drop, if_pos hlen, List.length_cons]
    have e1 : (arr.toList.take (off + k)).length = off + k := by simp; omega
    have e2 : off + (k + 1) = (arr.toList.take (off + k)).length + 1 := by rw [e1]; omega
    have e3 : off + (k + 1) + c.length = (arr.toList.take (off + k)).length + (1 + c.length) := by rw [e1]; omega
    rw [e3, List.drop_append, e2, List.take_append]
    simp only [List.take_of_length_le (show (arr.toList.take (off + k)).length ≤ (arr.toList.take (off + k)).length + 1 by omega), Nat.add_sub_cancel_left,
      List.drop_of_length_le (show (arr.toList.take (off + k)).length ≤ (arr.toList.take (off + k)).length + (1 + c.length) by omega)]
    rw [show 1 + c.length = c.length + 1 by omega, List.drop_succ_cons, List.drop_drop]
    simp only [List.take_succ_cons, List.take_zero, List.nil_append, List.append_assoc, List.cons_append, List.nil_append]
    rw [show off + k + 1 + c.length = off + k + (c.length + 1) by omega]

theorem cellsN_some {v : Value} {n : Nat} {c : List Value} (h : cellsN v n = some c) : v.cells.toList = c ∧ v.cells.size = n := by
  unfold cellsN at h
  cases hb : Nat.beq v.cells.size n with
  | false => rw [hb] at h; cases h
  | true => rw [hb] at h; cases h; exact ⟨rfl, beq_true hb⟩
theorem spl_len {l c : List Value} {off : Nat} (h : off + c.length ≤ l.length) : (spl l off c).length = l.length := by
  unfold spl; simp; omega

theorem buildS_some {α : Type} {ρ : Operand → Option Value} {pl place : Nat → Option (Nat × Nat)} {K : List Value → Option α} {r : α} : ∀ (ps : List (Nat × Operand)) (l : List Value) (arr : Array Value), arr.toList = l →
    (∀ i os, pl i = some os → place i = some os ∧ os.1 + os.2 ≤ l.length) → buildS ρ pl ps l K = some r →
    ∃ vs, (ps.mapM fun p => (ρ p.2).map fun v => (p.1, v)) = some vs ∧ ∃ arr', Instr.fill place arr vs = some arr' ∧ K arr'.toList = some r
  | [], l, arr, ha, hp, h => ⟨[], rfl, arr, rfl, by rw [ha]; exact h⟩
  | x :: ps, l, arr, ha, hp, h => by
    simp only [buildS, Option.bind_eq_some_iff] at h
    obtain ⟨v, hv, os, hos, c, hc, h⟩ := h
    obtain ⟨h1, h2⟩ := cellsN_some hc
    obtain ⟨hpl, hle⟩ := hp _ _ hos
    have hcl : c.length = os.2 := by rw [← h1, ← h2]; simp
    have hsz : arr.size = l.length := by rw [← ha]; simp
    have key : (v.cells.zipIdx.foldl (fun (cs : Array Value) (x : Value × Nat) => cs.setIfInBounds (os.1 + x.2) x.1) arr).toList = spl l os.1 c := by
      rw [← Array.foldl_toList, Array.toList_zipIdx, h1, fold_spl c 0 os.1 arr (by omega), ha]
      rfl
    obtain ⟨vs, hvs, arr', hf, hK⟩ := buildS_some (α := α) ps (spl l os.1 c) _ key (fun i os' hi => by
      obtain ⟨a, b⟩ := hp i os' hi
      exact ⟨a, by rw [spl_len (by omega)]; exact b⟩) h
    refine ⟨(x.1, v) :: vs, by simp [hv, hvs], arr', ?_, hK⟩
    unfold Instr.fill
    rw [hpl]
    have : (decide (v.cells.size ≠ os.2) || decide (os.1 + v.cells.size > arr.size)) = false := by
      rw [h2]; simp; omega
    simp only [this, Bool.false_eq_true, if_false]
    exact hf

theorem partsS_some {α : Type} {ρ : Operand → Option Value} {z : Nat} {r : α} : ∀ (ps : List (Nat × Operand)) (i : Nat) (K : List Value → Option α) (arr : Array Value), arr.size = (i + ps.length) * z → partsS ρ z ps i K = some r →
    ∃ vs, (ps.mapM fun p => (ρ p.2).map fun v => (p.1, v)) = some vs ∧ ∃ arr' l, Instr.fill (fun j => some (j * z, z)) arr vs = some arr' ∧ arr'.toList = arr.toList.take (i * z) ++ l ∧ K l = some r
  | [], i, K, arr, ha, h => ⟨[], rfl, arr, [], rfl, by
      have : arr.toList.length ≤ i * z := by simp [ha]
      rw [List.take_of_length_le this]; simp, h⟩
  | x :: ps, i, K, arr, ha, h => by
    simp only [partsS] at h
    cases hb : Nat.beq x.1 i with
    | false => rw [hb] at h; cases h
    | true =>
      rw [hb] at h
      simp only [cond_true, Option.bind_eq_some_iff] at h
      obtain ⟨v, hv, c, hc, h⟩ := h
      have hx := beq_true hb
      obtain ⟨h1, h2⟩ := cellsN_some hc
      have hcl : c.length = z := by rw [← h1, ← h2]; simp
      simp only [List.length_cons] at ha
      have hsz : i * z + c.length ≤ arr.size := by rw [ha, hcl, ← Nat.succ_mul]; exact Nat.mul_le_mul_right _ (by omega)
      have key : (v.cells.zipIdx.foldl (fun (cs : Array Value) (x : Value × Nat) => cs.setIfInBounds (i * z + x.2) x.1) arr).toList = arr.toList.take (i * z) ++ (c ++ arr.toList.drop (i * z + c.length)) := by
        rw [← Array.foldl_toList, Array.toList_zipIdx, h1, fold_spl c 0 (i * z) arr (by omega)]
        rfl
      have hlen : (arr.toList.take (i * z)).length = i * z := by simp; omega
      generalize harr : v.cells.zipIdx.foldl (fun (cs : Array Value) (x : Value × Nat) => cs.setIfInBounds (i * z + x.2) x.1) arr = arr2 at key
      have hsz2 : arr2.size = arr.size := by
        rw [← Array.length_toList, key]; simp; omega
      obtain ⟨vs, hvs, arr', l, hf, hl, hK⟩ := partsS_some ps (i + 1) (fun l => K (c ++ l)) arr2 (by rw [hsz2, ha]; congr 1; omega) h
      refine ⟨(x.1, v) :: vs, by simp [hv, hvs], arr', c ++ l, ?_, ?_, hK⟩
      · unfold Instr.fill
        simp only [hx]
        have : (decide (v.cells.size ≠ z) || decide (i * z + v.cells.size > arr.size)) = false := by
          rw [h2]; simp; omega
        simp only [this, Bool.false_eq_true, if_false]
        have harr' : (v.cells.zipIdx.foldl (fun (cs : Array Value) (x : Value × Nat) => match x with | (c, j) => cs.setIfInBounds (i * z + j) c) arr) = arr2 := harr
        rw [harr']; exact hf
      · rw [hl, key]
        have : (i + 1) * z = (arr.toList.take (i * z)).length + c.length := by rw [hlen, hcl, Nat.succ_mul]
        rw [this, List.take_append]
        simp only [List.take_of_length_le (show (arr.toList.take (i * z)).length ≤ (arr.toList.take (i * z)).length + c.length by omega), Nat.add_sub_cancel_left]
        rw [List.take_append]
        simp

section
variable {P : Program} {L : Lk} {α : Type} {ρ : Operand → Option Value} {o : Oper} {st : SS}

theorem mapM_all_places {fields : Array Field} : ∀ (fs : List Field), (fs.all fun f => (L.size f.type).isSome) = true → ∃ pl, (fs.mapM fun f => (L.info f.type).map fun i => (f.offset, i.size)) = some pl ∧ pl.length = fs.length ∧
    ∀ (j : Nat) f, fs[j]? = some f → pl[j]? = (L.size f.type).map fun z => (f.offset, z)
  | [], _ => ⟨[], rfl, rfl, fun j f h => by simp at h⟩
  | f :: fs, h => by
    simp only [List.all_cons, Bool.and_eq_true] at h
    obtain ⟨pl, h1, h2, h3⟩ := mapM_all_places (fields := fields) fs h.2
    obtain ⟨z, hz⟩ := Option.isSome_iff_exists.1 h.1
    obtain ⟨ti, hti, hzz⟩ := size_some hz
    refine ⟨(f.offset, ti.size) :: pl, by simp [hti, h1], by simp [h2], fun j g hg => ?_⟩
    cases j with
    | zero => simp at hg; subst hg; simp [hz, hzz]
    | succ j => simpa using h3 j g (by simpa using hg)

theorem s_build_struct {t : TypeId} {parts : Array (Nat × Operand)} {i : TypeInfo} {zero : Value} {fields : Array Field} {K : Value → SS → Option α} {r : α} (ho : o.op = .build t parts) (hi : L.info t = some i) (hz : i.zero = some zero) (hf : flat2 zero = true)
    (hu : L.und t = some (.struct fields)) (hall : (fields.toList.all fun f => (L.size f.type).isSome && Nat.ble (f.offset + (L.size f.type).getD 0) zero.cells.size) = true)
    (h : buildS ρ (fieldPl L fields) parts.toList zero.cells.toList (fun l => K (.agg ⟨l⟩) st) = some r) : ∃ v, K v st = some r ∧ OpR P L o ρ st v st := by
  obtain ⟨pl, hpl, hlen, hget⟩ := mapM_all_places (L := L) (fields := fields) fields.toList (List.all_eq_true.2 fun f hm => by
    have := List.all_eq_true.1 hall f hm
    simp only [Bool.and_eq_true] at this
    exact this.1)
  have places : ∀ j os, fieldPl L fields j = some os → pl.toArray[j]? = some os ∧ os.1 + os.2 ≤ zero.cells.toList.length := fun j os hj => by
    unfold fieldPl at hj
    simp only [Option.bind_eq_some_iff, Option.some.injEq] at hj
    obtain ⟨f, hfj, z, hz', rfl⟩ := hj
    have hm : fields.toList[j]? = some f := by simpa using hfj
    refine ⟨by have := hget j f hm; rw [hz'] at this; simpa using this, ?_⟩
    have := List.all_eq_true.1 hall f (List.mem_of_getElem? hm)
    simp only [Bool.and_eq_true, Nat.ble_eq, hz', Option.getD_some] at this
    simpa using this.2
  obtain ⟨vs, hvs, arr', hfill, hK⟩ := buildS_some (place := (pl.toArray[·]?)) parts.toList zero.cells.toList zero.cells rfl places h
  refine ⟨_, hK, .pure fun ρ' hρ => ?_⟩
  have hvs := mapMp_mono hρ _ _ hvs
  unfold pureE
  simp only [ho, hvs, Option.bind_some]
  unfold builtE
  simp only [hi, hz, Option.bind_some, hf, cond_true, hu, hpl, hfill, Option.map_some]

theorem s_build_array {t n e z : Nat} {parts : Array (Nat × Operand)} {i : TypeInfo} {zero : Value} {K : Value → SS → Option α} {r : α} (ho : o.op = .build t parts) (hi : L.info t = some i) (hz : i.zero = some zero) (hf : flat2 zero = true)
    (hu : L.und t = some (.array n e)) (hsz : L.size e = some z)
    (h : buildS ρ (fun i => cond (Nat.ble (i * z + z) zero.cells.size) (some (i * z, z)) none) parts.toList zero.cells.toList (fun l => K (.agg ⟨l⟩) st) = some r) : ∃ v, K v st = some r ∧ OpR P L o ρ st v st := by
  obtain ⟨ti, hti, hzz⟩ := size_some hsz
  subst hzz
  have places : ∀ j os, (fun i => cond (Nat.ble (i * ti.size + ti.size) zero.cells.size) (some (i * ti.size, ti.size)) none) j = some os → (fun i => some (i * ti.size, ti.size)) j = some os ∧ os.1 + os.2 ≤ zero.cells.toList.length := fun j os hj => by
    simp only at hj
    cases hb : Nat.ble (j * ti.size + ti.size) zero.cells.size with
    | false => rw [hb] at hj; cases hj
    | true =>
      rw [hb] at hj; cases hj
      exact ⟨rfl, by simpa using hb⟩
  obtain ⟨vs, hvs, arr', hfill, hK⟩ := buildS_some (place := fun i => some (i * ti.size, ti.size)) parts.toList zero.cells.toList zero.cells rfl places h
  refine ⟨_, hK, .pure fun ρ' hρ => ?_⟩
  have hvs := mapMp_mono hρ _ _ hvs
  unfold pureE
  simp only [ho, hvs, Option.bind_some]
  unfold builtE
  simp only [hi, hz, Option.bind_some, hf, cond_true, hu, hti, hfill, Option.map_some]

theorem s_buildSlice {t len e : Nat} {parts : Array (Nat × Operand)} {i : TypeInfo} {zero : Value} {K : Value → SS → Option α} {r : α} (ho : o.op = .buildSlice t len parts) (hu : L.und t = some (.slice e)) (hi : L.info e = some i) (hz : i.zero = some zero)
    (hc : (flat2 zero && Nat.ble (len * i.size) (2 ^ 24) && Nat.beq zero.cells.size i.size && Nat.blt 0 i.size && Nat.beq parts.size len) = true)
    (h : partsS ρ i.size parts.toList 0 (fun l => K (.slice (some ⟨st.next, 0, none⟩) len len) (st.new (.cells l i.size))) = some r) : ∃ v st', K v st' = some r ∧ OpR P L o ρ st v st' := by
  simp only [Bool.and_eq_true] at hc
  obtain ⟨⟨⟨⟨c1, c2⟩, c3⟩, c4⟩, c5⟩ := hc
  have hlen := beq_true c5
  obtain ⟨vs, hvs, arr', l, hfill, hl, hK⟩ := partsS_some parts.toList 0 _ ((Array.range (len * i.size)).map (zero.cells[· % zero.cells.size]!)) (by simp [hlen]) h
  refine ⟨_, _, hK, ?_⟩
  have e : arr'.toList = l := by rw [hl]; simp
  refine .alloc (o := o) (ob := .cells l i.size) fun ρ' hρ => ⟨by unfold pureE; simp only [ho], (fun n => .slice (some ⟨n, 0, none⟩) len len), ?_, rfl⟩
  have hvs := mapMp_mono hρ _ _ hvs
  unfold allocE
  simp only [ho, hvs, Option.bind_some, hu, hi, hz, c1, c2, c3, c4, Bool.and_self, cond_true, hfill, Option.map_some, e]

theorem s_makeSlice {t e : Nat} {len cap : Operand} {vl vc : Value} {l c : Int} {i : TypeInfo} {zero : Value} (ho : o.op = .makeSlice t len cap) (hl : ρ len = some vl) (hl' : asN vl = some l) (hc : ρ cap = some vc) (hc' : asN vc = some c)
    (hu : L.und t = some (.slice e)) (hi : L.info e = some i) (hz : i.zero = some zero) (hck : (flat2 zero && Nat.beq zero.cells.size i.size && Nat.blt 0 i.size) = true) (hm : mkLen l c i.bytes = some ()) :
    OpR P L o ρ st (.slice (some ⟨st.next, 0, none⟩) l.toNat c.toNat) (st.new (.cells (zerosS zero.cells.toList c) i.size)) := by
  simp only [Bool.and_eq_true] at hck
  obtain ⟨⟨c1, c2⟩, c3⟩ := hck
  unfold mkLen at hm
  cases hb : (decide (0 ≤ l) && decide (l ≤ c) && decide (c ≤ 1099511627776) && decide (c * (i.bytes : Int) ≤ 70368744177664)) with
  | false => rw [hb] at hm; cases hm
  | true =>
    simp only [Bool.and_eq_true, decide_eq_true_eq] at hb
    obtain ⟨kl, rfl⟩ := asN_some hl'
    obtain ⟨kc, rfl⟩ := asN_some hc'
    refine .alloc fun ρ' hρ => ⟨by unfold pureE; simp only [ho], (fun n => .slice (some ⟨n, 0, none⟩) l.toNat c.toNat), ?_, rfl⟩
    unfold allocE
    have h0 : 0 ≤ c := by omega
    have q1 : Nat.ble l.toNat c.toNat = true := by rw [Nat.ble_eq]; omega
    have q2 : Nat.ble c.toNat (2 ^ 40) = true := by rw [Nat.ble_eq]; have : (2 : Nat) ^ 40 = 1099511627776 := by decide
                                                    omega
    have q3 : Nat.ble (c.toNat * i.bytes) (2 ^ 46) = true := by
      rw [Nat.ble_eq]
      have e1 : (2 : Nat) ^ 46 = 70368744177664 := by decide
      have e2 : ((c.toNat * i.bytes : Nat) : Int) = c * i.bytes := by rw [Int.natCast_mul, Int.toNat_of_nonneg h0]
      omega
    simp only [ho, hρ _ _ hl, hρ _ _ hc, Option.bind_some, asNat?, if_pos hb.1.1.1, if_pos h0, hu, hi, hz, c1, q1, q2, q3, c2, c3, Bool.and_self, cond_true, zerosS]
    have ez := beq_true c2
    rw [Array.length_toList, ez]

theorem s_lenStr [Sym] (hL : L.Ok P) {args : Array Operand} {ats : Array TypeId} {t : TypeId} {s : ByteArray} (ho : o.op = .call { callee := .builtin .len, args, argTypes := ats }) (hx : args.toList.mapM ρ = some [.string s]) (ht : ats.toList = [t])
    (hu : L.und t = some .string) : OpR P L o ρ st (.int .i64 (s.size : Int)) st := by
  refine .pure fun ρ' hρ => ?_
  have ht0 : ats[0]? = some t := by rw [← Array.getElem?_toList, ht]; rfl
  unfold pureE
  simp only [ho, mapM_mono hρ _ _ hx, Option.bind_some, flat2, flat1, cond_true]
  have : runPure P (builtin .len ats o.type (args.map fun | .const _ => true | _ => false) #[.string s]) = some (.value (goInt s.size)) := by
    show runPure P (do Pure.pure (Next.value (← Builtin.len_ ats o.type #[.string s]))) = _
    rw [runPure_bind]
    have : runPure P (Builtin.len_ ats o.type #[.string s]) = some (goInt s.size) := by
      unfold Builtin.len_
      simp only [ht0, List.getElem?_toArray, List.getElem?_cons_zero, runPure_bind, runPure_und (hL.und _ _ hu), Option.bind_some]
      rfl
    rw [this]; rfl
  exact Option.bind_eq_some_iff.2 ⟨_, this, rfl⟩
theorem s_lenSl {args : Array Operand} {ats : Array TypeId} {t e : TypeId} {a v : Value} (ho : o.op = .call { callee := .builtin .len, args, argTypes := ats }) (hx : args.toList.mapM ρ = some [a]) (ht : ats.toList = [t])
    (hu : L.und t = some (.slice e)) (h : lenV a = some v) : OpR P L o ρ st v st := by
  refine .pure fun ρ' hρ => ?_
  have ht0 : ats[0]? = some t := by rw [← Array.getElem?_toList, ht]; rfl
  unfold lenV at h
  split at h
  · cases h
    unfold pureE
    simp only [ho, mapM_mono hρ _ _ hx, Option.bind_some, ht0, hu]
    rfl
  · cases h
theorem s_min {args : Array Operand} {ats : Array TypeId} {k k' : IntKind} {x y : Int} (ho : o.op = .call { callee := .builtin .min, args, argTypes := ats }) (hx : args.toList.mapM ρ = some [.int k x, .int k' y]) (hk : Nat.beq (kn k) (kn k') = true) :
    OpR P L o ρ st (.int k (if y < x then y else x)) st := by
  refine .pure fun ρ' hρ => ?_
  have := kn_inj hk; subst this
  unfold pureE
  simp only [ho, mapM_mono hρ _ _ hx, Option.bind_some, if_true]
theorem s_max {args : Array Operand} {ats : Array TypeId} {k k' : IntKind} {x y : Int} (ho : o.op = .call { callee := .builtin .max, args, argTypes := ats }) (hx : args.toList.mapM ρ = some [.int k x, .int k' y]) (hk : Nat.beq (kn k) (kn k') = true) :
    OpR P L o ρ st (.int k (if y > x then y else x)) st := by
  refine .pure fun ρ' hρ => ?_
  have := kn_inj hk; subst this
  unfold pureE
  simp only [ho, mapM_mono hρ _ _ hx, Option.bind_some, if_true]

/-! lookups -/
theorem s_lookup {t kt et : TypeId} {x ix : Operand} {ok : Bool} {a : Value} {k : ByteArray} {inf : TypeInfo} {zero : Value} {q : Option Value} (ho : o.op = .lookup t x ix ok) (hx : ρ x = some a) (hi : ρ ix = some (.string k)) (hu : L.und t = some (.map kt et))
    (hk : L.und kt = some .string) (hinf : L.info et = some inf) (hz : inf.zero = some zero) (hf : flat2 zero = true) (h : st.mapF a k = some q) :
    OpR P L o ρ st (optE q (cond ok (.tuple #[zero, .bool false]) zero) (fun v => cond ok (.tuple #[v, .bool true]) v)) st := by
  unfold SS.mapF at h
  split at h
  · rename_i i
    simp only [Option.bind_eq_some_iff] at h
    obtain ⟨ob, hob, h⟩ := h
    split at h
    · rename_i l
      cases h
      refine .read (by rw [ho]; rfl) fun ρ' hρ => ⟨by unfold pureE; simp only [ho], by unfold allocE; simp only [ho], i, (fun ob => match ob with
        | .map l => match findM k l with
          | some v => some (cond ok (.tuple #[v, .bool true]) v)
          | none => some (cond ok (.tuple #[zero, .bool false]) zero)
        | _ => none), _, ?_, hob, ?_⟩
      · unfold readE
        simp only [ho, hρ _ _ hx, hρ _ _ hi, Option.bind_some, hu, hk, hinf, hz, hf, cond_true]
        rfl
      · simp only
        cases findM k l <;> rfl
    · cases h
  · cases h

/-! writing -/
theorem st_some {i k : Nat} {vs : List Value} {st st' : SS} (h : st.st i k vs = some st') : st'.lim = st.lim ∧ ∀ base log, ∃ log', storeE (st.toE base log) i k vs = some (st'.toE base log') ∧ LogOk st.lim base log log' := by
  unfold SS.st at h
  cases hb : Nat.ble st.lim i with
  | false => rw [hb] at h; cases h
  | true =>
    rw [hb] at h
    simp only [cond_true, Option.bind_eq_some_iff] at h
    obtain ⟨ob, hob, h⟩ := h
    cases ob <;> simp only [reduceCtorEq] at h
    rename_i c z
    cases ha : vs.all one with
    | false => rw [ha] at h; cases h
    | true =>
      rw [ha] at h
      simp only [cond_true, Option.map_eq_some_iff] at h
      obtain ⟨c', hc', rfl⟩ := h
      refine ⟨rfl, fun base log => ⟨(st.toE base log).note i, ?_, note_ok (Nat.le_of_ble_eq_true hb)⟩⟩
      unfold storeE
      have hob' : (st.toE base log).mem.get i = some (.cells c z) := hob
      rw [hob']
      simp only [ha, cond_true, hc', Option.map_some]
      rfl
theorem s_store {t n i k : Nat} {a x : Operand} {va v : Value} {st' : SS} (ho : o.op = .store t a x) (ha : ρ a = some va) (hx : ρ x = some v) (hp : addr? va = some (i, k)) (hn : L.size t = some n) (h : st.stV i k n v = some st') : OpR P L o ρ st undef st' := by
  unfold SS.stV at h
  cases hb : Nat.beq v.cells.size n with
  | false => rw [hb] at h; cases h
  | true =>
    rw [hb] at h
    obtain ⟨h1, h2⟩ := st_some h
    refine .gen (by rw [ho]; rfl) (by rw [ho]; rfl) h1 ⟨0, fun m _ base log ρ' hρ => ⟨by unfold pureE; simp only [ho], by unfold allocE; simp only [ho], by unfold readE; simp only [ho], ?_⟩⟩
    obtain ⟨log', e1, e2⟩ := h2 base log
    refine ⟨log', ?_, e2⟩
    unfold genE
    simp only [ho, hρ _ _ ha, hρ _ _ hx, Option.bind_some, hp, hn, hb, cond_true, e1, Option.map_some]
theorem s_next {it : Operand} {va : Value} {i k : Nat} {s : ByteArray} {p : Nat} {K : Value → SS → Option α} {r : α} (ho : o.op = .next it true) (ha : ρ it = some va) (hp : addr? va = some (i, k)) (hk : Nat.beq k 0 = true) (hg : st.iterG i = some (s, p)) (hl : Nat.ble st.lim i = true)
    (h : cond (decide (p < s.size)) (K (.tuple #[.bool true, .int .i64 (p : Int), .int .i32 ((Utf8.decode s p).1 : Int)]) (st.set i (some (.iter s (p + (Utf8.decode s p).2))))) (K (.tuple #[.bool false]) st) = some r) :
    ∃ v st', K v st' = some r ∧ OpR P L o ρ st v st' := by
  have hk0 := beq_true hk
  subst hk0
  unfold SS.iterG at hg
  simp only [Option.bind_eq_some_iff] at hg
  obtain ⟨ob, hob, hg⟩ := hg
  cases ob <;> simp only [reduceCtorEq, Option.some.injEq, Prod.mk.injEq] at hg
  obtain ⟨rfl, rfl⟩ := hg
  rename_i s p
  have hle := Nat.le_of_ble_eq_true hl
  cases hb : decide (p < s.size) with
  | true =>
    rw [hb] at h
    refine ⟨_, _, h, .gen (by rw [ho]; rfl) (by rw [ho]; rfl) rfl ⟨0, fun m _ base log ρ' hρ => ⟨by unfold pureE; simp only [ho], by unfold allocE; simp only [ho], by unfold readE; simp only [ho], (st.toE base log).note i, ?_, note_ok hle⟩⟩⟩
    have hlt : Nat.blt p s.size = true := by rw [Nat.blt_eq]; exact of_decide_eq_true hb
    have hob' : (st.toE base log).mem.get i = some (.iter s p) := hob
    unfold genE
    simp only [ho, hρ _ _ ha, Option.bind_some, hp, hob', hlt, cond_true]
    rfl
  | false =>
    rw [hb] at h
    refine ⟨_, _, h, .gen (by rw [ho]; rfl) (by rw [ho]; rfl) rfl ⟨0, fun m _ base log ρ' hρ => ⟨by unfold pureE; simp only [ho], by unfold allocE; simp only [ho], by unfold readE; simp only [ho], log, ?_, .refl _ _ _⟩⟩⟩
    have hlt : Nat.blt p s.size = false := by rw [← Bool.not_eq_true, Nat.blt_eq]; exact of_decide_eq_false hb
    have hob' : (st.toE base log).mem.get i = some (.iter s p) := hob
    unfold genE
    simp only [ho, hρ _ _ ha, Option.bind_some, hp, hob', hlt, cond_false]
theorem s_mapUpdate {t kt et : TypeId} {m k x : Operand} {vm v : Value} {key : ByteArray} {st' : SS} (ho : o.op = .mapUpdate t m k x) (hm : ρ m = some vm) (hk : ρ k = some (.string key)) (hx : ρ x = some v) (hu : L.und t = some (.map kt et)) (hkt : L.und kt = some .string)
    (h : st.mapP vm key v = some st') : OpR P L o ρ st undef st' := by
  unfold SS.mapP at h
  split at h
  · rename_i i
    cases hb : Nat.ble st.lim i with
    | false => rw [hb] at h; cases h
    | true =>
      rw [hb] at h
      simp only [cond_true, Option.bind_eq_some_iff] at h
      obtain ⟨ob, hob, h⟩ := h
      cases ob <;> simp only [reduceCtorEq, Option.some.injEq] at h
      subst h
      rename_i l
      refine .gen (by rw [ho]; rfl) (by rw [ho]; rfl) rfl ⟨0, fun _ _ base log ρ' hρ => ⟨by unfold pureE; simp only [ho], by unfold allocE; simp only [ho], by unfold readE; simp only [ho], (st.toE base log).note i, ?_, note_ok (Nat.le_of_ble_eq_true hb)⟩⟩
      have hob' : (st.toE base log).mem.get i = some (.map l) := hob
      unfold genE
      simp only [ho, hρ _ _ hm, hρ _ _ hk, hρ _ _ hx, Option.bind_some, hu, hkt, hob']
      rfl
  · cases h
theorem s_call {f : Operand} {args : Array Operand} {ats : Array TypeId} {g : FuncId} {xs ys : Array Value} {vs : List Value} {v : Value} {st' : SS} (ho : o.op = .call { callee := .value f, args, argTypes := ats }) (hf : ρ f = some (.func (.func g) xs ys))
    (hx : args.toList.mapM ρ = some vs) (h : CallR P L g (xs.toList ++ vs ++ ys.toList) st v st') : OpR P L o ρ st v st' := by
  obtain ⟨h1, n, h2⟩ := h
  refine .gen (by rw [ho]; rfl) (by rw [ho]; rfl) h1 ⟨n, fun m hm base log ρ' hρ => ⟨by unfold pureE; simp only [ho], by unfold allocE; simp only [ho], by unfold readE; simp only [ho], ?_⟩⟩
  obtain ⟨log', e1, e2⟩ := h2 m hm base log
  refine ⟨log', ?_, e2⟩
  unfold genE
  simp only [ho, hρ _ _ hf, Option.bind_some, mapM_mono hρ _ _ hx]
  exact e1

theorem first_E {base : Nat} {log : List Nat} {sz n : Nat} {x : Value} : firstE (st.toE base log) sz n x = st.first sz n x := by
  unfold firstE SS.first
  cases x <;> try rfl
  rename_i a l c
  cases a with
  | none => rfl
  | some a =>
    obtain ⟨i, k, sp⟩ := a
    cases sp with
    | some _ => rfl
    | none =>
      show (match st.mem.get i with | some (.cells c _) => cut c k (n * sz) | _ => none) = (st.mem.get i).bind (fun ob => match ob with | .cells c _ => cut c k (n * sz) | _ => none)
      cases st.mem.get i with
      | none => rfl
      | some ob => cases ob <;> rfl
theorem s_append {args : Array Operand} {ats : Array TypeId} {s x v : Value} {t xt e : TypeId} {d : TypeDesc} {i : TypeInfo} {zero : Value} {st' : SS} (ho : o.op = .call { callee := .builtin .append, args, argTypes := ats }) (hx : args.toList.mapM ρ = some [s, x]) (ht : ats.toList = [t, xt])
    (hu : L.und t = some (.slice e)) (hxt : L.und xt = some d) (hd : ∀ k, d ≠ .int k) (hi : L.info e = some i) (hz : i.zero = some zero) (hc : (Nat.blt 0 i.bytes && Nat.blt 0 i.size && Nat.beq zero.cells.size i.size && flat2 zero) = true)
    (h : st.app i.size i.bytes s x = some (v, st')) : OpR P L o ρ st v st' := by
  simp only [Bool.and_eq_true] at hc
  obtain ⟨⟨⟨c1, c2⟩, c3⟩, c4⟩ := hc
  have key : st'.lim = st.lim ∧ ∀ base log, ∃ log', appendE L (st.toE base log) t xt s x = some (v, st'.toE base log') ∧ LogOk st.lim base log log' := by
    have unf : ∀ base log, appendE L (st.toE base log) t xt s x = (lenE x).bind fun n => match s with
      | .slice none 0 0 =>
        cond (Nat.beq n 0) (some (s, st.toE base log))
          (cond (Nat.ble ((n + 1) * i.bytes) (2 ^ 44) && Nat.ble n (2 ^ 44) && Nat.blt 0 i.bytes && Nat.blt 0 i.size && Nat.beq zero.cells.size i.size && flat2 zero)
            ((firstE (st.toE base log) i.size n x).bind fun new => some (.slice (some ⟨st.next, 0, none⟩) n n, (st.toE base log).new (.cells new i.size))) none)
      | .slice (some ⟨j, k, none⟩) len cap =>
        cond (Nat.beq n 0) (some (s, st.toE base log))
          (cond (Nat.ble ((len + n + 1) * i.bytes) (2 ^ 44) && Nat.ble (len + n) (2 ^ 44) && Nat.blt 0 i.bytes && Nat.blt 0 i.size && Nat.beq zero.cells.size i.size && flat2 zero)
            (match (st.toE base log).mem.get j with
            | some (.cells c z) =>
              cond (Nat.beq z i.size && (Nat.blt cap (len + n) || Nat.ble (k + cap * i.size) c.length))
                ((cut c k (len * i.size)).bind fun old => (firstE (st.toE base log) i.size n x).bind fun new =>
                  cond (new.all one) (some (.slice (some ⟨st.next, 0, none⟩) (len + n) (len + n), ((st.toE base log).write j none).new (.cells (old ++ new) i.size))) none) none
            | _ => none) none)
      | _ => none := fun base log => by
      unfold appendE
      rw [hu, hxt]
      cases d <;> first | exact absurd rfl (hd _) | (simp only [hi, hz, Option.bind_some]; rfl)
    unfold SS.app at h
    simp only [Option.bind_eq_some_iff] at h
    obtain ⟨n, hn, h⟩ := h
    split at h
    · cases hb : Nat.beq n 0 with
      | true =>
        rw [hb] at h; cases h
        exact ⟨rfl, fun base log => ⟨log, by rw [unf, hn]; simp only [Option.bind_some, hb, cond_true], .refl _ _ _⟩⟩
      | false =>
        rw [hb] at h
        simp only [cond_false] at h
        cases hq : (Nat.ble ((n + 1) * i.bytes) (2 ^ 44) && Nat.ble n (2 ^ 44)) with
        | false => rw [hq] at h; cases h
        | true =>
          rw [hq] at h
          simp only [cond_true, Option.bind_eq_some_iff, Option.some.injEq, Prod.mk.injEq] at h
          obtain ⟨new, hnew, rfl, rfl⟩ := h
          refine ⟨rfl, fun base log => ⟨log, ?_, .refl _ _ _⟩⟩
          rw [unf, hn]
          simp only [Option.bind_some, hb, cond_false, hq, c1, c2, c3, c4, Bool.and_self, cond_true, first_E, hnew]
          rfl
    · rename_i j k len cap
      cases hb : Nat.beq n 0 with
      | true =>
        rw [hb] at h; cases h
        exact ⟨rfl, fun base log => ⟨log, by rw [unf, hn]; simp only [Option.bind_some, hb, cond_true], .refl _ _ _⟩⟩
      | false =>
        rw [hb] at h
        simp only [cond_false] at h
        cases hq : (Nat.ble ((len + n + 1) * i.bytes) (2 ^ 44) && Nat.ble (len + n) (2 ^ 44) && Nat.ble st.lim j) with
        | false => rw [hq] at h; cases h
        | true =>
          rw [hq] at h
          simp only [cond_true, Option.bind_eq_some_iff] at h
          obtain ⟨ob, hob, h⟩ := h
          cases ob <;> simp only [reduceCtorEq] at h
          rename_i c z
          cases hw : (Nat.beq z i.size && (Nat.blt cap (len + n) || Nat.ble (k + cap * i.size) c.length)) with
          | false => rw [hw] at h; cases h
          | true =>
            rw [hw] at h
            simp only [cond_true, Option.bind_eq_some_iff] at h
            obtain ⟨old, hold, new, hnew, h⟩ := h
            cases ha : new.all one with
            | false => rw [ha] at h; cases h
            | true =>
              rw [ha] at h
              simp only [cond_true, Option.some.injEq, Prod.mk.injEq] at h
              obtain ⟨rfl, rfl⟩ := h
              simp only [Bool.and_eq_true] at hq
              refine ⟨rfl, fun base log => ⟨(st.toE base log).note j, ?_, note_ok (Nat.le_of_ble_eq_true hq.2)⟩⟩
              have hob' : (st.toE base log).mem.get j = some (.cells c z) := hob
              rw [unf, hn]
              simp only [Option.bind_some, hb, cond_false, hq.1.1, hq.1.2, c1, c2, c3, c4, Bool.and_self, cond_true, hob', hw, hold, first_E, hnew, ha]
              rfl
    · cases h
  obtain ⟨h1, h2⟩ := key
  refine .gen (by rw [ho]; rfl) (by rw [ho]; rfl) h1 ⟨0, fun m _ base log ρ' hρ => ⟨by unfold pureE; simp only [ho, mapM_mono hρ _ _ hx, Option.bind_some], by unfold allocE; simp only [ho], by unfold readE; simp only [ho], ?_⟩⟩
  obtain ⟨log', e1, e2⟩ := h2 base log
  refine ⟨log', ?_, e2⟩
  unfold genE
  simp only [ho, mapM_mono hρ _ _ hx, Option.bind_some, ht]
  exact e1
theorem s_copy {args : Array Operand} {ats : Array TypeId} {d x v : Value} {t xt e sz : TypeId} {st' : SS} (ho : o.op = .call { callee := .builtin .copy, args, argTypes := ats }) (hx : args.toList.mapM ρ = some [d, x]) (ht : ats.toList = [t, xt])
    (hu : L.und t = some (.slice e)) (hi : L.size e = some sz) (h : st.cpy sz d x = some (v, st')) : OpR P L o ρ st v st' := by
  have key : st'.lim = st.lim ∧ ∀ base log, ∃ log', genE L (fun _ _ _ => none) (fun x => ρ x) o (st.toE base log) = some (v, st'.toE base log') ∧ LogOk st.lim base log log' := by
    unfold SS.cpy at h
    simp only [Option.bind_eq_some_iff] at h
    obtain ⟨n, hn, h⟩ := h
    split at h
    · rename_i i k len cap
      simp only [Option.bind_eq_some_iff, Option.map_eq_some_iff, Prod.mk.injEq] at h
      obtain ⟨new, hnew, s1, hs1, rfl, rfl⟩ := h
      obtain ⟨h1, h2⟩ := st_some hs1
      refine ⟨h1, fun base log => ?_⟩
      obtain ⟨log', e1, e2⟩ := h2 base log
      refine ⟨log', ?_, e2⟩
      unfold genE
      simp only [ho, hx, Option.bind_some, ht, hu, hi, hn, first_E, hnew, e1, Option.map_some]
      rfl
    · cases h
      refine ⟨rfl, fun base log => ⟨log, ?_, .refl _ _ _⟩⟩
      unfold genE
      simp only [ho, hx, Option.bind_some, ht, hu, hi, hn]
      rfl
    · cases h
  obtain ⟨h1, h2⟩ := key
  refine .gen (by rw [ho]; rfl) (by rw [ho]; rfl) h1 ⟨0, fun m _ base log ρ' hρ => ⟨by unfold pureE; simp only [ho, mapM_mono hρ _ _ hx, Option.bind_some], by unfold allocE; simp only [ho], by unfold readE; simp only [ho], ?_⟩⟩
  obtain ⟨log', e1, e2⟩ := h2 base log
  refine ⟨log', ?_, e2⟩
  rw [← e1]
  unfold genE
  simp only [ho, mapM_mono hρ _ _ hx, hx, Option.bind_some, ht]
theorem s_clear {args : Array Operand} {ats : Array TypeId} {x zero : Value} {t e : TypeId} {inf : TypeInfo} {st' : SS} (ho : o.op = .call { callee := .builtin .clear, args, argTypes := ats }) (hx : args.toList.mapM ρ = some [x]) (ht : ats.toList = [t])
    (hu : L.und t = some (.slice e)) (hi : L.info e = some inf) (hz : inf.zero = some zero) (hf : flat2 zero = true) (h : st.clr zero.cells.toList x = some st') : OpR P L o ρ st (.tuple #[]) st' := by
  have key : st'.lim = st.lim ∧ ∀ base log, ∃ log', genE L (fun _ _ _ => none) (fun x => ρ x) o (st.toE base log) = some (.tuple #[], st'.toE base log') ∧ LogOk st.lim base log log' := by
    unfold SS.clr at h
    split at h
    · cases h
      refine ⟨rfl, fun base log => ⟨log, ?_, .refl _ _ _⟩⟩
      unfold genE
      simp only [ho, hx, Option.bind_some, ht, hu]
    · cases h
      refine ⟨rfl, fun base log => ⟨log, ?_, .refl _ _ _⟩⟩
      unfold genE
      simp only [ho, hx, Option.bind_some, ht, hu]
    · rename_i i k n cap hne
      obtain ⟨h1, h2⟩ := st_some h
      refine ⟨h1, fun base log => ?_⟩
      obtain ⟨log', e1, e2⟩ := h2 base log
      refine ⟨log', ?_, e2⟩
      unfold genE
      simp only [ho, hx, Option.bind_some, ht, hu]
      cases n with
      | zero => exact absurd rfl (hne)
      | succ n =>
        simp only [hi, hz, Option.bind_some, hf, cond_true]
        have : zero.cells.toList.toArray = zero.cells := by simp
        rw [this] at e1
        rw [e1]; rfl
    · cases h
  obtain ⟨h1, h2⟩ := key
  refine .gen (by rw [ho]; rfl) (by rw [ho]; rfl) h1 ⟨0, fun m _ base log ρ' hρ => ⟨by unfold pureE; simp only [ho, mapM_mono hρ _ _ hx, Option.bind_some], by unfold allocE; simp only [ho], by unfold readE; simp only [ho], ?_⟩⟩
  obtain ⟨log', e1, e2⟩ := h2 base log
  refine ⟨log', ?_, e2⟩
  rw [← e1]
  unfold genE
  simp only [ho, mapM_mono hρ _ _ hx, hx, Option.bind_some, ht]
end
end Go.E
/- The second evaluator's operations are sound: all together. -/
set_option linter.unusedSimpArgs false
set_option linter.unusedVariables false
namespace Go.E
open Go

section
variable {P : Program} {L : Lk} {α : Type} {ρ : Operand → Option Value} {o : Oper} {st : SS}

theorem cond_none {α : Type} {b : Bool} {x : Option α} {r : α} (h : cond b x none = some r) : b = true ∧ x = some r := by
  cases b with
  | true => exact ⟨rfl, h⟩
  | false => cases h
theorem cond_none' {α : Type} {b : Bool} {x : Option α} {r : α} (h : cond b none x = some r) : b = false ∧ x = some r := by
  cases b with
  | false => exact ⟨rfl, h⟩
  | true => cases h

theorem opS_sound [Sym] (hL : L.Ok P) (hS : LkS L) (hc : ∀ c v, ρ (.const c) = some v → v = c) {K : Value → SS → Option α} {r : α} (h : opS P L (cS P L) ρ o st K = some r) :
    ∃ v st', K v st' = some r ∧ OpR P L o ρ st v st' := by
  unfold opS at h
  split at h
  · rename_i x ho
    simp only [Option.bind_eq_some_iff] at h
    obtain ⟨v, hv, h⟩ := h
    exact ⟨v, st, h, s_move (.inl ho) hv⟩
  · rename_i x ho
    simp only [Option.bind_eq_some_iff] at h
    obtain ⟨v, hv, h⟩ := h
    exact ⟨v, st, h, s_move (.inr ho) hv⟩
  · rename_i c a b ho
    simp only [Option.bind_eq_some_iff] at h
    obtain ⟨vc, hvc, b', hb, h⟩ := h
    cases b' with
    | true =>
      simp only [cond_true, Option.bind_eq_some_iff] at h
      obtain ⟨v, hv, h⟩ := h
      exact ⟨v, st, h, s_pick ho hvc hb hv⟩
    | false =>
      simp only [cond_false, Option.bind_eq_some_iff] at h
      obtain ⟨v, hv, h⟩ := h
      exact ⟨v, st, h, s_pick ho hvc hb hv⟩
  · rename_i x ho
    simp only [Option.bind_eq_some_iff] at h
    obtain ⟨u, hu, v, hv, h⟩ := h
    exact ⟨v, st, h, s_nilCheck ho hu hv⟩
  · rename_i op t x y yt ho
    simp only [Option.bind_eq_some_iff] at h
    obtain ⟨a, ha, b, hb, h⟩ := h
    obtain ⟨v, hv, h⟩ := withSh_some h
    exact ⟨v, st, h, bin_sound hL hS ho hc ha hb hv⟩
  · rename_i op t x ho
    obtain ⟨v, hv, h⟩ := withSh_some h
    exact ⟨v, st, h, s_unOp ho hv⟩
  · rename_i s d x ho
    split at h
    · rename_i e hs hd
      split at h
      · rename_i he
        simp only [Option.bind_eq_some_iff] at h
        obtain ⟨v, hv, s', hs', h⟩ := h
        exact ⟨_, st, h, s_bytes hL ho hs hd he hv hs'⟩
      · cases h
    · rename_i e hs hd
      unfold allocS at h
      simp only [Option.bind_eq_some_iff] at h
      obtain ⟨⟨ob, vf⟩, ha, h⟩ := h
      exact ⟨_, _, h, s_toBytes hL ho hs hd ha⟩
    · rename_i k1 k hs hd
      obtain ⟨v, hv, h⟩ := withSh_some h
      exact ⟨v, st, h, s_convert ho hv⟩
    · cases h
  · rename_i t x lo hi ho
    split at h
    · rename_i hu
      simp only [Option.bind_eq_some_iff] at h
      obtain ⟨v, hv, s, hs, l, hl, hh, hhi, r', hr, h⟩ := h
      have := asS_some hs; subst this
      exact ⟨_, st, h, s_sliceStr ho hu hv hl hhi hr⟩
    · rename_i e hu
      simp only [Option.bind_eq_some_iff] at h
      obtain ⟨z, hz, v, hv, l, hl, hh, hhi, r', hr, h⟩ := h
      refine ⟨_, st, h, s_sliceSl (h := hh) ho hu hz hv hl ?_ hr⟩
      cases hi <;> exact hhi
    · rename_i n e hu
      simp only [Option.bind_eq_some_iff] at h
      obtain ⟨z, hz, v, hv, ⟨i, k⟩, hp, l, hl, hh, hhi, r', hr, h⟩ := h
      exact ⟨_, st, h, s_sliceArr ho hu hz hv hp hl hhi hr⟩
    · cases h
  · rename_i s x f ho
    simp only [Option.bind_eq_some_iff] at h
    obtain ⟨a, ha, ⟨i, k⟩, hp, h⟩ := h
    split at h
    · rename_i fields hu
      simp only [Option.bind_eq_some_iff] at h
      obtain ⟨fd, hfd, z, hz, h⟩ := h
      obtain ⟨hz0, h⟩ := cond_none' h
      exact ⟨_, st, h, s_fieldAddr ho ha hp hu hfd hz hz0⟩
    · cases h
  · rename_i t x ix ho
    simp only [Option.bind_eq_some_iff] at h
    obtain ⟨a, ha, v, hv, n, hn, h⟩ := h
    split at h
    · rename_i len e hu
      simp only [Option.bind_eq_some_iff] at h
      obtain ⟨z, hz, ⟨i, k⟩, hp, h⟩ := h
      exact ⟨_, st, h, s_indexArr ho ha hv hn hu hz hp⟩
    · rename_i e hu
      simp only [Option.bind_eq_some_iff] at h
      obtain ⟨z, hz, ⟨i, k⟩, hp, h⟩ := h
      exact ⟨_, st, h, s_indexSl ho ha hv hn hu hz hp⟩
    · cases h
  · rename_i t x f ho
    simp only [Option.bind_eq_some_iff] at h
    obtain ⟨a, ha, h⟩ := h
    obtain ⟨v, hv, h⟩ := withSh_some h
    exact ⟨v, st, h, s_field ho ha hv⟩
  · rename_i t x ix ho
    simp only [Option.bind_eq_some_iff] at h
    obtain ⟨a, ha, v, hv, n, hn, h⟩ := h
    split at h
    · rename_i hu
      simp only [Option.bind_eq_some_iff] at h
      obtain ⟨s, hs, h⟩ := h
      have := asS_some hs; subst this
      obtain ⟨u, hu', h⟩ := withSh_some h
      exact ⟨u, st, h, s_indexStr ho ha hv hn hu hu'⟩
    · rename_i len e hu
      obtain ⟨u, hu', h⟩ := withSh_some h
      exact ⟨u, st, h, s_indexArrV ho ha hv hn hu hu'⟩
    · cases h
  · rename_i t ix ho
    simp only [Option.bind_eq_some_iff] at h
    obtain ⟨a, ha, h⟩ := h
    obtain ⟨v, hv, h⟩ := withSh_some h
    exact ⟨v, st, h, s_extract ho ha hv⟩
  · rename_i t a ho
    simp only [Option.bind_eq_some_iff] at h
    obtain ⟨va, ha, ⟨i, k⟩, hp, h⟩ := h
    obtain ⟨v, hv, h⟩ := withSh_some h
    exact ⟨v, st, h, s_load ho ha hp hv⟩
  · rename_i t a x ho
    simp only [Option.bind_eq_some_iff] at h
    obtain ⟨va, ha, v, hv, ⟨i, k⟩, hp, n, hn, st', hst, h⟩ := h
    exact ⟨_, st', h, s_store ho ha hv hp hn hst⟩
  · rename_i e ho
    unfold allocS at h
    simp only [Option.bind_eq_some_iff] at h
    obtain ⟨⟨ob, vf⟩, ha, h⟩ := h
    exact ⟨_, _, h, s_alloc (e := 0) (.inl ⟨_, ho⟩) ha⟩
  · rename_i e x ho
    unfold allocS at h
    simp only [Option.bind_eq_some_iff] at h
    obtain ⟨⟨ob, vf⟩, ha, h⟩ := h
    exact ⟨_, _, h, s_alloc (e := 0) (.inr (.inl ⟨_, _, ho⟩)) ha⟩
  · rename_i t x ho
    unfold allocS at h
    simp only [Option.bind_eq_some_iff] at h
    obtain ⟨⟨ob, vf⟩, ha, h⟩ := h
    exact ⟨_, _, h, s_alloc (e := 0) (.inr (.inr (.inl ⟨_, _, ho⟩))) ha⟩
  · rename_i t ho
    unfold allocS at h
    simp only [Option.bind_eq_some_iff] at h
    obtain ⟨⟨ob, vf⟩, ha, h⟩ := h
    exact ⟨_, _, h, s_alloc (e := 0) (.inr (.inr (.inr ⟨_, ho⟩))) ha⟩
  · rename_i t len cap ho
    simp only [Option.bind_eq_some_iff] at h
    obtain ⟨vl, hvl, l, hl, vc, hvc, c, hcc, h⟩ := h
    split at h
    · rename_i e hu
      simp only [Option.bind_eq_some_iff] at h
      obtain ⟨i, hi, zero, hz, h⟩ := h
      obtain ⟨hck, h⟩ := cond_none h
      simp only [Option.bind_eq_some_iff] at h
      obtain ⟨u, hu', h⟩ := h
      exact ⟨_, _, h, s_makeSlice ho hvl hl hvc hcc hu hi hz hck (by rw [hu'])⟩
    · cases h
  · rename_i it ho
    simp only [Option.bind_eq_some_iff] at h
    obtain ⟨a, ha, ⟨i, k⟩, hp, h⟩ := h
    obtain ⟨hk, h⟩ := cond_none h
    simp only [Option.bind_eq_some_iff] at h
    obtain ⟨⟨s, p⟩, hg, h⟩ := h
    obtain ⟨hl, h⟩ := cond_none h
    exact s_next ho ha hp hk hg hl h
  · rename_i t x ix ok ho
    simp only [Option.bind_eq_some_iff] at h
    obtain ⟨a, ha, b, hb, h⟩ := h
    split at h
    · rename_i kt et hu
      split at h
      · rename_i hkt
        simp only [Option.bind_eq_some_iff] at h
        obtain ⟨k, hk, inf, hinf, zero, hz, h⟩ := h
        have := asS_some hk; subst this
        obtain ⟨hf, h⟩ := cond_none h
        simp only [Option.bind_eq_some_iff] at h
        obtain ⟨q, hq, h⟩ := h
        refine ⟨_, st, ?_, s_lookup ho ha hb hu hkt hinf hz hf hq⟩
        cases q <;> exact h
      · cases h
    · cases h
  · rename_i t m k x ho
    simp only [Option.bind_eq_some_iff] at h
    obtain ⟨vm, hm, vk, hk, v, hv, h⟩ := h
    split at h
    · rename_i kt et hu
      split at h
      · rename_i hkt
        simp only [Option.bind_eq_some_iff] at h
        obtain ⟨key, hkey, st', hst, h⟩ := h
        have := asS_some hkey; subst this
        exact ⟨_, st', h, s_mapUpdate ho hm hk hv hu hkt hst⟩
      · cases h
    · cases h
  · rename_i f args ats ho
    simp only [Option.bind_eq_some_iff] at h
    obtain ⟨vf, hf, vs, hvs, h⟩ := h
    split at h
    · rename_i g xs ys
      simp only [Option.bind_eq_some_iff] at h
      obtain ⟨⟨v, st'⟩, hcall, h⟩ := h
      obtain ⟨u, hu, h⟩ := withSh_some h
      cases hu
      exact ⟨v, st', h, s_call ho hf hvs (cS_iff.1 hcall)⟩
    · cases h
  · rename_i b args ats ho
    simp only [Option.bind_eq_some_iff] at h
    obtain ⟨vs, hvs, h⟩ := h
    split at h
    · rename_i v t ht
      split at h
      · rename_i hu
        simp only [Option.bind_eq_some_iff] at h
        obtain ⟨s, hs, h⟩ := h
        have := asS_some hs; subst this
        exact ⟨_, st, h, s_lenStr hL ho hvs ht hu⟩
      · rename_i e hu
        obtain ⟨u, hu', h⟩ := withSh_some h
        exact ⟨u, st, h, s_lenSl ho hvs ht hu hu'⟩
      · cases h
    · rename_i k x k' y ht
      obtain ⟨hk, h⟩ := cond_none h
      exact ⟨_, st, h, s_min ho hvs hk⟩
    · rename_i k x k' y ht
      obtain ⟨hk, h⟩ := cond_none h
      exact ⟨_, st, h, s_max ho hvs hk⟩
    · rename_i s x t xt ht
      split at h
      · cases h
      · rename_i e d hnd hu hxt
        simp only [Option.bind_eq_some_iff] at h
        obtain ⟨i, hi, zero, hz, h⟩ := h
        obtain ⟨hck, h⟩ := cond_none h
        simp only [Option.bind_eq_some_iff] at h
        obtain ⟨⟨v, st'⟩, happ, h⟩ := h
        refine ⟨v, st', h, s_append ho hvs ht hu hxt (fun k e => ?_) hi hz hck happ⟩
        subst e
        first | exact hnd _ rfl | exact hnd _ _ rfl rfl | exact hnd _ _ hu hxt | simp_all
      · cases h
    · rename_i d x t xt ht
      split at h
      · rename_i e hu
        simp only [Option.bind_eq_some_iff] at h
        obtain ⟨sz, hsz, ⟨v, st'⟩, hcp, h⟩ := h
        obtain ⟨u, hu', h⟩ := withSh_some h
        cases hu'
        exact ⟨v, st', h, s_copy ho hvs ht hu hsz hcp⟩
      · cases h
    · rename_i x t ht
      split at h
      · rename_i e hu
        simp only [Option.bind_eq_some_iff] at h
        obtain ⟨inf, hinf, zero, hz, h⟩ := h
        obtain ⟨hf, h⟩ := cond_none h
        simp only [Option.bind_eq_some_iff] at h
        obtain ⟨st', hst, h⟩ := h
        exact ⟨_, st', h, s_clear ho hvs ht hu hinf hz hf hst⟩
      · cases h
    · cases h
  · rename_i t parts ho
    simp only [Option.bind_eq_some_iff] at h
    obtain ⟨i, hi, zero, hz, h⟩ := h
    obtain ⟨hf, h⟩ := cond_none h
    split at h
    · rename_i fields hu
      obtain ⟨hall, h⟩ := cond_none h
      obtain ⟨v, hk, hr⟩ := s_build_struct ho hi hz hf hu hall h
      exact ⟨v, st, hk, hr⟩
    · rename_i n e hu
      simp only [Option.bind_eq_some_iff] at h
      obtain ⟨z, hsz, h⟩ := h
      obtain ⟨v, hk, hr⟩ := s_build_array ho hi hz hf hu hsz h
      exact ⟨v, st, hk, hr⟩
    · cases h
  · rename_i t len parts ho
    split at h
    · rename_i e hu
      simp only [Option.bind_eq_some_iff] at h
      obtain ⟨i, hi, zero, hz, h⟩ := h
      obtain ⟨hck, h⟩ := cond_none h
      exact s_buildSlice ho hu hi hz hck h
    · cases h
  · rename_i t x ho
    simp only [Option.bind_eq_some_iff] at h
    obtain ⟨v, hv, h⟩ := h
    exact ⟨v, st, h, s_makeInterface ho hv⟩
  · rename_i f a b ho
    simp only [Option.bind_eq_some_iff] at h
    obtain ⟨v, hv, h⟩ := h
    exact ⟨v, st, h, s_makeFunc ho hv⟩
  · cases h
end
end Go.E
/- The second evaluator's regions are sound. -/
set_option linter.unusedSimpArgs false
set_option linter.unusedVariables false
namespace Go.E
open Go

section
variable {P : Program} {L : Lk} {α : Type}

theorem get_of {τ : Tm} {i : Nat} {v : Value} (h : τ.t.get i = some v) : τ.get i = v := by unfold Tm.get; rw [h]; rfl
theorem rhoS_le {τ τE : Tm} (h : TLe τ τE) (x : Operand) (v : Value) (hx : rhoS L τ x = some v) : rho L τE x = some v := by
  cases x with
  | tmp t => exact congrArg some (get_of (h.2 t v hx))
  | const c => exact hx
  | global g => exact hx
  | func f => exact hx
theorem rhoS_const {τ : Tm} (c v : Value) (h : rhoS L τ (.const c) = some v) : v = c := by
  have := (cond_none (show cond (flat3 c) (some c) none = some v from h)).2
  cases this; rfl
theorem TLe.same {τ τE : Tm} (h : TLe τ τE) {d : Nat} {v : Value} (hd : τE.t.get d = some v) : TLe (τ.put (some d) v) τE := by
  unfold Tm.put
  simp only
  cases hb : Nat.blt d τ.n with
  | false => exact h
  | true =>
    simp only [cond_true]
    refine ⟨h.1, fun i u hu => ?_⟩
    simp only [PT.get_upd] at hu
    split at hu
    · rename_i e; subst e; cases hu; exact hd
    · exact h.2 i u hu
theorem put_num (τ : Tm) (d : Option Tmp) (v : Value) : (τ.put d v).n = τ.n := put_n τ d v

/-- One operation, as the first evaluator does it. -/
noncomputable def stepE (P : Program) (L : Lk) (callf : CallF) (all : List Oper) (τ : Tm) (o : Oper) (st : St) : Option (Value × Kd × St) :=
  cond (wantedE all τ o) (opE P L callf (rho L τ) o st) (some (undef, .blind, st))
theorem opsE_cons {callf : CallF} {all : List Oper} {o : Oper} {rest : List Oper} {τ : Tm} {st : St} :
    opsE P L callf all (o :: rest) τ st = (stepE P L callf all τ o st).bind fun x => opsE P L callf all rest (τ.put o.dst x.1) x.2.2 := by
  unfold stepE
  cases h : wantedE all τ o <;> simp only [opsE, h, cond_true, cond_false] <;> rfl

theorem step_sound [Sym] (hL : L.Ok P) (hS : LkS L) {all : List Oper} {o : Oper} {ro : Bool} {rest : List (Oper × Bool)} {τ : Tm} {st : SS} {K : Tm → SS → Option α} {r : α} (h : opsS P L (cS P L) all ((o, ro) :: rest) τ st K = some r) :
    ∃ v τ1 st', opsS P L (cS P L) all rest (τ1.put o.dst v) st' K = some r ∧ st'.lim = st.lim ∧ τ1.n = τ.n ∧ ∃ n, ∀ m, n ≤ m → ∀ base log τE, TLe τ τE → TLe τ1 τE ∧ ∃ kd log',
      stepE P L (callE L (codeE P L m)) all τE o (st.toE base log) = some (v, kd, st'.toE base log') ∧ LogOk (cond ro st.next st.lim) base log log' ∧ (blindOp L o.op = true → kd = .blind) ∧ (genOp o.op = false → log' = log) := by
  -- the operation is done
  have run : ∀ τ1 : Tm, τ1.n = τ.n → (cond ro
      (opS P L (cS P L) (rhoS L τ1) o (st.ro st.next) fun v st' => opsS P L (cS P L) all rest (τ1.put o.dst v) (st'.ro st.lim) K)
      (opS P L (cS P L) (rhoS L τ1) o st fun v st => opsS P L (cS P L) all rest (τ1.put o.dst v) st K)) = some r →
      (∀ τE, TLe τ τE → wantedE all τE o = true ∧ TLe τ1 τE ∨ ¬ TLe τ1 τE) → (∀ τE, TLe τ τE → TLe τ1 τE → wantedE all τE o = true) → (hle : ∀ τE, TLe τ τE → TLe τ1 τE) →
      ∃ v τ1 st', opsS P L (cS P L) all rest (τ1.put o.dst v) st' K = some r ∧ st'.lim = st.lim ∧ τ1.n = τ.n ∧ ∃ n, ∀ m, n ≤ m → ∀ base log τE, TLe τ τE → TLe τ1 τE ∧ ∃ kd log',
      stepE P L (callE L (codeE P L m)) all τE o (st.toE base log) = some (v, kd, st'.toE base log') ∧ LogOk (cond ro st.next st.lim) base log log' ∧ (blindOp L o.op = true → kd = .blind) ∧ (genOp o.op = false → log' = log) := by
    intro τ1 hn hrun _ hw hle
    cases ro with
    | true =>
      simp only [cond_true] at hrun ⊢
      obtain ⟨v, st', hK, hl, n, hop⟩ := opS_sound hL hS rhoS_const hrun
      refine ⟨v, τ1, st'.ro st.lim, hK, rfl, hn, n, fun m hm base log τE ht => ⟨hle τE ht, ?_⟩⟩
      obtain ⟨kd, log', h1, h2, h3, h4⟩ := hop m hm base log (rho L τE) (rhoS_le (hle τE ht))
      refine ⟨kd, log', ?_, h2, h3, h4⟩
      unfold stepE
      rw [hw τE ht (hle τE ht)]
      exact h1
    | false =>
      simp only [cond_false] at hrun ⊢
      obtain ⟨v, st', hK, hl, n, hop⟩ := opS_sound hL hS rhoS_const hrun
      refine ⟨v, τ1, st', hK, hl, hn, n, fun m hm base log τE ht => ⟨hle τE ht, ?_⟩⟩
      obtain ⟨kd, log', h1, h2, h3, h4⟩ := hop m hm base log (rho L τE) (rhoS_le (hle τE ht))
      refine ⟨kd, log', ?_, h2, h3, h4⟩
      unfold stepE
      rw [hw τE ht (hle τE ht)]
      exact h1
  -- it is skipped
  have skip : ∀ τ1 : Tm, τ1.n = τ.n → opsS P L (cS P L) all rest (τ1.put o.dst undef) st K = some r → (∀ τE, TLe τ τE → wantedE all τE o = false) → (hle : ∀ τE, TLe τ τE → TLe τ1 τE) →
      ∃ v τ1 st', opsS P L (cS P L) all rest (τ1.put o.dst v) st' K = some r ∧ st'.lim = st.lim ∧ τ1.n = τ.n ∧ ∃ n, ∀ m, n ≤ m → ∀ base log τE, TLe τ τE → TLe τ1 τE ∧ ∃ kd log',
      stepE P L (callE L (codeE P L m)) all τE o (st.toE base log) = some (v, kd, st'.toE base log') ∧ LogOk (cond ro st.next st.lim) base log log' ∧ (blindOp L o.op = true → kd = .blind) ∧ (genOp o.op = false → log' = log) := by
    intro τ1 hn hrun hw hle
    refine ⟨undef, τ1, st, hrun, rfl, hn, 0, fun m _ base log τE ht => ⟨hle τE ht, .blind, log, ?_, .refl _ _ _, fun _ => rfl, fun _ => rfl⟩⟩
    unfold stepE
    rw [hw τE ht]; rfl
  unfold opsS at h
  simp only at h
  cases hg : o.guard with
  | none =>
    rw [hg] at h
    simp only at h
    have hw : ∀ τE, wantedE all τE o = true := fun τE => by unfold wantedE; rw [hg]
    exact run τ rfl h (fun τE ht => .inl ⟨hw τE, ht⟩) (fun τE _ _ => hw τE) fun _ ht => ht
  | some jw =>
    obtain ⟨j, want⟩ := jw
    rw [hg] at h
    simp only at h
    split at h
    · rename_i d hd
      simp only [Option.bind_eq_some_iff] at h
      obtain ⟨v, hv, h⟩ := h
      have hwd : ∀ τE, wantedE all τE o = match τE.get d with | .bool b => b == want | _ => false := fun τE => by unfold wantedE; simp only [hg, hd]; rfl
      have hgd : ∀ τE, TLe τ τE → τE.get d = v := fun τE ht => get_of (ht.2 d v hv)
      split at h
      · rename_i b
        have hle : ∀ τE, TLe τ τE → TLe (τ.put (some d) (.bool b)) τE := fun τE ht => ht.same (ht.2 d _ hv)
        have hw : ∀ τE, TLe τ τE → wantedE all τE o = (b == want) := fun τE ht => by rw [hwd, hgd τE ht]
        cases b <;> cases want <;> simp only [cond_true, cond_false] at h
        · exact run _ (put_num ..) h (fun τE ht => .inl ⟨hw τE ht, hle τE ht⟩) (fun τE ht _ => hw τE ht) hle
        · exact skip _ (put_num ..) h (fun τE ht => hw τE ht) hle
        · exact skip _ (put_num ..) h (fun τE ht => hw τE ht) hle
        · exact run _ (put_num ..) h (fun τE ht => .inl ⟨hw τE ht, hle τE ht⟩) (fun τE ht _ => hw τE ht) hle
      · rename_i hnb
        refine skip τ rfl h (fun τE ht => ?_) fun _ ht => ht
        rw [hwd, hgd τE ht]
        cases v <;> first | rfl | exact absurd rfl (hnb _)
    · cases h

/-- A row of operations in the order of the text. -/
theorem ops_plain [Sym] (hL : L.Ok P) (hS : LkS L) {all : List Oper} : ∀ (l : List Oper) (τ : Tm) (st : SS) (K : Tm → SS → Option α) (r : α), opsS P L (cS P L) all (l.map fun o => (o, false)) τ st K = some r →
    ∃ τ' st', K τ' st' = some r ∧ st'.lim = st.lim ∧ τ'.n = τ.n ∧ ∃ n, ∀ m, n ≤ m → ∀ base log τE, TLe τ τE → ∃ τE' log', opsE P L (callE L (codeE P L m)) all l τE (st.toE base log) = some (τE', st'.toE base log') ∧ TLe τ' τE' ∧ LogOk st.lim base log log'
  | [], τ, st, K, r, h => ⟨τ, st, h, rfl, rfl, 0, fun m _ base log τE ht => ⟨τE, log, rfl, ht, .refl _ _ _⟩⟩
  | o :: l, τ, st, K, r, h => by
    obtain ⟨v, τ1, st1, hK, hl, hn, n, hstep⟩ := step_sound hL hS (ro := false) (rest := l.map fun o => (o, false)) h
    obtain ⟨τ', st', hK', hl', hn', n', hrest⟩ := ops_plain hL hS l _ st1 K r hK
    refine ⟨τ', st', hK', hl'.trans hl, by rw [hn', put_num, hn], max n n', fun m hm base log τE ht => ?_⟩
    obtain ⟨ht1, kd, log1, h1, h2, _, _⟩ := hstep m (Nat.le_trans (Nat.le_max_left _ _) hm) base log τE ht
    obtain ⟨τE', log', h3, h4, h5⟩ := hrest m (Nat.le_trans (Nat.le_max_right _ _) hm) base log1 (τE.put o.dst v) (ht1.put _ _)
    refine ⟨τE', log', ?_, h4, ?_⟩
    · rw [opsE_cons, h1]; exact h3
    · exact LogOk.trans h2 (by rw [hl] at h5; exact h5)

/-! ### Regions that draw -/
theorem predsL_spec : ∀ (l : List Oper) (ps full : List Nat), predsL l ps = full → ps = full.take ps.length ∧ full.length = ps.length + l.length ∧
    ∀ (i : Nat) o, l[i]? = some o → full[ps.length + i]? = some (predS (full.take (ps.length + i)) o ||| (1 <<< (ps.length + i)))
  | [], ps, full, h => by
    simp only [predsL] at h; subst h
    exact ⟨by simp, by simp, fun i o hi => by simp at hi⟩
  | o :: l, ps, full, h => by
    simp only [predsL] at h
    obtain ⟨h1, h2, h3⟩ := predsL_spec l _ full h
    simp only [List.length_append, List.length_singleton] at h1 h2 h3
    have hps : ps = full.take ps.length := by
      have h4 := congrArg (List.take ps.length) h1
      rw [List.take_left' rfl, List.take_take, Nat.min_eq_left (by omega)] at h4
      exact h4
    refine ⟨hps, by simp [h2]; omega, fun i o' hi => ?_⟩
    cases i with
    | zero =>
      simp at hi; subst hi
      have hlt : ps.length < full.length := by omega
      have : (full.take (ps.length + 1))[ps.length]? = some (predS ps o ||| (1 <<< ps.length)) := by rw [← h1]; simp
      rw [List.getElem?_take_of_lt (by omega)] at this
      simp only [Nat.add_zero]
      rw [this, ← hps]
    | succ i =>
      have := h3 i o' (by simpa using hi)
      rw [show ps.length + (i + 1) = ps.length + 1 + i by omega]
      exact this

structure RecOk (L : Lk) (ops : List Oper) (full : List Nat) (k : Nat) (x : Rec) : Prop where
  o : ops[k]? = some x.o
  preds : full[k]? = some x.preds
  ro : mustRo L ops full k = true → x.log = []
  blind : blindOp L x.o.op = true → x.kd = .blind
  gen : genOp x.o.op = false → x.log = []
def RecsOk (L : Lk) (ops : List Oper) (full : List Nat) (j : Nat) (recs : List Rec) : Prop := recs.length = j ∧ ∀ (k : Nat) x, recs[k]? = some x → RecOk L ops full k x

theorem okWith_of {ops : Array Oper} {r : Rec} : ∀ (recs : List Rec) (k : Nat), (∀ (i : Nat) x, recs[i]? = some x → ((r.preds.testBit (k + i) || (okPair x r && x.o.apart ops r.o)) && (x.o.dst != r.o.dst || x.o.dst == none)) = true) → okWith ops recs k r = true
  | [], k, h => rfl
  | x :: recs, k, h => by
    have h0 := h 0 x rfl
    have h1 := okWith_of recs (k + 1) fun i y hy => by rw [show k + 1 + i = k + (i + 1) by omega]; exact h (i + 1) y (by simpa using hy)
    unfold okWith
    simp only [Nat.add_zero] at h0
    rw [h0, h1]; rfl

theorem preds_eq {recs : List Rec} {full : List Nat} {j : Nat} {ops : List Oper} (h : RecsOk L ops full j recs) (hj : j ≤ full.length) (o : Oper) : predsE recs o = predS (full.take j) o := by
  unfold predsE predS
  have : ∀ e : Edge, ((recs[e.on]?).map (·.preds)).getD 0 = ((full.take j)[e.on]?).getD 0 := fun e => by
    by_cases he : e.on < j
    · have hlt : e.on < recs.length := by rw [h.1]; exact he
      rw [List.getElem?_eq_getElem hlt]
      have := (h.2 e.on _ (List.getElem?_eq_getElem hlt)).preds
      rw [List.getElem?_take_of_lt he, this]; rfl
    · rw [List.getElem?_eq_none (by rw [h.1]; omega), List.getElem?_eq_none (by simp; omega)]; rfl
  congr 1
  funext m e
  rw [this e]

theorem ok_pair {ops : List Oper} {full : List Nat} {j k : Nat} {x r : Rec} (hkj : k < j) (hlen : full.length = ops.length) (hx : RecOk L ops full k x) (hr : RecOk L ops full j r) (hu : r.preds.testBit k = false) : okPair x r = true := by
  have hjl : j < ops.length := (List.getElem?_eq_some_iff.1 hr.o).1
  have hkl : k < ops.length := (List.getElem?_eq_some_iff.1 hx.o).1
  have h1 : x.log = [] ∨ r.kd = .blind := by
    cases hg : genOp x.o.op with
    | false => exact .inl (hx.gen hg)
    | true =>
      cases hb : blindOp L r.o.op with
      | true => exact .inr (hr.blind hb)
      | false =>
        refine .inl (hx.ro ?_)
        unfold mustRo
        rw [hx.o]
        simp only [hg, Bool.true_and, List.any_eq_true, List.mem_range, Bool.and_eq_true]
        refine ⟨j, hjl, ⟨?_, ?_⟩, by rw [hr.o]; simp [hb]⟩
        · rw [beq_dec]; simp; omega
        · unfold partner
          have : Nat.blt j k = false := by rw [← Bool.not_eq_true, Nat.blt_eq]; omega
          rw [this, hr.preds]
          simp [hu]
  have h2 : r.log = [] ∨ x.kd = .blind := by
    cases hg : genOp r.o.op with
    | false => exact .inl (hr.gen hg)
    | true =>
      cases hb : blindOp L x.o.op with
      | true => exact .inr (hx.blind hb)
      | false =>
        refine .inl (hr.ro ?_)
        unfold mustRo
        rw [hr.o]
        simp only [hg, Bool.true_and, List.any_eq_true, List.mem_range, Bool.and_eq_true]
        refine ⟨k, hkl, ⟨?_, ?_⟩, by rw [hx.o]; simp [hb]⟩
        · rw [beq_dec]; simp; omega
        · unfold partner
          have : Nat.blt k j = true := by rw [Nat.blt_eq]; omega
          rw [this, hr.preds]
          simp [hu]
  unfold okPair
  rcases h1 with h1 | h1 <;> rcases h2 with h2 | h2 <;> simp [h1, h2]

theorem ops_draw [Sym] (hL : L.Ok P) (hS : LkS L) {ops : Array Oper} (hok : drawOk ops = true) : ∀ (rest : List Oper) (j : Nat), rest = ops.toList.drop j → ∀ (τ : Tm) (st : SS) (K : Tm → SS → Option α) (r : α),
    opsS P L (cS P L) ops.toList (rest.zip ((roL L ops.toList).drop j)) τ st K = some r →
    ∃ τ' st', K τ' st' = some r ∧ st'.lim = st.lim ∧ τ'.n = τ.n ∧ ∃ n, ∀ m, n ≤ m → ∀ base log τE recs, TLe τ τE → RecsOk L ops.toList (predsL ops.toList []) j recs →
      ∃ τE' log', drawE P L (callE L (codeE P L m)) ops rest recs τE (st.toE base log) = some (τE', st'.toE base log') ∧ TLe τ' τE' ∧ LogOk st.lim base log log'
  | [], j, hr, τ, st, K, r, h => ⟨τ, st, by simpa [opsS] using h, rfl, rfl, 0, fun m _ base log τE recs ht _ => ⟨τE, log, rfl, ht, .refl _ _ _⟩⟩
  | o :: rest, j, hr, τ, st, K, r, h => by
    have hjl : j < ops.toList.length := by
      have := congrArg List.length hr
      simp only [List.length_cons, List.length_drop] at this
      omega
    have ho : ops.toList[j]? = some o := by
      have := congrArg (·[0]?) hr
      simp only [List.getElem?_cons_zero, List.getElem?_drop, Nat.add_zero] at this
      exact this.symm
    have hrest : rest = ops.toList.drop (j + 1) := by
      have := congrArg List.tail hr
      simpa using this
    obtain ⟨_, hfl, hspec⟩ := predsL_spec ops.toList [] _ rfl
    simp only [List.length_nil, Nat.zero_add] at hfl hspec
    have hro : (roL L ops.toList).drop j = mustRo L ops.toList (predsL ops.toList []) j :: (roL L ops.toList).drop (j + 1) := by
      have hlen : (roL L ops.toList).length = ops.toList.length := by simp [roL]
      rw [List.drop_eq_getElem_cons (by omega)]
      congr 1
      simp [roL]
    rw [hro, List.zip_cons_cons] at h
    obtain ⟨v, τ1, st1, hK, hl, hn, n, hstep⟩ := step_sound hL hS h
    obtain ⟨τ', st', hK', hl', hn', n', hrec⟩ := ops_draw hL hS hok rest (j + 1) hrest _ st1 K r hK
    refine ⟨τ', st', hK', hl'.trans hl, by rw [hn', put_num, hn], max n n', fun m hm base log τE recs ht hrecs => ?_⟩
    have hjr := hrecs.1
    subst hjr
    obtain ⟨ht1, kd, log1, h1, h2, h3, h4⟩ := hstep m (Nat.le_trans (Nat.le_max_left _ _) hm) st.next [] τE ht
    -- the log of this operation
    have hlog1 : ∀ i ∈ log1, cond (mustRo L ops.toList (predsL ops.toList []) recs.length) st.next st.lim ≤ i ∧ i < st.next := fun i hi => by
      rcases h2 i hi with h | h
      · cases h
      · exact h
    have hnil : mustRo L ops.toList (predsL ops.toList []) recs.length = true → log1 = [] := fun hm => by
      rw [List.eq_nil_iff_forall_not_mem]
      intro i hi
      have := hlog1 i hi
      rw [hm] at this
      simp only [cond_true] at this
      omega
    have hpe : predsE recs o ||| (1 <<< recs.length) = predS ((predsL ops.toList []).take recs.length) o ||| (1 <<< recs.length) := by rw [preds_eq hrecs (by omega)]
    have hnew : RecOk L ops.toList (predsL ops.toList []) recs.length { o, preds := predsE recs o ||| (1 <<< recs.length), log := log1, kd } :=
      ⟨ho, by rw [hpe]; exact hspec recs.length o ho, hnil, h3, h4⟩
    have hrecs' : RecsOk L ops.toList (predsL ops.toList []) (recs.length + 1) (recs ++ [{ o, preds := predsE recs o ||| (1 <<< recs.length), log := log1, kd }]) := by
      refine ⟨by simp [hrecs.1], fun k x hx => ?_⟩
      by_cases hk : k < recs.length
      · rw [List.getElem?_append_left hk] at hx; exact hrecs.2 k x hx
      · rw [List.getElem?_append_right (by omega)] at hx
        have : k = recs.length := by
          apply Classical.byContradiction; intro hc
          rw [List.getElem?_eq_none (by simp; omega)] at hx; cases hx
        subst this
        simp at hx; subst hx
        exact hnew
    obtain ⟨τE', log', h5, h6, h7⟩ := hrec m (Nat.le_trans (Nat.le_max_right _ _) hm) base ((log1.filter fun i => Nat.blt i base && !log.contains i) ++ log) (τE.put o.dst v) _ (ht1.put _ _) hrecs'
    refine ⟨τE', log', ?_, h6, ?_⟩
    · unfold drawE
      have hstep1 : (cond (wantedE ops.toList τE o) (opE P L (callE L (codeE P L m)) (rho L τE) o { st.toE base log with base := (st.toE base log).next, log := [] }) (some (undef, .blind, { st.toE base log with base := (st.toE base log).next, log := [] }))) = some (v, kd, st1.toE st.next log1) := h1
      rw [hstep1]
      simp only [Option.bind_some]
      have hdr : (o.after.all fun e => !binding e || Nat.blt e.on recs.length) = true ∧ ∀ k, k < recs.length → ∀ a, ops.toList[k]? = some a → pairOk ops (predsL ops.toList []) a o k recs.length = true := by
        unfold drawOk at hok
        simp only [List.all_eq_true, List.mem_range] at hok
        have := hok recs.length hjl
        rw [ho] at this
        simp only [Bool.and_eq_true, List.all_eq_true, List.mem_range] at this
        refine ⟨this.1, fun k hk a ha => ?_⟩
        have := this.2 k hk
        rw [ha] at this
        exact this
      have hok2 : okWith ops recs 0 { o, preds := predsE recs o ||| (1 <<< recs.length), log := log1, kd } = true := by
        refine okWith_of recs 0 fun i x hx => ?_
        have hil : i < recs.length := (List.getElem?_eq_some_iff.1 hx).1
        have hxo := hrecs.2 i x hx
        have hp := hdr.2 i hil x.o hxo.o
        unfold pairOk at hp
        rw [hspec recs.length o ho] at hp
        simp only [Option.getD_some, ← hpe] at hp
        simp only [Nat.zero_add]
        simp only [Bool.and_eq_true] at hp ⊢
        refine ⟨?_, hp.2⟩
        cases hu : (predsE recs o ||| (1 <<< recs.length)).testBit i with
        | true => simp [hu]
        | false =>
          have := hp.1
          rw [hu] at this
          simp only [Bool.false_or] at this
          rw [ok_pair hil hfl hxo hnew hu, this]; rfl
      have hall : (o.after.all fun e => !binding e || Nat.blt e.on recs.length) = true := hdr.1
      rw [hok2, hall]
      simp only [Bool.and_self, cond_true]
      exact h5
    · refine LogOk.trans ?_ (by rw [hl] at h7; exact h7)
      intro i hi
      simp only [List.mem_append, List.mem_filter, Bool.and_eq_true, Nat.blt_eq] at hi
      rcases hi with ⟨hi, hb, _⟩ | hi
      · right
        have := (hlog1 i hi).1
        cases hmr : mustRo L ops.toList (predsL ops.toList []) recs.length with
        | true => rw [hnil hmr] at hi; cases hi
        | false => rw [hmr] at this; exact ⟨this, hb⟩
      · exact .inl hi
end
end Go.E
/- The second evaluator is sound: codes, loops, calls. -/
set_option linter.unusedSimpArgs false
set_option linter.unusedVariables false
namespace Go.E
open Go

section
variable {P : Program} {L : Lk} {α : Type}

/-- Values stand at their places. -/
def Has (τE : Tm) (ts : List (Tmp × Sh)) (vs : List Value) : Prop := ts.length = vs.length ∧ ∀ (i : Nat) t v, ts[i]? = some t → vs[i]? = some v → τE.t.get t.1 = some v
theorem Has.nil (τE : Tm) : Has τE [] [] := ⟨rfl, fun i t v h => by simp at h⟩
theorem Has.cons {τE : Tm} {t : Tmp × Sh} {ts : List (Tmp × Sh)} {v : Value} {vs : List Value} (h : τE.t.get t.1 = some v) (hs : Has τE ts vs) : Has τE (t :: ts) (v :: vs) :=
  ⟨by simp [hs.1], fun i t' v' h1 h2 => by
    cases i with
    | zero => simp at h1 h2; subst h1; subst h2; exact h
    | succ i => exact hs.2 i t' v' (by simpa using h1) (by simpa using h2)⟩
theorem pick_has {τ τE : Tm} (h : TLe τ τE) : ∀ (ts : List (Tmp × Sh)) (vs : List Value), pickT τ ts = some vs → Has τE ts vs
  | [], vs, e => by simp only [pickT, Option.some.injEq] at e; subst e; exact .nil _
  | t :: ts, vs, e => by
    simp only [pickT, Option.bind_eq_some_iff, Option.some.injEq] at e
    obtain ⟨v, hv, us, hus, rfl⟩ := e
    exact .cons (h.2 _ _ hv) (pick_has h ts us hus)
theorem place_le {τE : Tm} {vs : List Value} : ∀ (ts : List (Tmp × Sh)) (i : Nat) (τ : Tm) (K : Tm → Option α) (r : α), (∀ (j : Nat) t v, ts[j]? = some t → vs[i + j]? = some v → τE.t.get t.1 = some v) → TLe τ τE → placeT vs ts i τ K = some r →
    ∃ τ', K τ' = some r ∧ τ'.n = τ.n ∧ TLe τ' τE
  | [], i, τ, K, r, h, ht, e => ⟨τ, e, rfl, ht⟩
  | t :: ts, i, τ, K, r, h, ht, e => by
    simp only [placeT] at e
    obtain ⟨v, hv, e⟩ := withSh_some e
    obtain ⟨τ', h1, h2, h3⟩ := place_le ts (i + 1) _ K r (fun j t' v' a b => h (j + 1) t' v' (by simpa using a) (by rw [show i + (j + 1) = i + 1 + j by omega]; exact b)) (ht.same (h 0 t v rfl (by simpa using hv))) e
    exact ⟨τ', h1, by rw [h2, put_num], h3⟩
/-- The values behind a loop: the temporaries that are told do not hang on the first evaluator's. -/
theorem place_ok {vs : List Value} : ∀ (ts : List (Tmp × Sh)) (i : Nat) (τ : Tm) (K : Tm → Option α) (r : α), placeT vs ts i τ K = some r →
    ∃ τ', K τ' = some r ∧ τ'.n = τ.n ∧ ∀ τE, (∀ (j : Nat) t v, ts[j]? = some t → vs[i + j]? = some v → τE.t.get t.1 = some v) → TLe τ τE → TLe τ' τE
  | [], i, τ, K, r, e => ⟨τ, e, rfl, fun _ _ h => h⟩
  | t :: ts, i, τ, K, r, e => by
    simp only [placeT] at e
    obtain ⟨v, hv, e⟩ := withSh_some e
    obtain ⟨τ', h1, h2, h3⟩ := place_ok ts (i + 1) _ K r e
    refine ⟨τ', h1, by rw [h2, put_num], fun τE h ht => h3 τE (fun j t' v' a b => h (j + 1) t' v' (by simpa using a) (by rw [show i + (j + 1) = i + 1 + j by omega]; exact b)) (ht.same (h 0 t v rfl (by simpa using hv)))⟩

theorem placeV_get : ∀ (ts : List (Tmp × Sh)) (vs : List Value) (t : PT Value) (i : Nat) (v : Value), (placeV ts vs t).get i = some v → t.get i = some v ∨ ∃ (j : Nat) (x : Tmp × Sh), ts[j]? = some x ∧ x.1 = i ∧ vs[j]? = some v
  | [], vs, t, i, v, h => .inl h
  | x :: ts, [], t, i, v, h => .inl h
  | x :: ts, u :: vs, t, i, v, h => by
    simp only [placeV] at h
    rcases placeV_get ts vs _ i v h with h1 | ⟨j, y, h1, h2, h3⟩
    · simp only [PT.get_upd] at h1
      split at h1
      · rename_i e; cases h1; exact .inr ⟨0, x, rfl, e, rfl⟩
      · exact .inl h1
    · exact .inr ⟨j + 1, y, by simpa using h1, h2, by simpa using h3⟩
theorem placeV_le {τE : Tm} {ts : List (Tmp × Sh)} {vs : List Value} (h : Has τE ts vs) : TLe ⟨placeV ts vs .nil, τE.n⟩ τE :=
  ⟨rfl, fun i v hv => by
    rcases placeV_get ts vs _ i v hv with h1 | ⟨j, x, h1, rfl, h3⟩
    · simp at h1
    · exact h.2 j x v h1 h3⟩
theorem placeV_not : ∀ (ts : List (Tmp × Sh)) (vs : List Value) (t : PT Value) (i : Nat), (∀ y ∈ ts, y.1 ≠ i) → (placeV ts vs t).get i = t.get i
  | [], vs, t, i, _ => rfl
  | x :: ts, [], t, i, _ => rfl
  | x :: ts, u :: vs, t, i, h => by
    simp only [placeV]
    rw [placeV_not ts vs _ i fun y hy => h y (List.mem_cons_of_mem _ hy), PT.get_upd, if_neg (h x List.mem_cons_self)]
theorem placeV_has {n : Nat} : ∀ (ts : List (Tmp × Sh)) (vs : List Value) (t : PT Value), apartI ts = true → ts.length = vs.length → Has ⟨placeV ts vs t, n⟩ ts vs
  | [], [], t, _, _ => .nil _
  | [], _ :: _, t, _, h => by simp at h
  | x :: ts, [], t, _, h => by simp at h
  | x :: ts, v :: vs, t, ha, h => by
    simp only [apartI, Bool.and_eq_true, List.all_eq_true] at ha
    refine .cons ?_ (placeV_has ts vs _ ha.2 (by simpa using h))
    simp only [placeV]
    rw [placeV_not ts vs _ x.1 fun y hy e => ?_, PT.get_upd, if_pos rfl]
    have := ha.1 y hy
    rw [beq_dec, e] at this
    simp at this

theorem exBeq_eq {a b : Ex} (h : exBeq a b = true) : a = b := by
  cases a <;> cases b <;> simp only [exBeq, Bool.false_eq_true] at h <;> first | rfl | (rw [beq_true h])
theorem findEx_some {e : Ex} : ∀ (l : List (Ex × List (Tmp × Sh))) (i n : Nat) (ts : List (Tmp × Sh)), findEx e l i = some (n, ts) → i ≤ n ∧ l[n - i]? = some (e, ts)
  | [], i, n, ts, h => by simp [findEx] at h
  | x :: l, i, n, ts, h => by
    simp only [findEx] at h
    cases hb : exBeq e x.1 with
    | true =>
      rw [hb] at h
      simp only [cond_true, Option.some.injEq, Prod.mk.injEq] at h
      obtain ⟨rfl, rfl⟩ := h
      have := exBeq_eq hb
      subst this
      simp
    | false =>
      rw [hb] at h
      obtain ⟨h1, h2⟩ := findEx_some l (i + 1) n ts h
      refine ⟨by omega, ?_⟩
      rw [show n - i = (n - (i + 1)) + 1 by omega]
      simpa using h2
theorem exits_pick {n : Nat} {K : Ex → List (Tmp × Sh) → Option α} : ∀ (l : List (Ex × List (Tmp × Sh))) (i : Nat) (x : Ex × List (Tmp × Sh)), i ≤ n → l[n - i]? = some x → exitsS n K l i = K x.1 x.2
  | [], i, x, _, h => by simp at h
  | [y], i, x, hi, h => by
    have : n - i = 0 := by
      apply Classical.byContradiction; intro hc
      rw [List.getElem?_eq_none (by simp; omega)] at h; cases h
    rw [this] at h; simp at h; subst h; rfl
  | y :: z :: r, i, x, hi, h => by
    simp only [exitsS]
    cases hb : Nat.beq n i with
    | true =>
      have := beq_true hb
      subst this
      simp at h; subst h; rfl
    | false =>
      have hne : n ≠ i := fun e => by rw [e, beq_dec] at hb; simp at hb
      simp only [cond_false]
      exact exits_pick (z :: r) (i + 1) x (by omega) (by rw [show n - i = (n - (i + 1)) + 1 by omega] at h; simpa using h)

/-- What a loop does: from values at their places to values at their places. -/
def LoopR (P : Program) (L : Lk) (fn : Func) (I : LoopI) (key : Nat) (vs : List Value) (st : SS) (r : Nat × List Value × SS) : Prop :=
  r.2.2.lim = st.lim ∧ (∃ c, fn.body = some c ∧ (loopsOf c).filter (fun b => Nat.beq (firstReg b) key) = [loopC fn key]) ∧ Has ⟨placeV I.ins vs .nil, fn.ntmps⟩ I.ins vs ∧ ∃ e ts, findEx e I.exits 0 = some (r.1, ts) ∧ ∃ n, ∀ m, n ≤ m → ∀ base log τE, τE.n = fn.ntmps → Has τE I.ins vs →
    ∃ τE' log', codeE P L m (.loop (loopC fn key)) τE (st.toE base log) = some (e, τE', r.2.2.toE base log') ∧ τE'.n = fn.ntmps ∧ Has τE' ts r.2.1 ∧ LogOk st.lim base log log'

theorem Has.unique {τE : Tm} {ts : List (Tmp × Sh)} {vs us : List Value} (h : Has τE ts vs) (k : Has τE ts us) : vs = us := by
  apply List.ext_getElem?
  intro i
  by_cases hi : i < ts.length
  · have h1 : i < vs.length := by rw [← h.1]; exact hi
    have h2 : i < us.length := by rw [← k.1]; exact hi
    have a := h.2 i _ _ (List.getElem?_eq_getElem hi) (List.getElem?_eq_getElem h1)
    have b := k.2 i _ _ (List.getElem?_eq_getElem hi) (List.getElem?_eq_getElem h2)
    rw [a] at b
    rw [List.getElem?_eq_getElem h1, List.getElem?_eq_getElem h2, b]
  · rw [List.getElem?_eq_none (by rw [← h.1]; omega), List.getElem?_eq_none (by rw [← k.1]; omega)]
theorem loopR_unique {fn : Func} {I : LoopI} {key : Nat} {vs : List Value} {st : SS} {r r' : Nat × List Value × SS} (h : LoopR P L fn I key vs st r) (k : LoopR P L fn I key vs st r') : r = r' := by
  obtain ⟨h1, _, hh, e, ts, he, n, h2⟩ := h
  obtain ⟨k1, _, _, e', ts', ke, n', k2⟩ := k
  obtain ⟨τ1, l1, a1, a2, a3, _⟩ := h2 (max n n') (Nat.le_max_left _ _) 0 [] _ rfl hh
  obtain ⟨τ2, l2, b1, b2, b3, _⟩ := k2 (max n n') (Nat.le_max_right _ _) 0 [] _ rfl hh
  rw [a1] at b1
  simp only [SS.toE, Option.some.injEq, Prod.mk.injEq, St.mk.injEq] at b1
  obtain ⟨rfl, rfl, e1, e2, _⟩ := b1
  rw [he] at ke
  simp only [Option.some.injEq, Prod.mk.injEq] at ke
  obtain ⟨e3, rfl⟩ := ke
  have e4 := a3.unique b3
  obtain ⟨i, us, ⟨m, nx, lm⟩⟩ := r
  obtain ⟨i', us', ⟨m', nx', lm'⟩⟩ := r'
  simp only at e1 e2 e3 e4 h1 k1
  simp only [Prod.mk.injEq, SS.mk.injEq]
  exact ⟨e3, e4, e1, e2, h1.trans k1.symm⟩

/-- What loops come to. -/
noncomputable def lS (P : Program) (L : Lk) (fn : Func) (li : Nat → Option LoopI) : LoopS := fun key vs st => (li key).bind fun I => open Classical in if h : ∃ r, LoopR P L fn I key vs st r then some (Classical.choose h) else none
theorem lS_iff {fn : Func} {li : Nat → Option LoopI} {key : Nat} {I : LoopI} (hI : li key = some I) {vs : List Value} {st : SS} {r : Nat × List Value × SS} : lS P L fn li key vs st = some r ↔ LoopR P L fn I key vs st r := by
  unfold lS
  rw [hI]
  simp only [Option.bind_some]
  constructor
  · intro h
    split at h
    · rename_i hx; cases h; exact Classical.choose_spec hx
    · cases h
  · intro h
    rw [dif_pos ⟨r, h⟩]
    exact congrArg some (loopR_unique (Classical.choose_spec (⟨r, h⟩ : ∃ r, LoopR P L fn I key vs st r)) h)

/-- What a code does. -/
def CodeR (P : Program) (L : Lk) (c : Code) (τ : Tm) (st : SS) (e : Ex) (τ' : Tm) (st' : SS) : Prop :=
  st'.lim = st.lim ∧ τ'.n = τ.n ∧ ∃ n, ∀ m, n ≤ m → ∀ base log τE, TLe τ τE → ∃ τE' log', codeE P L m c τE (st.toE base log) = some (e, τE', st'.toE base log') ∧ TLe τ' τE' ∧ LogOk st.lim base log log'

theorem ev_sound [Sym] (hL : L.Ok P) (hS : LkS L) {fn : Func} {fc : Code} {li : Nat → Option LoopI} (hfc : fn.body = some fc) : ∀ (c : Code) (τ : Tm) (st : SS) (K : Ex → Tm → SS → Option α) (r : α), τ.n = fn.ntmps → (∀ b ∈ loopsOf c, b ∈ loopsOf fc) →
    evS P L (cS P L) (lS P L fn li) li c τ st K = some r → ∃ e τ' st', K e τ' st' = some r ∧ CodeR P L c τ st e τ' st' := by
  have step : ∀ {m n : Nat}, n + 1 ≤ m → ∃ k, m = k + 1 ∧ n ≤ k := fun {m n} h => ⟨m - 1, by omega, by omega⟩
  intro c
  induction c with
  | skip => intro τ st K r hn hb h; exact ⟨_, τ, st, h, rfl, rfl, 1, fun m hm base log τE ht => by
      obtain ⟨k, rfl, _⟩ := step hm
      exact ⟨τE, log, rfl, ht, .refl _ _ _⟩⟩
  | label l => intro τ st K r hn hb h; exact ⟨_, τ, st, h, rfl, rfl, 1, fun m hm base log τE ht => by
      obtain ⟨k, rfl, _⟩ := step hm
      exact ⟨τE, log, rfl, ht, .refl _ _ _⟩⟩
  | exit id => intro τ st K r hn hb h; exact ⟨_, τ, st, h, rfl, rfl, 1, fun m hm base log τE ht => by
      obtain ⟨k, rfl, _⟩ := step hm
      exact ⟨τE, log, rfl, ht, .refl _ _ _⟩⟩
  | ret => intro τ st K r hn hb h; exact ⟨_, τ, st, h, rfl, rfl, 1, fun m hm base log τE ht => by
      obtain ⟨k, rfl, _⟩ := step hm
      exact ⟨τE, log, rfl, ht, .refl _ _ _⟩⟩
  | region id ops dr =>
    intro τ st K r hn hb h
    cases dr with
    | false =>
      obtain ⟨τ', st', hK, hl, hn', n, hr⟩ := ops_plain hL hS ops.toList τ st (K .normal) r h
      refine ⟨.normal, τ', st', hK, hl, hn', n + 1, fun m hm base log τE ht => ?_⟩
      obtain ⟨k, rfl, hk⟩ := step hm
      obtain ⟨τE', log', h1, h2, h3⟩ := hr k hk base log τE ht
      refine ⟨τE', log', ?_, h2, h3⟩
      show (opsE P L (callE L (codeE P L k)) ops.toList ops.toList τE (st.toE base log)).map _ = _
      rw [h1]; rfl
    | true =>
      obtain ⟨hok, h⟩ := cond_none (show cond (drawOk ops) (opsS P L (cS P L) ops.toList (ops.toList.zip (roL L ops.toList)) τ st (K .normal)) none = some r from h)
      obtain ⟨τ', st', hK, hl, hn', n, hr⟩ := ops_draw hL hS hok ops.toList 0 rfl τ st (K .normal) r h
      refine ⟨.normal, τ', st', hK, hl, hn', n + 1, fun m hm base log τE ht => ?_⟩
      obtain ⟨k, rfl, hk⟩ := step hm
      obtain ⟨τE', log', h1, h2, h3⟩ := hr k hk base log τE [] ht ⟨rfl, fun k x hx => by simp at hx⟩
      refine ⟨τE', log', ?_, h2, h3⟩
      show (drawE P L (callE L (codeE P L k)) ops ops.toList [] τE (st.toE base log)).map _ = _
      rw [h1]; rfl
  | seq a b iha ihb =>
    intro τ st K r hn hb h
    obtain ⟨e, τ1, st1, hK, hl, hn1, n, hr⟩ := iha τ st _ r hn (fun x hx => hb x (by simp [loopsOf, hx])) h
    cases e with
    | normal =>
      obtain ⟨e', τ2, st2, hK2, hl2, hn2, n2, hr2⟩ := ihb τ1 st1 K r (hn1.trans hn) (fun x hx => hb x (by simp [loopsOf, hx])) hK
      refine ⟨e', τ2, st2, hK2, hl2.trans hl, hn2.trans hn1, max n n2 + 1, fun m hm base log τE ht => ?_⟩
      obtain ⟨k, rfl, hk⟩ := step hm
      obtain ⟨τE1, log1, h1, h2, h3⟩ := hr k (by omega) base log τE ht
      obtain ⟨τE2, log2, h4, h5, h6⟩ := hr2 k (by omega) base log1 τE1 h2
      refine ⟨τE2, log2, ?_, h5, h3.trans (by rw [hl] at h6; exact h6)⟩
      show (codeE P L k a τE (st.toE base log)).bind _ = _
      rw [h1]; exact h4
    | exit i =>
      refine ⟨_, τ1, st1, hK, hl, hn1, n + 1, fun m hm base log τE ht => ?_⟩
      obtain ⟨k, rfl, hk⟩ := step hm
      obtain ⟨τE1, log1, h1, h2, h3⟩ := hr k hk base log τE ht
      refine ⟨τE1, log1, ?_, h2, h3⟩
      show (codeE P L k a τE (st.toE base log)).bind _ = _
      rw [h1]; rfl
    | ret =>
      refine ⟨_, τ1, st1, hK, hl, hn1, n + 1, fun m hm base log τE ht => ?_⟩
      obtain ⟨k, rfl, hk⟩ := step hm
      obtain ⟨τE1, log1, h1, h2, h3⟩ := hr k hk base log τE ht
      refine ⟨τE1, log1, ?_, h2, h3⟩
      show (codeE P L k a τE (st.toE base log)).bind _ = _
      rw [h1]; rfl
  | cond c a b iha ihb =>
    intro τ st K r hn hb h
    have h' : (rhoS L τ c).bind (fun v => (asB v).bind fun b' => cond b' (evS P L (cS P L) (lS P L fn li) li a τ st K) (evS P L (cS P L) (lS P L fn li) li b τ st K)) = some r := h
    simp only [Option.bind_eq_some_iff] at h'
    obtain ⟨v, hv, b', hb', h'⟩ := h'
    have := asB_some hb'; subst this
    cases b' with
    | true =>
      obtain ⟨e, τ1, st1, hK, hl, hn1, n, hr⟩ := iha τ st K r hn (fun x hx => hb x (by simp [loopsOf, hx])) h'
      refine ⟨e, τ1, st1, hK, hl, hn1, n + 1, fun m hm base log τE ht => ?_⟩
      obtain ⟨k, rfl, hk⟩ := step hm
      obtain ⟨τE1, log1, h1, h2, h3⟩ := hr k hk base log τE ht
      refine ⟨τE1, log1, ?_, h2, h3⟩
      show (rho L τE c).bind _ = _
      rw [rhoS_le ht c _ hv]; exact h1
    | false =>
      obtain ⟨e, τ1, st1, hK, hl, hn1, n, hr⟩ := ihb τ st K r hn (fun x hx => hb x (by simp [loopsOf, hx])) h'
      refine ⟨e, τ1, st1, hK, hl, hn1, n + 1, fun m hm base log τE ht => ?_⟩
      obtain ⟨k, rfl, hk⟩ := step hm
      obtain ⟨τE1, log1, h1, h2, h3⟩ := hr k hk base log τE ht
      refine ⟨τE1, log1, ?_, h2, h3⟩
      show (rho L τE c).bind _ = _
      rw [rhoS_le ht c _ hv]; exact h1
  | block id body ih =>
    intro τ st K r hn hb h
    obtain ⟨e, τ1, st1, hK, hl, hn1, n, hr⟩ := ih τ st _ r hn hb h
    have key : ∃ e', K e' τ1 st1 = some r ∧ e' = (match e with | .exit i => cond (Nat.beq i id) .normal (.exit i) | e => e) := by
      cases e with
      | normal => exact ⟨_, hK, rfl⟩
      | ret => exact ⟨_, hK, rfl⟩
      | exit i =>
        simp only at hK ⊢
        cases hb' : Nat.beq i id with
        | true => rw [hb'] at hK; exact ⟨_, hK, rfl⟩
        | false => rw [hb'] at hK; exact ⟨_, hK, rfl⟩
    obtain ⟨e', hK', he'⟩ := key
    refine ⟨e', τ1, st1, hK', hl, hn1, n + 1, fun m hm base log τE ht => ?_⟩
    obtain ⟨k, rfl, hk⟩ := step hm
    obtain ⟨τE1, log1, h1, h2, h3⟩ := hr k hk base log τE ht
    refine ⟨τE1, log1, ?_, h2, h3⟩
    show (codeE P L k body τE (st.toE base log)).bind _ = _
    rw [h1, he']
    cases e <;> rfl
  | loop body ih =>
    intro τ st K r hn hb h
    have h' : (li (firstReg body)).bind (fun I => (pickT τ I.ins).bind fun vs => (lS P L fn li (firstReg body) vs st).bind fun r => exitsS r.1 (fun e ts => placeT r.2.1 ts 0 ⟨.nil, τ.n⟩ fun τ' => K e τ' r.2.2) I.exits 0) = some r := h
    simp only [Option.bind_eq_some_iff] at h'
    obtain ⟨I, hI, vs, hvs, x, hx, h'⟩ := h'
    obtain ⟨hl, ⟨c0, hc0, hfil⟩, _, e, ts, he, n, hr⟩ := (lS_iff hI).1 hx
    rw [hfc] at hc0; cases hc0
    have hbody : loopC fn (firstReg body) = body := by
      have : body ∈ (loopsOf fc).filter (fun b => Nat.beq (firstReg b) (firstReg body)) := by
        rw [List.mem_filter]
        exact ⟨hb body (by simp [loopsOf]), by rw [beq_dec]; simp⟩
      rw [hfil] at this
      exact (List.mem_singleton.1 this).symm
    rw [hbody] at hr
    obtain ⟨_, hex⟩ := findEx_some _ _ _ _ he
    rw [exits_pick I.exits 0 (e, ts) (Nat.zero_le _) hex] at h'
    obtain ⟨τ', hK, hn', hle⟩ := place_ok ts 0 _ _ r h'
    refine ⟨e, τ', x.2.2, hK, hl, hn', n, fun m hm base log τE ht => ?_⟩
    obtain ⟨τE', log', h1, h2, h3, h4⟩ := hr m hm base log τE (ht.1.trans hn) (pick_has ht _ _ hvs)
    refine ⟨τE', log', h1, hle τE' (fun j t v a b => h3.2 j t v a (by simpa using b)) ⟨by rw [h2, hn], fun i v hv => by simp at hv⟩, h4⟩
  | _ => intro τ st K r hn hb h; cases h

/-- **A round of a loop tells the loop.** -/
theorem loop_sound [Sym] (hL : L.Ok P) (hS : LkS L) {fn : Func} {li : Nat → Option LoopI} {key : Nat} {I : LoopI} (hI : li key = some I) (hfc : (fn.body.map fun c => (loopsOf c).filter fun b => Nat.beq (firstReg b) key) = some [loopC fn key])
    (hkey : firstReg (loopC fn key) = key) (hap : apartI I.ins = true) {vs : List Value} (hlen : I.ins.length = vs.length) {st : SS} {r : Nat × List Value × SS}
    (h : loopS P L (cS P L) (lS P L fn li) li (loopC fn key) I fn.ntmps vs st = some r) : lS P L fn li key vs st = some r := by
  have step : ∀ {m n : Nat}, n + 1 ≤ m → ∃ k, m = k + 1 ∧ n ≤ k := fun {m n} h => ⟨m - 1, by omega, by omega⟩
  rw [lS_iff hI]
  obtain ⟨fc, hfc1, hfil⟩ : ∃ c, fn.body = some c ∧ (loopsOf c).filter (fun b => Nat.beq (firstReg b) key) = [loopC fn key] := by
    cases hb : fn.body with
    | none => rw [hb] at hfc; cases hfc
    | some c => rw [hb] at hfc; simp only [Option.map_some, Option.some.injEq] at hfc; exact ⟨c, rfl, hfc⟩
  have hmem : loopC fn key ∈ loopsOf fc := by
    have : loopC fn key ∈ (loopsOf fc).filter (fun b => Nat.beq (firstReg b) key) := by rw [hfil]; simp
    exact (List.mem_filter.1 this).1
  have sub : ∀ (c : Code) (b : Code), b ∈ loopsOf c → ∀ x ∈ loopsOf b, x ∈ loopsOf c := by
    intro c
    induction c with
    | seq a b iha ihb => intro y hy x hx; simp only [loopsOf, List.mem_append] at hy ⊢; exact hy.imp (fun h => iha y h x hx) (fun h => ihb y h x hx)
    | cond c a b iha ihb => intro y hy x hx; simp only [loopsOf, List.mem_append] at hy ⊢; exact hy.imp (fun h => iha y h x hx) (fun h => ihb y h x hx)
    | block id b ih => intro y hy x hx; exact ih y hy x hx
    | loop b ih =>
      intro y hy x hx
      simp only [loopsOf, List.mem_cons] at hy ⊢
      rcases hy with rfl | hy
      · exact .inr hx
      · exact .inr (ih y hy x hx)
    | _ => intro y hy; simp [loopsOf] at hy
  unfold loopS at h
  obtain ⟨e, τ1, st1, hK, hl, hn1, n, hr⟩ := ev_sound hL hS hfc1 (loopC fn key) ⟨placeV I.ins vs .nil, fn.ntmps⟩ st _ r rfl (sub fc _ hmem) h
  have hcan : Has ⟨placeV I.ins vs .nil, fn.ntmps⟩ I.ins vs := placeV_has I.ins vs .nil hap hlen
  have hle : ∀ τE, τE.n = fn.ntmps → Has τE I.ins vs → TLe ⟨placeV I.ins vs .nil, fn.ntmps⟩ τE := fun τE hn hh => by have := placeV_le hh; rw [hn] at this; exact this
  cases e with
  | normal =>
    simp only [Option.bind_eq_some_iff] at hK
    obtain ⟨vs', hvs', hK⟩ := hK
    rw [hkey] at hK
    obtain ⟨hl2, _, _, e, ts, he, n2, hr2⟩ := (lS_iff hI).1 hK
    refine ⟨hl2.trans hl, ⟨fc, hfc1, hfil⟩, hcan, e, ts, he, max n n2 + 1, fun m hm base log τE hn hh => ?_⟩
    obtain ⟨k, rfl, hk⟩ := step hm
    obtain ⟨τE1, log1, h1, h2, h3⟩ := hr k (by omega) base log τE (hle τE hn hh)
    obtain ⟨τE2, log2, h4, h5, h6, h7⟩ := hr2 k (by omega) base log1 τE1 (by rw [h2.1, hn1]) (pick_has h2 _ _ hvs')
    refine ⟨τE2, log2, ?_, h5, h6, h3.trans (by rw [hl] at h7; exact h7)⟩
    show (codeE P L k (loopC fn key) τE (st.toE base log)).bind _ = _
    rw [h1]; exact h4
  | exit i =>
    simp only [Option.bind_eq_some_iff, Option.some.injEq] at hK
    obtain ⟨x, hx, us, hus, rfl⟩ := hK
    refine ⟨hl, ⟨fc, hfc1, hfil⟩, hcan, .exit i, x.2, hx, n + 1, fun m hm base log τE hn hh => ?_⟩
    obtain ⟨k, rfl, hk⟩ := step hm
    obtain ⟨τE1, log1, h1, h2, h3⟩ := hr k hk base log τE (hle τE hn hh)
    refine ⟨τE1, log1, ?_, by rw [h2.1, hn1], pick_has h2 _ _ hus, h3⟩
    show (codeE P L k (loopC fn key) τE (st.toE base log)).bind _ = _
    rw [h1]; rfl
  | ret =>
    simp only [Option.bind_eq_some_iff, Option.some.injEq] at hK
    obtain ⟨x, hx, us, hus, rfl⟩ := hK
    refine ⟨hl, ⟨fc, hfc1, hfil⟩, hcan, .ret, x.2, hx, n + 1, fun m hm base log τE hn hh => ?_⟩
    obtain ⟨k, rfl, hk⟩ := step hm
    obtain ⟨τE1, log1, h1, h2, h3⟩ := hr k hk base log τE (hle τE hn hh)
    refine ⟨τE1, log1, ?_, by rw [h2.1, hn1], pick_has h2 _ _ hus, h3⟩
    show (codeE P L k (loopC fn key) τE (st.toE base log)).bind _ = _
    rw [h1]; rfl

theorem res_sound {τ : Tm} {st : SS} : ∀ (rs : List ResultVar) (K : List Value → Option α) (r : α), resS L τ st rs K = some r → ∃ vs, K vs = some r ∧ ∀ τE base log, TLe τ τE → resultsE L rs τE (st.toE base log) = some vs
  | [], K, r, h => ⟨[], h, fun _ _ _ _ => rfl⟩
  | .tmp t :: rs, K, r, h => by
    simp only [resS, Option.bind_eq_some_iff] at h
    obtain ⟨v, hv, h⟩ := h
    obtain ⟨vs, h1, h2⟩ := res_sound rs _ r h
    refine ⟨v :: vs, h1, fun τE base log ht => ?_⟩
    have := h2 τE base log ht
    unfold resultsE at this ⊢
    rw [List.mapM_cons, this]
    simp only [get_of (ht.2 t v hv)]
    rfl
  | .cell a t :: rs, K, r, h => by
    simp only [resS, Option.bind_eq_some_iff] at h
    obtain ⟨p, hp, ⟨i, k⟩, ha, v, hv, h⟩ := h
    obtain ⟨vs, h1, h2⟩ := res_sound rs _ r h
    refine ⟨v :: vs, h1, fun τE base log ht => ?_⟩
    have := h2 τE base log ht
    unfold resultsE at this ⊢
    rw [List.mapM_cons, this]
    have key : (match st.mem.get i with | some (.cells c _) => loadE L t k c | _ => none) = some v := by
      unfold SS.readT at hv
      split at hv
      · rename_i f hu
        simp only [Option.bind_eq_some_iff] at hv
        obtain ⟨n, hn, hv⟩ := hv
        unfold SS.rdN at hv
        simp only [Option.bind_eq_some_iff] at hv
        obtain ⟨ob, hob, hv⟩ := hv
        rw [hob]
        cases ob <;> simp only [reduceCtorEq] at hv ⊢
        unfold loadE; simp only [hu, hn, Option.bind_some]; exact hv
      · rename_i n0 e hu
        simp only [Option.bind_eq_some_iff] at hv
        obtain ⟨n, hn, hv⟩ := hv
        unfold SS.rdN at hv
        simp only [Option.bind_eq_some_iff] at hv
        obtain ⟨ob, hob, hv⟩ := hv
        rw [hob]
        cases ob <;> simp only [reduceCtorEq] at hv ⊢
        unfold loadE; simp only [hu, hn, Option.bind_some]; exact hv
      · rename_i d h1 h2 hu
        unfold SS.rd at hv
        simp only [Option.bind_eq_some_iff] at hv
        obtain ⟨ob, hob, hv⟩ := hv
        rw [hob]
        cases ob <;> simp only [reduceCtorEq] at hv ⊢
        unfold loadE; rw [hu]; cases d <;> first | exact hv | exact absurd rfl (h1 _) | exact absurd rfl (h2 _ _)
      · cases hv
    simp only [get_of (ht.2 a p hp), ha, Option.bind_some]
    exact Option.bind_eq_some_iff.2 ⟨v, key, rfl⟩

theorem tmOf_le (args : List Value) (n : Nat) : TLe ⟨tmOf args 0 .nil, n⟩ ⟨tmOf args 0 .nil, n⟩ := .refl _

/-- **A body tells the call.** -/
theorem body_sound [Sym] (hL : L.Ok P) (hS : LkS L) {f : FuncId} {j : FuncId} {fn : Func} {li : Nat → Option LoopI} (hf : L.func f = some (j, fn)) {args : List Value} {st : SS} {r : Value × SS} (hext : L.ext f args = none) (hcon : ∀ n, L.con f args n = none)
    (h : bodyS P L (cS P L) (lS P L fn li) li fn (L.pureF f) args st = some r) : cS P L f args st = some r := by
  rw [cS_iff]
  unfold bodyS at h
  simp only [Option.bind_eq_some_iff] at h
  obtain ⟨c, hc, h⟩ := h
  obtain ⟨hle, h⟩ := cond_none h
  have unf : ∀ m base log, callE L (codeE P L m) f args (st.toE base log) = cond (L.pureF f)
      ((codeE P L m c ⟨tmOf args 0 .nil, fn.ntmps⟩ ((st.ro st.next).toE st.next [])).bind fun (e, τ, st1) => match e with
        | .exit _ => none
        | _ => (resultsE L fn.results.toList τ st1).bind fun vs => cond (st1.log.isEmpty && flat3 (packE vs)) (some (packE vs, { st.toE base log with next := st1.next })) none)
      ((codeE P L m c ⟨tmOf args 0 .nil, fn.ntmps⟩ (st.toE base log)).bind fun (e, τ, st) => match e with
        | .exit _ => none
        | _ => (resultsE L fn.results.toList τ st).map fun vs => (packE vs, st)) := fun m base log => by
    unfold callE
    rw [hext, hcon]
    simp only [hf, Option.bind_some, hc, hle, cond_true]
    rfl
  cases hp : L.pureF f with
  | true =>
    rw [hp] at h
    simp only [cond_true] at h
    obtain ⟨e, τ1, st1, hK, hl, hn1, n, hr⟩ := ev_sound hL hS hc c ⟨tmOf args 0 .nil, fn.ntmps⟩ (st.ro st.next) _ r rfl (fun _ h => h) h
    have key : (∀ id, e ≠ .exit id) ∧ ∃ vs, cond (flat3 (packE vs)) (some (packE vs, st.adv st1.next)) none = some r ∧ ∀ τE base log, TLe τ1 τE → resultsE L fn.results.toList τE (st1.toE base log) = some vs := by
      cases e with
      | exit i => cases hK
      | normal => exact ⟨(fun _ h => by cases h), res_sound _ _ r hK⟩
      | ret => exact ⟨(fun _ h => by cases h), res_sound _ _ r hK⟩
    obtain ⟨hne, vs, hvs, hres⟩ := key
    obtain ⟨hfl, hvs⟩ := cond_none hvs
    cases hvs
    refine ⟨rfl, n, fun m hm base log => ⟨log, ?_, .refl _ _ _⟩⟩
    obtain ⟨τE', log', h1, h2, h3⟩ := hr m hm st.next [] _ (tmOf_le _ _)
    have hlog : log' = [] := by
      rw [List.eq_nil_iff_forall_not_mem]
      intro i hi
      rcases h3 i hi with h4 | ⟨h4, h5⟩
      · cases h4
      · have : st.next ≤ i := h4
        omega
    subst hlog
    rw [unf, hp]
    simp only [cond_true]
    rw [h1]
    have hfin : (resultsE L fn.results.toList τE' (st1.toE st.next [])).bind (fun vs => cond ((st1.toE st.next []).log.isEmpty && flat3 (packE vs)) (some (packE vs, { st.toE base log with next := (st1.toE st.next []).next })) none) = some (packE vs, (st.adv st1.next).toE base log) := by
      rw [hres τE' st.next [] h2]
      simp only [Option.bind_some, hfl]
      rfl
    cases e with
    | exit i => exact absurd rfl (hne i)
    | normal => exact hfin
    | ret => exact hfin
  | false =>
    rw [hp] at h
    simp only [cond_false] at h
    obtain ⟨e, τ1, st1, hK, hl, hn1, n, hr⟩ := ev_sound hL hS hc c ⟨tmOf args 0 .nil, fn.ntmps⟩ st _ r rfl (fun _ h => h) h
    have key : (∀ id, e ≠ .exit id) ∧ ∃ vs, some (packE vs, st1) = some r ∧ ∀ τE base log, TLe τ1 τE → resultsE L fn.results.toList τE (st1.toE base log) = some vs := by
      cases e with
      | exit i => cases hK
      | normal => exact ⟨(fun _ h => by cases h), res_sound _ _ r hK⟩
      | ret => exact ⟨(fun _ h => by cases h), res_sound _ _ r hK⟩
    obtain ⟨hne, vs, hvs, hres⟩ := key
    cases hvs
    refine ⟨hl, n, fun m hm base log => ?_⟩
    obtain ⟨τE', log', h1, h2, h3⟩ := hr m hm base log _ (tmOf_le _ _)
    refine ⟨log', ?_, h3⟩
    rw [unf, hp]
    simp only [cond_false]
    rw [h1]
    have hfin : (resultsE L fn.results.toList τE' (st1.toE base log')).map (fun vs => (packE vs, st1.toE base log')) = some (packE vs, st1.toE base log') := by
      rw [hres τE' base log' h2]; rfl
    cases e with
    | exit i => exact absurd rfl (hne i)
    | normal => exact hfin
    | ret => exact hfin

/-- A call that is told by a contract of its own. -/
theorem ext_sound {f : FuncId} {args : List Value} {v : Value} (h : L.ext f args = some v) (st : SS) : cS P L f args st = some (v, st) := by
  rw [cS_iff]
  refine ⟨rfl, 0, fun m _ base log => ⟨log, ?_, .refl _ _ _⟩⟩
  unfold callE; rw [h]
end
end Go.E
/- Tools for proofs over the shallow texts: states, lists that grow. -/
set_option linter.unusedSimpArgs false
set_option linter.unusedVariables false
namespace Go.E
open Go

/-! ### States -/
section
variable {st : SS} {ob : AObj} {i j k n : Nat}
@[simp] theorem SS.new_next : (st.new ob).next = st.next + 1 := rfl
@[simp] theorem SS.new_lim : (st.new ob).lim = st.lim := rfl
@[simp] theorem SS.new_get : (st.new ob).mem.get st.next = some ob := by simp [SS.new]
theorem SS.new_old (h : j ≠ st.next) : (st.new ob).mem.get j = st.mem.get j := by simp only [SS.new, PT.get_upd]; rw [if_neg (fun e => h e.symm)]
@[simp] theorem SS.set_next {x : Option AObj} : (st.set i x).next = st.next := rfl
@[simp] theorem SS.set_lim {x : Option AObj} : (st.set i x).lim = st.lim := rfl
@[simp] theorem SS.set_get {x : Option AObj} : (st.set i x).mem.get i = x := by simp [SS.set]
theorem SS.set_old {x : Option AObj} (h : j ≠ i) : (st.set i x).mem.get j = st.mem.get j := by simp only [SS.set, PT.get_upd]; rw [if_neg (fun e => h e.symm)]
@[simp] theorem SS.ro_mem : (st.ro n).mem = st.mem := rfl
@[simp] theorem SS.ro_next : (st.ro n).next = st.next := rfl
@[simp] theorem SS.ro_lim : (st.ro n).lim = n := rfl
@[simp] theorem SS.adv_mem : (st.adv n).mem = st.mem := rfl
@[simp] theorem SS.adv_next : (st.adv n).next = n := rfl
@[simp] theorem SS.adv_lim : (st.adv n).lim = st.lim := rfl
@[simp] theorem SS.adv_self : st.adv st.next = st := rfl
@[simp] theorem SS.adv_adv {m : Nat} : (st.adv n).adv m = st.adv m := rfl
@[simp] theorem SS.ro_ro {m : Nat} : (st.ro n).ro m = st.ro m := rfl
@[simp] theorem SS.ro_self : st.ro st.lim = st := rfl
theorem SS.ro_lim_eq (h : st.lim = n) : st.ro n = st := by subst h; rfl

theorem SS.ld_cells {c : List Value} {z : Nat} (h : st.mem.get i = some (.cells c z)) : st.ld i k = c[k]? := by unfold SS.ld; rw [h]; rfl
theorem SS.ld_table {c : List Value} (h : st.mem.get i = some (.table c)) : st.ld i k = c[k]? := by unfold SS.ld; rw [h]; rfl
theorem SS.rd_cells {c : List Value} {z : Nat} (h : st.mem.get i = some (.cells c z)) : st.rd i k = c[k]? := by unfold SS.rd; rw [h]; rfl
theorem SS.ldN_cells {c : List Value} {z : Nat} (h : st.mem.get i = some (.cells c z)) : st.ldN i k n = (cut c k n).map fun d => .agg d.toArray := by unfold SS.ldN; rw [h]; rfl
theorem SS.ldN_table {c : List Value} (h : st.mem.get i = some (.table c)) : st.ldN i k n = (cut c k n).map fun d => .agg d.toArray := by unfold SS.ldN; rw [h]; rfl
theorem SS.rdN_cells {c : List Value} {z : Nat} (h : st.mem.get i = some (.cells c z)) : st.rdN i k n = (cut c k n).map fun d => .agg d.toArray := by unfold SS.rdN; rw [h]; rfl
theorem SS.st_cells {c c' vs : List Value} {z : Nat} (h : st.mem.get i = some (.cells c z)) (hl : st.lim ≤ i) (h1 : vs.all one = true) (hs : spliceE c k vs = some c') : st.st i k vs = some (st.set i (some (.cells c' z))) := by
  unfold SS.st
  have : Nat.ble st.lim i = true := by rwa [Nat.ble_eq]
  rw [this, h]
  simp [h1, hs]
theorem SS.iterG_get {s : ByteArray} {p : Nat} (h : st.mem.get i = some (.iter s p)) : st.iterG i = some (s, p) := by unfold SS.iterG; rw [h]; rfl
end

/-- An extension: what was there stays as it was. -/
structure Ext (st0 st : SS) : Prop where
  next : st0.next ≤ st.next
  lim : st.lim = st0.lim
  keep : ∀ j, j < st0.next → st.mem.get j = st0.mem.get j
section
variable {st0 st st' : SS} {ob : AObj} {i n : Nat}
theorem Ext.refl (st : SS) : Ext st st := ⟨Nat.le_refl _, rfl, fun _ _ => rfl⟩
theorem Ext.trans {a b c : SS} (h : Ext a b) (k : Ext b c) : Ext a c := ⟨Nat.le_trans h.next k.next, k.lim.trans h.lim, fun j hj => (k.keep j (Nat.lt_of_lt_of_le hj h.next)).trans (h.keep j hj)⟩
theorem Ext.new (h : Ext st0 st) (ob : AObj) : Ext st0 (st.new ob) := ⟨Nat.le_succ_of_le h.next, h.lim, fun j hj => by rw [SS.new_old (by have := h.next; omega)]; exact h.keep j hj⟩
theorem Ext.adv (h : Ext st0 st) (hn : st.next ≤ n) : Ext st0 (st.adv n) := ⟨Nat.le_trans h.next hn, h.lim, h.keep⟩
theorem Ext.set (h : Ext st0 st) (hi : st0.next ≤ i) (x : Option AObj) : Ext st0 (st.set i x) := ⟨h.next, h.lim, fun j hj => by rw [SS.set_old (by omega)]; exact h.keep j hj⟩
theorem Ext.get {x : Option AObj} (h : Ext st0 st) (hi : i < st0.next) (hx : st0.mem.get i = x) : st.mem.get i = x := (h.keep i hi).trans hx
/-- A pure call's end: what was made is forgotten. -/
theorem Ext.back (h : Ext (st.ro st.next) st') : Ext st (st.adv st'.next) := ⟨h.next, rfl, fun _ _ => rfl⟩
end

/-- A call that is told by a contract with new memory. -/
theorem con_sound {P : Program} {L : Lk} {f : FuncId} {args : List Value} {st : SS} {c : Con} (hx : L.ext f args = none) (h : L.con f args st.next = some c)
    (hb : (Nat.ble st.next c.A && Nat.ble c.A c.B && c.objs.all (fun x => Nat.ble c.A x.1 && Nat.blt x.1 c.B) && c.tabs.all (fun x => L.glob x.1 && Nat.blt x.1 c.A && eqTab (st.mem.get x.1) x.2)) = true) :
    cS P L f args st = some (c.v, ⟨putAll c.objs st.mem, c.B, st.lim⟩) := by
  rw [cS_iff]
  refine ⟨rfl, 0, fun m _ base log => ⟨log, ?_, .refl _ _ _⟩⟩
  unfold callE
  rw [hx]
  simp only
  have h' : L.con f args (st.toE base log).next = some c := h
  rw [h']
  simp only
  have hb' : (Nat.ble (st.toE base log).next c.A && Nat.ble c.A c.B && c.objs.all (fun x => Nat.ble c.A x.1 && Nat.blt x.1 c.B) && c.tabs.all (fun x => L.glob x.1 && Nat.blt x.1 c.A && eqTab ((st.toE base log).mem.get x.1) x.2)) = true := hb
  rw [hb']
  rfl

/-! ### Numbers -/
theorem wrap64 {n : Int} (h0 : -9223372036854775808 ≤ n) (h1 : n ≤ 9223372036854775807) : IntKind.wrap .i64 n = n := by
  rw [← wrapF_eq]
  show wrapS 18446744073709551616 9223372036854775808 n = n
  rw [wrapS_eq _ _ _ (by decide)]
  split <;> omega
theorem wrapU8 {n : Int} (h0 : 0 ≤ n) (h1 : n < 256) : IntKind.wrap .u8 n = n := by
  rw [← wrapF_eq]
  show ((emodF n 256 : Nat) : Int) = n
  rw [emodF_eq _ _ (by decide)]
  omega
theorem wrapU32 {n : Int} (h0 : 0 ≤ n) (h1 : n < 4294967296) : IntKind.wrap .u32 n = n := by
  rw [← wrapF_eq]
  show ((emodF n 4294967296 : Nat) : Int) = n
  rw [emodF_eq _ _ (by decide)]
  omega
theorem wrapU64 {n : Int} (h0 : 0 ≤ n) (h1 : n < 18446744073709551616) : IntKind.wrap .u64 n = n := by
  rw [← wrapF_eq]
  show ((emodF n 18446744073709551616 : Nat) : Int) = n
  rw [emodF_eq _ _ (by decide)]
  omega

/-! ### Strings -/
@[simp] theorem bl_length (s : ByteArray) : (bl s).length = s.size := by simp [bl]
theorem idx_lt {s : ByteArray} {i : Int} (h0 : 0 ≤ i) (h1 : i < s.size) : ∃ b : UInt8, (bl s)[i.toNat]? = some b ∧ idxS s i = some (.int .u8 b.toNat) := by
  have hlt : i.toNat < (bl s).length := by rw [bl_length]; omega
  refine ⟨(bl s)[i.toNat], List.getElem?_eq_getElem hlt, ?_⟩
  unfold idxS
  simp [h0, List.getElem?_eq_getElem hlt]
theorem sub_ok {s : ByteArray} {l h : Int} (h0 : 0 ≤ l) (h1 : l ≤ h) (h2 : h ≤ s.size) : subS s l h = some (s.extract l.toNat h.toNat) := by
  unfold subS
  simp [h0, h1, h2]
theorem bl_extract (s : ByteArray) (l h : Nat) : bl (s.extract l h) = ((bl s).take h).drop l := by
  unfold bl
  rw [ByteArray.data_extract, Array.toList_extract, List.extract_eq_take_drop]
  rw [List.drop_take]
@[simp] theorem asI_int (k : IntKind) (n : Int) : asI k (.int k n) = some n := by cases k <;> rfl
@[simp] theorem asB_bool (b : Bool) : asB (.bool b) = some b := rfl
@[simp] theorem asS_string (s : ByteArray) : asS (.string s) = some s := rfl
theorem u8_lt (b : UInt8) : (b.toNat : Int) < 256 := by have := b.toNat_lt; omega

/-! ### Lists of cells -/
theorem cut_all {c : List Value} {n : Nat} (h : c.length = n) : cut c 0 n = some c := by
  unfold cut
  simp only [List.drop_zero]
  have : c.take n = c := List.take_of_length_le (by omega)
  rw [this, beq_dec, h]
  simp
theorem cut_mid {a b c : List Value} {k n : Nat} (ha : a.length = k) (hb : b.length = n) : cut (a ++ (b ++ c)) k n = some b := by
  unfold cut
  have e1 : (a ++ (b ++ c)).drop k = b ++ c := by subst ha; simp
  have e2 : (b ++ c).take n = b := by subst hb; simp
  simp only [e1, e2, beq_dec, hb]
  simp
theorem cut_of {c d : List Value} {k n : Nat} (h : (c.drop k).take n = d) (hl : d.length = n) : cut c k n = some d := by
  unfold cut
  simp only [h, beq_dec, hl]
  simp
theorem splice_of {c vs : List Value} {k : Nat} (h : k + vs.length ≤ c.length) : spliceE c k vs = some (c.take k ++ (vs ++ c.drop (k + vs.length))) := by
  unfold spliceE
  have : Nat.ble (k + vs.length) c.length = true := by rwa [Nat.ble_eq]
  rw [this]; rfl

/-- A list that a function owns: a block of its own, from b on; or nothing yet. -/
def Own (b : Nat) (st : SS) (v : Value) (c : List Value) (z n : Nat) : Prop :=
  c.length = n * z ∧ ((v = .slice none 0 0 ∧ n = 0) ∨ ∃ i, v = .slice (some ⟨i, 0, none⟩) n n ∧ 0 < n ∧ st.mem.get i = some (.cells c z) ∧ b ≤ i ∧ i < st.next)
theorem Own.nil (b : Nat) (st : SS) (z : Nat) : Own b st (.slice none 0 0) [] z 0 := ⟨by simp, .inl ⟨rfl, rfl⟩⟩
theorem Own.ext {b : Nat} {st st' : SS} {v : Value} {c : List Value} {z n : Nat} (h : Own b st v c z n) (he : Ext st st') : Own b st' v c z n := by
  obtain ⟨h1, h2⟩ := h
  refine ⟨h1, h2.imp id ?_⟩
  rintro ⟨i, e, h0, hm, hb, hi⟩
  exact ⟨i, e, h0, he.get hi hm, hb, Nat.lt_of_lt_of_le hi he.next⟩
theorem Own.low {b b' : Nat} {st : SS} {v : Value} {c : List Value} {z n : Nat} (h : Own b st v c z n) (hb : b' ≤ b) : Own b' st v c z n := by
  obtain ⟨h1, h2⟩ := h
  refine ⟨h1, h2.imp id ?_⟩
  rintro ⟨i, e, h0, hm, hb', hi⟩
  exact ⟨i, e, h0, hm, by omega, hi⟩
theorem Own.len {b : Nat} {st : SS} {v : Value} {c : List Value} {z n : Nat} (h : Own b st v c z n) : lenV v = some (.int .i64 (n : Int)) := by
  obtain ⟨_, ⟨rfl, rfl⟩ | ⟨i, rfl, _⟩⟩ := h <;> rfl

/-- A list that may be read. -/
def Rd (st : SS) (v : Value) (c : List Value) (z n : Nat) : Prop :=
  c.length = n * z ∧ ((v = .slice none 0 0 ∧ n = 0) ∨ ∃ i cap, v = .slice (some ⟨i, 0, none⟩) n cap ∧ (∃ z', st.mem.get i = some (.cells c z')) ∧ i < st.next)
theorem Own.rd {b : Nat} {st : SS} {v : Value} {c : List Value} {z n : Nat} (h : Own b st v c z n) : Rd st v c z n := by
  obtain ⟨h1, h2⟩ := h
  refine ⟨h1, h2.imp id ?_⟩
  rintro ⟨i, e, h0, hm, hb', hi⟩
  exact ⟨i, n, e, ⟨z, hm⟩, hi⟩
theorem Rd.ext {st st' : SS} {v : Value} {c : List Value} {z n : Nat} (h : Rd st v c z n) (he : Ext st st') : Rd st' v c z n := by
  obtain ⟨h1, h2⟩ := h
  refine ⟨h1, h2.imp id ?_⟩
  rintro ⟨i, cap, e, ⟨z', hm⟩, hi⟩
  exact ⟨i, cap, e, ⟨z', he.get hi hm⟩, Nat.lt_of_lt_of_le hi he.next⟩
theorem Rd.len {st : SS} {v : Value} {c : List Value} {z n : Nat} (h : Rd st v c z n) : lenV v = some (.int .i64 (n : Int)) := by
  obtain ⟨_, ⟨rfl, rfl⟩ | ⟨i, cap, rfl, _⟩⟩ := h <;> rfl
theorem Rd.elem {st : SS} {v : Value} {c : List Value} {z n : Nat} (h : Rd st v c z n) {j : Int} (h0 : 0 ≤ j) (h1 : j < n) : ∃ i z', elemS v j z = some (i, j.toNat * z) ∧ st.mem.get i = some (.cells c z') ∧ i < st.next := by
  obtain ⟨_, ⟨rfl, rfl⟩ | ⟨i, cap, rfl, ⟨z', hm⟩, hi⟩⟩ := h
  · omega
  · refine ⟨i, z', ?_, hm, hi⟩
    unfold elemS
    simp [h0, h1]
theorem Rd.load {st : SS} {v : Value} {c row : List Value} {z n : Nat} (h : Rd st v c z n) {j : Int} (h0 : 0 ≤ j) (h1 : j < n) (hr : (c.drop (j.toNat * z)).take z = row) (hz : row.length = z) :
    ∃ p, elemS v j z = some p ∧ st.ldN p.1 p.2 z = some (.agg row.toArray) ∧ ∀ m, m < z → st.ld p.1 (p.2 + m) = row[m]? := by
  obtain ⟨i, z', h2, h3, h4⟩ := h.elem h0 h1
  refine ⟨_, h2, ?_, fun m hm => ?_⟩
  · rw [SS.ldN_cells h3, cut_of hr hz]; rfl
  · rw [SS.ld_cells h3, ← hr, List.getElem?_take_of_lt hm, List.getElem?_drop]

/-- The first cells of a list that is read. -/
theorem Rd.first {st : SS} {v : Value} {c : List Value} {z n : Nat} (h : Rd st v c z n) : lenE v = some n ∧ st.first z n v = some c := by
  obtain ⟨h1, ⟨rfl, rfl⟩ | ⟨i, cap, rfl, ⟨z', hm⟩, hi⟩⟩ := h
  · have : c = [] := by simpa using h1
    subst this
    exact ⟨rfl, rfl⟩
  · refine ⟨rfl, ?_⟩
    show (st.mem.get i).bind (fun ob => match ob with | .cells c _ => cut c 0 (n * z) | _ => none) = some c
    rw [hm]
    exact cut_all h1

/-- **A list grows by another.** -/
theorem Own.app {b : Nat} {st : SS} {v x : Value} {c d : List Value} {z n m bt : Nat} (h : Own b st v c z n) (hx : Rd st x d z m) (hb : b ≤ st.next) (hl : st.lim ≤ b) (hz : 0 < z) (h1 : d.all one = true) (hs : (n + m + 1) * bt ≤ 2 ^ 44) (hn : n + m ≤ 2 ^ 44) :
    ∃ v' st', st.app z bt v x = some (v', st') ∧ Own b st' v' (c ++ d) z (n + m) ∧ st'.lim = st.lim ∧ st.next ≤ st'.next ∧ (∀ st0, st0.next ≤ b → Ext st0 st → Ext st0 st') ∧
      ∀ j, j < st.next → (∀ q, v ≠ .slice (some ⟨j, 0, none⟩) q q) → st'.mem.get j = st.mem.get j := by
  obtain ⟨e1, e2⟩ := hx.first
  unfold SS.app
  rw [e1]
  simp only [Option.bind_some]
  have hlen : (c ++ d).length = (n + m) * z := by rw [List.length_append, h.1, hx.1, Nat.add_mul]
  by_cases hm : m = 0
  · have hd : d = [] := by have := hx.1; rw [hm] at this; simpa using this
    subst hm; subst hd
    have hb0 : Nat.beq 0 0 = true := rfl
    obtain ⟨h2, h3⟩ := h
    rcases h3 with ⟨rfl, rfl⟩ | ⟨i, rfl, hr⟩
    · exact ⟨_, st, by simp only [hb0, cond_true], ⟨by simpa using h2, .inl ⟨rfl, rfl⟩⟩, rfl, Nat.le_refl _, fun _ _ h => h, fun _ _ _ => rfl⟩
    · exact ⟨_, st, by simp only [hb0, cond_true, Nat.add_zero], ⟨by simpa using h2, .inr ⟨i, rfl, by simpa using hr⟩⟩, rfl, Nat.le_refl _, fun _ _ h => h, fun _ _ _ => rfl⟩
  · have hm0 : Nat.beq m 0 = false := by rw [beq_dec]; simp [hm]
    obtain ⟨h2, h3⟩ := h
    rcases h3 with ⟨rfl, rfl⟩ | ⟨i, rfl, h0, hmem, hbi, hi⟩
    · have hc : c = [] := by simpa using h2
      subst hc
      have q : (Nat.ble ((m + 1) * bt) (2 ^ 44) && Nat.ble m (2 ^ 44)) = true := by
        simp only [Bool.and_eq_true, Nat.ble_eq]
        simp only [Nat.zero_add] at hs hn
        exact ⟨hs, hn⟩
      refine ⟨.slice (some ⟨st.next, 0, none⟩) m m, st.new (.cells d z), by simp only [hm0, cond_false, q, cond_true, e2, Option.bind_some], ⟨by simpa using hlen, .inr ⟨st.next, by simp, by omega, by simp, hb, by simp⟩⟩, rfl, by simp, fun st0 _ he => he.new _, fun j hj _ => SS.new_old (by omega)⟩
    · have q : (Nat.ble ((n + m + 1) * bt) (2 ^ 44) && Nat.ble (n + m) (2 ^ 44) && Nat.ble st.lim i) = true := by
        simp only [Bool.and_eq_true, Nat.ble_eq]
        exact ⟨⟨hs, hn⟩, by omega⟩
      have q2 : (Nat.beq z z && (Nat.blt n (n + m) || Nat.ble (0 + n * z) c.length)) = true := by
        have a : Nat.beq z z = true := by rw [beq_dec]; simp
        have b' : Nat.blt n (n + m) = true := by rw [Nat.blt_eq]; omega
        rw [a, b']; rfl
      refine ⟨.slice (some ⟨st.next, 0, none⟩) (n + m) (n + m), (st.set i none).new (.cells (c ++ d) z), ?_, ⟨hlen, .inr ⟨st.next, rfl, by omega, by simp [SS.new, SS.set], by omega, by simp⟩⟩, rfl, by simp, fun st0 hb0 he => (he.set (by omega) none).new _, fun j hj hne => ?_⟩
      · simp only [hm0, cond_false, q, cond_true, hmem, Option.bind_some, q2, cut_all h2, e2, h1]
      · rw [SS.new_old (by simp; omega), SS.set_old (fun e => hne n (by rw [e]))]
/-! ### For simp, from here on -/
@[simp] theorem nbeq_dec (a b : Nat) : Nat.beq a b = decide (a = b) := beq_dec a b
@[simp] theorem nble_dec (a b : Nat) : Nat.ble a b = decide (a ≤ b) := by rw [Bool.eq_iff_iff]; simp [Nat.ble_eq]
@[simp] theorem addr_ptr (i k : Nat) : addr? (ptr i k) = some (i, k) := rfl
end Go.E
/- From what a call comes to, to the machine; variables that hold errors. -/
set_option linter.unusedSimpArgs false
set_option linter.unusedVariables false
namespace Go.E
open Go

theorem cS_runE {P : Program} {L : Lk} {l : List (Nat × AObj)} {nx : Nat} {f : FuncId} {args : List Value} {v : Value} {st' : SS} (h : cS P L f args ⟨tabM l, nx, nx⟩ = some (v, st')) :
    ∃ n stE, runE P L n f args (start l nx) = some (v, stE) ∧ stE.log = [] := by
  rw [cS_iff] at h
  obtain ⟨_, n, hn⟩ := h
  obtain ⟨log', h1, h2⟩ := hn n (Nat.le_refl _) nx []
  refine ⟨n, st'.toE nx log', h1, ?_⟩
  show log' = []
  cases log' with
  | nil => rfl
  | cons i r =>
    rcases h2 i (by simp) with h3 | ⟨h3, h4⟩
    · cases h3
    · have h3' : nx ≤ i := h3
      omega

theorem law_cS [Sym] {P : Program} {L : Lk} (hL : L.Ok P) (hC : ConOk P L) {f : Nat} {fn : Func} (hf : L.func f = some (f, fn)) {l : List (Nat × AObj)} {nx : Nat} {W : World} {args : List Value} {v : Value} {st' : SS}
    (h : cS P L f args ⟨tabM l, nx, nx⟩ = some (v, st')) (hv : flat3 v = true) (hargs : ∀ x ∈ args, flat3 x = true)
    (hob : ∀ x ∈ l, ∃ obj, W.heap[x.1]? = some obj ∧ OR (startB l) ⟨x.1, 0, 0, 0⟩ obj x.2) (hg : ∀ g, L.glob g = true → g ∈ l.map (·.1)) (hn : ∀ x ∈ l, x.1 < nx) :
    Calls P f args.toArray W fun e W' => e = .returned v ∧ RowKit.Below W.heap.size W W' := by
  obtain ⟨n, stE, h1, h2⟩ := cS_runE h
  exact law_calls hL hC hf h1 hv h2 hargs hob hg hn

/-- A variable that holds an interface value: its cell. -/
theorem laid_iface {P : Program} {w : World} {laid : List (String × DataW Unit)} (hl : laidMet P laid w) {n nm : String} {d : DataW Unit} (hm : (n, .iface nm d) ∈ laid) {g t : Nat} {ms : Array (String × TypeId)}
    (hg : P.globalNamed n = some g) (htg : (P.globals[g]?).map (·.type) = some t) (ht : P.underlying t = some (.interface ms)) : ∃ a u, w.cell? ⟨g, 0, none⟩ = some (.iface a u) := by
  obtain ⟨ps, hv, _, _⟩ := hl
  obtain ⟨g', t', cs, fuel, p, h1, h2, h3, h4⟩ := laid_var laid ps hv n _ hm
  rw [hg] at h1; cases h1
  rw [htg] at h2; cases h2
  have hcell := World.var?_cell hg h3 0
  cases fuel with
  | zero => cases h4
  | succ k =>
    unfold DataW.trod at h4
    rw [ht] at h4
    split at h4
    case h_12 u v e1 e2 => exact ⟨u, v, by rw [hcell, ← Array.getElem?_toList, e2]; rfl⟩
    all_goals first
      | (cases h4; done)
      | (simp_all; done)
theorem table1 [Sym] {w : World} {g i : Nat} {β : Emb} (h : w.cell? ⟨g, 0, none⟩ = some (Sym.v i)) : ∃ obj, w.heap[g]? = some obj ∧ OR β ⟨g, 0, 0, 0⟩ obj (.table [.chan (some i)]) := by
  unfold World.cell? at h
  simp only at h
  split at h
  · rename_i arr T fr hh
    refine ⟨_, hh, arr, T, fr, rfl, fun j v hv => ?_⟩
    cases j with
    | zero =>
      simp at hv
      subst hv
      exact ⟨_, by simpa using h, .sym i⟩
    | succ j => simp at hv
  · cases h
end Go.E
