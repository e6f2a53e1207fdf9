/- Operations that write, or call: sound. -/
import Derived.Test.YtfgdoliihmjnoaaDoorXE7
import Derived.Laws.Append
set_option linter.unusedSimpArgs false
set_option linter.unusedVariables false
namespace Go.E
open Go

/-- Whatever the operation yields is of this kind. -/
def OpOk (P : Program) (o : Oper) (a : Act) (w : World) (G : Value → World → Prop) : Prop :=
  ∀ (K : Act → World → Prop) (Q : Exit → Act → World → Prop), (∀ v' w', G v' w' → K (a.put o.dst v') w') → o.wp P a w K Q

section
variable {P : Program} {L : Lk} {β : Emb} {st st' : St} {w : World} {o : Oper} {a : Act} {G : Value → World → Prop} {N : Nat}

theorem OpOk.value {v' : Value} {w' : World} (h : (execOp a.eval o).run P w = .ok (.value v') w') (hg : G v' w') : OpOk P o a w G := fun K Q hk => by
  unfold Oper.wp; rw [h]; exact hk _ _ hg
theorem OpOk.skip {w' : World} (h : (execOp a.eval o).run P w = .ok .skip w') (hg : G undef w') : OpOk P o a w G := fun K Q hk => by
  unfold Oper.wp; rw [h]; exact hk _ _ hg
theorem OpOk.enter {f : FuncId} {args : Array Value} {w' : World} (h : (execOp a.eval o).run P w = .ok (.enter f args) w') (hc : Calls P f args w' fun e w'' => ∃ v', e = .returned v' ∧ G v' w'') : OpOk P o a w G := fun K Q hk => by
  unfold Oper.wp; rw [h]
  exact hc.mono fun e w'' ⟨v', he, hg⟩ => by subst he; exact hk _ _ hg
theorem OpOk.mono {G' : Value → World → Prop} (h : OpOk P o a w G) (hg : ∀ v w, G v w → G' v w) : OpOk P o a w G' := fun K Q hk => h K Q fun v' w' hv => hk v' w' (hg v' w' hv)

theorem len_rel [Sym] {x x' : Value} {n : Nat} (h : lenE x = some n) (r : VR β x x') (w : World) : (Builtin.lenOf x').run P w = .ok n w := by
  unfold lenE at h
  split at h
  · cases h; cases r <;> rfl
  · cases h; cases r; rfl
  · cases h

theorem first_rel [Sym] (hi : Inv N β L st w) {sz n m : Nat} {x x' : Value} {new : List Value} (hm : lenE x = some m) (hnm : n ≤ m) (h : firstE st sz n x = some new) (r : VR β x x') :
    new.length = n * sz ∧ ∃ new', VRs β new new' ∧ ∀ w2, w2.heap = w.heap → (Builtin.firstCells sz n x').run P w2 = .ok new'.toArray w2 := by
  unfold firstE at h
  split at h
  · rename_i i k l c
    split at h
    · rename_i cs z hm'
      cases r with
      | slice hp hl hc hk hs =>
      rename_i k' c' p
      refine ⟨cut_len h, ?_⟩
      simp only [lenE, Option.some.injEq] at hm
      obtain ⟨obj, hh, hor⟩ := hi.rep.obj i p _ hp hm'
      rcases hk with h0 | h0
      · have hn : n = 0 := by omega
        subst hn
        have : new = [] := by have := cut_len h; simpa using this
        subst this
        refine ⟨[], VRs.nil, fun w2 _ => ?_⟩
        simp [Builtin.firstCells, loadCells, loadCellsFrom]
      · subst h0
        obtain ⟨d', hr, hc1, _⟩ := run_cut (P := P) hh hor.table h
        refine ⟨d', hr, fun w2 h2 => ?_⟩
        have hc2 : ∀ j v, d'[j]? = some v → w2.cell? (Addr.add ⟨p.b, p.o + k, none⟩ j) = some v := fun j v hv => by
          have := hc1 j v hv
          unfold World.cell? at this ⊢
          rw [h2]; exact this
        have := run_firstCells_some (P := P) w2 sz n ⟨p.b, p.o + k, none⟩ l c' d' (by rw [← hr.1]; exact cut_len h) hc2
        exact this
    · cases h
  · rename_i l c
    cases hb : Nat.beq n 0 with
    | false => rw [hb] at h; cases h
    | true =>
      rw [hb] at h
      simp only [cond_true, Option.some.injEq] at h
      subst h
      rw [beq_dec] at hb
      have hn : n = 0 := of_decide_eq_true hb
      subst hn
      refine ⟨by simp, [], VRs.nil, fun w2 _ => ?_⟩
      cases r
      exact run_firstCells_none w2 sz 0 _ _
  · rename_i s
    cases hb : Nat.beq sz 1 with
    | false => rw [hb] at h; cases h
    | true =>
      rw [hb] at h
      simp only [cond_true] at h
      rw [beq_dec] at hb
      have hz : sz = 1 := of_decide_eq_true hb
      subst hz
      refine ⟨by rw [cut_len h]; omega, new, ?_, fun w2 _ => ?_⟩
      · refine VRs.flat (p := flat1) (fun v => flat1_refl) fun v hv => ?_
        rcases cut_some h with ⟨_, rfl, _⟩ | ⟨rfl, _⟩
        · simp only [List.drop_zero] at hv
          have := List.mem_of_mem_take hv
          simp only [List.mem_map] at this
          obtain ⟨b, _, rfl⟩ := this
          rfl
        · simp at hv
      · cases r
        simp only [Builtin.firstCells, Sem.run_pure]
        congr 1
        apply Array.toList_inj.1
        simp only [lenE, Option.some.injEq] at hm
        rcases cut_some h with ⟨_, rfl, _⟩ | ⟨rfl, rfl⟩
        · simp [ByteArray.extract, ByteArray.copySlice, ByteArray.data_extract]
        · simp
  · cases h

theorem nextcap_le {need cap : Nat} (h : cap < need) : Builtin.nextslicecap need cap ≤ 2 * need := by
  unfold Builtin.nextslicecap
  split
  · omega
  · split
    · omega
    · rename_i h1 h2
      have key : ∀ r c, 256 ≤ need → c ≤ 2 * need → Builtin.growBy need r c ≤ 2 * need := by
        intro r
        induction r with
        | zero => intro c _ hc; exact hc
        | succ r ih =>
          intro c h3 hc
          unfold Builtin.growBy
          split
          · exact hc
          · exact ih _ h3 (by omega)
      exact key 4 cap (by omega) (by omega)

theorem zeroCells_size (z : Array Value) (n : Nat) : (Builtin.zeroCells z n).size = n * z.size := by simp [Builtin.zeroCells]
end
end Go.E
