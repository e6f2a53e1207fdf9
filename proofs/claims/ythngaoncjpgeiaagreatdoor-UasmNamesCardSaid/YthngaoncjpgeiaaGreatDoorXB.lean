/- An evaluator over the given code, and its soundness. -/
import Derived.Below
import Derived.Test.YthngaoncjpgeiaaGreatDoorXA
/- append, copy, clear, the iterator, calls: sound. -/
set_option linter.unusedSimpArgs false
set_option linter.unusedVariables false
namespace Go.E
open Go

section
variable {P : Program} {L : Lk} {β : Emb} {st st' : St} {w : World} {o : Oper} {a : Act} {N : Nat}

theorem run_app_room {t xt e ty : TypeId} {d : TypeDesc} {i : TypeInfo} (ht : P.underlying t = some (.slice e)) (hx : P.underlying xt = some d) (hd : ∀ k, d ≠ .int k) (hi : P.info? e = some i)
    {ad : Addr} {len cap n : Nat} {x' : Value} {new : List Value} {w' : World} (hn : ∀ w, (Builtin.lenOf x').run P w = .ok n w) (hf : (Builtin.firstCells i.size n x').run P w = .ok new.toArray w)
    (hroom : len + n ≤ cap) (hs : (storeCells (ad.add (len * i.size)) new).run P w = .ok () w') :
    (Builtin.append_ #[t, xt] ty #[.slice (some ad) len cap, x']).run P w = .ok (.slice (some ad) (len + n) cap) w' := by
  have hz : (match d with | .int _ => true | _ => false) = false := by cases d <;> first | rfl | exact absurd rfl (hd _)
  simp [Builtin.append_, run_underlying ht, run_underlying hx, run_size hi, hz, hn, hroom, hf, hs]

theorem run_app_grow {t xt e ty : TypeId} {d : TypeDesc} {i : TypeInfo} {z : Value} (ht : P.underlying t = some (.slice e)) (hx : P.underlying xt = some d) (hd : ∀ k, d ≠ .int k) (hi : P.info? e = some i) (hz : i.zero = some z)
    {base : Option Addr} {len cap n : Nat} {x' : Value} {old new : List Value} (hn : ∀ w, (Builtin.lenOf x').run P w = .ok n w) (hf : ∀ w2, w2.heap = w.heap → (Builtin.firstCells i.size n x').run P w2 = .ok new.toArray w2)
    (hfo : ∀ w2, w2.heap = w.heap → (Builtin.firstCells i.size len (.slice base len cap)).run P w2 = .ok old.toArray w2) (hroom : cap < len + n) (hb : (len + n + 1) * i.bytes ≤ 2 ^ 44) (h44 : len + n ≤ 2 ^ 44) (hb0 : 0 < i.bytes) :
    (Builtin.append_ #[t, xt] ty #[.slice base len cap, x']).run P w = .ok (.slice (some ⟨w.heap.size, 0, none⟩) (len + n) (grownCap w (len + n) cap e))
      (w.drew.alloc (.cells (old.toArray ++ new.toArray ++ Builtin.zeroCells z.cells (grownCap w (len + n) cap e - (len + n))) e)) := by
  have hzz : (match d with | .int _ => true | _ => false) = false := by cases d <;> first | rfl | exact absurd rfl (hd _)
  have h1 : ¬ (len + n ≤ cap) := by omega
  have h63 : ¬ (9223372036854775807 < ((len : Int) + (n : Int))) := by omega
  have hby : (len + n) * i.bytes ≤ 2 ^ 44 := Nat.le_trans (Nat.mul_le_mul_right _ (by omega)) hb
  have h48 : ¬ (281474976710656 < Builtin.nextslicecap (len + n) cap * i.bytes) := by
    have h2 := Nat.mul_le_mul_right i.bytes (nextcap_le hroom)
    rw [Nat.mul_assoc] at h2
    omega
  have hbz : ¬ i.bytes = 0 := by omega
  have e1 := hf w.drew rfl
  have e2 := hfo w.drew rfl
  simp [Builtin.append_, run_underlying ht, run_underlying hx, sizeOf, typeInfo, zeroValue, hi, hz, hzz, hn, h1, h63, h48, hbz, Question.forced, e1, e2, newRow, grownCap]
  congr 2
  apply Array.toList_inj.1
  simp

@[simp] theorem write_next (i : Nat) (ob : Option AObj) : (st.write i ob).next = st.next := rfl

theorem append_sound [Sym] (hL : L.Ok P) (hi : Inv N β L st w) (hN : st'.next ≤ N) {t xt : TypeId} {s x s' x' v : Value} (hs : VR β s s') (hx : VR β x x') (h : appendE L st t xt s x = some (v, st')) (ty : TypeId) :
    ∃ v' w' β', (Builtin.append_ #[t, xt] ty #[s', x']).run P w = .ok v' w' ∧ Post st st' β w β' w' ∧ VR β' v v' := by
  unfold appendE at h
  split at h
  · cases h
  · rename_i e d hd hu hux
    have hnint : ∀ k, d ≠ .int k := fun k hk => hd k hk
    simp only [Option.bind_eq_some_iff] at h
    obtain ⟨i, hi', z, hz, n, hn, h⟩ := h
    have hlen := fun w => len_rel (P := P) hn hx w
    have hut := hL.und _ _ hu
    have huxt := hL.und _ _ hux
    have hie := hL.info _ _ hi'
    split at h
    · -- the nil slice
      cases hs
      cases h0 : Nat.beq n 0 with
      | true =>
        rw [h0] at h
        simp only [cond_true, Option.some.injEq, Prod.mk.injEq] at h
        obtain ⟨rfl, rfl⟩ := h
        rw [beq_dec] at h0
        have hn0 : n = 0 := of_decide_eq_true h0
        subst hn0
        refine ⟨.slice none 0 0, w, β, ?_, .refl hi.rep, .slice0⟩
        have hzz : (match d with | .int _ => true | _ => false) = false := by cases d <;> first | rfl | exact absurd rfl (hnint _)
        have hf : ∃ r, (Builtin.firstCells i.size 0 x').run P w = .ok r w := by
          cases hx <;> first
            | (simp [lenE] at hn; done)
            | (simp [Builtin.firstCells, loadCells, loadCellsFrom]; done)
        obtain ⟨r, hr⟩ := hf
        simp [Builtin.append_, run_underlying hut, run_underlying huxt, run_size hie, hzz, hlen, hr]
      | false =>
        rw [h0] at h
        simp only [cond_false] at h
        cases hc : (Nat.ble ((n + 1) * i.bytes) (2 ^ 44) && Nat.ble n (2 ^ 44) && Nat.blt 0 i.bytes && Nat.blt 0 i.size && Nat.beq z.cells.size i.size && flat2 z) with
        | false => rw [hc] at h; cases h
        | true =>
          rw [hc] at h
          simp only [cond_true, Option.bind_eq_some_iff, Option.some.injEq, Prod.mk.injEq] at h
          obtain ⟨new, hnew, rfl, rfl⟩ := h
          simp only [Bool.and_eq_true, Nat.ble_eq, Nat.blt_eq, beq_dec, decide_eq_true_eq] at hc
          obtain ⟨⟨⟨⟨⟨hb, h44⟩, hb0⟩, hs0⟩, hzs⟩, hfz⟩ := hc
          have hn0 : n ≠ 0 := by rw [beq_dec] at h0; simpa using h0
          obtain ⟨hnl, new', hnr, hnf⟩ := first_rel (P := P) hi hn (Nat.le_refl _) hnew hx
          have hrun := run_app_grow (P := P) (w := w) (ty := ty) hut huxt hnint hie hz (base := none) (len := 0) (cap := 0) (old := []) hlen hnf (fun w2 _ => run_firstCells_none w2 _ _ _ _) (by omega) (by simpa using hb) (by omega) hb0
          simp only [Nat.zero_add] at hrun
          have hcap : n ≤ grownCap w n 0 e := Nat.le_add_right _ _
          have hsize : (#[] ++ new'.toArray ++ Builtin.zeroCells z.cells (grownCap w n 0 e - n)).size = grownCap w n 0 e * i.size := by
            have := hnr.1
            simp [zeroCells_size, hzs]
            rw [← this, hnl, ← Nat.add_mul]; congr 1; omega
          refine ⟨_, _, _, hrun, post_new (N := N) (s := (#[] ++ new'.toArray ++ Builtin.zeroCells z.cells (grownCap w n 0 e - n)).size) (z := i.size) hi hN ?_, ?_⟩
          · refine OR_new ?_ ?_ (by simp)
            · simp only [Array.empty_append, Array.toList_append]
              rw [List.take_append_of_le_length (by have := hnr.1; simp; omega), List.take_of_length_le (by have := hnr.1; simp; omega)]
              exact hnr.mono (Emb.add_old (dom_none hi hN))
            · have := hnr.1; simp; omega
          · exact .slice Emb.add_self (Nat.le_refl _) hcap (.inr rfl) (.inr ⟨by simp; omega, by simp only [Nat.zero_add]; rw [hsize]; exact Nat.le_refl _⟩)
    · -- a slice over a block
      rename_i j k len cap
      cases hs with
      | slice hp hl hcc hk hsp =>
      rename_i k' cap' p
      cases h0 : Nat.beq n 0 with
      | true =>
        rw [h0] at h
        simp only [cond_true, Option.some.injEq, Prod.mk.injEq] at h
        obtain ⟨rfl, rfl⟩ := h
        rw [beq_dec] at h0
        have hn0 : n = 0 := of_decide_eq_true h0
        subst hn0
        refine ⟨.slice (some ⟨p.b, k', none⟩) len cap', w, β, ?_, .refl hi.rep, .slice hp hl hcc hk hsp⟩
        have hf : (Builtin.firstCells i.size 0 x').run P w = .ok ([] : List Value).toArray w := by
          cases hx <;> first
            | (simp [lenE] at hn; done)
            | (simp [Builtin.firstCells, loadCells, loadCellsFrom]; done)
        exact run_app_room hut huxt hnint hie hlen hf (by omega) rfl
      | false =>
        rw [h0] at h
        simp only [cond_false] at h
        cases hc : (Nat.ble ((len + n + 1) * i.bytes) (2 ^ 44) && Nat.ble (len + n) (2 ^ 44) && Nat.blt 0 i.bytes && Nat.blt 0 i.size && Nat.beq z.cells.size i.size && flat2 z) with
        | false => rw [hc] at h; cases h
        | true =>
          rw [hc] at h
          simp only [cond_true] at h
          simp only [Bool.and_eq_true, Nat.ble_eq, Nat.blt_eq, beq_dec, decide_eq_true_eq] at hc
          obtain ⟨⟨⟨⟨⟨hb, h44⟩, hb0⟩, hs0⟩, hzs⟩, hfz⟩ := hc
          have hn0 : n ≠ 0 := by rw [beq_dec] at h0; simpa using h0
          split at h
          · rename_i c zz hm
            cases hc2 : (Nat.beq zz i.size && (Nat.blt cap (len + n) || Nat.ble (k + cap * i.size) c.length)) with
            | false => rw [hc2] at h; cases h
            | true =>
              rw [hc2] at h
              simp only [cond_true, Option.bind_eq_some_iff] at h
              obtain ⟨old, hold, new, hnew, h⟩ := h
              cases hone : new.all one with
              | false => rw [hone] at h; cases h
              | true =>
                rw [hone] at h
                simp only [cond_true, Option.some.injEq, Prod.mk.injEq] at h
                obtain ⟨rfl, rfl⟩ := h
                simp only [Bool.and_eq_true, Bool.or_eq_true, Nat.ble_eq, Nat.blt_eq, beq_dec, decide_eq_true_eq] at hc2
                obtain ⟨hzz, hcapc⟩ := hc2
                obtain ⟨hnl, new', hnr, hnf⟩ := first_rel (P := P) hi hn (Nat.le_refl _) hnew hx
                obtain ⟨obj, hh, hor⟩ := hi.rep.obj j p _ hp hm
                have hor0 := hor
                obtain ⟨arr, T, fr, rfl, a2, a3, a4, a5, a6⟩ := hor0
                have hlive : st.mem.get j ≠ none := by rw [hm]; simp
                have hjl := wf_lt hi.wf hlive
                have hdn := dom_none hi hN
                -- the old cells
                have holdlen := cut_len hold
                obtain ⟨old', hor', hoc⟩ : ∃ old', VRs β old old' ∧ ∀ w2, w2.heap = w.heap → (Builtin.firstCells i.size len (.slice (some ⟨p.b, k', none⟩) len cap')).run P w2 = .ok old'.toArray w2 := by
                  have := (first_rel (P := P) hi (x := .slice (some ⟨j, k, none⟩) len cap) (m := len) (n := len) (sz := i.size) (new := old) rfl (Nat.le_refl _) (by unfold firstE; simp only [hm]; exact hold) (.slice hp hl hcc hk hsp)).2
                  exact this
                have hnewlen : new'.length = n * i.size := by rw [← hnr.1]; exact hnl
                have holdlen' : old'.length = len * i.size := by rw [← hor'.1]; exact holdlen
                have logj : j ∈ ((st.write j none).new (.cells (old ++ new) i.size)).log ∨ st.base ≤ j := by
                  by_cases hb : j < st.base
                  · exact .inl (note_mem.2 (.inr ⟨rfl, hb⟩))
                  · exact .inr (by omega)
                by_cases hroom : len + n ≤ cap'
                · -- in place
                  have hspace : k' + cap' * i.size ≤ p.s := by
                    rcases hsp with h9 | ⟨_, h9⟩
                    · have h8 : k + cap * i.size ≤ c.length := hcapc.resolve_left (by omega)
                      have := hk.resolve_left (by omega)
                      rw [h9]; omega
                    · rw [a3, hzz] at h9; exact h9
                  have hfit : (len + n) * i.size ≤ cap' * i.size := Nat.mul_le_mul_right _ hroom
                  rw [Nat.add_mul] at hfit
                  obtain ⟨w', arr', hr, hh', hs', hw', hg'⟩ := run_stores (P := P) (o := k' + len * i.size) new' 0 arr w hh (by rw [a2]; exact a5) (by omega) (all_one_rel hnr hone)
                  have hadd : Addr.add ⟨p.b, k', none⟩ (len * i.size) = ⟨p.b, k' + len * i.size, none⟩ := by
                    unfold Addr.add; split
                    · rename_i h0; rw [h0]; rfl
                    · rfl
                  have hrun := run_app_room (P := P) (w := w) (ty := ty) (ad := ⟨p.b, k', none⟩) hut huxt hnint hie hlen (hnf w rfl) hroom (by rw [hadd]; exact hr)
                  refine ⟨_, w', β.add st.next ⟨p.b, k', p.s, i.size⟩, hrun, ?_, ?_⟩
                  · -- the post
                    have hob : OR (β.add st.next ⟨p.b, k', p.s, i.size⟩) ⟨p.b, k', p.s, i.size⟩ (.cells arr' T fr) (.cells (old ++ new) i.size) := by
                      refine ⟨arr', T, fr, rfl, hs'.trans a2, rfl, ?_, a5, fun m v hv => ?_⟩
                      · simp only [List.length_append, holdlen, hnl]; omega
                      · rw [hg']
                        by_cases hm1 : m < old.length
                        · rw [List.getElem?_append_left hm1] at hv
                          have hne : cap ≠ 0 := by
                            intro e
                            have : len = 0 := by omega
                            rw [holdlen, this] at hm1; omega
                          have hk1 := hk.resolve_left hne
                          rw [if_neg (by simp only [Nat.add_zero]; omega)]
                          obtain ⟨v', b1, b2⟩ := a6 _ v (cut_get hold hv)
                          refine ⟨v', ?_, b2.mono (Emb.add_old hdn)⟩
                          rw [← b1]; congr 1; simp only; omega
                        · rw [List.getElem?_append_right (by omega)] at hv
                          obtain ⟨y, hy, hyr⟩ := hnr.get hv
                          have hyl := (List.getElem?_eq_some_iff.1 hy).1
                          refine ⟨y, ?_, hyr.mono (Emb.add_old hdn)⟩
                          rw [if_pos (by simp only [Nat.add_zero]; omega), ← hy]
                          congr 1; simp only [Nat.add_zero]; omega
                    have other : ∀ m q, m ≠ j → β m = some q → st.mem.get m ≠ none → q.b ≠ p.b := fun m q hmj hq hlv e => hmj (hi.rep.inj m j q p hq hp hlv hlive e)
                    refine ⟨Emb.add_old hdn, fun m hmm => ?_, ⟨fun m q hq => ?_, fun m q ob hq hob' => ?_, fun m m' q q' h1 h2 h3 h4 h5 => ?_⟩, fun b hb' => ?_, fun m hmm => ?_, fun m q h1 h2 => ?_, by rw [hw'.size]; exact Nat.le_refl _, hw'.os, hw'.tape, hw'.output⟩
                    · by_cases e : m = st.next
                      · exact .inr ⟨by omega, by subst e; exact Nat.lt_succ_self _⟩
                      · left; simpa [Emb.add, e] using hmm
                    · rw [hw'.size]
                      rcases Emb.add_inv hq with ⟨_, rfl⟩ | ⟨_, hq⟩
                      · exact hi.rep.inb j p hp
                      · exact hi.rep.inb m q hq
                    · rcases Emb.add_inv hq with ⟨rfl, rfl⟩ | ⟨hne, hq⟩
                      · simp [St.new] at hob'; subst hob'
                        exact ⟨_, hh', hob⟩
                      · have hmj : m ≠ j := fun e => by subst e; simp [St.new, St.write, Ne.symm hne] at hob'
                        simp [St.new, St.write, Ne.symm hne, Ne.symm hmj] at hob'
                        obtain ⟨o', c1, c2⟩ := hi.rep.obj m q ob hq hob'
                        exact ⟨o', by rw [hw'.other _ (other m q hmj hq (by rw [hob']; simp))]; exact c1, c2.mono (Emb.add_old hdn)⟩
                    · have nl : ∀ m q, m ≠ st.next → β m = some q → ((st.write j none).new (.cells (old ++ new) i.size)).mem.get m ≠ none → m ≠ j ∧ st.mem.get m ≠ none := by
                        intro m q hne hq hlv
                        have hmj : m ≠ j := fun e => by subst e; simp [St.new, St.write, Ne.symm hne] at hlv
                        simp [St.new, St.write, Ne.symm hne, Ne.symm hmj] at hlv
                        exact ⟨hmj, hlv⟩
                      rcases Emb.add_inv h1 with ⟨e1, f1⟩ | ⟨e1, g1⟩ <;> rcases Emb.add_inv h2 with ⟨e2, f2⟩ | ⟨e2, g2⟩
                      · rw [e1, e2]
                      · have := nl m' q' e2 g2 h4
                        exact absurd (by rw [← h5, f1]) (other m' q' this.1 g2 this.2)
                      · have := nl m q e1 g1 h3
                        exact absurd (by rw [h5, f2]) (other m q this.1 g1 this.2)
                      · exact hi.rep.inj m m' q q' g1 g2 (nl m q e1 g1 h3).2 (nl m' q' e2 g2 h4).2 h5
                    · by_cases e : b = p.b
                      · exact .inr ⟨j, p, hp, e.symm, hlive, logj⟩
                      · exact .inl (hw'.other b e)
                    · rcases note_mem.1 hmm with h1 | ⟨rfl, _⟩
                      · exact .inl h1
                      · exact .inr (by rw [hp]; simp)
                    · rcases Emb.add_inv h1 with ⟨_, rfl⟩ | ⟨_, h1⟩
                      · exact .inr ⟨j, p, hp, rfl, hlive, logj⟩
                      · rw [h1] at h2; cases h2
                  · exact .slice (p := ⟨p.b, k', p.s, i.size⟩) Emb.add_self (Nat.le_refl _) hroom (.inr rfl) (.inr ⟨by simp; omega, hspace⟩)
                · -- a new array
                  have hrun := run_app_grow (P := P) (w := w) (ty := ty) hut huxt hnint hie hz (base := some ⟨p.b, k', none⟩) (len := len) (cap := cap') (old := old') hlen hnf hoc (by omega) hb h44 hb0
                  have hcap : len + n ≤ grownCap w (len + n) cap' e := Nat.le_add_right _ _
                  generalize hG : grownCap w (len + n) cap' e = G at hrun hcap
                  have hsize : (old'.toArray ++ new'.toArray ++ Builtin.zeroCells z.cells (G - (len + n))).size = G * i.size := by
                    simp [zeroCells_size, hzs, holdlen', hnewlen]
                    rw [← Nat.add_mul, ← Nat.add_mul]; congr 1; omega
                  have hwm : Mono st (st.write j none) := mono_write hjl hlive
                  have hi2 : Inv N β L (st.write j none) w := by
                    refine ⟨⟨hi.rep.inb, fun m q ob hq hob => ?_, fun m m' q q' h1 h2 h3 h4 => ?_⟩, hi.glob, hi.dom, hwm.wf hi.wf, hi.bn⟩
                    · by_cases e : j = m
                      · subst e; simp [St.write] at hob
                      · simp [St.write, e] at hob; exact hi.rep.obj m q ob hq hob
                    · have nz : ∀ m, (st.write j none).mem.get m ≠ none → st.mem.get m ≠ none := fun m hm1 => by
                        by_cases e : j = m
                        · subst e; simp [St.write] at hm1
                        · simpa [St.write, e] using hm1
                      exact hi.rep.inj m m' q q' h1 h2 (nz m h3) (nz m' h4)
                  have hkill : Post st (st.write j none) β w β w :=
                    ⟨fun _ _ h => h, fun _ h => .inl h, hi2.rep, fun _ _ => .inl rfl, fun m hm1 => by
                      rcases note_mem.1 hm1 with h1 | ⟨rfl, _⟩
                      · exact .inl h1
                      · exact .inr (by rw [hp]; simp), (fun m q h1 h2 => by rw [h1] at h2; cases h2), Nat.le_refl _, rfl, rfl, rfl⟩
                  have hnewp := post_new (L := L) (β := β) (st := st.write j none) (w := w) (d := w.drawn + 1) (obj := .cells (old'.toArray ++ new'.toArray ++ Builtin.zeroCells z.cells (G - (len + n))) e)
                    (s := (old'.toArray ++ new'.toArray ++ Builtin.zeroCells z.cells (G - (len + n))).size) (z := i.size) (ob := .cells (old ++ new) i.size) hi2 hN (by
                      refine OR_new ?_ ?_ (by simp)
                      · simp only [Array.toList_append]
                        rw [List.take_append_of_le_length (by simp [hor'.1, hnr.1]), List.take_of_length_le (by simp [hor'.1, hnr.1])]
                        exact (hor'.append hnr).mono (Emb.add_old hdn)
                      · simp [hor'.1, hnr.1])
                  refine ⟨_, _, _, hrun, Post.trans hi hwm mono_new hN hkill hnewp, ?_⟩
                  exact .slice (p := ⟨w.heap.size, 0, _, i.size⟩) Emb.add_self (Nat.le_refl _) hcap (.inr rfl) (.inr ⟨by simp; omega, by simp only [Nat.zero_add]; rw [hsize]; exact Nat.le_refl _⟩)
          · cases h
    · cases h
  · cases h
end
end Go.E
/- One operation: sound. -/
set_option linter.unusedSimpArgs false
set_option linter.unusedVariables false
namespace Go.E
open Go

abbrev CallF := FuncId → List Value → St → Option (Value × St)
def WF (st : St) : Prop := ∀ i, st.next ≤ i → st.mem.get i = none
/-- What is asked of the calls: on the states alone, and over the worlds. -/
def CallMono (callf : CallF) : Prop := ∀ f args st v st', WF st → callf f args st = some (v, st') → Mono st st'
def CallSound [Sym] (P : Program) (L : Lk) (callf : CallF) : Prop := ∀ f args st v st', callf f args st = some (v, st') → ∀ N β w args', Inv N β L st w → st'.next ≤ N → VRs β args args' →
  (∃ j, (∀ as w, (callFunc f as).run P w = .ok (.enter j as) w) ∧ Calls P j args'.toArray w fun e w' => ∃ v', e = .returned v' ∧ ∃ β', Post st st' β w β' w' ∧ VR β' v v') ∨
  ∃ v', (callFunc f args'.toArray).run P w = .ok (.value v') w ∧ ∃ β', Post st st' β w β' w ∧ VR β' v v'

section
variable {P : Program} {L : Lk} {β : Emb} {st st' : St} {w : World} {o : Oper} {a : Act} {callf : CallF} {ρ : Operand → Option Value} {N : Nat}

theorem store_mono (hw : WF st) {i k : Nat} {vs : List Value} (h : storeE st i k vs = some st') : Mono st st' := by
  unfold storeE at h
  split at h
  · rename_i c z hm
    cases hone : vs.all one with
    | false => simp [hone] at h
    | true =>
      simp only [hone, cond_true, Option.map_eq_some_iff] at h
      obtain ⟨c', hc', rfl⟩ := h
      have hl : st.mem.get i ≠ none := by rw [hm]; simp
      exact mono_write (wf_lt hw hl) hl
  · cases h

theorem append_mono (hw : WF st) {t xt : TypeId} {s x v : Value} (h : appendE L st t xt s x = some (v, st')) : Mono st st' := by
  unfold appendE at h
  split at h
  · cases h
  · simp only [Option.bind_eq_some_iff] at h
    obtain ⟨i, hi', z, hz, n, hn, h⟩ := h
    split at h
    · cases h0 : Nat.beq n 0 with
      | true => rw [h0] at h; simp only [cond_true, Option.some.injEq, Prod.mk.injEq] at h; obtain ⟨rfl, rfl⟩ := h; exact .refl _
      | false =>
        rw [h0] at h
        simp only [cond_false] at h
        cases hc : (Nat.ble ((n + 1) * i.bytes) (2 ^ 44) && Nat.ble n (2 ^ 44) && Nat.blt 0 i.bytes && Nat.blt 0 i.size && Nat.beq z.cells.size i.size && flat2 z) with
        | false => rw [hc] at h; cases h
        | true =>
          rw [hc] at h
          simp only [cond_true, Option.bind_eq_some_iff, Option.some.injEq, Prod.mk.injEq] at h
          obtain ⟨new, hnew, rfl, rfl⟩ := h
          exact mono_new
    · rename_i j k len cap
      cases h0 : Nat.beq n 0 with
      | true => rw [h0] at h; simp only [cond_true, Option.some.injEq, Prod.mk.injEq] at h; obtain ⟨rfl, rfl⟩ := h; exact .refl _
      | false =>
        rw [h0] at h
        simp only [cond_false] at h
        cases hc : (Nat.ble ((len + n + 1) * i.bytes) (2 ^ 44) && Nat.ble (len + n) (2 ^ 44) && Nat.blt 0 i.bytes && Nat.blt 0 i.size && Nat.beq z.cells.size i.size && flat2 z) with
        | false => rw [hc] at h; cases h
        | true =>
          rw [hc] at h
          simp only [cond_true] at h
          split at h
          · rename_i c zz hm
            cases hc2 : (Nat.beq zz i.size && (Nat.blt cap (len + n) || Nat.ble (k + cap * i.size) c.length)) with
            | false => rw [hc2] at h; cases h
            | true =>
              rw [hc2] at h
              simp only [cond_true, Option.bind_eq_some_iff] at h
              obtain ⟨old, hold, new, hnew, h⟩ := h
              cases hone : new.all one with
              | false => rw [hone] at h; cases h
              | true =>
                rw [hone] at h
                simp only [cond_true, Option.some.injEq, Prod.mk.injEq] at h
                obtain ⟨rfl, rfl⟩ := h
                have hl : st.mem.get j ≠ none := by rw [hm]; simp
                exact (mono_write (wf_lt hw hl) hl).trans mono_new
          · cases h
    · cases h
  · cases h

theorem gen_mono (hc : CallMono callf) (hw : WF st) {v : Value} (h : genE L callf ρ o st = some (v, st')) : Mono st st' := by
  unfold genE at h
  split at h
  · simp only [Option.bind_eq_some_iff] at h
    obtain ⟨va, _, vx, _, ⟨i, k⟩, _, n, _, h⟩ := h
    cases hb : Nat.beq vx.cells.size n with
    | false => rw [hb] at h; cases h
    | true =>
      rw [hb] at h
      simp only [cond_true, Option.map_eq_some_iff, Prod.mk.injEq] at h
      obtain ⟨s, hs, _, rfl⟩ := h
      exact store_mono hw hs
  · simp only [Option.bind_eq_some_iff] at h
    obtain ⟨va, _, ⟨i, k⟩, _, h⟩ := h
    split at h
    · rename_i s pos hk hm
      have hl : st.mem.get i ≠ none := by simp only at hm; rw [hm]; simp
      cases hb : Nat.blt pos s.size with
      | false => rw [hb] at h; simp only [cond_false, Option.some.injEq, Prod.mk.injEq] at h; obtain ⟨_, rfl⟩ := h; exact .refl _
      | true => rw [hb] at h; simp only [cond_true, Option.some.injEq, Prod.mk.injEq] at h; obtain ⟨_, rfl⟩ := h; exact mono_write (wf_lt hw hl) hl
    · cases h
  · simp only [Option.bind_eq_some_iff] at h
    obtain ⟨vm, _, vk, _, vx, _, h⟩ := h
    split at h
    · rename_i i key kt et hu
      split at h
      · rename_i l huk hm
        simp only [Option.some.injEq, Prod.mk.injEq] at h
        obtain ⟨_, rfl⟩ := h
        exact mono_write (wf_lt hw (by rw [hm]; simp)) (by rw [hm]; simp)
      · cases h
    · cases h
  · simp only [Option.bind_eq_some_iff] at h
    obtain ⟨f, _, vs, _, h⟩ := h
    split at h
    · exact hc _ _ _ _ _ hw h
    · cases h
  · simp only [Option.bind_eq_some_iff] at h
    obtain ⟨vs, _, h⟩ := h
    split at h
    · exact append_mono hw h
    · split at h
      · simp only [Option.bind_eq_some_iff] at h
        obtain ⟨sz, _, n, _, h⟩ := h
        split at h
        · simp only [Option.bind_eq_some_iff, Option.map_eq_some_iff, Prod.mk.injEq] at h
          obtain ⟨new, _, s, hs, _, rfl⟩ := h
          exact store_mono hw hs
        · simp only [Option.some.injEq, Prod.mk.injEq] at h; obtain ⟨_, rfl⟩ := h; exact .refl _
        · cases h
      · cases h
    · split at h
      · simp only [Option.some.injEq, Prod.mk.injEq] at h; obtain ⟨_, rfl⟩ := h; exact .refl _
      · simp only [Option.some.injEq, Prod.mk.injEq] at h; obtain ⟨_, rfl⟩ := h; exact .refl _
      · simp only [Option.bind_eq_some_iff] at h
        obtain ⟨inf, _, zero, _, h⟩ := h
        cases hb : flat2 zero with
        | false => rw [hb] at h; cases h
        | true =>
          rw [hb] at h
          simp only [cond_true, Option.map_eq_some_iff, Prod.mk.injEq] at h
          obtain ⟨s, hs, _, rfl⟩ := h
          exact store_mono hw hs
      · cases h
    · cases h
  · cases h

/-- What an operation that may write yields. -/
def Good [Sym] (st st' : St) (β : Emb) (w : World) (v : Value) : Value → World → Prop := fun v' w' => ∃ β', Post st st' β w β' w' ∧ VR β' v v'

theorem undef_vr [Sym] {β : Emb} : VR β undef undef := VR.undef

theorem zero_list [Sym] {z : Value} (h : flat2 z = true) (n : Nat) : VRs β (Builtin.zeroCells z.cells n).toList (Builtin.zeroCells z.cells n).toList := by
  unfold Builtin.zeroCells
  by_cases h0 : z.cells.size = 0
  · rw [h0]; simpa using VRs.nil
  · exact zero_cells h _ (.inr (by omega))

theorem gen_sound [Sym] (hL : L.Ok P) (hc : CallSound P L callf) (hi : Inv N β L st w) (hN : st'.next ≤ N) (hρ : ∀ x v, ρ x = some v → VR β v (a.eval x)) {v : Value} (h : genE L callf ρ o st = some (v, st')) :
    OpOk P o a w (Good st st' β w v) := by
  unfold genE at h
  split at h
  · rename_i t ad x ho
    simp only [Option.bind_eq_some_iff] at h
    obtain ⟨va, hva, vx, hvx, ⟨i, k⟩, hik, n, hn, h⟩ := h
    have ra := hρ _ _ hva
    have rx := hρ _ _ hvx
    obtain ⟨ti, hti, rfl⟩ := size_some hn
    obtain ⟨p, hp, hea⟩ := addr_rel hik ra
    cases hb : Nat.beq vx.cells.size ti.size with
    | false => rw [hb] at h; cases h
    | true =>
      rw [hb] at h
      simp only [cond_true, Option.map_eq_some_iff, Prod.mk.injEq] at h
      obtain ⟨s, hs, rfl, rfl⟩ := h
      rw [beq_dec] at hb
      have hsz := of_decide_eq_true hb
      obtain ⟨w', hrun, hpost, _⟩ := store_sound (P := P) hi hs hp rx.cells (.inr rfl)
      refine .skip (w' := w') ?_ ⟨β, hpost, undef_vr⟩
      unfold execOp
      simp only [ho, hea]
      have hsz' : (a.eval x).cells.size = ti.size := by rw [← hsz]; simpa using rx.cells.1.symm
      simp [Instr.storeAt, Instr.sureAddr, storeVar, run_size (hL.info _ _ hti), hsz', hrun]
  · rename_i it ho
    simp only [Option.bind_eq_some_iff] at h
    obtain ⟨va, hva, ⟨i, k⟩, hik, h⟩ := h
    have ra := hρ _ _ hva
    obtain ⟨p, hp, hea⟩ := addr_rel hik ra
    split at h
    · rename_i s pos hk hm
      simp only at hk hm
      subst hk
      have hl : st.mem.get i ≠ none := by rw [hm]; simp
      obtain ⟨obj, hh, h0, rfl⟩ := hi.rep.obj i p _ hp hm
      cases hb : Nat.blt pos s.size with
      | false =>
        rw [hb] at h
        simp only [cond_false, Option.some.injEq, Prod.mk.injEq] at h
        obtain ⟨rfl, rfl⟩ := h
        have hnl : ¬ pos < s.size := by rw [← Nat.blt_eq, hb]; simp
        refine .value (v' := .tuple #[.bool false]) (w' := w) ?_ ⟨β, .refl hi.rep, flat3_refl rfl⟩
        unfold execOp
        simp only [ho, hea, h0]
        simp [Instr.next, getObj, Sem.run, hh, hnl]
      | true =>
        rw [hb] at h
        simp only [cond_true, Option.some.injEq, Prod.mk.injEq] at h
        obtain ⟨rfl, rfl⟩ := h
        have hlt : pos < s.size := by rw [← Nat.blt_eq]; exact hb
        have hpb := hi.rep.inb i p hp
        refine .value (v' := .tuple #[.bool true, goInt pos, .int .i32 (Utf8.decode s pos).1]) (w' := { w with heap := w.heap.setIfInBounds p.b (.stringIter s (pos + (Utf8.decode s pos).2)) }) ?_ ⟨β, ?_, flat3_refl rfl⟩
        · unfold execOp
          simp only [ho, hea, h0]
          simp [Instr.next, getObj, setObj, Sem.run, hh, hlt]
        · refine post_write hi hp hl ⟨fun j hj => ?_, by simp, rfl, rfl, rfl⟩ ⟨_, ?_, h0, rfl⟩
          · simp only; rw [Array.getElem?_setIfInBounds_ne (Ne.symm hj)]
          · simp only; rw [Array.getElem?_setIfInBounds_self_of_lt hpb]
    · cases h
  · rename_i t m k x ho
    simp only [Option.bind_eq_some_iff] at h
    obtain ⟨vm, hvm, vk, hvk, vx, hvx, h⟩ := h
    have rm := hρ _ _ hvm
    have rk := hρ _ _ hvk
    have rx := hρ _ _ hvx
    split at h
    · rename_i i key kt et hu
      split at h
      · rename_i l huk hm
        simp only [Option.some.injEq, Prod.mk.injEq] at h
        obtain ⟨rfl, rfl⟩ := h
        have hl : st.mem.get i ≠ none := by rw [hm]; simp
        generalize hem : a.eval m = m' at rm
        generalize hek : a.eval k = k' at rk
        cases rk
        cases rm with
        | map hp =>
          rename_i p
          obtain ⟨obj, hh, h0, es, clock, rfl, hsz, hel⟩ := hi.rep.obj i p _ hp hm
          have hpb := hi.rep.inb i p hp
          have hck := MapKept.run_checkKey (P := P) (w := w) (k := .string key) (hL.und _ _ huk) trivial false 9999
          have fin : ∀ es' clock', (Instr.mapUpdate t (.map (some p.b)) (.string key) (a.eval x)).run P w = .ok () { w with heap := w.heap.setIfInBounds p.b (.map es' clock') } →
              es'.toList.length = (setM key vx l).length → (∀ (j : Nat) k v, (setM key vx l)[j]? = some (k, v) → ∃ e, es'.toList[j]? = some e ∧ e.key = .string k ∧ VR β v e.val) →
              OpOk P o a w (Good st (st.write i (some (.map (setM key vx l)))) β w undef) := fun es' clock' hrun h1 h2 => by
            refine .skip (w' := { w with heap := w.heap.setIfInBounds p.b (.map es' clock') }) ?_ ⟨β, ?_, undef_vr⟩
            · unfold execOp
              simp only [ho, hem, hek]
              simp [hrun]
            · refine post_write hi hp hl ⟨fun j hj => ?_, by simp, rfl, rfl, rfl⟩ ⟨_, ?_, h0, es', clock', rfl, h1, h2⟩
              · simp only; rw [Array.getElem?_setIfInBounds_ne (Ne.symm hj)]
              · simp only; rw [Array.getElem?_setIfInBounds_self_of_lt hpb]
          rcases findNow_rel key hsz hel with ⟨a1, a2, a3⟩ | ⟨j, v1, e, a1, a2, a3, a4, a5, a6⟩
          · refine fin (es.push ⟨.string key, a.eval x, clock⟩) (clock + 1) ?_ ?_ ?_
            · simp [Instr.mapUpdate, run_underlying (hL.und _ _ hu), MapKept.run_getObj_map hh, hck, MapKept.run_findKey (hL.und _ _ huk) a2, MapKept.run_setObj_map _ hh, Result.andThen]
            · rw [a3]; simp [hsz]
            · intro j' k v hj
              rw [a3] at hj
              by_cases hlt : j' < l.length
              · rw [List.getElem?_append_left hlt] at hj
                obtain ⟨e, e1, e2, e3⟩ := hel j' k v hj
                exact ⟨e, by rw [Array.toList_push, List.getElem?_append_left (by omega)]; exact e1, e2, e3⟩
              · rw [List.getElem?_append_right (by omega)] at hj
                have : j' = l.length := by
                  by_cases h9 : j' - l.length = 0
                  · omega
                  · rw [List.getElem?_eq_none (by simp; omega)] at hj; cases hj
                subst this
                simp only [Nat.sub_self, List.getElem?_cons_zero, Option.some.injEq, Prod.mk.injEq] at hj
                obtain ⟨rfl, rfl⟩ := hj
                refine ⟨⟨.string key, a.eval x, clock⟩, ?_, rfl, rx⟩
                rw [Array.toList_push, ← hsz, List.getElem?_append_right (Nat.le_refl _)]
                simp
          · have hj : j < es.toList.length := (List.getElem?_eq_some_iff.1 a3).1
            have hj' : es[j]? = some e := by rw [← Array.getElem?_toList]; exact a3
            refine fin (es.modify j fun e => { e with key := .string key, val := a.eval x }) clock ?_ ?_ ?_
            · simp [Instr.mapUpdate, run_underlying (hL.und _ _ hu), MapKept.run_getObj_map hh, hck, MapKept.run_findKey (hL.und _ _ huk) a2, hj', a4, MapKept.run_keyThatStays (d := .string) (k := .string key) trivial, MapKept.run_setObj_map _ hh, Result.andThen]
            · rw [a6]; simp [hsz]
            · intro j' k v hj2
              rw [a6] at hj2
              by_cases hjj : j = j'
              · subst hjj
                rw [List.getElem?_set_self (by omega)] at hj2
                simp only [Option.some.injEq, Prod.mk.injEq] at hj2
                obtain ⟨rfl, rfl⟩ := hj2
                refine ⟨{ e with key := .string key, val := a.eval x }, ?_, rfl, rx⟩
                rw [Array.getElem?_toList, Array.getElem?_modify, if_pos rfl, hj']
                rfl
              · rw [List.getElem?_set_ne hjj] at hj2
                obtain ⟨e1, b1, b2, b3⟩ := hel j' k v hj2
                refine ⟨e1, ?_, b2, b3⟩
                rw [Array.getElem?_toList, Array.getElem?_modify, if_neg hjj, ← Array.getElem?_toList]
                exact b1
      · cases h
    · cases h
  · rename_i f args ats ho
    simp only [Option.bind_eq_some_iff] at h
    obtain ⟨vf, hvf, vs, hvs, h⟩ := h
    have rf := hρ _ _ hvf
    have rs := mapM_rho hρ _ _ hvs
    split at h
    · rename_i g xs ys
      generalize hef : a.eval f = f' at rf
      cases rf with
      | func h1 h2 h3 h4 =>
      rename_i xs' ys'
      have harr : (xs'.toList ++ args.toList.map a.eval ++ ys'.toList).toArray = xs' ++ args.map a.eval ++ ys' := by
        apply Array.toList_inj.1; simp
      rcases hc _ _ _ _ _ h N β w _ hi hN (((VRs.of_array h1 h2).append rs).append (VRs.of_array h3 h4)) with ⟨j, hj, hcalls⟩ | ⟨v', hrun, hpost⟩
      rotate_left
      · rw [harr] at hrun
        refine .value (v' := v') (w' := w) ?_ hpost
        unfold execOp
        simp only [ho]
        rw [Array.append_assoc] at hrun
        simp [resolve, hef, Deferred.ofValue, invoke, hrun]
      refine .enter (f := j) (args := xs' ++ args.map a.eval ++ ys') (w' := w) ?_ ?_
      · unfold execOp
        simp only [ho]
        simp [resolve, hef, Deferred.ofValue, invoke, hj]
      · rw [← harr]
        exact hcalls
    · cases h
  · rename_i b args ats ho
    simp only [Option.bind_eq_some_iff] at h
    obtain ⟨vs, hvs, h⟩ := h
    have rs := mapM_rho hρ _ _ hvs
    have hex : ∀ (xs : List Value), args.toList.map a.eval = xs → args.map a.eval = xs.toArray := fun xs hx => by
      subst hx; apply Array.toList_inj.1; rw [Array.toList_map]
    have hats : ∀ (ts : List TypeId), ats.toList = ts → ats = ts.toArray := fun ts hx => by subst hx; simp
    split at h
    · rename_i s x t xt hts
      obtain ⟨s', r, hy, hs, hr2⟩ := rs.of_cons
      obtain ⟨x', r', rfl, hx, hr3⟩ := hr2.of_cons
      have hr4 := hr3.of_nil
      subst hr4
      obtain ⟨v', w', β', hrun, hpost, hv⟩ := append_sound (P := P) hL hi hN hs hx h o.type
      refine .value (v' := v') (w' := w') ?_ ⟨β', hpost, hv⟩
      rw [run_builtin ho, hex _ hy, hats _ hts]
      simp [builtin, hrun]
    · rename_i d x t t2 hts
      obtain ⟨d', r, hy, hd, hr2⟩ := rs.of_cons
      obtain ⟨x', r', rfl, hx, hr3⟩ := hr2.of_cons
      have hr4 := hr3.of_nil
      subst hr4
      split at h
      · rename_i e hu
        simp only [Option.bind_eq_some_iff] at h
        obtain ⟨sz, hsz, n, hn, h⟩ := h
        obtain ⟨ti, hti, rfl⟩ := size_some hsz
        split at h
        · rename_i i k len cap
          simp only [Option.bind_eq_some_iff, Option.map_eq_some_iff, Prod.mk.injEq] at h
          obtain ⟨new, hnew, s, hs, rfl, rfl⟩ := h
          cases hd with
          | slice hp hl hcc hk hsp =>
          rename_i k' cap' p
          obtain ⟨hnl, new', hnr, hnf⟩ := first_rel (P := P) hi hn (Nat.min_le_left _ _) hnew hx
          have hk2 : new = [] ∨ k' = p.o + k := by
            rcases hk with h0 | h0
            · left
              have hl0 : len = 0 := by omega
              have : min n len = 0 := by omega
              rw [this] at hnl
              simpa using hnl
            · exact .inr h0
          obtain ⟨w', hrun, hpost, _⟩ := store_sound (P := P) hi hs hp hnr hk2
          refine .value (v' := goInt (Nat.min n len)) (w' := w') ?_ ⟨β, hpost, flat3_refl rfl⟩
          rw [run_builtin ho, hex _ hy, hats _ hts]
          have h1 := len_rel (P := P) hn hx w
          have h2 := hnf w rfl
          simp [builtin, Builtin.copy_, run_underlying (hL.und _ _ hu), run_size (hL.info _ _ hti), h1, h2, hrun]
        · simp only [Option.some.injEq, Prod.mk.injEq] at h
          obtain ⟨rfl, rfl⟩ := h
          cases hd
          refine .value (v' := goInt 0) (w' := w) ?_ ⟨β, .refl hi.rep, flat3_refl rfl⟩
          rw [run_builtin ho, hex _ hy, hats _ hts]
          have h1 := len_rel (P := P) hn hx w
          have h2 : ∃ r, (Builtin.firstCells ti.size 0 x').run P w = .ok r w := by
            cases hx <;> first
              | (simp [lenE] at hn; done)
              | (simp [Builtin.firstCells, loadCells, loadCellsFrom]; done)
          obtain ⟨r, hr⟩ := h2
          simp [builtin, Builtin.copy_, run_underlying (hL.und _ _ hu), run_size (hL.info _ _ hti), h1, hr, Nat.min]
        · cases h
      · cases h
    · rename_i x t hts
      obtain ⟨x', r, hy, hx, hr2⟩ := rs.of_cons
      have hr4 := hr2.of_nil
      subst hr4
      have hrun0 : ∀ (l c : Nat) (ad : Option Addr), (ad = none ∨ l = 0) → x' = .slice ad l c → (P.underlying t).isSome → (execOp a.eval o).run P w = .ok (.value (.tuple #[])) w := by
        intro l c ad hal hx' hus
        rw [run_builtin ho, hex _ hy, hats _ hts, hx']
        obtain ⟨d, hd⟩ := Option.isSome_iff_exists.1 hus
        rcases hal with rfl | rfl
        · simp [builtin, Builtin.clear_, run_underlying hd]
        · cases ad <;> simp [builtin, Builtin.clear_, run_underlying hd]
      split at h
      · rename_i d l c hu
        simp only [Option.some.injEq, Prod.mk.injEq] at h
        obtain ⟨rfl, rfl⟩ := h
        refine .value (w' := w) (hrun0 0 0 none (.inl rfl) (by cases hx; rfl) (by rw [hL.und _ _ hu]; rfl)) ⟨β, .refl hi.rep, flat3_refl rfl⟩
      · rename_i d ad c hne hu
        simp only [Option.some.injEq, Prod.mk.injEq] at h
        obtain ⟨rfl, rfl⟩ := h
        have : ∃ ad' c', x' = .slice ad' 0 c' := by
          cases hx with
          | slice0 => exact ⟨_, _, rfl⟩
          | slice _ _ _ _ _ => exact ⟨_, _, rfl⟩
        obtain ⟨ad', c', hx'⟩ := this
        exact .value (w' := w) (hrun0 0 c' ad' (.inr rfl) hx' (by rw [hL.und _ _ hu]; rfl)) ⟨β, .refl hi.rep, flat3_refl rfl⟩
      · rename_i e i k n c hne hu
        simp only [Option.bind_eq_some_iff] at h
        obtain ⟨inf, hinf, zero, hz, h⟩ := h
        cases hb : flat2 zero with
        | false => rw [hb] at h; cases h
        | true =>
          rw [hb] at h
          simp only [cond_true, Option.map_eq_some_iff, Prod.mk.injEq] at h
          obtain ⟨s, hs, rfl, rfl⟩ := h
          cases hx with
          | slice hp hl hcc hk hsp =>
          rename_i k' cap' p
          have hk2 : (Builtin.zeroCells zero.cells n).toList = [] ∨ k' = p.o + k := by
            rcases hk with h0 | h0
            · left
              have : n = 0 := by omega
              subst this
              simp [Builtin.zeroCells]
            · exact .inr h0
          obtain ⟨w', hrun, hpost, _⟩ := store_sound (P := P) hi hs hp (zero_list hb n) hk2
          refine .value (v' := .tuple #[]) (w' := w') ?_ ⟨β, hpost, flat3_refl rfl⟩
          rw [run_builtin ho, hex _ hy, hats _ hts]
          cases n with
          | zero =>
            have : w' = w := by simpa [Builtin.zeroCells, storeCells] using hrun.symm
            subst this
            simp [builtin, Builtin.clear_, run_underlying (hL.und _ _ hu)]
          | succ n => simp [builtin, Builtin.clear_, run_underlying (hL.und _ _ hu), run_zero (hL.info _ _ hinf) hz, hrun]
      · cases h
    · cases h
  · cases h
end
end Go.E
/- One operation, a region in text order, results: sound. -/
set_option linter.unusedSimpArgs false
set_option linter.unusedVariables false
namespace Go.E
open Go

structure TR [Sym] (β : Emb) (τ : Tm) (a : Act) : Prop where
  n : τ.n = a.tmps.size
  vals : ∀ t, VR β (τ.get t) (a.tmps.getD t undef)
  defers : a.defers = []

section
variable {P : Program} {L : Lk} {β β' : Emb} {st st' : St} {w : World} {o : Oper} {a : Act} {callf : CallF} {τ τ' : Tm} {N : Nat}

theorem TR.mono [Sym] (h : TR β τ a) (hb : ∀ i p, β i = some p → β' i = some p) : TR β' τ a := ⟨h.n, fun t => (h.vals t).mono hb, h.defers⟩

theorem rho_rel [Sym] (hg : GOk β L) (h : TR β τ a) (x : Operand) (v : Value) (hx : rho L τ x = some v) : VR β v (a.eval x) := by
  cases x with
  | tmp t => simp only [rho, Option.some.injEq] at hx; subst hx; exact h.vals t
  | const c =>
    simp only [rho] at hx
    cases hf : flat3 c with
    | false => simp [hf] at hx
    | true => simp [hf] at hx; subst hx; exact flat3_refl hf
  | global g =>
    simp only [rho] at hx
    cases hb : L.glob g with
    | false => simp [hb] at hx
    | true =>
      simp [hb] at hx; subst hx
      obtain ⟨p, hp, h1, h2⟩ := hg g hb
      have := VR.ptr (β := β) (k := 0) hp
      rw [h1, h2] at this
      exact this
  | func f => simp only [rho, Option.some.injEq] at hx; subst hx; exact flat1_refl rfl

theorem TR.put [Sym] (h : TR β τ a) {v v' : Value} (hv : VR β v v') (d : Option Tmp) : TR β (τ.put d v) (a.put d v') := by
  cases d with
  | none => exact h
  | some d =>
    unfold Tm.put Act.put
    simp only
    cases hb : Nat.blt d τ.n with
    | false =>
      have hlt : ¬ d < a.tmps.size := by rw [← h.n, ← Nat.blt_eq, hb]; simp
      refine ⟨by simp [h.n], fun t => ?_, h.defers⟩
      simp only [cond_false]
      rw [Array.setIfInBounds_eq_of_size_le (Nat.le_of_not_lt hlt)]
      exact h.vals t
    | true =>
      have hlt : d < a.tmps.size := by rw [← h.n, ← Nat.blt_eq]; exact hb
      refine ⟨by simp [h.n], fun t => ?_, h.defers⟩
      simp only [cond_true, Tm.get, PT.get_upd]
      by_cases e : d = t
      · subst e
        simp [hlt, hv]
      · have := h.vals t
        simpa [e, Tm.get, Array.getElem?_setIfInBounds_ne e] using this

theorem wanted_rel [Sym] (ops : Array Oper) (h : TR β τ a) (o : Oper) : Region.wanted o (yielded ops a.tmps) = wantedE ops.toList τ o := by
  unfold Region.wanted wantedE
  cases hg : o.guard with
  | none => rfl
  | some g =>
    obtain ⟨j, want⟩ := g
    simp only [yielded]
    have e : ops.toList[j]? = ops[j]? := by simp
    rw [e]
    cases hd : (ops[j]?).bind (·.dst) with
    | none => simp
    | some d =>
      simp only [Option.bind_some]
      have hv := h.vals d
      by_cases hlt : d < a.tmps.size
      · have hget : a.tmps.getD d undef = a.tmps[d] := by simp [hlt]
        have hq : a.tmps[d]? = some a.tmps[d] := Array.getElem?_eq_getElem hlt
        rw [hget] at hv
        rw [hq]
        generalize τ.get d = u at hv
        generalize a.tmps[d] = u2 at hv
        cases hv <;> first | (simp; done) | (rename_i i; rcases Sym.ok i with ⟨k, n, e'⟩ | ⟨s, e'⟩ | ⟨t, u, e'⟩ <;> simp [e'])
      · have hget : a.tmps.getD d undef = undef := by simp [hlt]
        have hq : a.tmps[d]? = none := Array.getElem?_eq_none (Nat.le_of_not_lt hlt)
        rw [hget] at hv
        rw [hq]
        generalize τ.get d = u at hv
        obtain ⟨xs, rfl⟩ := VR.of_tuple (ys := #[]) hv
        simp

theorem op_mono (hc : CallMono callf) (hw : WF st) {ρ : Operand → Option Value} {v : Value} {kd : Kd} (h : opE P L callf ρ o st = some (v, kd, st')) : Mono st st' := by
  unfold opE at h
  split at h
  · simp only [Option.some.injEq, Prod.mk.injEq] at h; obtain ⟨_, _, rfl⟩ := h; exact .refl _
  · split at h
    · simp only [Option.some.injEq, Prod.mk.injEq] at h; obtain ⟨_, _, rfl⟩ := h; exact mono_new
    · split at h
      · simp only [Option.bind_eq_some_iff, Option.map_eq_some_iff, Prod.mk.injEq] at h
        obtain ⟨ob, _, v', _, _, _, rfl⟩ := h
        exact .refl _
      · simp only [Option.map_eq_some_iff, Prod.mk.injEq] at h
        obtain ⟨⟨v', s⟩, hg, _, _, rfl⟩ := h
        exact gen_mono hc hw hg

theorem op_sound [Sym] (hL : L.Ok P) (hc : CallSound P L callf) (hi : Inv N β L st w) (hN : st'.next ≤ N) {ρ : Operand → Option Value} (hρ : ∀ x v, ρ x = some v → VR β v (a.eval x)) {v : Value} {kd : Kd} (h : opE P L callf ρ o st = some (v, kd, st')) :
    OpOk P o a w (Good st st' β w v) := by
  unfold opE at h
  split at h
  · rename_i u hu
    simp only [Option.some.injEq, Prod.mk.injEq] at h
    obtain ⟨rfl, _, rfl⟩ := h
    obtain ⟨v', hr, hrun⟩ := pure_sound (P := P) hL hρ hu
    exact .value (hrun w) ⟨β, .refl hi.rep, hr⟩
  · split at h
    · rename_i ob vf hal
      simp only [Option.some.injEq, Prod.mk.injEq] at h
      obtain ⟨rfl, _, rfl⟩ := h
      obtain ⟨obj, d, s', z, v', hrun, hok⟩ := alloc_sound (P := P) hL hρ hal w
      obtain ⟨h1, h2⟩ := hok (β.add st.next ⟨w.heap.size, 0, s', z⟩) st.next (Emb.add_old (dom_none hi hN)) Emb.add_self
      exact .value hrun ⟨_, post_new hi hN h1, h2⟩
    · split at h
      · rename_i i g hrd
        simp only [Option.bind_eq_some_iff, Option.map_eq_some_iff, Prod.mk.injEq] at h
        obtain ⟨ob, hob, v0, hv, rfl, _, rfl⟩ := h
        obtain ⟨p, hp, hread⟩ := read_sound (P := P) hL hρ hrd
        obtain ⟨obj, hh, hor⟩ := hi.rep.obj i p ob hp hob
        obtain ⟨v', hr, hrun⟩ := hread w ob obj _ hv hh hor
        exact .value hrun ⟨β, .refl hi.rep, hr⟩
      · simp only [Option.map_eq_some_iff, Prod.mk.injEq] at h
        obtain ⟨⟨v', s⟩, hg, rfl, _, rfl⟩ := h
        exact gen_sound hL hc hi hN hρ hg

theorem ops_mono (hc : CallMono callf) {ops : List Oper} : ∀ (l : List Oper) (τ : Tm) (st : St) (τ' : Tm) (st' : St), WF st → opsE P L callf ops l τ st = some (τ', st') → Mono st st'
  | [], τ, st, τ', st', hw, h => by simp only [opsE, Option.some.injEq, Prod.mk.injEq] at h; obtain ⟨_, rfl⟩ := h; exact .refl _
  | o :: l, τ, st, τ', st', hw, h => by
    simp only [opsE] at h
    cases hb : wantedE ops τ o with
    | false => rw [hb] at h; exact ops_mono hc l _ _ _ _ hw h
    | true =>
      rw [hb] at h
      simp only [cond_true, Option.bind_eq_some_iff] at h
      obtain ⟨⟨v, kd, st1⟩, ho, h⟩ := h
      have hm := op_mono hc hw ho
      exact hm.trans (ops_mono hc l _ _ _ _ (hm.wf hw) h)

theorem ops_sound [Sym] (hL : L.Ok P) (hm : CallMono callf) (hc : CallSound P L callf) {ops : Array Oper} {Q : Exit → Act → World → Prop} : ∀ (l : List Oper) (k : Nat) (τ : Tm) (st : St) (τ' : Tm) (st' : St) (β : Emb) (a : Act) (w : World),
    (∀ j, l[j]? = ops[k + j]?) → opsE P L callf ops.toList l τ st = some (τ', st') → Inv N β L st w → st'.next ≤ N → TR β τ a →
    (∀ a' w' β', Post st st' β w β' w' → TR β' τ' a' → Q .normal a' w') → wpOps P ops Q (List.range' k l.length) a w
  | [], k, τ, st, τ', st', β, a, w, hl, h, hi, hN, ht, hq => by
    simp only [opsE, Option.some.injEq, Prod.mk.injEq] at h
    obtain ⟨rfl, rfl⟩ := h
    simp only [List.length_nil, List.range'_zero, wpOps]
    exact hq a w β (.refl hi.rep) ht
  | o :: l, k, τ, st, τ', st', β, a, w, hl, h, hi, hN, ht, hq => by
    have ho : ops[k]? = some o := by simpa using (hl 0).symm
    have hl' : ∀ j, l[j]? = ops[k + 1 + j]? := fun j => by have := hl (j + 1); simpa [Nat.add_assoc, Nat.add_comm 1 j] using this
    simp only [List.length_cons, List.range'_succ, wpOps, ho]
    rw [wanted_rel ops ht]
    simp only [opsE] at h
    cases hb : wantedE ops.toList τ o with
    | false =>
      rw [hb] at h
      simp only [cond_false] at h
      simp only [Bool.false_eq_true, if_false]
      exact ops_sound hL hm hc l (k + 1) _ _ _ _ β _ _ hl' h hi hN (ht.put VR.undef o.dst) hq
    | true =>
      rw [hb] at h
      simp only [cond_true, Option.bind_eq_some_iff] at h
      obtain ⟨⟨v, kd, st1⟩, hop, h⟩ := h
      simp only [if_true]
      left
      have hm1 := op_mono hm hi.wf hop
      have hm2 := ops_mono hm l _ _ _ _ (hm1.wf hi.wf) h
      refine op_sound hL hc hi (Nat.le_trans hm2.next hN) (fun x v => rho_rel hi.glob ht x v) hop _ _ fun v' w' ⟨β1, hp, hv⟩ => ?_
      have hi1 := hi.step hm1 hp
      refine ops_sound hL hm hc l (k + 1) _ _ _ _ β1 _ _ hl' h hi1 hN ((ht.mono hp.ext).put hv o.dst) fun a' w'' β2 hp2 ht2 => ?_
      exact hq a' w'' β2 (Post.trans hi hm1 hm2 hN hp hp2) ht2

/-! ### Results -/
def resF (tmps : Array Value) : ResultVar → Sem Value
  | .tmp t => pure (tmps.getD t undef)
  | .cell x t => do loadVar t (← asAddr (tmps.getD x undef))
theorem results_eq (fn : Func) (tmps : Array Value) : results fn tmps = (do let vs ← fn.results.mapM (resF tmps); pure (if h : vs.size = 1 then vs[0] else .tuple vs)) := by
  unfold results
  have : (fun x : ResultVar => match x with
    | .tmp t => (pure (tmps.getD t undef) : Sem Value)
    | .cell a t => do loadVar t (← asAddr (tmps.getD a undef))) = resF tmps := funext fun r => by cases r <;> rfl
  rw [← this]
  rfl

theorem results_rel [Sym] (hL : L.Ok P) (hi : Inv N β L st w) (ht : TR β τ a) {fn : Func} {vs : List Value} (h : resultsE L fn.results.toList τ st = some vs) :
    ∃ v', (results fn a.tmps).run P w = .ok v' w ∧ VR β (packE vs) v' := by
  have key : ∀ (rs : List ResultVar) (vs : List Value), resultsE L rs τ st = some vs →
      ∃ vs', VRs β vs vs' ∧ (rs.mapM (resF a.tmps)).run P w = .ok vs' w := by
    intro rs
    induction rs with
    | nil => intro vs h; simp [resultsE] at h; subst h; exact ⟨[], VRs.nil, rfl⟩
    | cons r rs ih =>
      intro vs h
      unfold resultsE at h
      simp only [List.mapM_cons, Option.bind_eq_bind, Option.pure_def, Option.bind_eq_some_iff] at h
      obtain ⟨v, hv, r', hr', h⟩ := h
      cases h
      obtain ⟨vs', hvs', hrun⟩ := ih r' hr'
      have h1 : ∃ v', VR β v v' ∧ (resF a.tmps r).run P w = .ok v' w := by
        cases r with
        | tmp t => simp only [Option.some.injEq] at hv; subst hv; exact ⟨_, ht.vals t, rfl⟩
        | cell x t =>
          simp only [Option.bind_eq_some_iff] at hv
          obtain ⟨⟨i, k⟩, hik, hv⟩ := hv
          obtain ⟨p, hp, hea⟩ := addr_rel hik (ht.vals x)
          split at hv
          · rename_i c z hm
            simp only at hm
            obtain ⟨obj, hh, hor⟩ := hi.rep.obj i p _ hp hm
            obtain ⟨v', hr, hrun⟩ := load_rel (P := P) hL hh hor.table hv
            refine ⟨v', hr, ?_⟩
            simp only [resF, hea]
            simp [asAddr, hrun]
          · cases hv
      obtain ⟨v', hv', hrun'⟩ := h1
      refine ⟨v' :: vs', VRs.cons hv' hvs', ?_⟩
      rw [List.mapM_cons]
      simp only [Sem.run_bind, hrun', Result.andThen_ok, hrun, Sem.run_pure]
  obtain ⟨vs', hvs', hrun⟩ := key _ _ h
  have hfun : (results fn a.tmps).run P w = .ok (if h : vs'.toArray.size = 1 then vs'.toArray[0] else .tuple vs'.toArray) w := by
    rw [results_eq, Sem.run_bind, Array.mapM_eq_mapM_toList]
    simp only [Sem.run_map]
    rw [hrun]
    rfl
  refine ⟨_, hfun, ?_⟩
  cases vs with
  | nil => rw [hvs'.of_nil]; exact VR.undef
  | cons x r =>
    obtain ⟨y, r', rfl, hy, hr⟩ := hvs'.of_cons
    cases r with
    | nil => rw [hr.of_nil]; exact hy
    | cons x2 r2 =>
      obtain ⟨y2, r2', rfl, hy2, hr2⟩ := hr.of_cons
      simp only [packE]
      rw [dif_neg (by simp)]
      exact VRs.tuple (by simpa using VRs.cons hy (VRs.cons hy2 hr2))
end
end Go.E
/- A region that draws its order: what its check says, as a table of the run in text order. -/
set_option linter.unusedSimpArgs false
set_option linter.unusedVariables false
namespace Go.E
open Go

section
variable {P : Program} {L : Lk} {callf : CallF}

theorem mapM_congr' {α γ : Type} {f g : α → Option γ} : ∀ (l : List α), (∀ x ∈ l, f x = g x) → l.mapM f = l.mapM g
  | [], _ => rfl
  | x :: l, h => by
    rw [List.mapM_cons, List.mapM_cons, h x (by simp), mapM_congr' l fun y hy => h y (by simp [hy])]

theorem opE_congr {ρ ρ2 : Operand → Option Value} {o : Oper} {st : St} (h : ∀ x ∈ o.op.operands, ρ x = ρ2 x) : opE P L callf ρ o st = opE P L callf ρ2 o st := by
  have parts : ∀ ps : Array (Nat × Operand), (∀ x ∈ (ps.toList.map (·.2)).toArray, ρ x = ρ2 x) →
      (ps.toList.mapM fun p => (ρ p.2).map fun v => (p.1, v)) = (ps.toList.mapM fun p => (ρ2 p.2).map fun v => (p.1, v)) := fun ps hp =>
    mapM_congr' _ fun p hm => by rw [hp p.2 (by simp only [List.mem_toArray, List.mem_map]; exact ⟨p, hm, rfl⟩)]
  obtain ⟨dst, op, type, pos, after, guard⟩ := o
  have h1 : pureE P L ρ ⟨dst, op, type, pos, after, guard⟩ = pureE P L ρ2 ⟨dst, op, type, pos, after, guard⟩ := by
    cases op <;> simp only [Op.operands] at h <;> simp only [pureE]
    case build t ps => rw [parts ps h]
    case slice t x lo hi mx => cases mx <;> cases lo <;> cases hi <;> simp_all [pureE]
    case makeFunc f a b =>
      have ha : a.toList.mapM ρ = a.toList.mapM ρ2 := mapM_congr' _ fun x hx => h x (by simp; left; simpa using hx)
      have hb : b.toList.mapM ρ = b.toList.mapM ρ2 := mapM_congr' _ fun x hx => h x (by simp; right; simpa using hx)
      cases f <;> simp only [pureE, ha, hb]
    case call c =>
      obtain ⟨callee, args, ats⟩ := c
      cases callee <;> simp only [Call.operands] at h <;> try rfl
      rename_i b
      have : args.toList.mapM ρ = args.toList.mapM ρ2 := mapM_congr' _ fun x hx => h x (by simpa using hx)
      simp only [this]
    all_goals (first | rfl | (simp_all; done))
  have h2 : allocE L ρ ⟨dst, op, type, pos, after, guard⟩ = allocE L ρ2 ⟨dst, op, type, pos, after, guard⟩ := by
    cases op <;> simp only [Op.operands] at h <;> simp only [allocE]
    case buildSlice t n ps => rw [parts ps h]
    case makeMap t r => cases r <;> simp_all [allocE]
    all_goals (first | rfl | (simp_all; done))
  have h3 : readE L ρ ⟨dst, op, type, pos, after, guard⟩ = readE L ρ2 ⟨dst, op, type, pos, after, guard⟩ := by
    cases op <;> simp only [Op.operands] at h <;> simp only [readE]
    case slice t x lo hi mx => cases mx <;> cases lo <;> cases hi <;> simp_all [readE]
    all_goals (first | rfl | (simp_all; done))
  have h4 : genE L callf ρ ⟨dst, op, type, pos, after, guard⟩ st = genE L callf ρ2 ⟨dst, op, type, pos, after, guard⟩ st := by
    cases op <;> simp only [Op.operands] at h <;> simp only [genE]
    case next it b => cases b <;> simp_all [genE]
    case call c =>
      obtain ⟨callee, args, ats⟩ := c
      cases callee <;> simp only [Call.operands] at h <;> try rfl
      · have : args.toList.mapM ρ = args.toList.mapM ρ2 := mapM_congr' _ fun x hx => h x (by simp; right; simpa using hx)
        rename_i f
        have hf := h f (by simp)
        simp only [this, hf]
      · rename_i b
        have : args.toList.mapM ρ = args.toList.mapM ρ2 := mapM_congr' _ fun x hx => h x (by simpa using hx)
        simp only [this]
    all_goals (first | rfl | (simp_all; done))
  unfold opE
  rw [h1, h2, h3, h4]

/-! ### The table -/
structure Tab (P : Program) (L : Lk) (callf : CallF) (ops : Array Oper) where
  σ : Nat → St
  θ : Nat → Tm
  v : Nat → Value
  kd : Nat → Kd
  out : Nat → St
  rc : Nat → Rec

def merge (st out : St) : St := { out with base := st.base, log := (out.log.filter fun i => Nat.blt i st.base && !st.log.contains i) ++ st.log }
def fresh (st : St) : St := { st with base := st.next, log := [] }

structure RowOk (P : Program) (L : Lk) (callf : CallF) (ops : Array Oper) (T : Tab P L callf ops) (j : Nat) (o : Oper) : Prop where
  op : ops[j]? = some o
  rc : T.rc j = { o, preds := predsE ((List.range j).map T.rc) o ||| (1 <<< j), log := (T.out j).log, kd := T.kd j }
  run : cond (wantedE ops.toList (T.θ j) o) (opE P L callf (rho L (T.θ j)) o (fresh (T.σ j))) (some (undef, .blind, fresh (T.σ j))) = some (T.v j, T.kd j, T.out j)
  σ : T.σ (j + 1) = merge (T.σ j) (T.out j)
  θ : T.θ (j + 1) = (T.θ j).put o.dst (T.v j)
  ok : okWith ops ((List.range j).map T.rc) 0 (T.rc j) = true
  edges : ∀ e ∈ o.after, binding e = true → e.on < j

theorem draw_tab {ops : Array Oper} : ∀ (rest : List Oper) (recs : List Rec) (τ : Tm) (st : St) (τ' : Tm) (st' : St), (∀ j, rest[j]? = ops[recs.length + j]?) →
    drawE P L callf ops rest recs τ st = some (τ', st') →
    ∃ T : Tab P L callf ops, (∀ j (h : j < recs.length), T.rc j = recs[j]) ∧ T.σ recs.length = st ∧ T.θ recs.length = τ ∧ T.σ ops.size = st' ∧ T.θ ops.size = τ' ∧
      ∀ j, recs.length ≤ j → j < ops.size → ∃ o, RowOk P L callf ops T j o
  | [], recs, τ, st, τ', st', hr, h => by
    simp only [drawE, Option.some.injEq, Prod.mk.injEq] at h
    obtain ⟨rfl, rfl⟩ := h
    have hsz : ops.size ≤ recs.length := by
      have := hr 0
      simp at this
      exact this
    exact ⟨⟨fun _ => st, fun _ => τ, fun _ => undef, fun _ => .blind, fun _ => st, fun j => (recs[j]?).getD ⟨default, 0, [], .blind⟩⟩, fun j h => by simp [h], rfl, rfl, rfl, rfl, fun j h1 h2 => by omega⟩
  | o :: rest, recs, τ, st, τ', st', hr, h => by
    simp only [drawE, Option.bind_eq_some_iff] at h
    obtain ⟨⟨v, kd, out⟩, hrun, h⟩ := h
    simp only at h
    have ho : ops[recs.length]? = some o := by simpa using (hr 0).symm
    have hlt : recs.length < ops.size := (Array.getElem?_eq_some_iff.1 ho).1
    generalize hrr : ({ o, preds := predsE recs o ||| (1 <<< recs.length), log := out.log, kd } : Rec) = r at h
    cases hc : (okWith ops recs 0 r && o.after.all fun e => !binding e || Nat.blt e.on recs.length) with
    | false => rw [hc] at h; cases h
    | true =>
      rw [hc] at h
      simp only [cond_true] at h
      simp only [Bool.and_eq_true] at hc
      have hr' : ∀ j, rest[j]? = ops[(recs ++ [r]).length + j]? := fun j => by
        have := hr (j + 1)
        simp only [List.getElem?_cons_succ] at this
        rw [this]; congr 1; simp; omega
      obtain ⟨T, t1, t2, t3, t4, t5, t6⟩ := draw_tab rest (recs ++ [r]) _ _ _ _ hr' h
      simp only [List.length_append, List.length_cons, List.length_nil] at t1 t2 t3 t6
      have hne : ops.size ≠ recs.length := by omega
      let T' : Tab P L callf ops := ⟨fun j => if j = recs.length then st else T.σ j, fun j => if j = recs.length then τ else T.θ j, fun j => if j = recs.length then v else T.v j,
        fun j => if j = recs.length then kd else T.kd j, fun j => if j = recs.length then out else T.out j, T.rc⟩
      have hmap : (List.range recs.length).map T.rc = recs := by
        apply List.ext_getElem
        · simp
        · intro i h1 h2
          simp only [List.getElem_map, List.getElem_range]
          rw [t1 i (by omega), List.getElem_append_left h2]
      have hrl : T.rc recs.length = r := by rw [t1 recs.length (by omega)]; simp
      refine ⟨T', fun j hj => ?_, by simp [T'], by simp [T'], by simp [T', hne, t4], by simp [T', hne, t5], fun j h1 h2 => ?_⟩
      · show T.rc j = _
        rw [t1 j (by omega), List.getElem_append_left hj]
      · by_cases e : j = recs.length
        · subst e
          refine ⟨o, ho, ?_, ?_, ?_, ?_, ?_, ?_⟩
          · show T.rc recs.length = _
            rw [hrl, ← hrr]
            have : T'.rc = T.rc := rfl
            simp only [this, hmap, T', if_true]
          · simp only [T', if_true]
            exact hrun
          · have h3 : recs.length + 1 ≠ recs.length := by omega
            simp only [T', if_true, h3, if_false]
            rw [t2]; rfl
          · have h3 : recs.length + 1 ≠ recs.length := by omega
            simp only [T', if_true, h3, if_false]
            rw [t3]
          · have : T'.rc = T.rc := rfl
            simp only [this, hmap, hrl]
            exact hc.1
          · intro e he hb
            have := (Array.all_eq_true_iff_forall_mem.1 hc.2) e he
            simpa [hb, Nat.blt_eq] using this
        · obtain ⟨o', r1, r2, r3, r4, r5, r6, r7⟩ := t6 j (by omega) h2
          have hj1 : j + 1 ≠ recs.length := by omega
          exact ⟨o', r1, by simp only [T', e, if_false]; exact r2, by simp only [T', e, if_false]; exact r3, by simp only [T', e, hj1, if_false]; exact r4, by simp only [T', e, hj1, if_false]; exact r5, r6, r7⟩

theorem okWith_spec {ops : Array Oper} {r : Rec} : ∀ (recs : List Rec) (k : Nat), okWith ops recs k r = true → ∀ i (h : i < recs.length),
    (r.preds.testBit (k + i) = true ∨ (okPair recs[i] r = true ∧ recs[i].o.apart ops r.o = true)) ∧ ∀ d, recs[i].o.dst = some d → r.o.dst ≠ some d
  | [], _, _, i, h => by simp at h
  | x :: recs, k, hk, i, h => by
    simp only [okWith, Bool.and_eq_true, Bool.or_eq_true] at hk
    obtain ⟨⟨h1, h2⟩, h3⟩ := hk
    cases i with
    | zero =>
      refine ⟨by simpa using h1, fun d hd => ?_⟩
      simp only [List.getElem_cons_zero] at hd
      rw [hd] at h2
      intro he
      rw [he] at h2
      simp at h2
    | succ i =>
      have := okWith_spec recs (k + 1) h3 i (by simpa using h)
      simpa [Nat.add_assoc, Nat.add_comm 1 i] using this
end
end Go.E
/- A region that draws its order: every order comes to what the text's order comes to. -/
set_option linter.unusedSimpArgs false
set_option linter.unusedVariables false
namespace Go.E
open Go

section
variable {P : Program} {L : Lk} {callf : CallF} {ops : Array Oper} {T : Tab P L callf ops}

def Touch (T : Tab P L callf ops) (j x : Nat) : Prop := x ∈ (T.out j).log ∨ ((T.σ j).next ≤ x ∧ x < (T.σ (j + 1)).next)

/-- The facts of the table. -/
structure TabOk (T : Tab P L callf ops) : Prop where
  row : ∀ j, j < ops.size → ∃ o, RowOk P L callf ops T j o
  mono : CallMono callf
  wf0 : WF (T.σ 0)

theorem fresh_wf {st : St} (h : WF st) : WF (fresh st) := h
theorem row_mono (hT : CallMono callf) {j : Nat} {o : Oper} (hr : RowOk P L callf ops T j o) (hw : WF (T.σ j)) : Mono (fresh (T.σ j)) (T.out j) := by
  have h := hr.run
  cases hb : wantedE ops.toList (T.θ j) o with
  | true => rw [hb] at h; exact op_mono hT (fresh_wf hw) h
  | false => rw [hb] at h; simp only [cond_false, Option.some.injEq, Prod.mk.injEq] at h; rw [← h.2.2]; exact .refl _

theorem tab_wf (h : TabOk T) : ∀ j, j ≤ ops.size → WF (T.σ j)
  | 0, _ => h.wf0
  | j + 1, hj => by
    obtain ⟨o, hr⟩ := h.row j (by omega)
    have hw := tab_wf h j (by omega)
    rw [hr.σ]
    exact (row_mono h.mono hr hw).wf (fresh_wf hw)
theorem tab_mono (h : TabOk T) {j : Nat} (hj : j < ops.size) : Mono (fresh (T.σ j)) (T.out j) := by
  obtain ⟨o, hr⟩ := h.row j hj
  exact row_mono h.mono hr (tab_wf h j (by omega))
theorem next_out (h : TabOk T) {j : Nat} (hj : j < ops.size) : (T.σ (j + 1)).next = (T.out j).next := by
  obtain ⟨o, hr⟩ := h.row j hj
  rw [hr.σ]; rfl
theorem mem_out (h : TabOk T) {j : Nat} (hj : j < ops.size) : (T.σ (j + 1)).mem = (T.out j).mem := by
  obtain ⟨o, hr⟩ := h.row j hj
  rw [hr.σ]; rfl
theorem next_succ (h : TabOk T) {j : Nat} (hj : j < ops.size) : (T.σ j).next ≤ (T.σ (j + 1)).next := by
  rw [next_out h hj]; exact (tab_mono h hj).next
theorem next_le (h : TabOk T) : ∀ (j i : Nat), i ≤ j → j ≤ ops.size → (T.σ i).next ≤ (T.σ j).next
  | 0, i, h1, _ => by have : i = 0 := by omega
                      subst this; exact Nat.le_refl _
  | j + 1, i, h1, h2 => by
    by_cases e : i = j + 1
    · subst e; exact Nat.le_refl _
    · exact Nat.le_trans (next_le h j i (by omega) (by omega)) (next_succ h (by omega))
theorem tab_base (h : TabOk T) : ∀ j, j ≤ ops.size → (T.σ j).base = (T.σ 0).base
  | 0, _ => rfl
  | j + 1, hj => by
    obtain ⟨o, hr⟩ := h.row j (by omega)
    rw [hr.σ]; exact tab_base h j (by omega)
theorem log_lt (h : TabOk T) {j : Nat} (hj : j < ops.size) {x : Nat} (hx : x ∈ (T.out j).log) : x < (T.σ j).next := by
  rcases (tab_mono h hj).logb x hx with h1 | h1
  · simp [Go.E.fresh] at h1
  · exact h1
theorem untouched (h : TabOk T) {j : Nat} (hj : j < ops.size) {x : Nat} (ht : ¬ Touch T j x) : (T.σ (j + 1)).mem.get x = (T.σ j).mem.get x := by
  rw [mem_out h hj]
  by_cases h1 : x < (T.σ j).next
  · exact (tab_mono h hj).keep x h1 h1 fun hx => ht (.inl hx)
  · have h2 : (T.σ (j + 1)).next ≤ x := by
      apply Classical.byContradiction
      intro hc
      exact ht (.inr ⟨by omega, by omega⟩)
    rw [next_out h hj] at h2
    rw [(tab_mono h hj).wf (fresh_wf (tab_wf h j (by omega))) x h2, tab_wf h j (by omega) x (by omega)]
theorem untouched_to (h : TabOk T) {x i : Nat} : ∀ k, i ≤ k → k ≤ ops.size → (∀ j, i ≤ j → j < k → ¬ Touch T j x) → (T.σ k).mem.get x = (T.σ i).mem.get x
  | 0, h1, _, _ => by have : i = 0 := by omega
                      subst this; rfl
  | k + 1, h1, h2, h3 => by
    by_cases e : i = k + 1
    · subst e; rfl
    · rw [untouched h (by omega) (h3 k (by omega) (by omega))]
      exact untouched_to h k (by omega) (by omega) fun j a b => h3 j a (by omega)
theorem fresh_ge (h : TabOk T) {i j x : Nat} (hi : i < ops.size) (hj : j < ops.size) (h1 : (T.σ i).next ≤ x) (h2 : x < (T.σ (i + 1)).next) (h3 : (T.σ j).next ≤ x) (h4 : x < (T.σ (j + 1)).next) : i = j := by
  rcases Nat.lt_trichotomy i j with h5 | h5 | h5
  · have := next_le h j (i + 1) h5 (by omega); omega
  · exact h5
  · have := next_le h i (j + 1) h5 (by omega); omega
theorem rc_log {j : Nat} {o : Oper} (hr : RowOk P L callf ops T j o) : (T.rc j).log = (T.out j).log := by rw [hr.rc]
theorem rc_kd {j : Nat} {o : Oper} (hr : RowOk P L callf ops T j o) : (T.rc j).kd = T.kd j := by rw [hr.rc]
theorem rc_o {j : Nat} {o : Oper} (hr : RowOk P L callf ops T j o) : (T.rc j).o = o := by rw [hr.rc]

/-- Two operations: ordered, or apart. -/
theorem pair (h : TabOk T) {i j : Nat} {oi oj : Oper} (hij : i < j) (hj : j < ops.size) (hi : RowOk P L callf ops T i oi) (hjr : RowOk P L callf ops T j oj) :
    ((T.rc j).preds.testBit i = true ∨ (okPair (T.rc i) (T.rc j) = true ∧ oi.apart ops oj = true)) ∧ ∀ d, oi.dst = some d → oj.dst ≠ some d := by
  have := okWith_spec _ 0 hjr.ok i (by simp; exact hij)
  simp only [List.getElem_map, List.getElem_range, Nat.zero_add, rc_o hi, rc_o hjr] at this
  exact this

theorem okPair_spec {a b : Rec} (h : okPair a b = true) : (a.log = [] ∨ match b.kd with | .blind => True | .read i => i ∉ a.log | .gen => False) ∧
    (b.log = [] ∨ match a.kd with | .blind => True | .read i => i ∉ b.log | .gen => False) := by
  unfold okPair at h
  simp only [Bool.and_eq_true, Bool.or_eq_true, List.isEmpty_iff] at h
  refine ⟨h.1.imp id fun h => ?_, h.2.imp id fun h => ?_⟩
  · cases hk : b.kd <;> simp_all
  · cases hk : a.kd <;> simp_all

theorem predsE_spec {recs : List Rec} {o : Oper} {i : Nat} (h : (predsE recs o).testBit i = true) : ∃ e ∈ o.after, binding e = true ∧ ∃ r, recs[e.on]? = some r ∧ r.preds.testBit i = true := by
  unfold predsE at h
  have key : ∀ (l : List Edge) (m : Nat), (l.foldl (fun m e => cond (binding e) (m ||| ((recs[e.on]?).map (·.preds)).getD 0) m) m).testBit i = true →
      m.testBit i = true ∨ ∃ e ∈ l, binding e = true ∧ ∃ r, recs[e.on]? = some r ∧ r.preds.testBit i = true := by
    intro l
    induction l with
    | nil => intro m h; exact .inl h
    | cons e l ih =>
      intro m h
      rw [List.foldl_cons] at h
      rcases ih _ h with h1 | ⟨e', he', h2⟩
      · cases hb : binding e with
        | false => rw [hb] at h1; exact .inl h1
        | true =>
          rw [hb] at h1
          simp only [cond_true, Nat.testBit_or, Bool.or_eq_true] at h1
          rcases h1 with h1 | h1
          · exact .inl h1
          · cases hr : recs[e.on]? with
            | none => rw [hr] at h1; simp at h1
            | some r => rw [hr] at h1; exact .inr ⟨e, by simp, hb, r, hr, by simpa using h1⟩
      · exact .inr ⟨e', by simp [he'], h2⟩
  rcases key _ 0 h with h1 | ⟨e, he, h2⟩
  · simp at h1
  · exact ⟨e, by simpa using he, h2⟩

/-- What has been done: a set that holds, with an operation, all that come ahead of it. -/
def Down (T : Tab P L callf ops) (S : Nat → Prop) : Prop := ∀ j, S j → j < ops.size ∧ ∀ i, (T.rc j).preds.testBit i = true → S i
def Ready (T : Tab P L callf ops) (S : Nat → Prop) (j : Nat) : Prop := j < ops.size ∧ ¬ S j ∧ ∀ i, (T.rc j).preds.testBit i = true → i = j ∨ S i

theorem ready_of (h : TabOk T) {S : Nat → Prop} (hd : Down T S) {j : Nat} {o : Oper} (hj : j < ops.size) (hr : RowOk P L callf ops T j o) (hn : ¬ S j) (he : ∀ e ∈ o.after, binding e = true → S e.on) : Ready T S j := by
  refine ⟨hj, hn, fun i hi => ?_⟩
  rw [hr.rc] at hi
  simp only [Nat.testBit_or, Bool.or_eq_true] at hi
  rcases hi with hi | hi
  · obtain ⟨e, he', hb, r, hr', hbit⟩ := predsE_spec hi
    have hlt := hr.edges e he' hb
    have hrc : r = T.rc e.on := by
      rw [List.getElem?_map, List.getElem?_range hlt] at hr'
      simpa using hr'.symm
    subst hrc
    exact .inr ((hd _ (he e he' hb)).2 i hbit)
  · left
    simp only [Nat.one_shiftLeft, Nat.testBit_two_pow] at hi
    simpa using (of_decide_eq_true hi).symm
theorem self_bit {j : Nat} {o : Oper} (hr : RowOk P L callf ops T j o) : (T.rc j).preds.testBit j = true := by
  rw [hr.rc]; simp [Nat.testBit_or, Nat.one_shiftLeft, Nat.testBit_two_pow]

theorem down_add {S : Nat → Prop} (hd : Down T S) {j : Nat} (hr : Ready T S j) : Down T (fun i => i = j ∨ S i) := by
  rintro i (rfl | hi)
  · exact ⟨hr.1, hr.2.2⟩
  · exact ⟨(hd i hi).1, fun k hk => .inr ((hd i hi).2 k hk)⟩

/-- An operation that is ahead in the text and not done yet, or behind it and done: apart from the one that is ready. -/
theorem apart_ahead (h : TabOk T) {S : Nat → Prop} (hd : Down T S) {i j : Nat} {oi oj : Oper} (hr : Ready T S j) (hi : RowOk P L callf ops T i oi) (hjr : RowOk P L callf ops T j oj) (hij : i < j) (hn : ¬ S i) :
    okPair (T.rc i) (T.rc j) = true ∧ oi.apart ops oj = true := by
  rcases (pair h hij hr.1 hi hjr).1 with h1 | h1
  · rcases hr.2.2 i h1 with h2 | h2
    · omega
    · exact absurd h2 hn
  · exact h1
theorem apart_behind (h : TabOk T) {S : Nat → Prop} (hd : Down T S) {i j : Nat} {oi oj : Oper} (hr : Ready T S j) (hi : RowOk P L callf ops T i oi) (hjr : RowOk P L callf ops T j oj) (hij : j < i) (hs : S i) :
    okPair (T.rc j) (T.rc i) = true ∧ oj.apart ops oi = true := by
  rcases (pair h hij (hd i hs).1 hjr hi).1 with h1 | h1
  · exact absurd ((hd i hs).2 j h1) hr.2.1
  · exact h1

/-! ### The invariant: memory -/
def Old (T : Tab P L callf ops) (β0 : Emb) (b : Nat) : Prop := ∃ i p, β0 i = some p ∧ p.b = b ∧ (T.σ 0).mem.get i ≠ none ∧ (i ∈ (T.σ ops.size).log ∨ (T.σ 0).base ≤ i)

structure MInv [Sym] (T : Tab P L callf ops) (β0 : Emb) (w0 : World) (S : Nat → Prop) (β : Emb) (μ : View) (w : World) : Prop where
  rep : Rep β μ w
  ext : ∀ i p, β0 i = some p → β i = some p
  dom : ∀ x, β x ≠ none → β0 x ≠ none ∨ ∃ j, S j ∧ (T.σ j).next ≤ x ∧ x < (T.σ (j + 1)).next
  agree : ∀ x k, k ≤ ops.size → (∀ i, i < k → Touch T i x → S i) → (∀ i, S i → Touch T i x → i < k) → μ x = (T.σ k).mem.get x
  logd : ∀ j, S j → ∀ x, x ∈ (T.out j).log → β x ≠ none
  frame : ∀ b, b < w0.heap.size → w.heap[b]? = w0.heap[b]? ∨ Old T β0 b
  fresh : ∀ x p, β x = some p → β0 x = none → w0.heap.size ≤ p.b ∨ Old T β0 p.b
  size : w0.heap.size ≤ w.heap.size
  os : w.os = w0.os
  tape : w.tape = w0.tape
  output : w.output = w0.output

theorem log_to (h : TabOk T) {x i : Nat} (hi : i < ops.size) (hx : x ∈ (T.out i).log) (hb : x < (T.σ 0).base) : ∀ k, i < k → k ≤ ops.size → x ∈ (T.σ k).log
  | 0, h1, _ => by omega
  | k + 1, h1, h2 => by
    obtain ⟨o, hr⟩ := h.row k (by omega)
    rw [hr.σ]
    simp only [merge, List.mem_append, List.mem_filter, Bool.and_eq_true, Nat.blt_eq, Bool.not_eq_true']
    by_cases e : i = k
    · subst e
      by_cases hin : x ∈ (T.σ i).log
      · exact .inr hin
      · exact .inl ⟨hx, by rw [tab_base h i (by omega)]; exact hb, by simpa using hin⟩
    · exact .inr (log_to h hi hx hb k (by omega) (by omega))

/-- The numbers of an operation that is behind j in the text are not there at j. -/
theorem behind_none (h : TabOk T) {i j x : Nat} (hij : j < i) (hi : i < ops.size) (hx : (T.σ i).next ≤ x) : (T.σ j).mem.get x = none :=
  tab_wf h j (by omega) x (by have := next_le h i j (by omega) (by omega); omega)

/-- At a ready operation of the kind 'gen', memory is as in the text's order, as far as it is reached. -/
theorem agree_gen [Sym] (h : TabOk T) {β0 β : Emb} {w0 w : World} {S : Nat → Prop} {μ : View} (hm : MInv T β0 w0 S β μ w) (hd : Down T S) {j : Nat} {oj : Oper} (hr : Ready T S j) (hjr : RowOk P L callf ops T j oj)
    (hb0 : ∀ x, β0 x ≠ none → x < (T.σ 0).next ∨ (T.σ ops.size).next ≤ x) (hkd : T.kd j = .gen) {x : Nat} (hx : β x ≠ none) (hlive : (T.σ j).mem.get x ≠ none) : μ x = (T.σ j).mem.get x := by
  refine hm.agree x j (by have := hr.1; omega) (fun i hi ht => ?_) (fun i hs ht => ?_)
  · apply Classical.byContradiction
    intro hn
    obtain ⟨oi, hir⟩ := h.row i (by have := hr.1; omega)
    obtain ⟨hp, _⟩ := apart_ahead h hd hr hir hjr hi hn
    have := (okPair_spec hp).1
    rw [rc_log hir, rc_kd hjr, hkd] at this
    have hlog : (T.out i).log = [] := by rcases this with h | h; exact h; exact h.elim
    rcases ht with ht | ht
    · rw [hlog] at ht; cases ht
    · rcases hm.dom x hx with h1 | ⟨i', hs', h2, h3⟩
      · have := hb0 x h1
        have h4 := next_le h i 0 (by omega) (by have := hr.1; omega)
        have h5 := next_le h ops.size (i + 1) (by have := hr.1; omega) (Nat.le_refl _)
        omega
      · have := fresh_ge h (hd i' hs').1 (by have := hr.1; omega) h2 h3 ht.1 ht.2
        subst this; exact hn hs'
  · rcases Nat.lt_trichotomy i j with h1 | h1 | h1
    · exact h1
    · subst h1; exact absurd hs hr.2.1
    · exfalso
      obtain ⟨oi, hir⟩ := h.row i (hd i hs).1
      obtain ⟨hp, _⟩ := apart_behind h hd hr hir hjr h1 hs
      have := (okPair_spec hp).2
      rw [rc_log hir, rc_kd hjr, hkd] at this
      have hlog : (T.out i).log = [] := by rcases this with h | h; exact h; exact h.elim
      rcases ht with ht | ht
      · rw [hlog] at ht; cases ht
      · exact hlive (behind_none h h1 (hd i hs).1 ht.1)

theorem agree_read [Sym] (h : TabOk T) {β0 β : Emb} {w0 w : World} {S : Nat → Prop} {μ : View} (hm : MInv T β0 w0 S β μ w) (hd : Down T S) {j : Nat} {oj : Oper} (hr : Ready T S j) (hjr : RowOk P L callf ops T j oj)
    (hb0 : ∀ x, β0 x ≠ none → x < (T.σ 0).next ∨ (T.σ ops.size).next ≤ x) {x : Nat} (hkd : T.kd j = .read x) (hx : β x ≠ none) (hlive : (T.σ j).mem.get x ≠ none) : μ x = (T.σ j).mem.get x := by
  refine hm.agree x j (by have := hr.1; omega) (fun i hi ht => ?_) (fun i hs ht => ?_)
  · apply Classical.byContradiction
    intro hn
    obtain ⟨oi, hir⟩ := h.row i (by have := hr.1; omega)
    obtain ⟨hp, _⟩ := apart_ahead h hd hr hir hjr hi hn
    have := (okPair_spec hp).1
    rw [rc_log hir, rc_kd hjr, hkd] at this
    rcases ht with ht | ht
    · rcases this with h1 | h1
      · rw [h1] at ht; cases ht
      · exact h1 ht
    · rcases hm.dom x hx with h1 | ⟨i', hs', h2, h3⟩
      · have := hb0 x h1
        have h4 := next_le h i 0 (by omega) (by have := hr.1; omega)
        have h5 := next_le h ops.size (i + 1) (by have := hr.1; omega) (Nat.le_refl _)
        omega
      · have := fresh_ge h (hd i' hs').1 (by have := hr.1; omega) h2 h3 ht.1 ht.2
        subst this; exact hn hs'
  · rcases Nat.lt_trichotomy i j with h1 | h1 | h1
    · exact h1
    · subst h1; exact absurd hs hr.2.1
    · exfalso
      obtain ⟨oi, hir⟩ := h.row i (hd i hs).1
      obtain ⟨hp, _⟩ := apart_behind h hd hr hir hjr h1 hs
      have := (okPair_spec hp).2
      rw [rc_log hir, rc_kd hjr, hkd] at this
      rcases ht with ht | ht
      · rcases this with h2 | h2
        · rw [h2] at ht; cases ht
        · exact h2 ht
      · exact hlive (behind_none h h1 (hd i hs).1 ht.1)
end
end Go.E
/- A region that draws its order: one operation's step. -/
set_option linter.unusedSimpArgs false
set_option linter.unusedVariables false
namespace Go.E
open Go

section
variable {P : Program} {L : Lk} {callf : CallF} {ops : Array Oper} {T : Tab P L callf ops} {β0 β β' : Emb} {w0 w w' : World} {S : Nat → Prop} {μ μ' : View} {j : Nat}

theorem dead_to (h : TabOk T) {i : Nat} (hi : i < (T.σ 0).next) (hd : (T.σ 0).mem.get i = none) : ∀ k, k ≤ ops.size → (T.σ k).mem.get i = none
  | 0, _ => hd
  | k + 1, hk => by
    rw [mem_out h (by omega)]
    exact (tab_mono h (by omega)).dead i (Nat.lt_of_lt_of_le hi (next_le h k 0 (by omega) (by omega))) (dead_to h hi hd k (by omega))

theorem log_gen (h : TabOk T) {oj : Oper} (hjr : RowOk P L callf ops T j oj) (hl : (T.out j).log ≠ []) : T.kd j = .gen := by
  have hr := hjr.run
  cases hb : wantedE ops.toList (T.θ j) oj with
  | false =>
    rw [hb] at hr
    simp only [cond_false, Option.some.injEq, Prod.mk.injEq] at hr
    rw [← hr.2.2] at hl
    exact absurd rfl hl
  | true =>
    rw [hb] at hr
    simp only [cond_true] at hr
    unfold opE at hr
    split at hr
    · simp only [Option.some.injEq, Prod.mk.injEq] at hr
      rw [← hr.2.2] at hl; exact absurd rfl hl
    · split at hr
      · simp only [Option.some.injEq, Prod.mk.injEq] at hr
        rw [← hr.2.2] at hl; exact absurd rfl hl
      · split at hr
        · simp only [Option.bind_eq_some_iff, Option.map_eq_some_iff, Prod.mk.injEq] at hr
          obtain ⟨_, _, _, _, _, _, h2⟩ := hr
          rw [← h2] at hl; exact absurd rfl hl
        · simp only [Option.map_eq_some_iff, Prod.mk.injEq] at hr
          obtain ⟨_, _, _, h2, _⟩ := hr
          exact h2.symm

theorem old_step [Sym] (h : TabOk T) (hm : MInv T β0 w0 S β μ w) (hj : j < ops.size) (hb0 : ∀ x, β0 x ≠ none → x < (T.σ 0).next ∨ (T.σ ops.size).next ≤ x) {b : Nat}
    (hx : ∃ i q, β i = some q ∧ q.b = b ∧ (T.σ j).mem.get i ≠ none ∧ i ∈ (T.out j).log) : w0.heap.size ≤ b ∨ Old T β0 b := by
  obtain ⟨i, q, h1, rfl, h3, h4⟩ := hx
  cases hb : β0 i with
  | none => exact hm.fresh i q h1 hb
  | some q0 =>
    have := hm.ext i q0 hb
    rw [h1] at this; cases this
    have hlt := log_lt h hj h4
    have hle := next_le h ops.size j (by omega) (Nat.le_refl _)
    have hi0 : i < (T.σ 0).next := by
      rcases hb0 i (by rw [hb]; simp) with h5 | h5
      · exact h5
      · omega
    refine .inr ⟨i, q, hb, rfl, fun hd => h3 (dead_to h hi0 hd j (by omega)), ?_⟩
    by_cases hbs : i < (T.σ 0).base
    · exact .inl (log_to h hj h4 hbs ops.size (by omega) (Nat.le_refl _))
    · exact .inr (by omega)

theorem minv_step [Sym] (h : TabOk T) (hm : MInv T β0 w0 S β μ w) (hd : Down T S) (hr : Ready T S j) (hb0 : ∀ x, β0 x ≠ none → x < (T.σ 0).next ∨ (T.σ ops.size).next ≤ x)
    (hμ1 : ∀ x, Touch T j x → μ' x = (T.out j).mem.get x) (hμ2 : ∀ x, ¬ Touch T j x → μ' x = μ x) (rep' : Rep β' μ' w') (ext' : ∀ i p, β i = some p → β' i = some p)
    (dom' : ∀ x, β' x ≠ none → β x ≠ none ∨ ((T.σ j).next ≤ x ∧ x < (T.σ (j + 1)).next)) (logj : ∀ x, x ∈ (T.out j).log → β x ≠ none)
    (frame' : ∀ b, b < w.heap.size → w'.heap[b]? = w.heap[b]? ∨ ∃ i q, β i = some q ∧ q.b = b ∧ (T.σ j).mem.get i ≠ none ∧ i ∈ (T.out j).log)
    (fresh' : ∀ x p, β' x = some p → β x = none → w.heap.size ≤ p.b ∨ ∃ i q, β i = some q ∧ q.b = p.b ∧ (T.σ j).mem.get i ≠ none ∧ i ∈ (T.out j).log)
    (size' : w.heap.size ≤ w'.heap.size) (os' : w'.os = w.os) (tape' : w'.tape = w.tape) (output' : w'.output = w.output) : MInv T β0 w0 (fun i => i = j ∨ S i) β' μ' w' where
  rep := rep'
  ext := fun i p hp => ext' i p (hm.ext i p hp)
  dom := fun x hx => by
    rcases dom' x hx with h1 | h1
    · rcases hm.dom x h1 with h2 | ⟨i, h2, h3⟩
      · exact .inl h2
      · exact .inr ⟨i, .inr h2, h3⟩
    · exact .inr ⟨j, .inl rfl, h1⟩
  agree := fun x k hk h1 h2 => by
    by_cases ht : Touch T j x
    · have hjk := h2 j (.inl rfl) ht
      rw [hμ1 x ht, ← mem_out h hr.1]
      refine (untouched_to h k (i := j + 1) hjk hk fun i hi1 hi2 hti => ?_).symm
      obtain ⟨oj, hjr⟩ := h.row j hr.1
      obtain ⟨oi, hir⟩ := h.row i (by omega)
      rcases h1 i hi2 hti with e | hs
      · omega
      · obtain ⟨hp, _⟩ := apart_behind h hd hr hir hjr (by omega) hs
        have hsp := (okPair_spec hp).1
        rw [rc_log hjr, rc_kd hir] at hsp
        have hle0 := next_le h j 0 (by omega) (by omega)
        have hlen := next_le h ops.size (j + 1) (by omega) (Nat.le_refl _)
        rcases ht with ht | ht <;> rcases hti with hti | hti
        · have := log_gen h hir (fun e => by rw [e] at hti; cases hti)
          rw [this] at hsp
          rcases hsp with e | e
          · rw [e] at ht; cases ht
          · exact e
        · have h5 := log_lt h hr.1 ht
          have h6 := next_le h i j (by omega) (by omega)
          omega
        · have h5 := hm.logd i hs x hti
          rcases hm.dom x h5 with h6 | ⟨i', hs', h7, h8⟩
          · have := hb0 x h6; omega
          · have := fresh_ge h (hd i' hs').1 hr.1 h7 h8 ht.1 ht.2
            subst this; exact hr.2.1 hs'
        · have := fresh_ge h (by omega) hr.1 hti.1 hti.2 ht.1 ht.2
          omega
    · rw [hμ2 x ht]
      refine hm.agree x k hk (fun i hi hti => ?_) fun i hs hti => h2 i (.inr hs) hti
      rcases h1 i hi hti with e | hs
      · subst e; exact absurd hti ht
      · exact hs
  logd := fun i hi x hx => by
    have up : β x ≠ none → β' x ≠ none := fun hn => by
      cases hb : β x with
      | none => exact absurd hb hn
      | some p => rw [ext' x p hb]; simp
    rcases hi with rfl | hi
    · exact up (logj x hx)
    · exact up (hm.logd i hi x hx)
  frame := fun b hb => by
    rcases frame' b (Nat.lt_of_lt_of_le hb hm.size) with h1 | h1
    · rcases hm.frame b hb with h2 | h2
      · exact .inl (h1.trans h2)
      · exact .inr h2
    · rcases old_step h hm hr.1 hb0 h1 with h2 | h2
      · omega
      · exact .inr h2
  fresh := fun x p h1 h2 => by
    cases hb : β x with
    | some q =>
      have := ext' x q hb
      rw [h1] at this; cases this
      exact hm.fresh x p hb h2
    | none =>
      rcases fresh' x p h1 hb with h3 | h3
      · exact .inl (Nat.le_trans hm.size h3)
      · exact old_step h hm hr.1 hb0 h3
  size := Nat.le_trans hm.size size'
  os := os'.trans hm.os
  tape := tape'.trans hm.tape
  output := output'.trans hm.output

/-- An operation that touches nothing. -/
theorem minv_same [Sym] (h : TabOk T) (hm : MInv T β0 w0 S β μ w) (hd : Down T S) (hr : Ready T S j) (hb0 : ∀ x, β0 x ≠ none → x < (T.σ 0).next ∨ (T.σ ops.size).next ≤ x)
    (hout : T.out j = fresh (T.σ j)) : MInv T β0 w0 (fun i => i = j ∨ S i) β μ w := by
  have hno : ∀ x, ¬ Touch T j x := fun x ht => by
    rcases ht with ht | ht
    · rw [hout] at ht; cases ht
    · have := next_out h hr.1
      rw [hout] at this
      simp only [fresh] at this
      omega
  exact minv_step h hm hd hr hb0 (fun x ht => absurd ht (hno x)) (fun _ _ => rfl) hm.rep (fun _ _ h => h) (fun _ h => .inl h) (fun x hx => by rw [hout] at hx; cases hx)
    (fun _ _ => .inl rfl) (fun x p h1 h2 => by rw [h1] at h2; cases h2) (Nat.le_refl _) rfl rfl rfl

theorem new_none [Sym] (h : TabOk T) (hm : MInv T β0 w0 S β μ w) (hd : Down T S) (hr : Ready T S j) (hb0 : ∀ x, β0 x ≠ none → x < (T.σ 0).next ∨ (T.σ ops.size).next ≤ x)
    {x : Nat} (h1 : (T.σ j).next ≤ x) (h2 : x < (T.σ (j + 1)).next) : β x = none := by
  apply Classical.byContradiction
  intro hn
  rcases hm.dom x hn with h3 | ⟨i, hs, h4, h5⟩
  · have := hb0 x h3
    have h6 := next_le h j 0 (by omega) (by have := hr.1; omega)
    have h7 := next_le h ops.size (j + 1) (by have := hr.1; omega) (Nat.le_refl _)
    omega
  · have := fresh_ge h (hd i hs).1 hr.1 h4 h5 h1 h2
    subst this; exact hr.2.1 hs

theorem minv_alloc [Sym] (h : TabOk T) (hm : MInv T β0 w0 S β μ w) (hd : Down T S) (hr : Ready T S j) (hb0 : ∀ x, β0 x ≠ none → x < (T.σ 0).next ∨ (T.σ ops.size).next ≤ x)
    {ob : AObj} (hout : T.out j = (fresh (T.σ j)).new ob) {obj : Obj} {s z d : Nat} (hob : OR (β.add (T.σ j).next ⟨w.heap.size, 0, s, z⟩) ⟨w.heap.size, 0, s, z⟩ obj ob) :
    MInv T β0 w0 (fun i => i = j ∨ S i) (β.add (T.σ j).next ⟨w.heap.size, 0, s, z⟩) (fun x => if x = (T.σ j).next then some ob else μ x) { w with heap := w.heap.push obj, drawn := d } := by
  have hnx : (T.σ (j + 1)).next = (T.σ j).next + 1 := by rw [next_out h hr.1, hout]; rfl
  have hbn := new_none h hm hd hr hb0 (x := (T.σ j).next) (Nat.le_refl _) (by omega)
  have htouch : ∀ x, Touch T j x ↔ x = (T.σ j).next := fun x => by
    unfold Touch
    rw [hout, hnx]
    constructor
    · rintro (h1 | h1)
      · cases h1
      · omega
    · intro h1; exact .inr (by omega)
  refine minv_step h hm hd hr hb0 (fun x ht => ?_) (fun x ht => ?_) (rep_new hm.rep hbn (fun i hi => by simp [hi]) (by simp) hob) (Emb.add_old hbn) (fun x hx => ?_) (fun x hx => by rw [hout] at hx; cases hx) (fun b hb => .inl ?_) (fun x p h1 h2 => ?_) (by simp) rfl rfl rfl
  · rw [htouch] at ht
    rw [hout]; subst ht
    simp [St.new, fresh]
  · rw [htouch] at ht; simp [ht]
  · by_cases e : x = (T.σ j).next
    · exact .inr (by omega)
    · left; simpa [Emb.add, e] using hx
  · show (w.heap.push obj)[b]? = _
    rw [Array.getElem?_push_lt hb, ← Array.getElem?_eq_getElem]
  · rcases Emb.add_inv h1 with ⟨_, rfl⟩ | ⟨_, h3⟩
    · exact .inl (Nat.le_refl _)
    · rw [h3] at h2; cases h2

/-- An operation that writes, or calls. -/
theorem minv_gen [Sym] (h : TabOk T) (hm : MInv T β0 w0 S β μ w) (hd : Down T S) (hr : Ready T S j) (hb0 : ∀ x, β0 x ≠ none → x < (T.σ 0).next ∨ (T.σ ops.size).next ≤ x)
    {oj : Oper} (hjr : RowOk P L callf ops T j oj) (hkd : T.kd j = .gen) (hp : Post (fresh (T.σ j)) (T.out j) β w β' w') :
    ∃ μ', MInv T β0 w0 (fun i => i = j ∨ S i) β' μ' w' := by
  have ag : ∀ x, β x ≠ none → (T.σ j).mem.get x ≠ none → μ x = (T.σ j).mem.get x := fun x h1 h2 => agree_gen h hm hd hr hjr hb0 hkd h1 h2
  have hnx := next_out h hr.1
  have hmono := tab_mono h hr.1
  have lg : ∀ i, (i ∈ (T.out j).log ∨ (fresh (T.σ j)).base ≤ i) → (T.σ j).mem.get i ≠ none → i ∈ (T.out j).log := fun i h1 h2 => by
    rcases h1 with h1 | h1
    · exact h1
    · exact absurd (tab_wf h j (by have := hr.1; omega) i h1) h2
  refine ⟨fun x => if Classical.propDecidable (Touch T j x) |>.decide then (T.out j).mem.get x else μ x, ?_⟩
  have hμ1 : ∀ x, Touch T j x → (if Classical.propDecidable (Touch T j x) |>.decide then (T.out j).mem.get x else μ x) = (T.out j).mem.get x := fun x ht => by
    rw [if_pos]; simpa using ht
  have hμ2 : ∀ x, ¬ Touch T j x → (if Classical.propDecidable (Touch T j x) |>.decide then (T.out j).mem.get x else μ x) = μ x := fun x ht => by
    rw [if_neg]; simpa using ht
  -- an old number, not touched
  have old : ∀ x p, β' x = some p → ¬ Touch T j x → β x = some p := fun x p h1 h2 => by
    cases hb : β x with
    | some q => have := hp.ext x q hb; rw [h1] at this; exact this.symm
    | none =>
      rcases hp.dom x (by rw [h1]; simp) with h3 | h3
      · exact absurd hb h3
      · exact absurd (.inr ⟨h3.1, by rw [hnx]; exact h3.2⟩) h2
  have keep : ∀ x, ¬ Touch T j x → (T.out j).mem.get x = (T.σ j).mem.get x := fun x h1 => by rw [← mem_out h hr.1]; exact untouched h hr.1 h1
  -- of two numbers of one block, one touched
  have one_touched : ∀ x y p q, β' x = some p → β' y = some q → Touch T j x → ¬ Touch T j y → (T.out j).mem.get x ≠ none → μ y ≠ none → p.b = q.b → x = y := by
    intro x y p q h1 h2 h3 h4 h5 h6 h7
    have hy := old y q h2 h4
    by_cases hl : (T.σ j).mem.get y = none
    · exfalso
      cases hb : β x with
      | some p' =>
        have := hp.ext x p' hb
        rw [h1] at this; cases this
        have hxl : (T.σ j).mem.get x ≠ none := fun hd' => by
          rcases h3 with h3 | h3
          · exact h5 (hmono.dead x (log_lt h hr.1 h3) hd')
          · rw [new_none h hm hd hr hb0 h3.1 h3.2] at hb; cases hb
        have := hm.rep.inj x y p q hb hy (by rw [ag x (by rw [hb]; simp) hxl]; exact hxl) h6 h7
        subst this; exact h4 h3
      | none =>
        rcases hp.fresh x p h1 hb with h8 | ⟨i, r, a1, a2, a3, a4⟩
        · have := hm.rep.inb y q hy; omega
        · have := hm.rep.inj i y r q a1 hy (by rw [ag i (by rw [a1]; simp) a3]; exact a3) h6 (a2.trans h7)
          subst this; exact a3 hl
    · exact hp.rep.inj x y p q h1 h2 h5 (by rw [keep y h4]; exact hl) h7
  refine minv_step h hm hd hr hb0 hμ1 hμ2 ⟨hp.rep.inb, fun x p ob h1 h2 => ?_, fun x y p q h1 h2 h3 h4 h5 => ?_⟩ hp.ext (fun x hx => by
      rcases hp.dom x hx with h1 | h1
      · exact .inl h1
      · exact .inr ⟨h1.1, by rw [hnx]; exact h1.2⟩) (fun x hx => by
      rcases hp.logd x hx with h1 | h1
      · cases h1
      · exact h1) (fun b hb => by
      rcases hp.frame b hb with h1 | ⟨i, p, a1, a2, a3, a4⟩
      · exact .inl h1
      · exact .inr ⟨i, p, a1, a2, a3, lg i a4 a3⟩) (fun x p h1 h2 => by
      rcases hp.fresh x p h1 h2 with h3 | ⟨i, q, a1, a2, a3, a4⟩
      · exact .inl h3
      · exact .inr ⟨i, q, a1, a2, a3, lg i a4 a3⟩) hp.size hp.os hp.tape hp.output
  · by_cases ht : Touch T j x
    · rw [hμ1 x ht] at h2
      exact hp.rep.obj x p ob h1 h2
    · rw [hμ2 x ht] at h2
      have hx := old x p h1 ht
      by_cases hl : (T.σ j).mem.get x = none
      · obtain ⟨obj, o1, o2⟩ := hm.rep.obj x p ob hx h2
        refine ⟨obj, ?_, o2.mono hp.ext⟩
        rcases hp.frame p.b (hm.rep.inb x p hx) with h3 | ⟨i, q, a1, a2, a3, a4⟩
        · rw [h3]; exact o1
        · have := hm.rep.inj i x q p a1 hx (by rw [ag i (by rw [a1]; simp) a3]; exact a3) (by rw [h2]; simp) a2
          subst this; exact absurd hl a3
      · have := ag x (by rw [hx]; simp) hl
        rw [this, ← keep x ht] at h2
        exact hp.rep.obj x p ob h1 h2
  · by_cases t1 : Touch T j x <;> by_cases t2 : Touch T j y
    · rw [hμ1 x t1] at h3; rw [hμ1 y t2] at h4
      exact hp.rep.inj x y p q h1 h2 h3 h4 h5
    · rw [hμ1 x t1] at h3; rw [hμ2 y t2] at h4
      exact one_touched x y p q h1 h2 t1 t2 h3 h4 h5
    · rw [hμ2 x t1] at h3; rw [hμ1 y t2] at h4
      exact (one_touched y x q p h2 h1 t2 t1 h4 h3 h5.symm).symm
    · rw [hμ2 x t1] at h3; rw [hμ2 y t2] at h4
      exact hm.rep.inj x y p q (old x p h1 t1) (old y q h2 t2) h3 h4 h5
end
end Go.E
/- A region that draws its order: sound. -/
set_option linter.unusedSimpArgs false
set_option linter.unusedVariables false
namespace Go.E
open Go

section
variable {P : Program} {L : Lk} {callf : CallF} {ops : Array Oper} {T : Tab P L callf ops} {β0 β β' : Emb} {w0 w w' : World} {S : Nat → Prop} {μ μ' : View} {j : Nat} {a : Act}

structure TInv [Sym] (T : Tab P L callf ops) (S : Nat → Prop) (β : Emb) (a : Act) : Prop where
  tn : (T.θ 0).n = a.tmps.size
  td : ∀ (t i : Nat) o, S i → ops[i]? = some o → o.dst = some t → t < (T.θ 0).n → VR β (T.v i) (a.tmps.getD t undef)
  tu : ∀ (t : Nat), ((T.θ 0).n ≤ t ∨ ∀ (i : Nat) o, S i → ops[i]? = some o → o.dst ≠ some t) → VR β ((T.θ 0).get t) (a.tmps.getD t undef)
  defers : a.defers = []

theorem put_n (τ : Tm) (d : Option Tmp) (v : Value) : (τ.put d v).n = τ.n := by
  unfold Tm.put
  cases d with
  | none => rfl
  | some d => simp only; cases Nat.blt d τ.n <;> rfl
theorem put_get (τ : Tm) (d t : Nat) (v : Value) : (τ.put (some d) v).get t = if d = t ∧ t < τ.n then v else τ.get t := by
  unfold Tm.put
  simp only
  cases hb : Nat.blt d τ.n with
  | false =>
    have : ¬ d < τ.n := by rw [← Nat.blt_eq, hb]; simp
    rw [if_neg (by rintro ⟨rfl, h⟩; exact this h)]; rfl
  | true =>
    rw [Nat.blt_eq] at hb
    simp only [cond_true, Tm.get, PT.get_upd]
    by_cases e : d = t
    · subst e; simp [hb]
    · simp [e]
theorem put_get_ne (τ : Tm) (d : Option Tmp) (t : Nat) (v : Value) (h : d ≠ some t) : (τ.put d v).get t = τ.get t := by
  cases d with
  | none => rfl
  | some d =>
    rw [put_get, if_neg]
    rintro ⟨rfl, _⟩
    exact h rfl
theorem put_get_big (τ : Tm) (d : Option Tmp) (t : Nat) (v : Value) (h : τ.n ≤ t) : (τ.put d v).get t = τ.get t := by
  cases d with
  | none => rfl
  | some d => rw [put_get, if_neg (by omega)]

theorem theta_n (h : TabOk T) : ∀ k, k ≤ ops.size → (T.θ k).n = (T.θ 0).n
  | 0, _ => rfl
  | k + 1, hk => by
    obtain ⟨o, hr⟩ := h.row k (by omega)
    rw [hr.θ, put_n]; exact theta_n h k (by omega)
theorem theta_u (h : TabOk T) {t : Nat} : ∀ k, k ≤ ops.size → ((T.θ 0).n ≤ t ∨ ∀ (i : Nat) o, i < k → ops[i]? = some o → o.dst ≠ some t) → (T.θ k).get t = (T.θ 0).get t
  | 0, _, _ => rfl
  | k + 1, hk, hh => by
    obtain ⟨o, hr⟩ := h.row k (by omega)
    rw [hr.θ]
    rcases hh with h1 | h1
    · rw [put_get_big _ _ _ _ (by rw [theta_n h k (by omega)]; exact h1)]
      exact theta_u h k (by omega) (.inl h1)
    · rw [put_get_ne _ _ _ _ (h1 k o (by omega) hr.op)]
      exact theta_u h k (by omega) (.inr fun i o' hi ho => h1 i o' (by omega) ho)
theorem op_eq {i : Nat} {o o' : Oper} (hr : RowOk P L callf ops T i o) (ho : ops[i]? = some o') : o' = o := by
  have := hr.op; rw [ho] at this; exact Option.some.inj this
theorem theta_d (h : TabOk T) {t i : Nat} {o : Oper} (ho : ops[i]? = some o) (hd : o.dst = some t) (ht : t < (T.θ 0).n) : ∀ k, k ≤ ops.size → i < k → (T.θ k).get t = T.v i
  | 0, _, h1 => by omega
  | k + 1, hk, hi => by
    obtain ⟨ok, hr⟩ := h.row k (by omega)
    rw [hr.θ]
    by_cases e : i = k
    · subst e
      have := op_eq hr ho
      subst this
      rw [hd, put_get, if_pos ⟨rfl, by rw [theta_n h _ (by omega)]; exact ht⟩]
    · obtain ⟨oi, hir⟩ := h.row i (by omega)
      have := op_eq hir ho
      subst this
      have hne := (pair h (by omega : i < k) (by omega) hir hr).2 t hd
      rw [put_get_ne _ _ _ _ hne]
      exact theta_d h ho hd ht k (by omega) (by omega)

theorem looks_rel [Sym] (h : TabOk T) (hd : Down T S) (hr : Ready T S j) (ht : TInv T S β a) {oj : Oper} (hjr : RowOk P L callf ops T j oj) {t : Nat} (hl : t ∈ oj.looksAt ops) :
    VR β ((T.θ j).get t) (a.tmps.getD t undef) := by
  by_cases hn : (T.θ 0).n ≤ t
  · rw [theta_u h j (by have := hr.1; omega) (.inl hn)]
    exact ht.tu t (.inl hn)
  · by_cases hex : ∃ (i : Nat) (o : Oper), i < j ∧ ops[i]? = some o ∧ o.dst = some t
    · obtain ⟨i, o, hi, ho, hdst⟩ := hex
      obtain ⟨oi, hir⟩ := h.row i (by have := hr.1; omega)
      have := op_eq hir ho
      subst this
      rw [theta_d h ho hdst (by omega) j (by have := hr.1; omega) hi]
      by_cases hs : S i
      · exact ht.td t i o hs ho hdst (by omega)
      · obtain ⟨_, hap⟩ := apart_ahead h hd hr hir hjr hi hs
        exact absurd hl ((Oper.apart_spec hap).1 t hdst)
    · have hno : ∀ (i : Nat) o, i < j → ops[i]? = some o → o.dst ≠ some t := fun i o hi ho hdst => hex ⟨i, o, hi, ho, hdst⟩
      rw [theta_u h j (by have := hr.1; omega) (.inr hno)]
      refine ht.tu t (.inr fun i o hs ho hdst => ?_)
      rcases Nat.lt_trichotomy i j with h1 | h1 | h1
      · exact hno i o h1 ho hdst
      · subst h1; exact hr.2.1 hs
      · obtain ⟨oi, hir⟩ := h.row i (hd i hs).1
        have := op_eq hir ho
        subst this
        obtain ⟨_, hap⟩ := apart_behind h hd hr hir hjr h1 hs
        exact (Oper.apart_spec hap).2.2 t hdst hl

theorem act_put_ne (a : Act) (d : Option Tmp) (t : Nat) (v : Value) (h : d ≠ some t) : (a.put d v).tmps.getD t undef = a.tmps.getD t undef := by
  cases d with
  | none => rfl
  | some d =>
    have : d ≠ t := fun e => h (by rw [e])
    simp [Act.put, Array.getElem?_setIfInBounds_ne this]
theorem act_put_big (a : Act) (d : Option Tmp) (t : Nat) (v : Value) (h : a.tmps.size ≤ t) : (a.put d v).tmps.getD t undef = a.tmps.getD t undef := by
  cases d with
  | none => rfl
  | some d =>
    have h2 : ¬ t < a.tmps.size := by omega
    simp [Act.put, h2]
theorem act_put_self (a : Act) (t : Nat) (v : Value) (h : t < a.tmps.size) : (a.put (some t) v).tmps.getD t undef = v := by simp [Act.put, h]

theorem tinv_put [Sym] (h : TabOk T) (hd : Down T S) (hr : Ready T S j) (ht : TInv T S β a) {oj : Oper} (hjr : RowOk P L callf ops T j oj) (hb : ∀ i p, β i = some p → β' i = some p) {v' : Value} (hv : VR β' (T.v j) v') :
    TInv T (fun i => i = j ∨ S i) β' (a.put oj.dst v') where
  tn := by rw [ht.tn]; cases oj.dst <;> simp [Act.put]
  td := fun t i o hs ho hdst hlt => by
    rcases hs with rfl | hs
    · have := op_eq hjr ho
      subst this
      rw [hdst, act_put_self _ _ _ (by rw [← ht.tn]; exact hlt)]
      exact hv
    · obtain ⟨oi, hir⟩ := h.row i (hd i hs).1
      have := op_eq hir ho
      subst this
      have hne : oj.dst ≠ some t := by
        rcases Nat.lt_trichotomy i j with h1 | h1 | h1
        · exact (pair h h1 hr.1 hir hjr).2 t hdst
        · subst h1; exact absurd hs hr.2.1
        · intro e; exact (pair h h1 (hd i hs).1 hjr hir).2 t e hdst
      rw [act_put_ne _ _ _ _ hne]
      exact (ht.td t i o hs ho hdst hlt).mono hb
  tu := fun t hh => by
    rcases hh with h1 | h1
    · rw [act_put_big _ _ _ _ (by rw [← ht.tn]; exact h1)]
      exact (ht.tu t (.inl h1)).mono hb
    · rw [act_put_ne _ _ _ _ (h1 j oj (.inl rfl) hjr.op)]
      exact (ht.tu t (.inr fun i o hs ho => h1 i o (.inr hs) ho)).mono hb
  defers := by rw [← ht.defers]; cases oj.dst <;> rfl

theorem wanted_loc [Sym] {τ : Tm} {o : Oper} (h : ∀ t ∈ o.looksAt ops, VR β (τ.get t) (a.tmps.getD t undef)) : Region.wanted o (yielded ops a.tmps) = wantedE ops.toList τ o := by
  unfold Region.wanted wantedE
  cases hg : o.guard with
  | none => rfl
  | some g =>
    obtain ⟨g, want⟩ := g
    simp only [yielded]
    have e : ops.toList[g]? = ops[g]? := by simp
    rw [e]
    cases hd : (ops[g]?).bind (·.dst) with
    | none => simp
    | some d =>
      simp only [Option.bind_some]
      have hv := h d (by unfold Oper.looksAt; rw [hg]; simp [hd])
      by_cases hlt : d < a.tmps.size
      · have hget : a.tmps.getD d undef = a.tmps[d] := by simp [hlt]
        have hq : a.tmps[d]? = some a.tmps[d] := Array.getElem?_eq_getElem hlt
        rw [hget] at hv
        rw [hq]
        generalize τ.get d = u at hv
        generalize a.tmps[d] = u2 at hv
        cases hv <;> first | (simp; done) | (rename_i i; rcases Sym.ok i with ⟨k, n, e'⟩ | ⟨s, e'⟩ | ⟨t, u, e'⟩ <;> simp [e'])
      · have hget : a.tmps.getD d undef = undef := by simp [hlt]
        have hq : a.tmps[d]? = none := Array.getElem?_eq_none (Nat.le_of_not_lt hlt)
        rw [hget] at hv
        rw [hq]
        generalize τ.get d = u at hv
        obtain ⟨xs, rfl⟩ := VR.of_tuple (ys := #[]) hv
        simp

theorem rho_loc [Sym] {τ : Tm} (hg : GOk β L) {x : Operand} {v : Value} (ht : ∀ t, x = .tmp t → VR β (τ.get t) (a.tmps.getD t undef)) (hx : rho L τ x = some v) : VR β v (a.eval x) := by
  cases x with
  | tmp t => simp only [rho, Option.some.injEq] at hx; subst hx; exact ht t rfl
  | const c =>
    simp only [rho] at hx
    cases hf : flat3 c with
    | false => simp [hf] at hx
    | true => simp [hf] at hx; subst hx; exact flat3_refl hf
  | global g =>
    simp only [rho] at hx
    cases hb : L.glob g with
    | false => simp [hb] at hx
    | true =>
      simp [hb] at hx; subst hx
      obtain ⟨p, hp, h1, h2⟩ := hg g hb
      have := VR.ptr (β := β) (k := 0) hp
      rw [h1, h2] at this
      exact this
  | func f => simp only [rho, Option.some.injEq] at hx; subst hx; exact flat1_refl rfl

/-- The operation that comes up. -/
theorem draw_step [Sym] (hL : L.Ok P) (hc : CallSound P L callf) {N : Nat} (h : TabOk T) (hb0 : ∀ x, β0 x ≠ none → x < (T.σ 0).next ∨ (T.σ ops.size).next ≤ x) (hN : (T.σ ops.size).next ≤ N) (hb0N : ∀ x, β0 x ≠ none → x < (T.σ 0).next ∨ N ≤ x) (hg0 : GOk β0 L)
    (hm : MInv T β0 w0 S β μ w) (ht : TInv T S β a) (hd : Down T S) (hr : Ready T S j) {Q : Exit → Act → World → Prop} {K : Act → World → Prop}
    (hk : ∀ a' w' β' μ', MInv T β0 w0 (fun i => i = j ∨ S i) β' μ' w' → TInv T (fun i => i = j ∨ S i) β' a' → K a' w') : wpOp P ops Q j K a w := by
  obtain ⟨oj, hjr⟩ := h.row j hr.1
  unfold wpOp
  simp only [hjr.op]
  have hlook := fun t hl => looks_rel h hd hr ht hjr (t := t) hl
  have hw := wanted_loc (β := β) (τ := T.θ j) hlook
  rw [hw]
  have hrun := hjr.run
  have hglob : GOk β L := fun g hg => let ⟨p, h1, h2⟩ := hg0 g hg; ⟨p, hm.ext _ _ h1, h2⟩
  cases hb : wantedE ops.toList (T.θ j) oj with
  | false =>
    rw [hb] at hrun
    simp only [cond_false, Option.some.injEq, Prod.mk.injEq] at hrun
    simp only [Bool.false_eq_true, if_false]
    refine hk _ _ β μ (minv_same h hm hd hr hb0 hrun.2.2.symm) (tinv_put h hd hr ht hjr (fun _ _ h => h) ?_)
    rw [← hrun.1]; exact VR.undef
  | true =>
    rw [hb] at hrun
    simp only [cond_true] at hrun
    simp only [if_true]
    left
    classical
    let ρ : Operand → Option Value := fun x => if x ∈ oj.op.operands then rho L (T.θ j) x else none
    have hcongr : opE P L callf (rho L (T.θ j)) oj (fresh (T.σ j)) = opE P L callf ρ oj (fresh (T.σ j)) := opE_congr fun x hx => by simp [ρ, hx]
    rw [hcongr] at hrun
    have hρ : ∀ x v, ρ x = some v → VR β v (a.eval x) := fun x v hx => by
      simp only [ρ] at hx
      split at hx
      · rename_i hmem
        refine rho_loc hglob (fun t et => ?_) hx
        subst et
        exact hlook t (by unfold Oper.looksAt; exact List.mem_append_left _ (List.mem_filterMap.2 ⟨.tmp t, by simpa using hmem, rfl⟩))
      · cases hx
    have hrun0 := hrun
    unfold opE at hrun
    split at hrun
    · rename_i u hu
      simp only [Option.some.injEq, Prod.mk.injEq] at hrun
      obtain ⟨hv, _, ho⟩ := hrun
      obtain ⟨v', hvr, hx⟩ := pure_sound (P := P) hL hρ hu
      refine OpOk.value (G := fun v' w' => VR β u v' ∧ w' = w) (hx w) ⟨hvr, rfl⟩ _ _ fun v' w' ⟨h1, h2⟩ => ?_
      subst h2
      exact hk _ _ β μ (minv_same h hm hd hr hb0 ho.symm) (tinv_put h hd hr ht hjr (fun _ _ h => h) (by rw [← hv]; exact h1))
    · split at hrun
      · rename_i ob vf hal
        simp only [Option.some.injEq, Prod.mk.injEq] at hrun
        obtain ⟨hv, _, ho⟩ := hrun
        obtain ⟨obj, d, s', z, v', hx, hok⟩ := alloc_sound (P := P) hL hρ hal w
        have hnx : (T.σ (j + 1)).next = (T.σ j).next + 1 := by rw [next_out h hr.1, ← ho]; rfl
        have hbn := new_none h hm hd hr hb0 (x := (T.σ j).next) (Nat.le_refl _) (by omega)
        obtain ⟨h1, h2⟩ := hok (β.add (T.σ j).next ⟨w.heap.size, 0, s', z⟩) (T.σ j).next (Emb.add_old hbn) Emb.add_self
        have hmm := minv_alloc h hm hd hr hb0 ho.symm (obj := obj) (s := s') (z := z) (d := d) h1
        refine OpOk.value (G := fun v1 w1 => v1 = v' ∧ w1 = { w with heap := w.heap.push obj, drawn := d }) hx ⟨rfl, rfl⟩ _ _ fun v1 w1 ⟨e1, e2⟩ => ?_
        subst e1; subst e2
        exact hk _ _ _ _ hmm (tinv_put h hd hr ht hjr (Emb.add_old hbn) (by rw [← hv]; exact h2))
      · split at hrun
        · rename_i i g hrd
          simp only [Option.bind_eq_some_iff, Option.map_eq_some_iff, Prod.mk.injEq] at hrun
          obtain ⟨ob, hob, v0, hv0, hv, hkd, ho⟩ := hrun
          obtain ⟨p, hp, hread⟩ := read_sound (P := P) hL hρ hrd
          have hob' : (T.σ j).mem.get i = some ob := hob
          have hag := agree_read h hm hd hr hjr hb0 (x := i) hkd.symm (by rw [hp]; simp) (by rw [hob']; simp)
          obtain ⟨obj, hh, hor⟩ := hm.rep.obj i p ob hp (by rw [hag]; exact hob')
          obtain ⟨v', hvr, hx⟩ := hread w ob obj _ hv0 hh hor
          refine OpOk.value (G := fun v' w' => VR β v0 v' ∧ w' = w) hx ⟨hvr, rfl⟩ _ _ fun v' w' ⟨h1, h2⟩ => ?_
          subst h2
          exact hk _ _ β μ (minv_same h hm hd hr hb0 ho.symm) (tinv_put h hd hr ht hjr (fun _ _ h => h) (by rw [← hv]; exact h1))
        · simp only [Option.map_eq_some_iff, Prod.mk.injEq] at hrun
          obtain ⟨⟨v0, s⟩, hg, hv, hkd, ho⟩ := hrun
          have hkd' : T.kd j = .gen := hkd.symm
          have ag : ∀ x, β x ≠ none → (T.σ j).mem.get x ≠ none → μ x = (T.σ j).mem.get x := fun x h1 h2 => agree_gen h hm hd hr hjr hb0 hkd' h1 h2
          simp only at ho
          have hle : (T.σ (j + 1)).next ≤ (T.σ ops.size).next := next_le h ops.size (j + 1) (by have := hr.1; omega) (Nat.le_refl _)
          rw [next_out h hr.1] at hle
          have hi : Inv (T.out j).next β L (fresh (T.σ j)) w := {
            rep := ⟨hm.rep.inb, fun x p ob h1 h2 => hm.rep.obj x p ob h1 (by
                have h2' : (T.σ j).mem.get x = some ob := h2
                rw [ag x (by rw [h1]; simp) (by rw [h2']; simp)]; exact h2'), fun x y p q h1 h2 h3 h4 h5 => hm.rep.inj x y p q h1 h2 (by rw [ag x (by rw [h1]; simp) h3]; exact h3) (by rw [ag y (by rw [h2]; simp) h4]; exact h4) h5⟩
            glob := hglob
            dom := fun x hx => by
              by_cases h1 : x < (T.σ j).next
              · exact .inl h1
              · right
                apply Classical.byContradiction
                intro h2
                exact hx (new_none h hm hd hr hb0 (by omega) (by rw [next_out h hr.1]; omega))
            wf := tab_wf h j (by have := hr.1; omega)
            bn := Nat.le_refl _ }
          rw [ho] at hg
          refine gen_sound hL hc hi (Nat.le_refl _) hρ hg _ _ fun v' w' ⟨β1, hp, hvr⟩ => ?_
          obtain ⟨μ1, hm1⟩ := minv_gen h hm hd hr hb0 hjr hkd' hp
          exact hk _ _ β1 μ1 hm1 (tinv_put h hd hr ht hjr hp.ext (by rw [← hv]; exact hvr))

/-! ### Every order -/
def InS (listed : Array Bool) (i : Nat) : Prop := listed.getD i false = true
theorem inS_set {listed : Array Bool} {j : Nat} (hj : j < listed.size) : InS (listed.setIfInBounds j true) = fun i => i = j ∨ InS listed i := by
  funext i
  apply propext
  unfold InS
  by_cases e : j = i
  · subst e; simp [hj]
  · simp [Array.getElem?_setIfInBounds_ne e, Ne.symm e]

theorem binding_eq (e : Edge) : Region.binds .any e = binding e := by
  unfold Region.binds binding
  cases e.ground <;> rfl

theorem all_listed (h : TabOk T) {listed : Array Bool} (hsz : listed.size = ops.size) (hd : Down T (InS listed)) (hr : Region.ready .any ops listed = []) : ∀ j, j < ops.size → InS listed j := by
  intro j
  induction j using Nat.strongRecOn with
  | _ j ih =>
    intro hj
    apply Classical.byContradiction
    intro hn
    obtain ⟨o, hjr⟩ := h.row j hj
    have : j ∈ Region.ready .any ops listed := by
      rw [mem_ready]
      refine ⟨?_, o, hjr.op, fun e he hb => ?_⟩
      · unfold InS at hn
        have hlt : j < listed.size := by omega
        simp [hlt] at hn ⊢
        exact hn
      · rw [binding_eq] at hb
        have hlt := hjr.edges e he hb
        exact ih e.on hlt (by omega)
    rw [hr] at this
    cases this

theorem draw_any [Sym] (hL : L.Ok P) (hc : CallSound P L callf) {N : Nat} (h : TabOk T) (hN : (T.σ ops.size).next ≤ N) (hb0N : ∀ x, β0 x ≠ none → x < (T.σ 0).next ∨ N ≤ x) (hg0 : GOk β0 L) {Q : Exit → Act → World → Prop}
    (hq : ∀ a' w' β' μ' S', MInv T β0 w0 S' β' μ' w' → TInv T S' β' a' → Down T S' → (∀ j, j < ops.size → S' j) → Q .normal a' w') :
    ∀ (fuel : Nat) (listed : Array Bool) (β : Emb) (μ : View) (a : Act) (w : World), listed.size = ops.size → listed.toList.count false = fuel → MInv T β0 w0 (InS listed) β μ w → TInv T (InS listed) β a → Down T (InS listed) →
      wpAny P .any ops Q fuel listed a w := by
  have hb0 : ∀ x, β0 x ≠ none → x < (T.σ 0).next ∨ (T.σ ops.size).next ≤ x := fun x hx => (hb0N x hx).imp id fun h => Nat.le_trans hN h
  intro fuel
  induction fuel with
  | zero =>
    intro listed β μ a w hsz hcount hm ht hd
    have hr : Region.ready .any ops listed = [] := by
      rw [List.eq_nil_iff_forall_not_mem]
      intro i hi
      have h1 := (mem_ready.1 hi).1
      have h2 : false ∈ listed.toList := by
        have hlt : i < listed.size := by
          apply Classical.byContradiction
          intro hc
          simp [Array.getElem?_eq_none (Nat.le_of_not_lt hc)] at h1
        simp [hlt] at h1
        rw [← h1]; simp
      rw [List.count_eq_zero] at hcount
      exact hcount h2
    exact ⟨hr, hq a w β μ _ hm ht hd (all_listed h hsz hd hr)⟩
  | succ fuel ih =>
    intro listed β μ a w hsz hcount hm ht hd
    refine ⟨fun hr => hq a w β μ _ hm ht hd (all_listed h hsz hd hr), fun j hj => ?_⟩
    obtain ⟨h1, o, ho, he⟩ := mem_ready.1 hj
    have hlt : j < ops.size := (Array.getElem?_eq_some_iff.1 ho).1
    have hlt' : j < listed.size := by omega
    have hfalse : listed[j] = false := by simpa [hlt'] using h1
    obtain ⟨oj, hjr⟩ := h.row j hlt
    have hoe := op_eq hjr ho
    subst hoe
    have hns : ¬ InS listed j := by unfold InS; simp [hlt', hfalse]
    have hr : Ready T (InS listed) j := ready_of h hd hlt hjr hns fun e he' hb => he e he' (by rw [binding_eq]; exact hb)
    refine draw_step hL hc h hb0 hN hb0N hg0 hm ht hd hr fun a' w' β' μ' hm' ht' => ?_
    have hset := inS_set hlt'
    refine ih (listed.setIfInBounds j true) β' μ' a' w' (by simpa using hsz) ?_ (by rw [hset]; exact hm') (by rw [hset]; exact ht') (by rw [hset]; exact down_add hd hr)
    rw [Array.toList_setIfInBounds, List.count_set (by simpa using hlt'), hcount]
    simp [hfalse]

theorem draw_sound [Sym] (hL : L.Ok P) (hmc : CallMono callf) (hc : CallSound P L callf) {N : Nat} {τ τ' : Tm} {st st' : St} {Q : Exit → Act → World → Prop} {id : Nat}
    (hdr : drawE P L callf ops ops.toList [] τ st = some (τ', st')) (hi : Inv N β L st w) (hN : st'.next ≤ N) (ht : TR β τ a)
    (hq : ∀ a' w' β', Post st st' β w β' w' → TR β' τ' a' → Q .normal a' w') : (Code.region id ops true).wp P Q a w := by
  refine wp_region_any hL.mixed ?_
  obtain ⟨T, _, t2, t3, t4, t5, t6⟩ := draw_tab ops.toList [] τ st τ' st' (fun j => by simp) hdr
  simp only [List.length_nil] at t2 t3 t6
  have h : TabOk T := ⟨fun j hj => t6 j (Nat.zero_le _) hj, hmc, by rw [t2]; exact hi.wf⟩
  have hempty : ∀ i, ¬ InS (Array.replicate ops.size false) i := fun i => by
    unfold InS
    by_cases hlt : i < ops.size <;> simp [hlt]
  refine draw_any (T := T) (β0 := β) (w0 := w) hL hc h (by rw [t4]; exact hN) (fun x hx => by rw [t2]; exact hi.dom x hx) hi.glob (fun a' w' β' μ' S' hm' ht' hd' hall => ?_) ops.size _ β st.mem.get a _ (by simp) (by simp) ?_ ?_ ?_
  · -- all are done
    have hmem : ∀ x, μ' x = st'.mem.get x := fun x => by
      have := hm'.agree x ops.size (Nat.le_refl _) (fun i hi' _ => hall i hi') (fun i hs _ => (hd' i hs).1)
      rw [t4] at this; exact this
    have hmem' : μ' = st'.mem.get := funext hmem
    subst hmem'
    have hle : ∀ j, j ≤ ops.size → st.next ≤ (T.σ j).next := fun j hj => by have := next_le h j 0 (Nat.zero_le _) hj; rw [t2] at this; exact this
    refine hq a' w' β' ⟨hm'.ext, fun x hx => ?_, hm'.rep, fun b hb => ?_, fun x hx => ?_, fun x p h1 h2 => ?_, hm'.size, hm'.os, hm'.tape, hm'.output⟩ ⟨?_, fun t => ?_, ht'.defers⟩
    · rcases hm'.dom x hx with h1 | ⟨j, hs, h1, h2⟩
      · exact .inl h1
      · have hj := (hd' j hs).1
        have := next_le h ops.size (j + 1) (by omega) (Nat.le_refl _)
        rw [t4] at this
        exact .inr ⟨Nat.le_trans (hle j (by omega)) h1, by omega⟩
    · rcases hm'.frame b hb with h1 | ⟨i, p, h1, h2, h3, h4⟩
      · exact .inl h1
      · rw [t2] at h3 h4; rw [t4] at h4
        exact .inr ⟨i, p, h1, h2, h3, h4⟩
    · -- logs
      have key : ∀ k, k ≤ ops.size → ∀ x, x ∈ (T.σ k).log → x ∈ st.log ∨ β x ≠ none := by
        intro k
        induction k with
        | zero => intro _ x hx; rw [t2] at hx; exact .inl hx
        | succ k ih =>
          intro hk x hx
          obtain ⟨o, hr⟩ := h.row k (by omega)
          rw [hr.σ] at hx
          simp only [merge, List.mem_append, List.mem_filter, Bool.and_eq_true, Nat.blt_eq] at hx
          rcases hx with ⟨h1, h2, _⟩ | h1
          · right
            have h3 := hm'.logd k (hall k (by omega)) x h1
            rcases hm'.dom x h3 with h4 | ⟨i, hs, h4, _⟩
            · exact h4
            · exfalso
              have h5 := hle i (by have := (hd' i hs).1; omega)
              rw [tab_base h k (by omega), t2] at h2
              have := hi.bn
              omega
          · exact ih (by omega) x h1
      have := key ops.size (Nat.le_refl _) x
      rw [t4] at this
      exact this hx
    · rcases hm'.fresh x p h1 h2 with h3 | ⟨i, q, h3, h4, h5, h6⟩
      · exact .inl h3
      · rw [t2] at h5 h6; rw [t4] at h6
        exact .inr ⟨i, q, h3, h4, h5, h6⟩
    · rw [← t5, theta_n h _ (Nat.le_refl _)]; exact ht'.tn
    · rw [← t5]
      by_cases hn : (T.θ 0).n ≤ t
      · rw [theta_u h _ (Nat.le_refl _) (.inl hn)]
        exact ht'.tu t (.inl hn)
      · by_cases hex : ∃ (i : Nat) (o : Oper), ops[i]? = some o ∧ o.dst = some t
        · obtain ⟨i, o, ho, hdst⟩ := hex
          have hlt := (Array.getElem?_eq_some_iff.1 ho).1
          rw [theta_d h ho hdst (by omega) _ (Nat.le_refl _) hlt]
          exact ht'.td t i o (hall i hlt) ho hdst (by omega)
        · rw [theta_u h _ (Nat.le_refl _) (.inr fun i o _ ho hdst => hex ⟨i, o, ho, hdst⟩)]
          exact ht'.tu t (.inr fun i o _ ho hdst => hex ⟨i, o, ho, hdst⟩)
  · -- nothing is done
    refine ⟨⟨hi.rep.inb, hi.rep.obj, hi.rep.inj⟩, fun _ _ h => h, fun x hx => .inl hx, fun x k hk h1 h2 => ?_, fun j hs => absurd hs (hempty j), fun _ _ => .inl rfl, (fun x p h1 h2 => by rw [h1] at h2; cases h2), Nat.le_refl _, rfl, rfl, rfl⟩
    have := untouched_to h (x := x) (i := 0) k (Nat.zero_le _) hk (fun i _ hik hti => hempty i (h1 i hik hti))
    rw [t2] at this
    exact this.symm
  · exact ⟨by rw [t3]; exact ht.n, fun t i o hs => absurd hs (hempty i), fun t _ => by rw [t3]; exact ht.vals t, ht.defers⟩
  · exact fun j hs => absurd hs (hempty j)
end
end Go.E
/- The evaluator is sound: what it tells of a call is what the model's machine comes to. -/
set_option linter.unusedSimpArgs false
set_option linter.unusedVariables false
namespace Go.E
open Go

section
variable {P : Program} {L : Lk}

theorem draw_mono {callf : CallF} (hT : CallMono callf) {ops : Array Oper} {τ τ' : Tm} {st st' : St} (hw : WF st) (h : drawE P L callf ops ops.toList [] τ st = some (τ', st')) : Mono st st' := by
  obtain ⟨T, _, t2, _, t4, _, t6⟩ := draw_tab ops.toList [] τ st τ' st' (fun j => by simp) h
  simp only [List.length_nil] at t2 t6
  have hT' : TabOk T := ⟨fun j hj => t6 j (Nat.zero_le _) hj, hT, by rw [t2]; exact hw⟩
  have key : ∀ k, k ≤ ops.size → Mono st (T.σ k) := by
    intro k
    induction k with
    | zero => intro _; rw [t2]; exact .refl _
    | succ k ih =>
      intro hk
      refine (ih (by omega)).trans ?_
      obtain ⟨o, hr⟩ := hT'.row k (by omega)
      have hm := tab_mono hT' (j := k) (by omega)
      have hbk := tab_base hT' k (by omega)
      rw [hr.σ]
      refine ⟨hm.next, rfl, fun i hi => by simp [merge, hi], fun i hi => ?_, fun i h1 h2 h3 => ?_, fun hw => hm.wf hw, fun i h1 h2 => hm.dead i h1 h2⟩
      · simp only [merge, List.mem_append, List.mem_filter, Bool.and_eq_true, Nat.blt_eq] at hi
        rcases hi with ⟨_, h2, _⟩ | h1
        · exact .inr h2
        · exact .inl h1
      · refine hm.keep i h1 h1 fun hi => h3 ?_
        simp only [merge, List.mem_append, List.mem_filter, Bool.and_eq_true, Nat.blt_eq, Bool.not_eq_true']
        by_cases hin : i ∈ (T.σ k).log
        · exact .inr hin
        · exact .inl ⟨hi, h2, by simpa using hin⟩
  have := key ops.size (Nat.le_refl _)
  rw [t4] at this
  exact this


/-! ### The code -/
def CodeMono (P : Program) (L : Lk) (n : Nat) : Prop := ∀ c τ st e τ' st', WF st → codeE P L n c τ st = some (e, τ', st') → Mono st st'

theorem con_checks {L : Lk} {st : St} {c : Con} (hb : (Nat.ble st.next c.A && Nat.ble c.A c.B && c.objs.all (fun x => Nat.ble c.A x.1 && Nat.blt x.1 c.B) && c.tabs.all (fun x => L.glob x.1 && Nat.blt x.1 c.A && eqTab (st.mem.get x.1) x.2)) = true) :
    st.next ≤ c.A ∧ c.A ≤ c.B ∧ (∀ x ∈ c.objs, c.A ≤ x.1 ∧ x.1 < c.B) ∧ ∀ x ∈ c.tabs, L.glob x.1 = true ∧ x.1 < c.A ∧ eqTab (st.mem.get x.1) x.2 = true := by
  simp only [Bool.and_eq_true, List.all_eq_true, Nat.ble_eq, Nat.blt_eq] at hb
  exact ⟨hb.1.1.1, hb.1.1.2, hb.1.2, fun x hx => ⟨(hb.2 x hx).1.1, (hb.2 x hx).1.2, (hb.2 x hx).2⟩⟩
theorem call_mono {rec : Code → Tm → St → Option (Ex × Tm × St)} (h : ∀ c τ st e τ' st', WF st → rec c τ st = some (e, τ', st') → Mono st st') : CallMono (callE L rec) := by
  intro f args st v st' hw hc
  unfold callE at hc
  split at hc
  · simp only [Option.some.injEq, Prod.mk.injEq] at hc
    obtain ⟨_, rfl⟩ := hc
    exact .refl _
  split at hc
  · rename_i c hcc
    cases hb : (Nat.ble st.next c.A && Nat.ble c.A c.B && c.objs.all (fun x => Nat.ble c.A x.1 && Nat.blt x.1 c.B) && c.tabs.all (fun x => L.glob x.1 && Nat.blt x.1 c.A && eqTab (st.mem.get x.1) x.2)) with
    | false => rw [hb] at hc; cases hc
    | true =>
      rw [hb] at hc
      simp only [cond_true, Option.some.injEq, Prod.mk.injEq] at hc
      obtain ⟨_, rfl⟩ := hc
      obtain ⟨h1, h2, h3, _⟩ := con_checks hb
      have hni : ∀ i, i < st.next → i ∉ c.objs.map (·.1) := fun i hi hm => by
        obtain ⟨x, hx, rfl⟩ := List.mem_map.1 hm
        have := (h3 x hx).1; omega
      refine ⟨by show st.next ≤ c.B; omega, rfl, fun _ h => h, fun _ h => .inl h, fun i hi _ _ => putAll_not _ _ _ (hni i hi), fun hwf i hi => ?_, fun i hi hn => ?_⟩
      · show (putAll c.objs st.mem).get i = none
        have hi' : c.B ≤ i := hi
        rw [putAll_not _ _ _ (fun hm => by obtain ⟨x, hx, rfl⟩ := List.mem_map.1 hm; have := (h3 x hx).2; omega)]
        exact hwf i (by omega)
      · show (putAll c.objs st.mem).get i = none
        rw [putAll_not _ _ _ (hni i hi)]; exact hn
  simp only [Option.bind_eq_some_iff] at hc
  obtain ⟨⟨j, fn⟩, _, c, _, hc⟩ := hc
  cases hb : Nat.ble args.length fn.ntmps with
  | false => rw [hb] at hc; cases hc
  | true =>
    rw [hb] at hc
    cases hpf : L.pureF f with
    | true =>
      rw [hpf] at hc
      simp only [cond_true, Option.bind_eq_some_iff] at hc
      obtain ⟨⟨e, τ, st1⟩, hr, hc⟩ := hc
      have hm := h _ _ _ _ _ _ (show WF { st with base := st.next, log := [] } from hw) hr
      have hst : st' = { st with next := st1.next } := by
        split at hc
        · cases hc
        · simp only [Option.bind_eq_some_iff] at hc
          obtain ⟨vs, _, hc⟩ := hc
          cases hq : (st1.log.isEmpty && flat3 (packE vs)) with
          | false => rw [hq] at hc; cases hc
          | true => rw [hq] at hc; cases hc; rfl
      subst hst
      exact ⟨hm.next, rfl, fun _ h => h, fun _ h => .inl h, fun _ _ _ _ => rfl, fun hwf i hi => hwf i (Nat.le_trans hm.next hi), fun _ _ h => h⟩
    | false =>
    rw [hpf] at hc
    simp only [cond_true, cond_false, Option.bind_eq_some_iff] at hc
    obtain ⟨⟨e, τ, st1⟩, hr, hc⟩ := hc
    have hm := h _ _ _ _ _ _ hw hr
    split at hc
    · cases hc
    · simp only [Option.map_eq_some_iff, Prod.mk.injEq] at hc
      obtain ⟨_, _, _, rfl⟩ := hc
      exact hm

theorem code_mono : ∀ n, CodeMono P L n
  | 0, c, τ, st, e, τ', st', _, h => by simp [codeE] at h
  | n + 1, c, τ, st, e, τ', st', hw, h => by
    have ih := code_mono n
    have hcall : CallMono (callE L (codeE P L n)) := call_mono ih
    unfold codeE at h
    split at h
    · simp only [Option.some.injEq, Prod.mk.injEq] at h; obtain ⟨_, _, rfl⟩ := h; exact .refl _
    · simp only [Option.some.injEq, Prod.mk.injEq] at h; obtain ⟨_, _, rfl⟩ := h; exact .refl _
    · simp only [Option.map_eq_some_iff, Prod.mk.injEq] at h
      obtain ⟨⟨τ1, st1⟩, hr, _, _, rfl⟩ := h
      exact ops_mono hcall _ _ _ _ _ hw hr
    · simp only [Option.map_eq_some_iff, Prod.mk.injEq] at h
      obtain ⟨⟨τ1, st1⟩, hr, _, _, rfl⟩ := h
      exact draw_mono hcall hw hr
    · simp only [Option.bind_eq_some_iff] at h
      obtain ⟨⟨e1, τ1, st1⟩, hr, h⟩ := h
      have hm := ih _ _ _ _ _ _ hw hr
      split at h
      · exact hm.trans (ih _ _ _ _ _ _ (hm.wf hw) h)
      · simp only [Option.some.injEq, Prod.mk.injEq] at h; obtain ⟨_, _, rfl⟩ := h; exact hm
    · simp only [Option.bind_eq_some_iff] at h
      obtain ⟨v, _, h⟩ := h
      split at h
      · exact ih _ _ _ _ _ _ hw h
      · exact ih _ _ _ _ _ _ hw h
      · cases h
    · simp only [Option.bind_eq_some_iff] at h
      obtain ⟨⟨e1, τ1, st1⟩, hr, h⟩ := h
      have hm := ih _ _ _ _ _ _ hw hr
      split at h
      · simp only [Option.some.injEq, Prod.mk.injEq] at h; obtain ⟨_, _, rfl⟩ := h; exact hm
      · simp only [Option.some.injEq, Prod.mk.injEq] at h; obtain ⟨_, _, rfl⟩ := h; exact hm
    · simp only [Option.bind_eq_some_iff] at h
      obtain ⟨⟨e1, τ1, st1⟩, hr, h⟩ := h
      have hm := ih _ _ _ _ _ _ hw hr
      split at h
      · exact hm.trans (ih _ _ _ _ _ _ (hm.wf hw) h)
      · simp only [Option.some.injEq, Prod.mk.injEq] at h; obtain ⟨_, _, rfl⟩ := h; exact hm
    · simp only [Option.some.injEq, Prod.mk.injEq] at h; obtain ⟨_, _, rfl⟩ := h; exact .refl _
    · simp only [Option.some.injEq, Prod.mk.injEq] at h; obtain ⟨_, _, rfl⟩ := h; exact .refl _
    · cases h

def exR : Ex → Exit
  | .normal => .normal
  | .exit id => .exit id
  | .ret => .ret

def CodeSound [Sym] (P : Program) (L : Lk) (n : Nat) : Prop := ∀ c τ st e τ' st', codeE P L n c τ st = some (e, τ', st') → ∀ N β a w (Q : Exit → Act → World → Prop), Inv N β L st w → st'.next ≤ N → TR β τ a →
  (∀ a' w' β', Post st st' β w β' w' → TR β' τ' a' → Q (exR e) a' w') → c.wp P Q a w


theorem tmOf_get : ∀ (vs : List Value) (k : Nat) (t : PT Value) (j : Nat), (tmOf vs k t).get j = if k ≤ j ∧ j < k + vs.length then vs[j - k]? else t.get j
  | [], k, t, j => by rw [if_neg (by simp only [List.length_nil]; omega)]; rfl
  | v :: vs, k, t, j => by
    simp only [tmOf, tmOf_get vs (k + 1), PT.get_upd, List.length_cons]
    by_cases h1 : j = k
    · subst h1; rw [if_neg (by omega), if_pos rfl, if_pos (by omega)]; simp
    · by_cases h2 : k + 1 ≤ j ∧ j < k + 1 + vs.length
      · rw [if_pos h2, if_pos (by omega)]
        have : j - k = (j - (k + 1)) + 1 := by omega
        rw [this, List.getElem?_cons_succ]
      · rw [if_neg h2, if_neg (by omega), if_neg (by omega)]

theorem enter_rel [Sym] {β : Emb} {vs vs' : List Value} {n : Nat} (h : VRs β vs vs') (hle : vs.length ≤ n) : TR β ⟨tmOf vs 0 .nil, n⟩ { tmps := vs'.toArray ++ Array.replicate (n - vs'.toArray.size) undef, defers := [] } where
  n := by have := h.1; simp; omega
  defers := rfl
  vals := fun t => by
    have hl := h.1
    simp only [Tm.get, tmOf_get, PT.get_nil, Nat.zero_add, Nat.zero_le, true_and, Nat.sub_zero]
    by_cases ht : t < vs.length
    · rw [if_pos ht, List.getElem?_eq_getElem ht]
      simp only [Option.getD_some]
      have h1 : (vs'.toArray ++ Array.replicate (n - vs'.toArray.size) undef).getD t undef = vs'[t] := by
        simp only [Array.getD_eq_getD_getElem?]
        rw [Array.getElem?_append_left (by simp; omega)]
        simp [show t < vs'.length by omega]
      rw [h1]
      exact h.2 t _ _ (List.getElem?_eq_getElem ht) (List.getElem?_eq_getElem (by omega))
    · rw [if_neg ht]
      have h1 : (vs'.toArray ++ Array.replicate (n - vs'.toArray.size) undef).getD t undef = undef := by
        by_cases h2 : t < n
        · simp only [Array.getD_eq_getD_getElem?]
          rw [Array.getElem?_append_right (by simp; omega)]
          have h4 : t - vs'.toArray.size < n - vs'.toArray.size := by simp; omega
          simp only [List.size_toArray] at h4 ⊢
          rw [Array.getElem?_replicate, if_pos h4]
          rfl
        · have h3 : ¬ t < (vs'.toArray ++ Array.replicate (n - vs'.toArray.size) undef).size := by simp; omega
          simp only [Array.getD, h3, dif_neg, not_false_iff]
      rw [h1]; exact VR.undef

theorem pure_call [Sym] (hL : L.Ok P) {rec : Code → Tm → St → Option (Ex × Tm × St)}
    (h : ∀ c τ st e τ' st', rec c τ st = some (e, τ', st') → ∀ N β a w (Q : Exit → Act → World → Prop), Inv N β L st w → st'.next ≤ N → TR β τ a →
      (∀ a' w' β', Post st st' β w β' w' → TR β' τ' a' → Q (exR e) a' w') → c.wp P Q a w) {j N : Nat} {fn : Func} {c : Code} (h2 : P.funcs[j]? = some fn) (hb : fn.body = some c)
    {st st' : St} {β : Emb} {w : World} (hi : Inv N β L st w) {args args' : List Value} (hr : VRs β args args') (hN : st'.next ≤ N) (hle : args.length ≤ fn.ntmps) {v : Value}
    (hc : cond true ((rec c ⟨tmOf args 0 .nil, fn.ntmps⟩ { st with base := st.next, log := [] }).bind fun (e, τ, st1) => match e with
        | .exit _ => none
        | _ => (resultsE L fn.results.toList τ st1).bind fun vs => cond (st1.log.isEmpty && flat3 (packE vs)) (some (packE vs, { st with next := st1.next })) none)
      ((rec c ⟨tmOf args 0 .nil, fn.ntmps⟩ st).bind fun (e, τ, st) => match e with
        | .exit _ => none
        | _ => (resultsE L fn.results.toList τ st).map fun vs => (packE vs, st)) = some (v, st'))
    (hm : ∀ c τ st e τ' st', WF st → rec c τ st = some (e, τ', st') → Mono st st') :
    Calls P j args'.toArray w fun e w' => ∃ v', e = .returned v' ∧ ∃ β', Post st st' β w β' w' ∧ VR β' v v' := by
  simp only [cond_true, Option.bind_eq_some_iff] at hc
  obtain ⟨⟨e, τ, st1⟩, hrec, hc⟩ := hc
  have hres : (∀ id, e ≠ .exit id) ∧ ∃ vs, resultsE L fn.results.toList τ st1 = some vs ∧ st1.log = [] ∧ flat3 (packE vs) = true ∧ packE vs = v ∧ { st with next := st1.next } = st' := by
    have key : ∀ {x : Option (List Value)}, (x.bind fun vs => cond (st1.log.isEmpty && flat3 (packE vs)) (some (packE vs, { st with next := st1.next })) none) = some (v, st') → ∃ vs, x = some vs ∧ st1.log = [] ∧ flat3 (packE vs) = true ∧ packE vs = v ∧ { st with next := st1.next } = st' := by
      intro x hx
      simp only [Option.bind_eq_some_iff] at hx
      obtain ⟨vs, hvs, hx⟩ := hx
      cases hq : (st1.log.isEmpty && flat3 (packE vs)) with
      | false => rw [hq] at hx; cases hx
      | true =>
        rw [hq] at hx
        simp only [cond_true, Option.some.injEq, Prod.mk.injEq] at hx
        simp only [Bool.and_eq_true, List.isEmpty_iff] at hq
        exact ⟨vs, hvs, hq.1, hq.2, hx.1, hx.2⟩
    cases e with
    | exit id => cases hc
    | normal => exact ⟨(fun _ h => by cases h), key hc⟩
    | ret => exact ⟨(fun _ h => by cases h), key hc⟩
  obtain ⟨hne, vs, hvs, hlog, hfl, rfl, rfl⟩ := hres
  have hinv : Inv N β L { st with base := st.next, log := [] } w := ⟨hi.rep, hi.glob, hi.dom, hi.wf, Nat.le_refl _⟩
  have hmono := hm _ _ _ _ _ _ (show WF { st with base := st.next, log := [] } from hi.wf) hrec
  refine calls_of_wp h2 hb (h _ _ _ _ _ _ hrec N β _ w _ hinv hN (enter_rel hr hle) fun a' w' β' hp ht => ?_)
  obtain ⟨v', hrun, hv⟩ := results_rel hL (hinv.step hmono hp) ht hvs
  have hold : ∀ i p, β i = some p → st.mem.get i ≠ none → w'.heap[p.b]? = w.heap[p.b]? := fun i p hp1 hlive => by
    rcases hp.frame p.b (hi.rep.inb i p hp1) with h1 | ⟨k, q, h1, h2, h3, h4⟩
    · exact h1
    · rw [hlog] at h4
      rcases h4 with h4 | h4
      · cases h4
      · have h5 : st.next ≤ k := h4
        exact absurd (hi.wf k h5) h3
  have hpost : Post st { st with next := st1.next } β w β w' := {
    ext := fun _ _ h => h
    dom := fun _ h => .inl h
    rep := {
      inb := fun i p hpi => Nat.lt_of_lt_of_le (hi.rep.inb i p hpi) hp.size
      obj := fun i p ob hpi hob => by
        obtain ⟨obj, o1, o2⟩ := hi.rep.obj i p ob hpi hob
        exact ⟨obj, by rw [hold i p hpi (by rw [show st.mem.get i = some ob from hob]; simp)]; exact o1, o2⟩
      inj := hi.rep.inj }
    frame := fun b hb => by
      rcases hp.frame b hb with h1 | ⟨k, q, h1, h2, h3, h4⟩
      · exact .inl h1
      · rw [hlog] at h4
        rcases h4 with h4 | h4
        · cases h4
        · have h5 : st.next ≤ k := h4
          exact absurd (hi.wf k h5) h3
    logd := fun _ h => .inl h
    fresh := fun i p h1 h2 => by rw [h1] at h2; cases h2
    size := hp.size
    os := hp.os
    tape := hp.tape
    output := hp.output }
  have hv2 : VR β (packE vs) v' := by
    have := flat3_eq hfl hv
    subst this
    exact flat3_refl hfl
  cases e with
  | exit id => exact absurd rfl (hne id)
  | normal => exact ⟨ht.defers, v', hrun, v', rfl, β, hpost, hv2⟩
  | ret => exact ⟨ht.defers, v', hrun, v', rfl, β, hpost, hv2⟩

theorem call_sound [Sym] (hL : L.Ok P) (hC : ConOk P L) {rec : Code → Tm → St → Option (Ex × Tm × St)} (hm : ∀ c τ st e τ' st', WF st → rec c τ st = some (e, τ', st') → Mono st st')
    (h : ∀ c τ st e τ' st', rec c τ st = some (e, τ', st') → ∀ N β a w (Q : Exit → Act → World → Prop), Inv N β L st w → st'.next ≤ N → TR β τ a →
      (∀ a' w' β', Post st st' β w β' w' → TR β' τ' a' → Q (exR e) a' w') → c.wp P Q a w) : CallSound P L (callE L rec) := by
  intro f args st v st' hc N β w args' hi hN hr
  unfold callE at hc
  split at hc
  · rename_i u hu
    simp only [Option.some.injEq, Prod.mk.injEq] at hc
    obtain ⟨rfl, rfl⟩ := hc
    obtain ⟨e1, e2, e3⟩ := hL.ext _ _ _ hu
    have hargs : args' = args := by
      apply List.ext_getElem?
      intro i
      by_cases hi' : i < args.length
      · have hi2 : i < args'.length := by rw [← hr.1]; exact hi'
        rw [List.getElem?_eq_getElem hi', List.getElem?_eq_getElem hi2]
        congr 1
        exact flat3_eq (e1 _ (List.getElem_mem hi')) (hr.2 i _ _ (List.getElem?_eq_getElem hi') (List.getElem?_eq_getElem hi2))
      · rw [List.getElem?_eq_none (show args.length ≤ i by omega), List.getElem?_eq_none (show args'.length ≤ i by have := hr.1; omega)]
    subst hargs
    rcases e3 w with ⟨j, h1, h2⟩ | h1
    · left
      refine ⟨j, h1, h2.mono fun e w' ⟨he, hb⟩ => ⟨_, he, β, ⟨fun _ _ h => h, fun _ h => .inl h, ⟨fun i p h => Nat.lt_of_lt_of_le (hi.rep.inb i p h) hb.size, fun i p ob h1 h2 => ?_, hi.rep.inj⟩, fun b hlt => .inl (hb.block b hlt), fun _ h => .inl h, (fun i p h1 h2 => by rw [h1] at h2; cases h2), hb.size, hb.os, hb.tape, hb.output⟩, flat3_refl e2⟩⟩
      obtain ⟨obj, o1, o2⟩ := hi.rep.obj i p ob h1 h2
      exact ⟨obj, by rw [hb.block _ (hi.rep.inb i p h1)]; exact o1, o2⟩
    · right
      exact ⟨_, h1, β, .refl hi.rep, flat3_refl e2⟩
  split at hc
  · rename_i c hcc
    left
    cases hb : (Nat.ble st.next c.A && Nat.ble c.A c.B && c.objs.all (fun x => Nat.ble c.A x.1 && Nat.blt x.1 c.B) && c.tabs.all (fun x => L.glob x.1 && Nat.blt x.1 c.A && eqTab (st.mem.get x.1) x.2)) with
    | false => rw [hb] at hc; cases hc
    | true =>
      rw [hb] at hc
      simp only [cond_true, Option.some.injEq, Prod.mk.injEq] at hc
      obtain ⟨rfl, rfl⟩ := hc
      obtain ⟨h1, h2, h3, h4⟩ := con_checks hb
      obtain ⟨hfl, j, hj, hcalls⟩ := hC _ _ _ _ hcc
      have hargs : args' = args := by
        apply List.ext_getElem?
        intro i
        by_cases hi' : i < args.length
        · have hi2 : i < args'.length := by rw [← hr.1]; exact hi'
          rw [List.getElem?_eq_getElem hi', List.getElem?_eq_getElem hi2]
          congr 1
          exact flat3_eq (hfl _ (List.getElem_mem hi')) (hr.2 i _ _ (List.getElem?_eq_getElem hi') (List.getElem?_eq_getElem hi2))
        · rw [List.getElem?_eq_none (show args.length ≤ i by omega), List.getElem?_eq_none (show args'.length ≤ i by have := hr.1; omega)]
      subst hargs
      have hpl : ∀ x ∈ c.tabs, β x.1 = some ((β x.1).getD ⟨0, 0, 0, 0⟩) ∧ ((β x.1).getD ⟨0, 0, 0, 0⟩).b = x.1 ∧ ((β x.1).getD ⟨0, 0, 0, 0⟩).o = 0 := fun x hx => by
        obtain ⟨p, hp, a, b⟩ := hi.glob x.1 (h4 x hx).1
        rw [hp]; exact ⟨rfl, a, b⟩
      refine ⟨j, hj, (hcalls w (fun i => (β i).getD ⟨0, 0, 0, 0⟩) fun x hx => ⟨(hpl x hx).2.1, (hpl x hx).2.2, ?_⟩).mono fun e w' ⟨v', β', he, hp⟩ => ?_⟩
      · have h5 := (h4 x hx).2.2
        unfold eqTab at h5
        split at h5
        · rename_i a b ha hb'
          obtain ⟨rfl, hfl⟩ := eqVs_eq _ _ h5
          obtain ⟨obj, o1, o2⟩ := hi.rep.obj _ _ _ (hpl x hx).1 ha
          exact ⟨obj, by rw [(hpl x hx).2.1] at o1; exact o1, by rw [hb']; exact o2.table_flat hfl⟩
        · cases h5
      · obtain ⟨β'', a, b⟩ := con_post hi hN h1 h2 h3 (fun x hx => (h4 x hx).2.1) (fun x hx => (hpl x hx).1) hp
        exact ⟨v', he, β'', a, b⟩
  left
  simp only [Option.bind_eq_some_iff] at hc
  obtain ⟨⟨j, fn⟩, hf, c, hb, hc⟩ := hc
  obtain ⟨h1, h2⟩ := hL.func f j fn hf
  refine ⟨j, h1, ?_⟩
  cases hle : Nat.ble args.length fn.ntmps with
  | false => rw [hle] at hc; cases hc
  | true =>
    rw [hle] at hc
    simp only [Nat.ble_eq] at hle
    cases hpf : L.pureF f with
    | true => rw [hpf] at hc; exact pure_call hL h h2 hb hi hr hN hle hc hm
    | false =>
    rw [hpf] at hc
    simp only [cond_true, cond_false, Option.bind_eq_some_iff] at hc
    obtain ⟨⟨e, τ, st1⟩, hrec, hc⟩ := hc
    have hmono := hm _ _ _ _ _ _ hi.wf hrec
    have hres : (∀ id, e ≠ .exit id) ∧ ∃ vs, resultsE L fn.results.toList τ st1 = some vs ∧ packE vs = v ∧ st1 = st' := by
      cases e with
      | exit id => cases hc
      | normal => simp only [Option.map_eq_some_iff, Prod.mk.injEq] at hc; obtain ⟨vs, a1, a2, a3⟩ := hc; exact ⟨(fun _ h => by cases h), vs, a1, a2, a3⟩
      | ret => simp only [Option.map_eq_some_iff, Prod.mk.injEq] at hc; obtain ⟨vs, a1, a2, a3⟩ := hc; exact ⟨(fun _ h => by cases h), vs, a1, a2, a3⟩
    obtain ⟨hne, vs, hvs, rfl, rfl⟩ := hres
    refine calls_of_wp h2 hb (h _ _ _ _ _ _ hrec N β _ w _ hi hN (enter_rel hr hle) fun a' w' β' hp ht => ?_)
    obtain ⟨v', hrun, hv⟩ := results_rel hL (hi.step hmono hp) ht hvs
    cases e with
    | exit id => exact absurd rfl (hne id)
    | normal => exact ⟨ht.defers, v', hrun, v', rfl, β', hp, hv⟩
    | ret => exact ⟨ht.defers, v', hrun, v', rfl, β', hp, hv⟩

theorem least {p : Nat → Prop} (h : ∃ m, p m) : ∃ m, p m ∧ ∀ k, p k → m ≤ k := by
  obtain ⟨m, hm⟩ := h
  induction m using Nat.strongRecOn with
  | _ m ih =>
    by_cases hx : ∃ k, k < m ∧ p k
    · obtain ⟨k, h1, h2⟩ := hx; exact ih k h1 h2
    · exact ⟨m, hm, fun k hk => Nat.le_of_not_lt fun hlt => hx ⟨k, hlt, hk⟩⟩

theorem code_sound [Sym] (hL : L.Ok P) (hC : ConOk P L) (n : Nat) : CodeSound P L n := by
  induction n using Nat.strongRecOn with
  | _ n IH =>
  intro c τ st e τ' st' h N β a w Q hi hN ht hq
  cases n with
  | zero => simp [codeE] at h
  | succ n =>
    have ih : CodeSound P L n := IH n (Nat.lt_succ_self n)
    have hcm : CallMono (callE L (codeE P L n)) := call_mono (code_mono n)
    have hcs : CallSound P L (callE L (codeE P L n)) := call_sound hL hC (code_mono n) ih
    have h0 := h
    unfold codeE at h
    split at h
    · simp only [Option.some.injEq, Prod.mk.injEq] at h; obtain ⟨rfl, rfl, rfl⟩ := h
      exact wp_skip (hq a w β (.refl hi.rep) ht)
    · simp only [Option.some.injEq, Prod.mk.injEq] at h; obtain ⟨rfl, rfl, rfl⟩ := h
      exact wp_label (hq a w β (.refl hi.rep) ht)
    · rename_i id ops
      simp only [Option.map_eq_some_iff, Prod.mk.injEq] at h
      obtain ⟨⟨τ1, st1⟩, hr, rfl, rfl, rfl⟩ := h
      refine wp_region ?_
      have := ops_sound (Q := Q) hL hcm hcs (ops := ops) ops.toList 0 τ st τ1 st1 β a w (fun j => by simp) hr hi hN ht hq
      rw [List.range_eq_range']
      simpa using this
    · rename_i id ops
      simp only [Option.map_eq_some_iff, Prod.mk.injEq] at h
      obtain ⟨⟨τ1, st1⟩, hr, rfl, rfl, rfl⟩ := h
      exact draw_sound hL hcm hcs hr hi hN ht hq
    · rename_i x y
      simp only [Option.bind_eq_some_iff] at h
      obtain ⟨⟨e1, τ1, st1⟩, hr, h⟩ := h
      have hm1 := code_mono n _ _ _ _ _ _ hi.wf hr
      refine wp_seq ?_
      have rest : ∀ e1', e1 = e1' → (e1' ≠ .normal) → some (e1', τ1, st1) = some (e, τ', st') → x.wp P (Exit.then (y.wp P Q) Q) a w := by
        rintro e1' rfl hne h
        simp only [Option.some.injEq, Prod.mk.injEq] at h
        obtain ⟨rfl, rfl, rfl⟩ := h
        refine ih _ _ _ _ _ _ hr N β a w _ hi hN ht fun a' w' β' hp ht' => ?_
        have := hq a' w' β' hp ht'
        cases e1 with
        | normal => exact absurd rfl hne
        | exit id => exact this
        | ret => exact this
      cases e1 with
      | normal =>
        simp only at h
        have hm2 := code_mono n _ _ _ _ _ _ (hm1.wf hi.wf) h
        refine ih _ _ _ _ _ _ hr N β a w _ hi (Nat.le_trans hm2.next hN) ht fun a' w' β' hp ht' => ?_
        show y.wp P Q a' w'
        refine ih _ _ _ _ _ _ h N β' a' w' Q (hi.step hm1 hp) hN ht' fun a'' w'' β'' hp' ht'' => ?_
        exact hq a'' w'' β'' (Post.trans hi hm1 hm2 hN hp hp') ht''
      | exit id => exact rest _ rfl (fun h => by cases h) h
      | ret => exact rest _ rfl (fun h => by cases h) h
    · rename_i cnd x y
      simp only [Option.bind_eq_some_iff] at h
      obtain ⟨v, hv, h⟩ := h
      have hrv := rho_rel hi.glob ht cnd v hv
      split at h
      · refine wp_cond_true (by generalize a.eval cnd = u at hrv; cases hrv; rfl) (ih _ _ _ _ _ _ h N β a w Q hi hN ht hq)
      · refine wp_cond_false (by generalize a.eval cnd = u at hrv; cases hrv; rfl) (ih _ _ _ _ _ _ h N β a w Q hi hN ht hq)
      · cases h
    · rename_i id body
      simp only [Option.bind_eq_some_iff] at h
      obtain ⟨⟨e1, τ1, st1⟩, hr, h⟩ := h
      refine wp_block ?_
      cases e1 with
      | exit id' =>
        simp only [Option.some.injEq, Prod.mk.injEq] at h
        obtain ⟨he, rfl, rfl⟩ := h
        refine ih _ _ _ _ _ _ hr N β a w _ hi hN ht fun a' w' β' hp ht' => ?_
        have := hq a' w' β' hp ht'
        simp only [exR, Exit.inBlock]
        rw [beq_dec] at he
        by_cases e0 : id' = id
        · rw [decide_eq_true e0] at he
          simp only [cond_true] at he
          rw [if_pos e0]; rw [← he] at this; exact this
        · rw [decide_eq_false e0] at he
          simp only [cond_false] at he
          rw [if_neg e0]; rw [← he] at this; exact this
      | normal =>
        simp only [Option.some.injEq, Prod.mk.injEq] at h
        obtain ⟨rfl, rfl, rfl⟩ := h
        exact ih _ _ _ _ _ _ hr N β a w _ hi hN ht fun a' w' β' hp ht' => hq a' w' β' hp ht'
      | ret =>
        simp only [Option.some.injEq, Prod.mk.injEq] at h
        obtain ⟨rfl, rfl, rfl⟩ := h
        exact ih _ _ _ _ _ _ hr N β a w _ hi hN ht fun a' w' β' hp ht' => hq a' w' β' hp ht'
    · rename_i body
      -- a loop: the bound of the run counts the rounds
      let J : Nat → Act → World → Prop := fun m a1 w1 => m ≤ n + 1 ∧ ∃ τ1 st1 β1, codeE P L m (.loop body) τ1 st1 = some (e, τ', st') ∧ Mono st st1 ∧ Post st st1 β w β1 w1 ∧ TR β1 τ1 a1
      classical
      let μ : Act → World → Nat := fun a1 w1 => if hx : ∃ m, J m a1 w1 then Classical.choose (least hx) else 0
      refine wp_loop (fun a1 w1 => ∃ m, J m a1 w1) μ ⟨n + 1, Nat.le_refl _, τ, st, β, h0, .refl _, .refl hi.rep, ht⟩ fun a1 w1 hx => ?_
      have hμ : μ a1 w1 = Classical.choose (least hx) := dif_pos hx
      obtain ⟨hle, τ1, st1, β1, hrun, hmo, hpo, htr⟩ := (Classical.choose_spec (least hx)).1
      rw [← hμ] at hle hrun
      generalize μ a1 w1 = m at hle hrun
      cases m with
      | zero => simp [codeE] at hrun
      | succ m =>
        have hi1 := hi.step hmo hpo
        unfold codeE at hrun
        simp only [Option.bind_eq_some_iff] at hrun
        obtain ⟨⟨e1, τ2, st2⟩, hr, hrun⟩ := hrun
        have hm2 := code_mono m _ _ _ _ _ _ hi1.wf hr
        have ihm : CodeSound P L m := IH m (by omega)
        have rest : ∀ e1', e1 = e1' → (e1' ≠ .normal) → some (e1', τ2, st2) = some (e, τ', st') → body.wp P (Exit.then (fun a' w' => (∃ m, J m a' w') ∧ μ a' w' < m + 1) Q) a1 w1 := by
          rintro e1' rfl hne hrun
          simp only [Option.some.injEq, Prod.mk.injEq] at hrun
          obtain ⟨rfl, rfl, rfl⟩ := hrun
          refine ihm _ _ _ _ _ _ hr N β1 a1 w1 _ hi1 hN htr fun a2 w2 β2 hp2 ht2 => ?_
          have := hq a2 w2 β2 (Post.trans hi hmo hm2 hN hpo hp2) ht2
          cases e1 with
          | normal => exact absurd rfl hne
          | exit id => exact this
          | ret => exact this
        cases e1 with
        | normal =>
          simp only at hrun
          have hm3 := code_mono m _ _ _ _ _ _ (hm2.wf hi1.wf) hrun
          refine ihm _ _ _ _ _ _ hr N β1 a1 w1 _ hi1 (Nat.le_trans hm3.next hN) htr fun a2 w2 β2 hp2 ht2 => ?_
          have hJ : J m a2 w2 := ⟨by omega, τ2, st2, β2, hrun, hmo.trans hm2, Post.trans hi hmo hm2 (Nat.le_trans hm3.next hN) hpo hp2, ht2⟩
          show (∃ m, J m a2 w2) ∧ μ a2 w2 < m + 1
          refine ⟨⟨m, hJ⟩, ?_⟩
          have : μ a2 w2 = Classical.choose (least (⟨m, hJ⟩ : ∃ m, J m a2 w2)) := dif_pos (⟨m, hJ⟩ : ∃ m, J m a2 w2)
          rw [this]
          exact Nat.lt_succ_of_le ((Classical.choose_spec (least (⟨m, hJ⟩ : ∃ m, J m a2 w2))).2 m hJ)
        | exit id => exact rest _ rfl (fun h => by cases h) hrun
        | ret => exact rest _ rfl (fun h => by cases h) hrun
    · simp only [Option.some.injEq, Prod.mk.injEq] at h; obtain ⟨rfl, rfl, rfl⟩ := h
      exact wp_exit (hq a w β (.refl hi.rep) ht)
    · simp only [Option.some.injEq, Prod.mk.injEq] at h; obtain ⟨rfl, rfl, rfl⟩ := h
      exact wp_ret (hq a w β (.refl hi.rep) ht)
    · cases h

/-- **A call that the evaluator carries out, the machine carries out**, over whatever memory. -/
theorem run_sound [Sym] (hL : L.Ok P) (hC : ConOk P L) {n f : Nat} {args : List Value} {st st' : St} {v : Value} (h : runE P L n f args st = some (v, st')) {β : Emb} {w : World} {args' : List Value} (hi : Inv st'.next β L st w) (hr : VRs β args args')
    {fn : Func} (hf : L.func f = some (f, fn)) :
    Calls P f args'.toArray w fun e w' => ∃ v', e = .returned v' ∧ ∃ β', Post st st' β w β' w' ∧ VR β' v v' := by
  rcases call_sound hL hC (code_mono n) (code_sound hL hC n) f args st v st' h _ β w args' hi (Nat.le_refl _) hr with ⟨j, h1, h2⟩ | ⟨v', h1, _⟩
  · have := (hL.func f f fn hf).1 #[] w
    rw [h1 #[] w] at this
    cases this
    exact h2
  · have := (hL.func f f fn hf).1 args'.toArray w
    rw [h1] at this
    cases this
end
end Go.E
#print axioms Go.E.run_sound
