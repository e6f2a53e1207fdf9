/- append, copy, clear, the iterator, calls: sound. -/
import Derived.Test.YtfgdoliihmjnoaaDoorXE8
set_option linter.unusedSimpArgs false
set_option linter.unusedVariables false
namespace Go.E
open Go

section
variable {P : Program} {L : Lk} {β : Emb} {st st' : St} {w : World} {o : Oper} {a : Act} {N : Nat}

theorem run_app_room {t xt e ty : TypeId} {d : TypeDesc} {i : TypeInfo} (ht : P.underlying t = some (.slice e)) (hx : P.underlying xt = some d) (hd : ∀ k, d ≠ .int k) (hi : P.info? e = some i)
    {ad : Addr} {len cap n : Nat} {x' : Value} {new : List Value} {w' : World} (hn : ∀ w, (Builtin.lenOf x').run P w = .ok n w) (hf : (Builtin.firstCells i.size n x').run P w = .ok new.toArray w)
    (hroom : len + n ≤ cap) (hs : (storeCells (ad.add (len * i.size)) new).run P w = .ok () w') :
    (Builtin.append_ #[t, xt] ty #[.slice (some ad) len cap, x']).run P w = .ok (.slice (some ad) (len + n) cap) w' := by
  have hz : (match d with | .int _ => true | _ => false) = false := by cases d <;> first | rfl | exact absurd rfl (hd _)
  simp [Builtin.append_, run_underlying ht, run_underlying hx, run_size hi, hz, hn, hroom, hf, hs]

theorem run_app_grow {t xt e ty : TypeId} {d : TypeDesc} {i : TypeInfo} {z : Value} (ht : P.underlying t = some (.slice e)) (hx : P.underlying xt = some d) (hd : ∀ k, d ≠ .int k) (hi : P.info? e = some i) (hz : i.zero = some z)
    {base : Option Addr} {len cap n : Nat} {x' : Value} {old new : List Value} (hn : ∀ w, (Builtin.lenOf x').run P w = .ok n w) (hf : ∀ w2, w2.heap = w.heap → (Builtin.firstCells i.size n x').run P w2 = .ok new.toArray w2)
    (hfo : ∀ w2, w2.heap = w.heap → (Builtin.firstCells i.size len (.slice base len cap)).run P w2 = .ok old.toArray w2) (hroom : cap < len + n) (hb : (len + n + 1) * i.bytes ≤ 2 ^ 44) (h44 : len + n ≤ 2 ^ 44) (hb0 : 0 < i.bytes) :
    (Builtin.append_ #[t, xt] ty #[.slice base len cap, x']).run P w = .ok (.slice (some ⟨w.heap.size, 0, none⟩) (len + n) (grownCap w (len + n) cap e))
      (w.drew.alloc (.cells (old.toArray ++ new.toArray ++ Builtin.zeroCells z.cells (grownCap w (len + n) cap e - (len + n))) e)) := by
  have hzz : (match d with | .int _ => true | _ => false) = false := by cases d <;> first | rfl | exact absurd rfl (hd _)
  have h1 : ¬ (len + n ≤ cap) := by omega
  have h63 : ¬ (9223372036854775807 < ((len : Int) + (n : Int))) := by omega
  have hby : (len + n) * i.bytes ≤ 2 ^ 44 := Nat.le_trans (Nat.mul_le_mul_right _ (by omega)) hb
  have h48 : ¬ (281474976710656 < Builtin.nextslicecap (len + n) cap * i.bytes) := by
    have h2 := Nat.mul_le_mul_right i.bytes (nextcap_le hroom)
    rw [Nat.mul_assoc] at h2
    omega
  have hbz : ¬ i.bytes = 0 := by omega
  have e1 := hf w.drew rfl
  have e2 := hfo w.drew rfl
  simp [Builtin.append_, run_underlying ht, run_underlying hx, sizeOf, typeInfo, zeroValue, hi, hz, hzz, hn, h1, h63, h48, hbz, Question.forced, e1, e2, newRow, grownCap]
  congr 2
  apply Array.toList_inj.1
  simp

@[simp] theorem write_next (i : Nat) (ob : Option AObj) : (st.write i ob).next = st.next := rfl

theorem append_sound [Sym] (hL : L.Ok P) (hi : Inv N β L st w) (hN : st'.next ≤ N) {t xt : TypeId} {s x s' x' v : Value} (hs : VR β s s') (hx : VR β x x') (h : appendE L st t xt s x = some (v, st')) (ty : TypeId) :
    ∃ v' w' β', (Builtin.append_ #[t, xt] ty #[s', x']).run P w = .ok v' w' ∧ Post st st' β w β' w' ∧ VR β' v v' := by
  unfold appendE at h
  split at h
  · cases h
  · rename_i e d hd hu hux
    have hnint : ∀ k, d ≠ .int k := fun k hk => hd k hk
    simp only [Option.bind_eq_some_iff] at h
    obtain ⟨i, hi', z, hz, n, hn, h⟩ := h
    have hlen := fun w => len_rel (P := P) hn hx w
    have hut := hL.und _ _ hu
    have huxt := hL.und _ _ hux
    have hie := hL.info _ _ hi'
    split at h
    · -- the nil slice
      cases hs
      cases h0 : Nat.beq n 0 with
      | true =>
        rw [h0] at h
        simp only [cond_true, Option.some.injEq, Prod.mk.injEq] at h
        obtain ⟨rfl, rfl⟩ := h
        rw [beq_dec] at h0
        have hn0 : n = 0 := of_decide_eq_true h0
        subst hn0
        refine ⟨.slice none 0 0, w, β, ?_, .refl hi.rep, .slice0⟩
        have hzz : (match d with | .int _ => true | _ => false) = false := by cases d <;> first | rfl | exact absurd rfl (hnint _)
        have hf : ∃ r, (Builtin.firstCells i.size 0 x').run P w = .ok r w := by
          cases hx <;> first
            | (simp [lenE] at hn; done)
            | (simp [Builtin.firstCells, loadCells, loadCellsFrom]; done)
        obtain ⟨r, hr⟩ := hf
        simp [Builtin.append_, run_underlying hut, run_underlying huxt, run_size hie, hzz, hlen, hr]
      | false =>
        rw [h0] at h
        simp only [cond_false] at h
        cases hc : (Nat.ble ((n + 1) * i.bytes) (2 ^ 44) && Nat.ble n (2 ^ 44) && Nat.blt 0 i.bytes && Nat.blt 0 i.size && Nat.beq z.cells.size i.size && flat2 z) with
        | false => rw [hc] at h; cases h
        | true =>
          rw [hc] at h
          simp only [cond_true, Option.bind_eq_some_iff, Option.some.injEq, Prod.mk.injEq] at h
          obtain ⟨new, hnew, rfl, rfl⟩ := h
          simp only [Bool.and_eq_true, Nat.ble_eq, Nat.blt_eq, beq_dec, decide_eq_true_eq] at hc
          obtain ⟨⟨⟨⟨⟨hb, h44⟩, hb0⟩, hs0⟩, hzs⟩, hfz⟩ := hc
          have hn0 : n ≠ 0 := by rw [beq_dec] at h0; simpa using h0
          obtain ⟨hnl, new', hnr, hnf⟩ := first_rel (P := P) hi hn (Nat.le_refl _) hnew hx
          have hrun := run_app_grow (P := P) (w := w) (ty := ty) hut huxt hnint hie hz (base := none) (len := 0) (cap := 0) (old := []) hlen hnf (fun w2 _ => run_firstCells_none w2 _ _ _ _) (by omega) (by simpa using hb) (by omega) hb0
          simp only [Nat.zero_add] at hrun
          have hcap : n ≤ grownCap w n 0 e := Nat.le_add_right _ _
          have hsize : (#[] ++ new'.toArray ++ Builtin.zeroCells z.cells (grownCap w n 0 e - n)).size = grownCap w n 0 e * i.size := by
            have := hnr.1
            simp [zeroCells_size, hzs]
            rw [← this, hnl, ← Nat.add_mul]; congr 1; omega
          refine ⟨_, _, _, hrun, post_new (N := N) (s := (#[] ++ new'.toArray ++ Builtin.zeroCells z.cells (grownCap w n 0 e - n)).size) (z := i.size) hi hN ?_, ?_⟩
          · refine OR_new ?_ ?_ (by simp)
            · simp only [Array.empty_append, Array.toList_append]
              rw [List.take_append_of_le_length (by have := hnr.1; simp; omega), List.take_of_length_le (by have := hnr.1; simp; omega)]
              exact hnr.mono (Emb.add_old (dom_none hi hN))
            · have := hnr.1; simp; omega
          · exact .slice Emb.add_self (Nat.le_refl _) hcap (.inr rfl) (.inr ⟨by simp; omega, by simp only [Nat.zero_add]; rw [hsize]; exact Nat.le_refl _⟩)
    · -- a slice over a block
      rename_i j k len cap
      cases hs with
      | slice hp hl hcc hk hsp =>
      rename_i k' cap' p
      cases h0 : Nat.beq n 0 with
      | true =>
        rw [h0] at h
        simp only [cond_true, Option.some.injEq, Prod.mk.injEq] at h
        obtain ⟨rfl, rfl⟩ := h
        rw [beq_dec] at h0
        have hn0 : n = 0 := of_decide_eq_true h0
        subst hn0
        refine ⟨.slice (some ⟨p.b, k', none⟩) len cap', w, β, ?_, .refl hi.rep, .slice hp hl hcc hk hsp⟩
        have hf : (Builtin.firstCells i.size 0 x').run P w = .ok ([] : List Value).toArray w := by
          cases hx <;> first
            | (simp [lenE] at hn; done)
            | (simp [Builtin.firstCells, loadCells, loadCellsFrom]; done)
        exact run_app_room hut huxt hnint hie hlen hf (by omega) rfl
      | false =>
        rw [h0] at h
        simp only [cond_false] at h
        cases hc : (Nat.ble ((len + n + 1) * i.bytes) (2 ^ 44) && Nat.ble (len + n) (2 ^ 44) && Nat.blt 0 i.bytes && Nat.blt 0 i.size && Nat.beq z.cells.size i.size && flat2 z) with
        | false => rw [hc] at h; cases h
        | true =>
          rw [hc] at h
          simp only [cond_true] at h
          simp only [Bool.and_eq_true, Nat.ble_eq, Nat.blt_eq, beq_dec, decide_eq_true_eq] at hc
          obtain ⟨⟨⟨⟨⟨hb, h44⟩, hb0⟩, hs0⟩, hzs⟩, hfz⟩ := hc
          have hn0 : n ≠ 0 := by rw [beq_dec] at h0; simpa using h0
          split at h
          · rename_i c zz hm
            cases hc2 : (Nat.beq zz i.size && (Nat.blt cap (len + n) || Nat.ble (k + cap * i.size) c.length)) with
            | false => rw [hc2] at h; cases h
            | true =>
              rw [hc2] at h
              simp only [cond_true, Option.bind_eq_some_iff] at h
              obtain ⟨old, hold, new, hnew, h⟩ := h
              cases hone : new.all one with
              | false => rw [hone] at h; cases h
              | true =>
                rw [hone] at h
                simp only [cond_true, Option.some.injEq, Prod.mk.injEq] at h
                obtain ⟨rfl, rfl⟩ := h
                simp only [Bool.and_eq_true, Bool.or_eq_true, Nat.ble_eq, Nat.blt_eq, beq_dec, decide_eq_true_eq] at hc2
                obtain ⟨hzz, hcapc⟩ := hc2
                obtain ⟨hnl, new', hnr, hnf⟩ := first_rel (P := P) hi hn (Nat.le_refl _) hnew hx
                obtain ⟨obj, hh, hor⟩ := hi.rep.obj j p _ hp hm
                have hor0 := hor
                obtain ⟨arr, T, fr, rfl, a2, a3, a4, a5, a6⟩ := hor0
                have hlive : st.mem.get j ≠ none := by rw [hm]; simp
                have hjl := wf_lt hi.wf hlive
                have hdn := dom_none hi hN
                -- the old cells
                have holdlen := cut_len hold
                obtain ⟨old', hor', hoc⟩ : ∃ old', VRs β old old' ∧ ∀ w2, w2.heap = w.heap → (Builtin.firstCells i.size len (.slice (some ⟨p.b, k', none⟩) len cap')).run P w2 = .ok old'.toArray w2 := by
                  have := (first_rel (P := P) hi (x := .slice (some ⟨j, k, none⟩) len cap) (m := len) (n := len) (sz := i.size) (new := old) rfl (Nat.le_refl _) (by unfold firstE; simp only [hm]; exact hold) (.slice hp hl hcc hk hsp)).2
                  exact this
                have hnewlen : new'.length = n * i.size := by rw [← hnr.1]; exact hnl
                have holdlen' : old'.length = len * i.size := by rw [← hor'.1]; exact holdlen
                have logj : j ∈ ((st.write j none).new (.cells (old ++ new) i.size)).log ∨ st.base ≤ j := by
                  by_cases hb : j < st.base
                  · exact .inl (note_mem.2 (.inr ⟨rfl, hb⟩))
                  · exact .inr (by omega)
                by_cases hroom : len + n ≤ cap'
                · -- in place
                  have hspace : k' + cap' * i.size ≤ p.s := by
                    rcases hsp with h9 | ⟨_, h9⟩
                    · have h8 : k + cap * i.size ≤ c.length := hcapc.resolve_left (by omega)
                      have := hk.resolve_left (by omega)
                      rw [h9]; omega
                    · rw [a3, hzz] at h9; exact h9
                  have hfit : (len + n) * i.size ≤ cap' * i.size := Nat.mul_le_mul_right _ hroom
                  rw [Nat.add_mul] at hfit
                  obtain ⟨w', arr', hr, hh', hs', hw', hg'⟩ := run_stores (P := P) (o := k' + len * i.size) new' 0 arr w hh (by rw [a2]; exact a5) (by omega) (all_one_rel hnr hone)
                  have hadd : Addr.add ⟨p.b, k', none⟩ (len * i.size) = ⟨p.b, k' + len * i.size, none⟩ := by
                    unfold Addr.add; split
                    · rename_i h0; rw [h0]; rfl
                    · rfl
                  have hrun := run_app_room (P := P) (w := w) (ty := ty) (ad := ⟨p.b, k', none⟩) hut huxt hnint hie hlen (hnf w rfl) hroom (by rw [hadd]; exact hr)
                  refine ⟨_, w', β.add st.next ⟨p.b, k', p.s, i.size⟩, hrun, ?_, ?_⟩
                  · -- the post
                    have hob : OR (β.add st.next ⟨p.b, k', p.s, i.size⟩) ⟨p.b, k', p.s, i.size⟩ (.cells arr' T fr) (.cells (old ++ new) i.size) := by
                      refine ⟨arr', T, fr, rfl, hs'.trans a2, rfl, ?_, a5, fun m v hv => ?_⟩
                      · simp only [List.length_append, holdlen, hnl]; omega
                      · rw [hg']
                        by_cases hm1 : m < old.length
                        · rw [List.getElem?_append_left hm1] at hv
                          have hne : cap ≠ 0 := by
                            intro e
                            have : len = 0 := by omega
                            rw [holdlen, this] at hm1; omega
                          have hk1 := hk.resolve_left hne
                          rw [if_neg (by simp only [Nat.add_zero]; omega)]
                          obtain ⟨v', b1, b2⟩ := a6 _ v (cut_get hold hv)
                          refine ⟨v', ?_, b2.mono (Emb.add_old hdn)⟩
                          rw [← b1]; congr 1; simp only; omega
                        · rw [List.getElem?_append_right (by omega)] at hv
                          obtain ⟨y, hy, hyr⟩ := hnr.get hv
                          have hyl := (List.getElem?_eq_some_iff.1 hy).1
                          refine ⟨y, ?_, hyr.mono (Emb.add_old hdn)⟩
                          rw [if_pos (by simp only [Nat.add_zero]; omega), ← hy]
                          congr 1; simp only [Nat.add_zero]; omega
                    have other : ∀ m q, m ≠ j → β m = some q → st.mem.get m ≠ none → q.b ≠ p.b := fun m q hmj hq hlv e => hmj (hi.rep.inj m j q p hq hp hlv hlive e)
                    refine ⟨Emb.add_old hdn, fun m hmm => ?_, ⟨fun m q hq => ?_, fun m q ob hq hob' => ?_, fun m m' q q' h1 h2 h3 h4 h5 => ?_⟩, fun b hb' => ?_, fun m hmm => ?_, fun m q h1 h2 => ?_, by rw [hw'.size]; exact Nat.le_refl _, hw'.os, hw'.tape, hw'.output⟩
                    · by_cases e : m = st.next
                      · exact .inr ⟨by omega, by subst e; exact Nat.lt_succ_self _⟩
                      · left; simpa [Emb.add, e] using hmm
                    · rw [hw'.size]
                      rcases Emb.add_inv hq with ⟨_, rfl⟩ | ⟨_, hq⟩
                      · exact hi.rep.inb j p hp
                      · exact hi.rep.inb m q hq
                    · rcases Emb.add_inv hq with ⟨rfl, rfl⟩ | ⟨hne, hq⟩
                      · simp [St.new] at hob'; subst hob'
                        exact ⟨_, hh', hob⟩
                      · have hmj : m ≠ j := fun e => by subst e; simp [St.new, St.write, Ne.symm hne] at hob'
                        simp [St.new, St.write, Ne.symm hne, Ne.symm hmj] at hob'
                        obtain ⟨o', c1, c2⟩ := hi.rep.obj m q ob hq hob'
                        exact ⟨o', by rw [hw'.other _ (other m q hmj hq (by rw [hob']; simp))]; exact c1, c2.mono (Emb.add_old hdn)⟩
                    · have nl : ∀ m q, m ≠ st.next → β m = some q → ((st.write j none).new (.cells (old ++ new) i.size)).mem.get m ≠ none → m ≠ j ∧ st.mem.get m ≠ none := by
                        intro m q hne hq hlv
                        have hmj : m ≠ j := fun e => by subst e; simp [St.new, St.write, Ne.symm hne] at hlv
                        simp [St.new, St.write, Ne.symm hne, Ne.symm hmj] at hlv
                        exact ⟨hmj, hlv⟩
                      rcases Emb.add_inv h1 with ⟨e1, f1⟩ | ⟨e1, g1⟩ <;> rcases Emb.add_inv h2 with ⟨e2, f2⟩ | ⟨e2, g2⟩
                      · rw [e1, e2]
                      · have := nl m' q' e2 g2 h4
                        exact absurd (by rw [← h5, f1]) (other m' q' this.1 g2 this.2)
                      · have := nl m q e1 g1 h3
                        exact absurd (by rw [h5, f2]) (other m q this.1 g1 this.2)
                      · exact hi.rep.inj m m' q q' g1 g2 (nl m q e1 g1 h3).2 (nl m' q' e2 g2 h4).2 h5
                    · by_cases e : b = p.b
                      · exact .inr ⟨j, p, hp, e.symm, hlive, logj⟩
                      · exact .inl (hw'.other b e)
                    · rcases note_mem.1 hmm with h1 | ⟨rfl, _⟩
                      · exact .inl h1
                      · exact .inr (by rw [hp]; simp)
                    · rcases Emb.add_inv h1 with ⟨_, rfl⟩ | ⟨_, h1⟩
                      · exact .inr ⟨j, p, hp, rfl, hlive, logj⟩
                      · rw [h1] at h2; cases h2
                  · exact .slice (p := ⟨p.b, k', p.s, i.size⟩) Emb.add_self (Nat.le_refl _) hroom (.inr rfl) (.inr ⟨by simp; omega, hspace⟩)
                · -- a new array
                  have hrun := run_app_grow (P := P) (w := w) (ty := ty) hut huxt hnint hie hz (base := some ⟨p.b, k', none⟩) (len := len) (cap := cap') (old := old') hlen hnf hoc (by omega) hb h44 hb0
                  have hcap : len + n ≤ grownCap w (len + n) cap' e := Nat.le_add_right _ _
                  generalize hG : grownCap w (len + n) cap' e = G at hrun hcap
                  have hsize : (old'.toArray ++ new'.toArray ++ Builtin.zeroCells z.cells (G - (len + n))).size = G * i.size := by
                    simp [zeroCells_size, hzs, holdlen', hnewlen]
                    rw [← Nat.add_mul, ← Nat.add_mul]; congr 1; omega
                  have hwm : Mono st (st.write j none) := mono_write hjl hlive
                  have hi2 : Inv N β L (st.write j none) w := by
                    refine ⟨⟨hi.rep.inb, fun m q ob hq hob => ?_, fun m m' q q' h1 h2 h3 h4 => ?_⟩, hi.glob, hi.dom, hwm.wf hi.wf, hi.bn⟩
                    · by_cases e : j = m
                      · subst e; simp [St.write] at hob
                      · simp [St.write, e] at hob; exact hi.rep.obj m q ob hq hob
                    · have nz : ∀ m, (st.write j none).mem.get m ≠ none → st.mem.get m ≠ none := fun m hm1 => by
                        by_cases e : j = m
                        · subst e; simp [St.write] at hm1
                        · simpa [St.write, e] using hm1
                      exact hi.rep.inj m m' q q' h1 h2 (nz m h3) (nz m' h4)
                  have hkill : Post st (st.write j none) β w β w :=
                    ⟨fun _ _ h => h, fun _ h => .inl h, hi2.rep, fun _ _ => .inl rfl, fun m hm1 => by
                      rcases note_mem.1 hm1 with h1 | ⟨rfl, _⟩
                      · exact .inl h1
                      · exact .inr (by rw [hp]; simp), (fun m q h1 h2 => by rw [h1] at h2; cases h2), Nat.le_refl _, rfl, rfl, rfl⟩
                  have hnewp := post_new (L := L) (β := β) (st := st.write j none) (w := w) (d := w.drawn + 1) (obj := .cells (old'.toArray ++ new'.toArray ++ Builtin.zeroCells z.cells (G - (len + n))) e)
                    (s := (old'.toArray ++ new'.toArray ++ Builtin.zeroCells z.cells (G - (len + n))).size) (z := i.size) (ob := .cells (old ++ new) i.size) hi2 hN (by
                      refine OR_new ?_ ?_ (by simp)
                      · simp only [Array.toList_append]
                        rw [List.take_append_of_le_length (by simp [hor'.1, hnr.1]), List.take_of_length_le (by simp [hor'.1, hnr.1])]
                        exact (hor'.append hnr).mono (Emb.add_old hdn)
                      · simp [hor'.1, hnr.1])
                  refine ⟨_, _, _, hrun, Post.trans hi hwm mono_new hN hkill hnewp, ?_⟩
                  exact .slice (p := ⟨w.heap.size, 0, _, i.size⟩) Emb.add_self (Nat.le_refl _) hcap (.inr rfl) (.inr ⟨by simp; omega, by simp only [Nat.zero_add]; rw [hsize]; exact Nat.le_refl _⟩)
          · cases h
    · cases h
  · cases h
end
end Go.E
