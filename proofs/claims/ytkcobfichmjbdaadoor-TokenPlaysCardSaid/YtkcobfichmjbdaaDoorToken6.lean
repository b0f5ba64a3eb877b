/-
  WHAT IS PROVED: contracts of functions, and the plain law, for this proof. No further conditions.
-/
import Derived.Test.YtkcobfichmjbdaaDoorToken5
set_option linter.unusedVariables false
set_option linter.unusedSimpArgs false
namespace Go.D
open Go Go.Proofs

/-- A row of streams and their addresses. -/
def BK (w : World) (out : Slc) (bl : List (Int × List Int)) (G : Nat → Prop) : Prop :=
  ∃ ps : List (Int × Slc), Own w out 2 (bkC ps) ∧ ps.length = bl.length ∧ (∀ i (h : i < ps.length) (h' : i < bl.length), ps[i].1 = bl[i].1 ∧ intsAt w ps[i].2 bl[i].2 ∧ ∀ k, ownB ps[i].2 k → G k) ∧ ∀ k, ownB out k → ¬ G k
theorem BK.ext {N : Nat → Prop} {w w' : World} {out : Slc} {bl : List (Int × List Int)} {G : Nat → Prop} (h : BK w out bl G) (he : Ext N w w') (h1 : ∀ k, ownB out k → ¬ N k) (h2 : ∀ k, G k → ¬ N k) : BK w' out bl G := by
  obtain ⟨ps, g1, g2, g3, g4⟩ := h
  exact ⟨ps, g1.ext he h1, g2, fun i hi hi' => ⟨(g3 i hi hi').1, intsAt_ext (g3 i hi hi').2.1 he (fun k hk => h2 k ((g3 i hi hi').2.2 k hk)), (g3 i hi hi').2.2⟩, g4⟩
theorem BK.keep {w w' : World} {out : Slc} {bl : List (Int × List Int)} {G : Nat → Prop} (h : BK w out bl G) (he : Keep w w') : BK w' out bl G := h.ext he (fun _ _ h => h) (fun _ _ h => h)
theorem BK.nil (w : World) : BK w ⟨none, 0, 0⟩ [] (fun _ => False) := ⟨[], Own.nil _ _, rfl, fun i h => by simp at h, fun _ _ h => h⟩
theorem BK.len {w : World} {out : Slc} {bl : List (Int × List Int)} {G : Nat → Prop} (h : BK w out bl G) : out.l = bl.length := by
  obtain ⟨ps, g1, g2, _⟩ := h
  rw [bk_len g1, g2]
theorem BK.lt {w : World} {out : Slc} {bl : List (Int × List Int)} {G : Nat → Prop} (h : BK w out bl G) : ∀ k, ownB out k → k < w.heap.size := by
  obtain ⟨ps, g1, g2, _⟩ := h
  exact OwnLt g1
theorem BK.of {w : World} {out : Slc} {l : List Int} {L : Nat → List Int} {G : Nat → Prop} (h : Told w out l L G) (hn : ∀ k, ownB out k → ¬ G k) : BK w out (l.map fun x => (x, L x.toNat)) G := by
  obtain ⟨ps, g1, g2, g3⟩ := h
  refine ⟨ps, g1, by rw [g2]; simp, fun i hi hi' => ?_, hn⟩
  obtain ⟨q1, q2, q3⟩ := g3 i hi (by rw [← g2]; exact hi)
  rw [List.getElem_map]
  exact ⟨q1, q2, q3⟩
/-- One more is appended: its cells stand in a block of its own. -/
theorem BK.snoc {e : TypeId} {z : List Value} {w : World} {out t : Slc} {bl : List (Int × List Int)} {G : Nat → Prop} {n : Int} {l : List Int} {r : Nat} {T : TypeId} {K : Slc → World → Prop} (h : BK w out bl G) (hz : z.length = 2)
    (ht : intsAt w t l) (hto : ∀ k, ownB t k → ¬ ownB out k) (hb : w.heap[r]? = some (.cells ⟨[.int .i64 n, t.v]⟩ T)) (hlen : bl.length ≤ 2 ^ 20) (hG : ∀ k, G k → k < w.heap.size) (htl : ∀ k, ownB t k → k < w.heap.size)
    (hK : ∀ s' w', BK w' s' (bl ++ [(n, l)]) (fun k => G k ∨ ownB t k) → Ext (ownB out) w w' → (∀ k, ownB s' k → ownB out k ∨ w.heap.size ≤ k) → K s' w') : appendS 2 e z w out (.slc ⟨some ⟨r, 0, none⟩, 1, 1⟩) K := by
  obtain ⟨ps, g1, g2, g3, g4⟩ := h
  have hol := bk_len g1
  have hsrc : srcAt w 2 (.slc ⟨some ⟨r, 0, none⟩, 1, 1⟩) (bkC [(n, t)]) := srcAt_slc (Own.new (sz := 2) (n := 1) hb (.inl (by simp)) rfl).cells rfl
  refine appendS_own g1 (by omega) hz hsrc (bk_one _) (by simp only [Src.n]; omega) (fun s' w' q1 q2 q3 q4 => hK s' w' ?_ q2 q3)
  have q1' : Own w' s' 2 (bkC (ps ++ [(n, t)])) := by rw [bkC, List.flatMap_append]; exact q1
  refine ⟨ps ++ [(n, t)], q1', by simp [g2], fun i hi hi' => ?_, fun k hk => ?_⟩
  · by_cases hik : i < ps.length
    · obtain ⟨p1, p2, p3⟩ := g3 i hik (by rw [← g2]; exact hik)
      rw [List.getElem_append_left hik, List.getElem_append_left (by rw [← g2]; exact hik)]
      exact ⟨p1, intsAt_ext p2 q2 (fun k hk hh => g4 k hh (p3 k hk)), fun k hk => .inl (p3 k hk)⟩
    · have hie : i = ps.length := by simp at hi; omega
      subst hie
      rw [List.getElem_append_right (by omega), List.getElem_append_right (by omega)]
      simp only [g2, Nat.sub_self, List.getElem_cons_zero]
      exact ⟨trivial, intsAt_ext ht q2 (fun k hk hh => hto k hk hh), fun k hk => .inr hk⟩
  · rintro (h1 | h1)
    · rcases q3 k hk with h2 | h2
      · exact g4 k h2 h1
      · have := hG k h1; omega
    · rcases q3 k hk with h2 | h2
      · exact hto k h1 h2
      · have := htl k h1; omega

/-! ### what the program tells of all streams -/
def backsL (L : Nat → List Int) (k : Nat) : List (Int × List Int) := ((List.range k).filter fun x => decide (0 < (L x).length)).map fun (x : Nat) => ((x : Int), L x)
theorem backsL_succ (L : Nat → List Int) (k : Nat) : backsL L (k + 1) = backsL L k ++ (if 0 < (L k).length then [((k : Int), L k)] else []) := by
  rw [backsL, List.range_succ, List.filter_append, List.map_append, backsL]
  congr 1
  by_cases h : 0 < (L k).length
  · rw [if_pos h]; simp [h]
  · rw [if_neg h]; simp [h]
theorem backsL_len (L : Nat → List Int) (k : Nat) : (backsL L k).length ≤ k := by
  rw [backsL, List.length_map]
  exact Nat.le_trans (List.length_filter_le _ _) (by simp)

theorem Backs_spec (r : Nat) (F : Nat → Prop) (e n : Int) (sl : Nat → Slc) (L : Nat → List Int) (w : World) (h : SeqAt 4 w r F e n sl L) :
    Calls Tryd.prog fn_token_Sequencer_Backs ⟨[.pointer (some ⟨r, 0, none⟩)]⟩ w fun y w' => ∃ out G, y = .returned out.v ∧ BK w' out (backsL L 13) G ∧ Keep w w' ∧ (∀ k, G k → w.heap.size ≤ k) ∧ ∀ k, ownB out k → w.heap.size ≤ k := by
  refine token_Sequencer_Backs_ok _ ?_
  unfold token_Sequencer_Backs
  have hrow := h.o.rowFrom 2
  refine needSome_mk rfl ⟨sl 0, sl 1, sl 2, sl 3, sl 4, sl 5, sl 6, sl 7, sl 8, sl 9, sl 10, sl 11, sl 12, by rw [add_lit]; exact hrow, ?_⟩
  refine ⟨fun out i w20 => ∃ (k : Nat) (G : Nat → Prop), i = k ∧ k ≤ 13 ∧ Keep w w20 ∧ BK w20 out (backsL L k) G ∧ (∀ b, G b → w.heap.size ≤ b ∧ b < w20.heap.size) ∧ ∀ b, ownB out b → w.heap.size ≤ b, fun _ i _ => (13 - i).toNat,
    ⟨0, _, rfl, by omega, Ext.refl _ _, BK.nil _, fun _ h => h.elim, (by rintro b ⟨a, ha, _⟩; cases ha)⟩, ?_⟩
  rintro out i w20 ⟨k, G, rfl, hk, kp, hB, hG, hout⟩
  intros
  have z20 := kp.size
  refine BIf_dec (fun hlt => ?_) (fun hlt => ?_)
  · have hk13 : k < 13 := by omega
    refine ⟨by omega, by omega, sl k, ?_, ?_⟩
    · rw [show Int.toNat (k : Int) = k by omega]
      exact slices_get sl hk13
    obtain ⟨h1, h2, h3⟩ := h.s k hk13
    have h1l := h1.1
    refine BIf_dec (fun hpos => ?_) (fun hpos => ?_)
    · refine (CloneI_spec (sl k) (L k) w20 (intsAt_keep h1 kp) (by omega)).mono ?_
      rintro y w39 ⟨t, rfl, ht, htc, hft, htl, k39⟩
      refine ⟨t, rfl, newS_mk (fun r41 w42 hr41 hb41 k42 hs42 => ?_)⟩
      have z39 := k39.size
      have z42 := k42.size
      have k2 := k39.trans k42
      refine (hB.keep k2).snoc rfl (intsAt_keep ht k42) (fun b hb hh => by have := hft b hb; have := hB.lt b hh; omega) hb41 (by have := backsL_len L k; omega) (fun b hb => by have := (hG b hb).2; omega) (fun b hb => by have := htl b hb; omega) (fun s43 w44 hB' he hn => ?_)
      have z44 := he.size
      refine ⟨inR64 (by omega), ⟨k + 1, _, rfl, by omega, (kp.trans k2).ext he hout, by rw [backsL_succ, if_pos (by omega)]; exact hB', fun b hb => ?_, fun b hb => ?_⟩, by dsimp only; omega⟩
      · rcases hb with hb | hb
        · have := hG b hb; omega
        · have := hft b hb; have := htl b hb; omega
      · rcases hn b hb with h4 | h4
        · exact hout b h4
        · omega
    · exact ⟨inR64 (by omega), ⟨k + 1, G, rfl, by omega, kp, by rw [backsL_succ, if_neg (by omega), List.append_nil]; exact hB, hG, hout⟩, by dsimp only; omega⟩
  · obtain rfl : k = 13 := by omega
    exact ⟨out, G, rfl, hB, kp, fun b hb => (hG b hb).1, hout⟩

/-! ### the reference -/
theorem newest_spec (s : Slc) (l : List Int) (w : World) (h : intsAt w s l) (hc : s.l ≤ s.c) (hl : l.length ≤ 2 ^ 30) :
    Calls Tryd.prog fn_tidewaterref13_newest ⟨[s.v]⟩ w fun y w' => ∃ t : Slc, y = .returned t.v ∧ intsAt w' t (l.take 4) ∧ Fresh w t ∧ (∀ k, ownB t k → k < w'.heap.size) ∧ Keep w w' := by
  have hsl := h.1
  refine tidewaterref13_newest_ok _ ?_
  unfold tidewaterref13_newest
  have go : ∀ (s2 : Slc) (l2 : List Int) (r : Nat) (w3 : World), r = w.heap.size → w3.heap[r]? = some (.cells ⟨[]⟩ 3) → Keep w w3 → w3.heap.size = r + 1 → intsAt w3 s2 l2 → l2.length ≤ 2 ^ 30 → l2 = l.take 4 →
      appendS 1 3 [.int .i64 0] w3 ⟨some ⟨r, 0, none⟩, 0, 0⟩ (.slc s2) fun s5 w6 => ∃ t : Slc, Ending.returned s5.v = .returned t.v ∧ intsAt w6 t (l.take 4) ∧ Fresh w t ∧ (∀ k, ownB t k → k < w6.heap.size) ∧ Keep w w6 := by
    intro s2 l2 r w3 hr hb hk hs h2 hl2 he
    have ho : Own w3 ⟨some ⟨r, 0, none⟩, 0, 0⟩ 1 [] := Own.new (sz := 1) (n := 0) hb (.inl (by simp)) rfl
    refine appendS_own ho (by omega) rfl (srcAt_slc h2.2 (by simp [h2.1])) (one_ints l2) (by simp only [Src.n]; have := h2.1; omega) (fun s' w' g1 g2 g3 g4 => ?_)
    rw [List.nil_append] at g1
    refine ⟨s', rfl, by rw [← he]; exact g1.ints, fun b hb2 => ?_, OwnLt g1, hk.ext g2 (fun k hk2 => ?_)⟩
    · rcases g3 b hb2 with ⟨a, ha, rfl⟩ | h1
      · cases ha; show w.heap.size ≤ r; omega
      · have := hk.size; omega
    · obtain ⟨a, ha, rfl⟩ := hk2
      cases ha; show w.heap.size ≤ r; omega
  refine BIf_dec (fun h4 => ⟨by omega, by omega, by omega, by omega, newS_mk (fun r w3 hr hb hk hs => ?_)⟩) (fun h4 => newS_mk (fun r w3 hr hb hk hs => ?_))
  · have := intsAt_sub (intsAt_keep h hk) (lo := 0) (hi := 4) (c := s.c) (by omega) (by omega) (by omega)
    rw [List.drop_zero] at this
    exact go _ _ r w3 hr hb hk hs this (by simp; omega) rfl
  · exact go _ _ r w3 hr hb hk hs (intsAt_keep h hk) hl (by rw [List.take_of_length_le (by omega)])

theorem right13_spec (s : Slc) (l : List Int) (w : World) (h : intsAt w s l) (hl : l.length ≤ 2 ^ 40) :
    Calls Tryd.prog fn_tidewaterref13_right ⟨[s.v]⟩ w fun e w' => e = .returned (.bool (risesL l (-1))) ∧ w' = w := by
  have hsl := h.1
  refine tidewaterref13_right_ok _ ?_
  unfold tidewaterref13_right
  refine ⟨fun i w2 => w2 = w ∧ ∃ (k : Nat) (last : Int), i = k ∧ k ≤ l.length ∧ risesL (l.drop k) last = risesL l (-1) ∧ ((k = 0 ∧ last = -1) ∨ (0 < k ∧ l[k - 1]? = some last)), fun i _ => ((l.length : Int) - i).toNat, ⟨rfl, 0, -1, rfl, by omega, rfl, .inl ⟨rfl, rfl⟩⟩, ?_⟩
  rintro i w2 ⟨rfl, k, last, rfl, hk, hf, hlast⟩
  intros
  refine BIf_dec (fun hlt => ?_) (fun hlt => ?_)
  · have hkl : k < l.length := by omega
    obtain ⟨a, ha, hc⟩ := intsAt_cell h hkl
    rw [List.drop_eq_getElem_cons hkl, risesL] at hf
    have next : (last < l[k] ∧ 0 ≤ l[k] ∧ l[k] ≤ 12) → inR .i64 ((k : Int) + 1) ∧ (w2 = w2 ∧ ∃ (k' : Nat) (last : Int), ((k : Int) + 1) = k' ∧ k' ≤ l.length ∧ risesL (l.drop k') last = risesL l (-1) ∧ ((k' = 0 ∧ last = -1) ∨ (0 < k' ∧ l[k' - 1]? = some last))) ∧ ((l.length : Int) - ((k : Int) + 1)).toNat < ((l.length : Int) - (k : Int)).toNat := by
      intro hh
      rw [decide_eq_true hh, Bool.true_and] at hf
      exact ⟨inR64 (by omega), ⟨rfl, k + 1, l[k], rfl, hkl, hf, .inr ⟨by omega, by simp [hkl]⟩⟩, by omega⟩
    have no : ¬ (last < l[k] ∧ 0 ≤ l[k] ∧ l[k] ≤ 12) → Ending.returned (Value.bool false) = .returned (.bool (risesL l (-1))) ∧ w2 = w2 := by
      intro hh
      rw [decide_eq_false hh, Bool.false_and] at hf
      exact ⟨by rw [← hf], rfl⟩
    refine needSome_mk ha ⟨by omega, hlt, l[k], by rw [show Int.toNat (k : Int) * 1 = k by omega]; exact hc, BIf_dec (fun h1 => no (by omega)) (fun h1 => BIf_dec (fun h2 => no (by omega)) (fun h2 => BIf_dec (fun h3 => ?_) (fun h3 => ?_)))⟩
    · have hk1 : k - 1 < l.length := by omega
      obtain ⟨a2, ha2, hc2⟩ := intsAt_cell h hk1
      have hl2 : l[k - 1] = last := by
        rcases hlast with ⟨h4, _⟩ | ⟨_, h4⟩
        · omega
        · rw [List.getElem?_eq_getElem hk1] at h4; exact Option.some.inj h4
      refine ⟨inR64 (by omega), needSome_mk ha2 ⟨by omega, by omega, l[k - 1], by rw [show Int.toNat ((k : Int) - 1) * 1 = k - 1 by omega]; exact hc2, ?_⟩⟩
      rw [hl2]
      exact BIf_dec (fun h4 => no (by omega)) (fun h4 => next (by omega))
    · refine next ⟨?_, by omega, by omega⟩
      rcases hlast with ⟨_, h4⟩ | ⟨h4, _⟩
      · omega
      · omega
  · rw [List.drop_of_length_le (by omega), risesL] at hf
    exact ⟨by rw [← hf], rfl⟩

theorem refNewest_spec (r : Nat) (F : Nat → Prop) (e n : Int) (sl : Nat → Slc) (L : Nat → List Int) (x : Nat) (hx : x < 13) (w : World) (h : SeqAt 100 w r F e n sl L) :
    Calls Tryd.prog fn_tidewaterref13_Sequencer_Newest ⟨[.pointer (some ⟨r, 0, none⟩), .int .i64 (x : Int)]⟩ w fun y w' => ∃ t : Slc, y = .returned t.v ∧ intsAt w' t ((L x).take 4) ∧ Keep w w' := by
  refine tidewaterref13_Sequencer_Newest_ok _ _ ?_
  unfold tidewaterref13_Sequencer_Newest
  refine needSome_mk rfl ?_
  rw [show Int.toNat (x : Int) * 1 = x by omega, add_lit, add_lit]
  obtain ⟨h1, h2, h3, h4⟩ := h.s x hx
  refine ⟨by omega, by omega, sl x, by have := h.cx hx; simpa using this, ?_⟩
  refine (newest_spec (sl x) (L x) w h1 h4 (by omega)).mono ?_
  rintro y w6 ⟨t, rfl, ht, _, _, k6⟩
  exact ⟨t, rfl, t, rfl, ht, k6⟩

theorem refBacks_spec (r : Nat) (F : Nat → Prop) (e n : Int) (sl : Nat → Slc) (L : Nat → List Int) (w : World) (h : SeqAt 100 w r F e n sl L) :
    Calls Tryd.prog fn_tidewaterref13_Sequencer_Backs ⟨[.pointer (some ⟨r, 0, none⟩)]⟩ w fun y w' => ∃ out G, y = .returned out.v ∧ BK w' out (backsL (fun x => (L x).take 4) 13) G ∧ Keep w w' ∧ (∀ k, G k → w.heap.size ≤ k) ∧ ∀ k, ownB out k → w.heap.size ≤ k := by
  refine tidewaterref13_Sequencer_Backs_ok _ ?_
  unfold tidewaterref13_Sequencer_Backs
  refine newS_mk (fun r2 w3 hr2 hb2 k3 hs3 => ?_)
  have h' := h.keep k3
  have hrow := h'.o.rowFrom 2
  refine needSome_mk rfl ⟨sl 0, sl 1, sl 2, sl 3, sl 4, sl 5, sl 6, sl 7, sl 8, sl 9, sl 10, sl 11, sl 12, by rw [add_lit]; exact hrow, ?_⟩
  have o2 : ∀ b, ownB ⟨some ⟨r2, 0, none⟩, 0, 0⟩ b → b = r2 := by rintro b ⟨a, ha, rfl⟩; cases ha; rfl
  refine ⟨fun out i w20 => ∃ (k : Nat) (G : Nat → Prop), i = k ∧ k ≤ 13 ∧ Keep w w20 ∧ BK w20 out (backsL (fun x => (L x).take 4) k) G ∧ (∀ b, G b → w.heap.size ≤ b ∧ b < w20.heap.size) ∧ ∀ b, ownB out b → w.heap.size ≤ b, fun _ i _ => (13 - i).toNat,
    ⟨0, fun _ => False, rfl, by omega, k3, ⟨[], Own.new (sz := 2) (n := 0) hb2 (.inl (by simp)) rfl, rfl, fun i h => by simp at h, fun _ _ h => h⟩, fun _ h => h.elim, fun b hb => by have := o2 b hb; omega⟩, ?_⟩
  rintro out i w20 ⟨k, G, rfl, hk, kp, hB, hG, hout⟩
  intros
  have z20 := kp.size
  refine BIf_dec (fun hlt => ?_) (fun hlt => ?_)
  · have hk13 : k < 13 := by omega
    refine ⟨by omega, by omega, sl k, ?_, ?_⟩
    · rw [show Int.toNat (k : Int) = k by omega]
      exact slices_get sl hk13
    obtain ⟨h1, h2, h3, h4⟩ := h.s k hk13
    have h1l := h1.1
    refine BIf_dec (fun hpos => ?_) (fun hpos => ?_)
    · refine (newest_spec (sl k) (L k) w20 (intsAt_keep h1 kp) h4 (by omega)).mono ?_
      rintro y w39 ⟨t, rfl, ht, hft, htl, k39⟩
      refine ⟨t, rfl, newS_mk (fun r41 w42 hr41 hb41 k42 hs42 => ?_)⟩
      have z39 := k39.size
      have z42 := k42.size
      have k2 := k39.trans k42
      refine (hB.keep k2).snoc rfl (intsAt_keep ht k42) (fun b hb hh => by have := hft b hb; have := hB.lt b hh; omega) hb41 (by have := backsL_len (fun x => (L x).take 4) k; omega) (fun b hb => by have := (hG b hb).2; omega) (fun b hb => by have := htl b hb; omega) (fun s43 w44 hB' he hn => ?_)
      have z44 := he.size
      refine ⟨inR64 (by omega), ⟨k + 1, _, rfl, by omega, (kp.trans k2).ext he hout, by rw [backsL_succ, if_pos (by show 0 < ((L k).take 4).length; rw [List.length_take]; omega)]; exact hB', fun b hb => ?_, fun b hb => ?_⟩, by dsimp only; omega⟩
      · rcases hb with hb | hb
        · have := hG b hb; omega
        · have := hft b hb; have := htl b hb; omega
      · rcases hn b hb with h5 | h5
        · exact hout b h5
        · omega
    · exact ⟨inR64 (by omega), ⟨k + 1, G, rfl, by omega, kp, by rw [backsL_succ, if_neg (by show ¬ 0 < ((L k).take 4).length; rw [List.length_take]; omega), List.append_nil]; exact hB, hG, hout⟩, by dsimp only; omega⟩
  · obtain rfl : k = 13 := by omega
    exact ⟨out, G, rfl, hB, kp, fun b hb => (hG b hb).1, hout⟩

theorem SameBacks_spec (s t : Slc) (bl : List (Int × List Int)) (G H : Nat → Prop) (w : World) (hs : BK w s bl G) (ht : BK w t bl H) (hl : bl.length ≤ 2 ^ 20) (hll : ∀ b ∈ bl, b.2.length ≤ 2 ^ 40) :
    Calls Tryd.prog fn_tidewaterref06_SameBacks ⟨[s.v, t.v]⟩ w fun e w' => e = .returned (.bool true) ∧ Keep w w' := by
  have l1 := hs.len
  have l2 := ht.len
  refine tidewaterref06_SameBacks_ok _ _ ?_
  unfold tidewaterref06_SameBacks
  refine BIf_ndec (fun h => absurd (by rw [l1, l2]) h) (fun _ => ?_)
  refine ⟨fun i w2 => ∃ k : Nat, i = k ∧ k ≤ bl.length ∧ Keep w w2, fun i _ => ((bl.length : Int) - i).toNat, ⟨0, rfl, by omega, Ext.refl _ _⟩, ?_⟩
  rintro i w2 ⟨k, rfl, hk, kp⟩
  intros
  refine BIf_dec (fun hlt => ?_) (fun hlt => ⟨rfl, kp⟩)
  have hkl : k < bl.length := by omega
  obtain ⟨ps, g1, g2, g3, _⟩ := (hs.keep kp).keep (Ext.drew none0 w2)
  obtain ⟨qs, f1, f2, f3, _⟩ := (ht.keep kp).keep (Ext.drew none0 w2)
  obtain ⟨a, ha, hra⟩ := bk_row g1 (i := k) (by omega)
  obtain ⟨b, hb, hrb⟩ := bk_row f1 (i := k) (by omega)
  obtain ⟨p1, p2, _⟩ := g3 k (by omega) hkl
  obtain ⟨q1, q2, _⟩ := f3 k (by omega) hkl
  have ek : Int.toNat (k : Int) * 2 = k * 2 := by omega
  rw [ek]
  refine needSome_mk ha ⟨by omega, by omega, ps[k].1, by have := hra.1; rwa [Addr.add_add, Nat.add_zero] at this, needSome_mk hb ⟨by omega, by omega, qs[k].1, by have := hrb.1; rwa [Addr.add_add, Nat.add_zero] at this, ?_⟩⟩
  refine BIf_ndec (fun h => absurd (by rw [p1, q1]) h) (fun _ => needSome_mk ha ⟨by omega, by omega, ps[k].2, hra.2.1, needSome_mk hb ⟨by omega, by omega, qs[k].2, hrb.2.1, ?_⟩⟩)
  refine (SameInts_spec _ _ _ _ _ p2 q2 (hll _ (List.getElem_mem hkl))).mono ?_
  rintro e w46 ⟨rfl, k46⟩
  exact ⟨_, rfl, BIf_mk (fun h => by simp at h) (fun _ => ⟨inR64 (by omega), ⟨k + 1, rfl, hkl, (kp.drew).trans k46⟩, by dsimp only; omega⟩)⟩
end Go.D
