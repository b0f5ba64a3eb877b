/-
  WHAT IS PROVED: contracts of functions, and the plain law, for this proof. No further conditions.
-/
import Derived.Test.YtkcobfichmjbdaaDoorToken7
set_option linter.unusedVariables false
set_option linter.unusedSimpArgs false
namespace Go.D
open Go Go.Proofs

theorem refNew_spec (ep nx : Int) (s : Slc) (xs : List (Int × (Slc × List Int))) (w : World) (hx : rowsR rdBack w s xs) (hl : ∀ x ∈ xs, x.2.2.length ≤ 2 ^ 20) (hxl : xs.length ≤ 2 ^ 20) :
    Calls Tryd.prog fn_tidewaterref13_New ⟨[.int .i64 ep, .int .i64 nx, s.v]⟩ w fun x w' => Keep w w' ∧ match newR ep nx (xs.map fun x => (x.1, x.2.2)) with
      | some k => x = .returned (.tuple ⟨[.pointer none, .int .i64 ((k + 1 : Nat) : Int)]⟩)
      | none => ∃ r F sl, x = .returned (.tuple ⟨[.pointer (some ⟨r, 0, none⟩), .int .i64 0]⟩) ∧ SeqAt 100 w' r F ep nx sl (newL (xs.map fun x => (x.1, x.2.2))) ∧ w.heap.size ≤ r ∧ ∀ k, F k → w.heap.size ≤ k ∧ k < w'.heap.size := by
  have hsl := hx.1
  obtain ⟨bs, hbs⟩ : ∃ bs, bs = xs.map (fun x => (x.1, x.2.2)) := ⟨_, rfl⟩
  rw [← hbs]
  have hbl : bs.length = xs.length := by rw [hbs]; simp
  refine tidewaterref13_New_ok _ _ _ ?_
  unfold tidewaterref13_New
  refine ⟨fun w2 => w2 = w ∧ ¬ (ep < 0 ∨ 1073741824 < ep), BIf_dec (fun h1 => ⟨Ext.refl _ _, by rw [newR, if_pos (.inl h1)]; rfl⟩) (fun h1 => BIf_dec (fun h2 => ⟨Ext.refl _ _, by rw [newR, if_pos (.inr h2)]; rfl⟩) (fun h2 => ⟨rfl, by omega⟩)), ?_⟩
  rintro w5 ⟨rfl, hep⟩
  intros
  refine ⟨fun w2 => w2 = w5 ∧ ¬ (nx < 0 ∨ 4096 < nx), BIf_dec (fun h1 => ⟨Ext.refl _ _, by rw [newR, if_neg hep, if_pos (.inl h1)]; rfl⟩) (fun h1 => BIf_dec (fun h2 => ⟨Ext.refl _ _, by rw [newR, if_neg hep, if_pos (.inr h2)]; rfl⟩) (fun h2 => ⟨rfl, by omega⟩)), ?_⟩
  rintro w15 ⟨rfl, hnx⟩
  intros
  obtain ⟨hbad, hgood⟩ := newR_ok (bs := bs) hep hnx
  refine newS_mk (fun r24 w25 hr24 hb24 k25 hs25 => newS_mk (fun r26 w27 hr26 hb26 k27 hs27 => ?_))
  have S27 : SeqAt 100 w27 r24 (fun _ => False) ep nx (fun _ => ⟨none, 0, 0⟩) (newL []) := SeqAt.keep ⟨ObjAt.new' hb24, fun x hx => ⟨nil_ints _, (by rintro k ⟨a, ha, _⟩; cases ha), by simp [newL], Nat.le_refl _⟩, fun h => h⟩ k27
  refine ⟨fun lst i w32 => ∃ k : Nat, i = k ∧ k ≤ xs.length ∧ SeqAt 100 w32 r24 (fun _ => False) ep nx (fun _ => ⟨none, 0, 0⟩) (newL []) ∧ Keep w15 w32 ∧ Own w32 lst 1 (((bs.take k).map (·.1)).map intV) ∧ (∀ b, ownB lst b → w15.heap.size ≤ b ∧ b ≠ r24) ∧ ∀ b ∈ bs.take k, okB nx b = true, fun _ i _ => ((xs.length : Int) - i).toNat,
    ⟨0, rfl, by omega, S27, k25.trans k27, Own.new (sz := 1) (n := 0) hb26 (.inl (by simp)) rfl, by rintro b ⟨a, ha, rfl⟩; cases ha; exact ⟨by show w15.heap.size ≤ r26; omega, by show r26 ≠ r24; omega⟩, by simp⟩, ?_⟩
  rintro lst i w32 ⟨k, rfl, hk, hS0, kp, hst, hstb, hok⟩
  intros
  have hstl := hst.ints.1
  simp only [List.length_map, List.length_take] at hstl
  have z15 := kp.size
  refine BIf_dec (fun hlt => ?_) (fun hlt => ?_)
  · have hkx : k < xs.length := by omega
    obtain ⟨a, ha, hrow, hint, hcm, hlc⟩ := rdBack_get (rowsR_keep hx kp) hkx
    obtain ⟨_, _, _, hint0, _⟩ := rdBack_get hx hkx
    have hlk := hl _ (List.getElem_mem hkx)
    have hbk : bs.take (k + 1) = bs.take k ++ [(xs[k].1, xs[k].2.2)] := by
      rw [List.take_succ_eq_append_getElem (by omega)]; simp [hbs]
    have hmem : (xs[k].1, xs[k].2.2) ∈ bs := by rw [hbs]; exact List.mem_map.2 ⟨xs[k], List.getElem_mem hkx, rfl⟩
    refine needSome_mk ha ⟨by omega, hlt, _, _, by rw [show Int.toNat (k : Int) * 2 = k * 2 by omega]; exact hrow, ?_⟩
    generalize xs[k] = x at hrow hint hint0 hcm hlc hlk hbk hmem ⊢
    refine var_mk rfl rfl (fun r90 w92 hr90 o90 k92 hs92 => ⟨x.1, o90.cell 0 (by simp), newS_mk (fun r94 w95 hr94 hb94 k95 hs95 => ?_)⟩)
    have k2 := k92.trans k95
    have z95 := k2.size
    have hsrc : srcAt w95 1 (.slc ⟨some ⟨r94, 0, none⟩, 1, 1⟩) ([x.1].map intV) := srcAt_slc (Own.new (sz := 1) (n := 1) hb94 (.inl (by simp)) rfl).cells rfl
    refine appendS_own (hst.keep k2) (by omega) rfl hsrc (one_ints [x.1]) (by simp only [Src.n]; omega) (fun s96 w97 g1 g2 g3 g4 => ?_)
    rw [← List.map_append] at g1
    have z97 := g2.size
    have olt := OwnLt hst
    have o97 := (o90.keep k95).ext g2 (fun hh => by have := olt r90 hh; omega)
    have kp97 : Keep w15 w97 := (kp.trans k2).ext g2 (fun b hb => (hstb b hb).1)
    have hS97 := (hS0.keep k2).ext g2 (fun hh => (hstb r24 hh).2 rfl) (fun _ h => h.elim)
    have hr24lt : r24 < w32.heap.size := hS0.o.lt
    have hint97 : intsAt w97 x.2.1 x.2.2 := by
      by_cases h0 : x.2.2 = []
      · rw [h0] at hint ⊢; exact ⟨hint.1, .inl rfl⟩
      · refine intsAt_ext (intsAt_keep hint k2) g2 (fun b hb hh => ?_)
        have := intsAt_lt hint0 h0 b hb
        have := (hstb b hh).1
        omega
    have hxl2 := hint97.1
    refine ⟨x.2.1, o97.cell 1 (by simp), x.2.1, o97.cell 1 (by simp), ?_⟩
    refine ⟨fun ok i w104 => w104 = w97 ∧ ∃ j : Nat, i = j ∧ j ≤ x.2.2.length ∧ ok = (decide (x.2.2.length ≤ 4) && fallsL (x.2.2.take j) nx), fun _ i _ => ((x.2.2.length : Int) - i).toNat, ⟨rfl, 0, rfl, by omega, ?_⟩, ?_⟩
    · rw [hxl2, List.take_zero, fallsL, Bool.and_true]
      rw [decide_eq_decide]; omega
    rintro ok i w104 ⟨rfl, j, rfl, hj, rfl⟩
    intros
    refine BIf_dec (fun hlt2 => ?_) (fun hlt2 => ?_)
    · have hjl : j < x.2.2.length := by omega
      obtain ⟨a2, ha2, hc2⟩ := intsAt_cell hint97 hjl
      have htj : x.2.2.take (j + 1) = x.2.2.take j ++ [x.2.2[j]] := List.take_succ_eq_append_getElem hjl
      have next : ∀ ok' : Bool, ok' = (decide (x.2.2.length ≤ 4) && fallsL (x.2.2.take (j + 1)) nx) → inR .i64 ((j : Int) + 1) ∧ (w104 = w104 ∧ ∃ j' : Nat, ((j : Int) + 1) = j' ∧ j' ≤ x.2.2.length ∧ ok' = (decide (x.2.2.length ≤ 4) && fallsL (x.2.2.take j') nx)) ∧ ((x.2.2.length : Int) - ((j : Int) + 1)).toNat < ((x.2.2.length : Int) - (j : Int)).toNat :=
        fun ok' he => ⟨inR64 (by omega), ⟨rfl, j + 1, rfl, hjl, he⟩, by omega⟩
      have hlastq : (x.2.2.take j).getLast?.getD nx = if j = 0 then nx else x.2.2[j - 1]'(by omega) := by
        by_cases h0 : j = 0
        · subst h0; rfl
        · rw [if_neg h0, List.getLast?_take, if_neg h0]
          rw [List.getElem?_eq_getElem (by omega)]; rfl
      refine needSome_mk ha2 ⟨by omega, hlt2, x.2.2[j], by rw [show Int.toNat (j : Int) * 1 = j by omega]; exact hc2, BIf_mk (fun hokk => ?_) (fun hokk => next _ ?_)⟩
      · obtain ⟨hd4, hf⟩ := Bool.and_eq_true_iff.1 hokk
        have hfl := falls_last _ _ hf
        have e1 : (decide (x.2.2.length ≤ 4) && fallsL (x.2.2.take (j + 1)) nx) = decide (0 ≤ x.2.2[j] ∧ x.2.2[j] < (x.2.2.take j).getLast?.getD nx) := by
          rw [htj, fallsL_snoc, hd4, hf, Bool.true_and, Bool.true_and]
        rw [hlastq] at e1 hfl
        refine BIf_dec (fun h1 => BIf_dec (fun h2 => BIf_dec (fun h3 => next _ ?_) (fun h3 => ?_)) (fun h2 => next _ ?_)) (fun h1 => next _ ?_)
        · rw [e1, if_pos (by omega), decide_eq_true ⟨h1, h2⟩]
        · have hj1 : j - 1 < x.2.2.length := by omega
          obtain ⟨a3, ha3, hc3⟩ := intsAt_cell hint97 hj1
          refine ⟨x.2.1, o97.cell 1 (by simp), inR64 (by omega), needSome_mk ha3 ⟨by omega, by omega, x.2.2[j - 1], by rw [show Int.toNat ((j : Int) - 1) * 1 = j - 1 by omega]; exact hc3, next _ ?_⟩⟩
          rw [e1, if_neg (by omega)]
          rw [decide_eq_decide]
          exact ⟨fun h => ⟨h1, h⟩, fun h => h.2⟩
        · rw [e1, decide_eq_false]
          rintro ⟨_, h4⟩
          by_cases h0 : j = 0
          · rw [if_pos h0] at h4; exact h2 h4
          · rw [if_neg h0] at h4 hfl; omega
        · rw [e1, decide_eq_false (fun h => h1 h.1)]
      · rw [htj, fallsL_snoc, ← Bool.and_assoc, hokk, Bool.false_and]
    · have hjl : j = x.2.2.length := by omega
      subst hjl
      rw [List.take_length]
      refine BIf_mk (fun hn => ?_) (fun hn => ?_)
      · have hn : (decide (x.2.2.length ≤ 4) && fallsL x.2.2 nx) = false := by rw [Bool.not_eq_true'] at hn; exact hn
        refine ⟨kp97, ?_⟩
        rw [hbad (.inl ⟨_, hmem, hn⟩)]; rfl
      · have hn : (decide (x.2.2.length ≤ 4) && fallsL x.2.2 nx) = true := by simpa using hn
        refine ⟨inR64 (by omega), ⟨k + 1, rfl, hkx, hS97, kp97, ?_, fun b hb => ?_, fun b hb => ?_⟩, by dsimp only; omega⟩
        · rw [hbk, List.map_append]; exact g1
        · rcases g3 b hb with h1 | h1
          · exact hstb b h1
          · exact ⟨by omega, by omega⟩
        · rw [hbk] at hb
          rcases List.mem_append.1 hb with hb | hb
          · exact hok b hb
          · rw [List.mem_singleton.1 hb]; exact hn
  · have hkl : k = xs.length := by omega
    rw [List.take_of_length_le (by omega)] at hst hok
    refine (right13_spec lst _ w32 hst.ints (by simp; omega)).mono ?_
    rintro e w142 ⟨rfl, rfl⟩
    refine ⟨_, rfl, BIf_mk (fun h1 => ?_) (fun h1 => ?_)⟩
    · have h1 : risesL (bs.map (·.1)) (-1) = false := by rw [Bool.not_eq_true'] at h1; exact h1
      refine ⟨kp, ?_⟩
      rw [hbad (.inr h1)]; rfl
    · have h1 : risesL (bs.map (·.1)) (-1) = true := by simpa using h1
      rw [hgood hok h1]
      have hmem := rises_mem _ (-1) h1
      refine ⟨fun i w147 => ∃ (k : Nat) (F : Nat → Prop) (sl : Nat → Slc), i = k ∧ k ≤ xs.length ∧ Keep w15 w147 ∧ SeqAt 100 w147 r24 F ep nx sl (newL (bs.take k)) ∧ ∀ b, F b → w15.heap.size ≤ b ∧ b < w147.heap.size, fun i _ => ((xs.length : Int) - i).toNat,
        ⟨0, fun _ => False, _, rfl, by omega, kp, hS0, fun _ h => h.elim⟩, ?_⟩
      rintro i w147 ⟨j, F, sl, rfl, hj, kq, hS, hF⟩
      intros
      have z147 := kq.size
      refine BIf_dec (fun hlt2 => ?_) (fun hlt2 => ?_)
      · have hjx : j < xs.length := by omega
        obtain ⟨a, ha, hrow, hint, hcm, hlc⟩ := rdBack_get (rowsR_keep hx kq) hjx
        have hlk := hl _ (List.getElem_mem hjx)
        have hbk : bs.take (j + 1) = bs.take j ++ [(xs[j].1, xs[j].2.2)] := by
          rw [List.take_succ_eq_append_getElem (by omega)]; simp [hbs]
        have hmb : (xs[j].1, xs[j].2.2) ∈ bs := by rw [hbs]; exact List.mem_map.2 ⟨xs[j], List.getElem_mem hjx, rfl⟩
        have h13 := hmem xs[j].1 (List.mem_map.2 ⟨_, hmb, rfl⟩)
        have hok4 := hok _ hmb
        refine needSome_mk ha ⟨by omega, hlt2, _, _, by rw [show Int.toNat (j : Int) * 2 = j * 2 by omega]; exact hrow, ?_⟩
        generalize xs[j] = x at hrow hint hcm hlc hlk hbk hmb h13 hok4 ⊢
        have hr24 : r24 < w147.heap.size := hS.o.lt
        have hlen4 : x.2.2.length ≤ 4 := of_decide_eq_true (Bool.and_eq_true_iff.1 hok4).1
        refine var_mk rfl rfl (fun r166 w168 hr166 o166 k168 hs168 => ?_)
        have kd := k168.drew
        have od := o166.keep (Ext.drew _ w168)
        refine ⟨x.1, od.cell 0 (by simp), x.2.1, od.cell 1 (by simp), newS_mk (fun r171 w172 hr171 hb171 k172 hs172 => ?_)⟩
        have k172' := kd.trans k172
        have o172 := od.keep k172
        have z172 := k172'.size
        have zd : w168.drew.heap.size = w168.heap.size := rfl
        refine ⟨⟨x.2.1, o172.cell 1 (by simp), rfl⟩, ⟨x.1, o172.cell 0 (by simp), rfl⟩, ?_⟩
        have ho : Own w172 ⟨some ⟨r171, 0, none⟩, 0, 0⟩ 1 [] := Own.new (sz := 1) (n := 0) hb171 (.inl (by simp)) rfl
        have oo : ∀ b, ownB ⟨some ⟨r171, 0, none⟩, 0, 0⟩ b → b = r171 := by rintro b ⟨a, ha, rfl⟩; cases ha; rfl
        refine appendS_own ho (by omega) rfl (srcAt_slc (intsAt_keep hint k172').2 (by simp [hint.1])) (one_ints _) (by simp only [Src.n]; have := hint.1; omega) (fun s175 w176 q1 q2 q3 q4 => ?_)
        rw [List.nil_append] at q1
        have z176 := q2.size
        have o176 := o172.ext q2 (fun hh => by have := oo r166 hh; omega)
        have h175 : ∀ b, ownB s175 b → w147.heap.size ≤ b ∧ b < w176.heap.size ∧ b ≠ r24 := fun b hb => by
          have h2 := OwnLt q1 b hb
          rcases q3 b hb with h3 | h3
          · have := oo b h3; omega
          · omega
        have S176 := (hS.keep k172').ext q2 (fun hh => by have := oo r24 hh; omega) (fun b hb hh => by have := oo b hh; have := hF b hb; omega)
        have S176' := S176.wide (G := fun b => F b ∨ ownB s175 b) (fun b hb => .inl hb) (by
          rintro (h2 | h2)
          · exact hS.f h2
          · exact (h175 r24 h2).2.2 rfl)
        obtain ⟨y, hy⟩ : ∃ y : Nat, x.1 = (y : Int) := ⟨x.1.toNat, by omega⟩
        have hy13 : y < 13 := by omega
        obtain ⟨z1, z2⟩ := S176'.setS hy13 q1.ints (fun b hb => .inr hb) (by omega) (q1.le (by omega))
        rw [show Int.toNat x.1 * 1 = y by omega, add_lit]
        refine ⟨⟨x.1, o176.cell 0 (by simp), rfl⟩, by omega, by omega, z1, fun w178 hw => ?_⟩
        obtain ⟨S178, e178⟩ := z2 w178 hw
        have z178 := e178.size
        refine ⟨inR64 (by omega), ⟨j + 1, fun b => F b ∨ ownB s175 b, updS sl y s175, rfl, hjx, ?_, ?_, fun b hb => ?_⟩, by dsimp only; omega⟩
        · exact ((kq.trans k172').ext q2 (fun b hb => by have := oo b hb; omega)).ext e178 (fun b hb => by omega)
        · rw [hbk, newL_snoc]
          have : Int.toNat (x.1, x.2.2).1 = y := by show Int.toNat x.1 = y; omega
          rw [this]; exact S178
        · rcases hb with hb | hb
          · have := hF b hb; omega
          · have := h175 b hb; omega
      · have hjl : j = xs.length := by omega
        rw [List.take_of_length_le (by omega)] at hS
        exact ⟨kq, r24, F, sl, rfl, hS, by omega, hF⟩
end Go.D
