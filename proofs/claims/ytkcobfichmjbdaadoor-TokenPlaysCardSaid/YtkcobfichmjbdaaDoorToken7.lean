/-
  WHAT IS PROVED: contracts of functions, and the plain law, for this proof. No further conditions.
-/
import Derived.Test.YtkcobfichmjbdaaDoorToken6
set_option linter.unusedVariables false
set_option linter.unusedSimpArgs false
namespace Go.D
open Go Go.Proofs

def pushL (n : Int) (l : List Int) (L : Nat → List Int) : Nat → List Int := fun x => if (x : Int) ∈ l then n :: L x else L x
theorem pushL_snoc (n : Int) (l : List Int) (L : Nat → List Int) (y : Nat) (hy : (y : Int) ∉ l) : pushL n (l ++ [(y : Int)]) L = updS (pushL n l L) y (n :: L y) := by
  funext x
  simp only [pushL, updS, List.mem_append, List.mem_singleton]
  by_cases h : x = y
  · subst h; rw [if_pos (.inr rfl), if_pos rfl]
  · rw [if_neg h]
    have : ¬ (x : Int) = (y : Int) := by omega
    by_cases h2 : (x : Int) ∈ l
    · rw [if_pos (.inl h2), if_pos h2]
    · rw [if_neg (fun h => h.elim h2 this), if_neg h2]
theorem push_take (n : Int) (l : List Int) (L : Nat → List Int) : (fun x => (pushL n l L x).take 4) = takeL n l (fun x => (L x).take 4) := by
  funext x
  simp only [pushL, takeL]
  by_cases h : (x : Int) ∈ l
  · rw [if_pos h, if_pos h, List.take_succ_cons, List.take_succ_cons, List.take_take]; rfl
  · rw [if_neg h, if_neg h]

theorem refTake_spec (r : Nat) (F : Nat → Prop) (e n : Int) (sl : Nat → Slc) (L : Nat → List Int) (ep : Int) (st : Slc) (l : List Int) (w : World) (h : SeqAt 100 w r F e n sl L) (hF : ∀ k, F k → k < w.heap.size) (hst : intsAt w st l) (hstr : l ≠ [] → ∀ k, ownB st k → k ≠ r) (hl : l.length ≤ 2 ^ 30)
    (hn : 0 ≤ n ∧ n ≤ 4096) (hm : ∀ x, (L x).length ≤ 99) :
    Calls Tryd.prog fn_tidewaterref13_Sequencer_Take ⟨[.pointer (some ⟨r, 0, none⟩), .int .i64 ep, st.v]⟩ w fun x w' => ∃ (at_ : Int) (out : Slc) (code : Int), x = .returned (.tuple ⟨[.int .i64 at_, out.v, .int .i64 code]⟩) ∧
      match takeR e n ep l with
      | some k => at_ = 0 ∧ out = ⟨none, 0, 0⟩ ∧ code = ((k + 1 : Nat) : Int) ∧ Keep w w'
      | none => at_ = n ∧ code = 0 ∧ Ext (fun k => k = r) w w' ∧ ∃ G sl', (∀ k, G k → w.heap.size ≤ k ∧ k < w'.heap.size) ∧ SeqAt 100 w' r (fun k => F k ∨ G k) e (n + 1) sl' (pushL n l L) ∧ BK w' out (l.map fun x => (x, (L x.toNat).take 4)) G ∧ ∀ k, ownB out k → w.heap.size ≤ k := by
  have hsl := hst.1
  have hrl : r < w.heap.size := h.o.lt
  refine tidewaterref13_Sequencer_Take_ok _ _ _ ?_
  unfold tidewaterref13_Sequencer_Take
  refine needSome_mk rfl ⟨e, h.c0, BIf_ndec (fun h1 => ?_) (fun h1 => ?_)⟩
  · refine ⟨_, _, _, rfl, ?_⟩
    rw [takeR, if_pos h1]; exact ⟨rfl, rfl, rfl, Ext.refl _ _⟩
  have bad : (l.length < 1 ∨ 3 < l.length ∨ risesL l (-1) = false) → ∃ (at_ : Int) (out : Slc) (code : Int), Ending.returned (Value.tuple ⟨[.int .i64 0, (Slc.v ⟨none, 0, 0⟩), .int .i64 4]⟩) = .returned (.tuple ⟨[.int .i64 at_, out.v, .int .i64 code]⟩) ∧
      match takeR e n ep l with
      | some k => at_ = 0 ∧ out = ⟨none, 0, 0⟩ ∧ code = ((k + 1 : Nat) : Int) ∧ Keep w w
      | none => at_ = n ∧ code = 0 ∧ Ext (fun k => k = r) w w ∧ ∃ G sl', (∀ k, G k → w.heap.size ≤ k ∧ k < w.heap.size) ∧ SeqAt 100 w r (fun k => F k ∨ G k) e (n + 1) sl' (pushL n l L) ∧ BK w out (l.map fun x => (x, (L x.toNat).take 4)) G ∧ ∀ k, ownB out k → w.heap.size ≤ k := by
    intro hb
    refine ⟨_, _, _, rfl, ?_⟩
    rw [takeR, if_neg (fun h => h h1), if_pos hb]; exact ⟨rfl, rfl, rfl, Ext.refl _ _⟩
  refine ⟨fun w2 => w2 = w ∧ ¬ (l.length < 1 ∨ 3 < l.length ∨ risesL l (-1) = false), BIf_dec (fun h2 => bad (.inl (by omega))) (fun h2 => BIf_dec (fun h3 => bad (.inr (.inl (by omega)))) (fun h3 => ?_)), ?_⟩
  · refine (right13_spec st l w hst (by omega)).mono ?_
    rintro x w8 ⟨rfl, rfl⟩
    refine ⟨_, rfl, BIf_mk (fun h4 => bad (.inr (.inr (by rw [Bool.not_eq_true'] at h4; exact h4)))) (fun h4 => ⟨rfl, ?_⟩)⟩
    have h4 : risesL l (-1) = true := by simpa using h4
    rw [h4]; rintro (h5 | h5 | h5)
    · omega
    · omega
    · cases h5
  rintro w10 ⟨rfl, hno⟩
  intros
  have hrise : risesL l (-1) = true := by
    cases hh : risesL l (-1) with
    | true => rfl
    | false => exact absurd (.inr (.inr hh)) hno
  have hmem := rises_mem l (-1) hrise
  refine needSome_mk rfl ⟨n, by rw [add_lit]; exact h.c1, BIf_dec (fun h5 => ?_) (fun h5 => ?_)⟩
  · refine ⟨_, _, _, rfl, ?_⟩
    rw [takeR, if_neg (fun h => h h1), if_neg hno, if_pos (by omega)]; exact ⟨rfl, rfl, rfl, Ext.refl _ _⟩
  have hR : takeR e n ep l = none := by rw [takeR, if_neg (fun h => h h1), if_neg hno, if_neg (by omega)]
  rw [hR]
  refine newS_mk (fun r29 w30 hr29 hb29 k30 hs30 => ?_)
  have o29 : ∀ b, ownB ⟨some ⟨r29, 0, none⟩, 0, 0⟩ b → b = r29 := by rintro b ⟨a, ha, rfl⟩; cases ha; rfl
  refine ⟨fun out i w35 => ∃ (k : Nat) (G : Nat → Prop) (sl' : Nat → Slc), i = k ∧ k ≤ l.length ∧ Ext (fun k => k = r) w10 w35 ∧ (∀ k, G k → w10.heap.size ≤ k ∧ k < w35.heap.size) ∧ SeqAt 100 w35 r (fun k => F k ∨ G k) e n sl' (pushL n (l.take k) L) ∧
      BK w35 out ((l.take k).map fun x => (x, (L x.toNat).take 4)) G ∧ ∀ k, ownB out k → w10.heap.size ≤ k, fun _ i _ => ((l.length : Int) - i).toNat, ⟨0, fun _ => False, sl, rfl, by omega, k30.mono (fun _ h => h.elim), fun _ h => h.elim, ?_, ⟨[], Own.new (sz := 2) (n := 0) hb29 (.inl (by simp)) rfl, by simp, fun i h => by simp at h, fun _ _ h => h⟩, fun b hb => by have := o29 b hb; omega⟩, ?_⟩
  · have e0 : pushL n (l.take 0) L = L := by funext x; simp [pushL]
    rw [e0]
    exact (h.keep k30).wide (fun k hk => .inl hk) (fun hh => hh.elim h.f (fun h => h))
  rintro out i w35 ⟨k, G, sl', rfl, hk, he, hG, hS, hB, hout⟩
  intros
  have z35 := he.size
  refine BIf_dec (fun hlt => ?_) (fun hlt => ?_)
  · have hkl : k < l.length := by omega
    have hst35 : intsAt w35 st l := intsAt_ext hst he (fun k hk hh => hstr (by intro h0; rw [h0] at hkl; simp at hkl) k hk hh)
    obtain ⟨a, ha, hc⟩ := intsAt_cell hst35 hkl
    obtain ⟨y, hy⟩ : ∃ y : Nat, l[k] = (y : Int) := ⟨l[k].toNat, by have := hmem _ (List.getElem_mem hkl); omega⟩
    have hym := hmem _ (List.getElem_mem hkl)
    have hy13 : y < 13 := by omega
    have hnin : (y : Int) ∉ l.take k := by rw [← hy]; exact rises_nodup l (-1) hrise k hkl
    have hLy : pushL n (l.take k) L y = L y := by simp [pushL, hnin]
    have htk : l.take (k + 1) = l.take k ++ [(y : Int)] := by rw [List.take_succ_eq_append_getElem hkl, hy]
    have htl : (l.take k).length = k := by simp; omega
    have ey : Int.toNat (y : Int) * 1 = y := by omega
    obtain ⟨hs1, hs2, hs3, hs4⟩ := hS.s y hy13
    rw [hLy] at hs1 hs3
    have hcell : ∀ {w2 : World} {sl2 : Nat → Slc} {F2 : Nat → Prop} {L2 : Nat → List Int}, SeqAt 100 w2 r F2 e n sl2 L2 → w2.cell? ⟨r, 0 + 2 + y, none⟩ = some (sl2 y).v := fun hh => by have := hh.cx hy13; simpa using this
    refine needSome_mk ha ⟨by omega, hlt, l[k], by rw [show Int.toNat (k : Int) * 1 = k by omega]; exact hc, needSome_mk rfl ?_⟩
    rw [hy, ey, add_lit, add_lit]
    refine ⟨by omega, by omega, sl' y, hcell hS, ?_⟩
    refine (newest_spec (sl' y) (L y) w35 hs1 hs4 (by omega)).mono ?_
    rintro x w75 ⟨t, rfl, ht, hft, htlt, k75⟩
    refine ⟨t, rfl, newS_mk (fun r77 w78 hr77 hb77 k78 hs78 => ?_)⟩
    have k2 := k75.trans k78
    have z75 := k75.size
    have z78 := k78.size
    refine (hB.keep k2).snoc rfl (intsAt_keep ht k78) (fun b hb hh => by have := hft b hb; have := hB.lt b hh; omega) hb77 (by simp; omega) (fun b hb => by have := (hG b hb).2; omega) (fun b hb => by have := htlt b hb; omega) (fun s79 w80 hB' he80 hn80 => ?_)
    have z80 := he80.size
    have hBo := hB
    obtain ⟨_, _, _, _, hGo⟩ := hBo
    have S80 := (hS.keep k2).ext he80 (fun hh => by have := hout r hh; omega) (fun b hb hh => hb.elim (fun h6 => by have := hF b h6; have := hout b hh; omega) (fun h6 => hGo b hh h6))
    have hs180 : intsAt w80 (sl' y) (L y) := intsAt_ext (intsAt_keep hs1 k2) he80 (fun b hb hh => (hs2 b hb).elim (fun h6 => by have := hF b h6; have := hout b hh; omega) (fun h6 => hGo b hh h6))
    have kd : Keep w80 w80.drew := Ext.drew _ _
    have zd : w80.drew.heap.size = w80.heap.size := rfl
    have Sd := S80.keep kd
    refine needSome_mk rfl ⟨n, by rw [add_lit]; exact Sd.c1, needSome_mk rfl ?_⟩
    rw [add_lit, add_lit]
    refine ⟨by omega, by omega, sl' y, hcell Sd, needSome_mk rfl (newS_mk (fun r86 w87 hr86 hb86 k87 hs87 => ?_))⟩
    have S87 := Sd.keep k87
    have k80_87 := kd.trans k87
    refine ⟨⟨sl' y, hcell S87, rfl⟩, ?_⟩
    have ho86 : Own w87 ⟨some ⟨r86, 0, none⟩, 1, 1⟩ 1 ([n].map intV) := Own.new (sz := 1) (n := 1) hb86 (.inl (by simp)) rfl
    have h86o : ∀ b, ownB ⟨some ⟨r86, 0, none⟩, 1, 1⟩ b → b = r86 := by rintro b ⟨a, ha, rfl⟩; cases ha; rfl
    refine appendS_own ho86 (by omega) rfl (srcAt_slc (intsAt_keep hs180 k80_87).2 (by simp [hs1.1])) (one_ints _) (by simp only [Src.n]; have := hs1.1; omega) (fun s89 w90 q1 q2 q3 q4 => ?_)
    rw [← List.map_append] at q1
    have z87 := k87.size
    have z90 := q2.size
    have h89 : ∀ b, ownB s89 b → w80.heap.size ≤ b ∧ b < w90.heap.size := fun b hb => ⟨by
      rcases q3 b hb with h6 | h6
      · have := h86o b h6; omega
      · omega, OwnLt q1 b hb⟩
    have hGn : ∀ b, (F b ∨ G b) → ¬ ownB ⟨some ⟨r86, 0, none⟩, 1, 1⟩ b := fun b hb hh => by
      have := h86o b hh
      rcases hb with h6 | h6
      · have := hF b h6; omega
      · have := (hG b h6).2; omega
    have S90 := S87.ext q2 (fun hh => by have := h86o r hh; omega) hGn
    have hGr : ¬ (F r ∨ (G r ∨ ownB t r ∨ ownB s89 r)) := by
      rintro (h6 | h6 | h6 | h6)
      · exact h.f h6
      · have := (hG r h6).1; omega
      · have := hft r h6; omega
      · have := (h89 r h6).1; omega
    have S90' := S90.wide (G := fun b => F b ∨ (G b ∨ ownB t b ∨ ownB s89 b)) (fun b hb => hb.imp (fun h => h) .inl) hGr
    obtain ⟨z1, z2⟩ := S90'.setS hy13 q1.ints (fun b hb => .inr (.inr (.inr hb))) (by have := hm y; simp; omega) (q1.le (by omega))
    have er : (⟨r, 0 + 2 + y, none⟩ : Addr) = ⟨r, 2 + y, none⟩ := by rw [Nat.zero_add]
    rw [add_lit, add_lit, er]
    refine ⟨by omega, by omega, z1, fun w91 hw => ?_⟩
    obtain ⟨S91, e91⟩ := z2 w91 hw
    have z91 := e91.size
    have e80_91 : Ext (fun b => b = r ∨ b = r86) w80 w91 := (Ext.trans (M := fun b => b = r86) k80_87 q2 (fun _ h => h.elim) (fun b hb => .inl (h86o b hb))).trans e91 (fun b h => .inr h) (fun b h => .inl (.inl h))
    have e35_80 : Ext (ownB out) w35 w80 := Ext.trans (M1 := none0) k2 he80 (fun _ h => h.elim) (fun b h => .inl h)
    have hB91 := hB'.ext e80_91 (fun b hb hh => by
      rcases hn80 b hb with h6 | h6
      · have := hout b h6; have := hB.lt b h6; rcases hh with rfl | rfl <;> omega
      · have := hB'.lt b hb; rcases hh with rfl | rfl <;> omega) (fun b hb hh => by
      rcases hb with h6 | h6
      · have := hG b h6; rcases hh with rfl | rfl <;> omega
      · have := hft b h6; have := htlt b h6; rcases hh with rfl | rfl <;> omega)
    refine ⟨inR64 (by omega), ⟨k + 1, fun b => G b ∨ ownB t b ∨ ownB s89 b, updS sl' y s89, rfl, hkl, ?_, fun b hb => ?_, ?_, ?_, fun b hb => ?_⟩, by dsimp only; omega⟩
    · exact (he.trans e35_80 (fun _ h => h) (fun b h => .inr (hout b h))).trans e80_91 (fun _ h => h) (fun b h => h.elim .inl (fun h => .inr (by omega)))
    · rcases hb with h6 | h6 | h6
      · have := hG b h6; omega
      · have := hft b h6; have := htlt b h6; omega
      · have := h89 b h6; omega
    · rw [htk, pushL_snoc n (l.take k) L y hnin]
      exact S91
    · rw [htk, List.map_append]
      obtain ⟨ps, p1, p2, p3, p4⟩ := hB91
      refine ⟨ps, p1, by simpa using p2, fun i hi hi' => ?_, fun b hb hh => ?_⟩
      · obtain ⟨x1, x2, x3⟩ := p3 i hi (by simpa using hi')
        refine ⟨by simpa using x1, by simpa using x2, fun b hb => ?_⟩
        rcases x3 b hb with h6 | h6
        · exact .inl h6
        · exact .inr (.inl h6)
      · rcases hh with h6 | h6 | h6
        · exact p4 b hb (.inl h6)
        · exact p4 b hb (.inr h6)
        · have := (h89 b h6).1
          rcases hn80 b hb with h7 | h7
          · have := hB.lt b h7; omega
          · have := hB'.lt b hb; omega
    · rcases hn80 b hb with h7 | h7
      · exact hout b h7
      · omega
  · have hkl : k = l.length := by omega
    subst hkl
    rw [List.take_length] at hS hB
    refine needSome_mk rfl ⟨n, by rw [add_lit]; exact hS.c1, inR64 (by omega), needSome_mk rfl ?_⟩
    rw [add_lit]
    obtain ⟨z1, z2⟩ := hS.setN (n + 1)
    refine ⟨z1, fun w95 hw => ?_⟩
    obtain ⟨S95, e95⟩ := z2 w95 hw
    refine needSome_mk rfl ⟨n + 1, by rw [add_lit]; exact S95.c1, inR64 (by omega), _, _, _, rfl, by omega, rfl, he.trans e95 (fun _ h => h) (fun k h => .inl h), G, sl', fun b hb => by have := hG b hb; have := e95.size; omega, S95, ?_, hout⟩
    exact hB.ext e95 (fun b hb hh => by have := hout b hb; omega) (fun b hb hh => by have := (hG b hb).1; omega)

/-! ### a new one -/
theorem fallsL_snoc : ∀ (l : List Int) (next a : Int), fallsL (l ++ [a]) next = (fallsL l next && decide (0 ≤ a ∧ a < l.getLast?.getD next))
  | [], next, a => by
    simp only [List.nil_append, fallsL, Bool.and_true, Bool.true_and, List.getLast?_nil, Option.getD_none]
    exact decide_eq_decide.2 Iff.rfl
  | b :: l, next, a => by
    rw [List.cons_append, fallsL, fallsL_snoc l b a, fallsL, Bool.and_assoc]
    congr 2
    cases l with
    | nil => rfl
    | cons c r => simp [List.getLast?_cons_cons, List.getLast?_eq_some_getLast]
theorem falls_last : ∀ (l : List Int) (next : Int), fallsL l next = true → l.getLast?.getD next ≤ next
  | [], next, _ => Int.le_refl _
  | b :: l, next, h => by
    rw [fallsL, Bool.and_eq_true_iff] at h
    have h1 := of_decide_eq_true h.1
    have h2 := falls_last l b h.2
    cases l with
    | nil => simp; omega
    | cons c r =>
      have : (b :: c :: r).getLast?.getD next = (c :: r).getLast?.getD b := by simp [List.getLast?_cons_cons, List.getLast?_eq_some_getLast]
      rw [this]; omega
def okB (nx : Int) (b : Int × List Int) : Bool := decide (b.2.length ≤ 4) && fallsL b.2 nx
theorem newR_ok {ep nx : Int} {bs : List (Int × List Int)} (h1 : ¬ (ep < 0 ∨ 1073741824 < ep)) (h2 : ¬ (nx < 0 ∨ 4096 < nx)) :
    (((∃ b ∈ bs, okB nx b = false) ∨ risesL (bs.map (·.1)) (-1) = false) → newR ep nx bs = some 3) ∧ ((∀ b ∈ bs, okB nx b = true) → risesL (bs.map (·.1)) (-1) = true → newR ep nx bs = none) := by
  rw [newR, if_neg h1, if_neg h2]
  refine ⟨fun h => if_pos ?_, fun h h' => if_neg ?_⟩
  · rw [Bool.or_eq_true_iff]
    rcases h with ⟨b, hb, h3⟩ | h3
    · left
      rw [List.any_eq_true]
      refine ⟨b, hb, ?_⟩
      rw [okB, Bool.and_comm] at h3
      rw [badB, h3, Bool.and_false]; rfl
    · right; rw [h3]; rfl
  · rw [h', Bool.or_eq_true_iff, List.any_eq_true]
    rintro (⟨b, hb, h3⟩ | h3)
    · have hm := rises_mem _ (-1) h' b.1 (List.mem_map.2 ⟨b, hb, rfl⟩)
      have h4 := h b hb
      rw [okB, Bool.and_comm] at h4
      rw [badB, h4, decide_eq_true (by omega)] at h3
      cases h3
    · cases h3
end Go.D
