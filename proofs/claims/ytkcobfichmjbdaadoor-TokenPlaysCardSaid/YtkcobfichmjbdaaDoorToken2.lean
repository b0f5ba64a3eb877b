/-
  WHAT IS PROVED: contracts of functions, and the plain law, for this proof. No further conditions.
-/
import Derived.Test.YtkcobfichmjbdaaDoorToken1
import Derived.Test.YtkcobfichmjbdaaDoorFlat
set_option linter.unusedVariables false
set_option linter.unusedSimpArgs false
namespace Go.D
open Go Go.Proofs

theorem rises_mem : ∀ (l : List Int) (last : Int), risesL l last = true → ∀ x ∈ l, last < x ∧ 0 ≤ x ∧ x ≤ 12
  | [], _, _, x, hx => by cases hx
  | s :: r, last, h, x, hx => by
    rw [risesL, Bool.and_eq_true_iff] at h
    obtain ⟨h1, h2⟩ := h
    have h1 := of_decide_eq_true h1
    rcases List.mem_cons.1 hx with rfl | hx
    · exact h1
    · have := rises_mem r s h2 x hx; omega
theorem rises_nodup : ∀ (l : List Int) (last : Int), risesL l last = true → ∀ k (h : k < l.length), l[k] ∉ l.take k
  | [], _, _, k, h => by simp at h
  | s :: r, last, h, 0, _ => by simp
  | s :: r, last, h, k + 1, hk => by
    rw [risesL, Bool.and_eq_true_iff] at h
    have hr := rises_nodup r s h.2 k (by simpa using hk)
    have hk' : k < r.length := by simpa using hk
    have hm := rises_mem r s h.2 r[k] (List.getElem_mem hk')
    simp only [List.getElem_cons_succ, List.take_succ_cons, List.mem_cons, not_or]
    exact ⟨by omega, hr⟩

abbrev bkC (ps : List (Int × Slc)) : List Value := ps.flatMap fun p => [.int .i64 p.1, p.2.v]
theorem bk_row {w : World} {s : Slc} {l : List (Int × Slc)} (h : Own w s 2 (bkC l)) {i : Nat} (hi : i < l.length) : ∃ a, s.p = some a ∧ rowAt w (a.add (i * 2)) 0 [.int .i64 l[i].1, l[i].2.v] :=
  flat_row (fun p : Int × Slc => [.int .i64 p.1, p.2.v]) 2 (fun _ => rfl) h hi (by omega)
theorem bk_len {w : World} {s : Slc} {l : List (Int × Slc)} (h : Own w s 2 (bkC l)) : s.l = l.length := by
  have h1 := h.1
  rw [flat_len (fun p : Int × Slc => [.int .i64 p.1, p.2.v]) 2 (fun _ => rfl) l] at h1
  omega
theorem bk_one (l : List (Int × Slc)) : ∀ v ∈ bkC l, v.oneCell' = true := by
  intro v hv
  obtain ⟨a, _, ha⟩ := List.mem_flatMap.1 hv
  simp only [List.mem_cons, List.not_mem_nil, or_false] at ha
  rcases ha with rfl | rfl <;> rfl

/-- The newest addresses behind a taking. -/
def takeL (n : Int) (l : List Int) (L : Nat → List Int) : Nat → List Int := fun x => if (x : Int) ∈ l then (n :: L x).take 4 else L x
theorem takeL_snoc (n : Int) (l : List Int) (L : Nat → List Int) (y : Nat) (hy : (y : Int) ∉ l) : takeL n (l ++ [(y : Int)]) L = updS (takeL n l L) y ((n :: L y).take 4) := by
  funext x
  simp only [takeL, updS, List.mem_append, List.mem_singleton]
  by_cases h : x = y
  · subst h; rw [if_pos (.inr rfl), if_pos rfl]
  · rw [if_neg h]
    have : ¬ (x : Int) = (y : Int) := by omega
    by_cases h2 : (x : Int) ∈ l
    · rw [if_pos (.inl h2), if_pos h2]
    · rw [if_neg (fun h => h.elim h2 this), if_neg h2]

/-- What is told of the streams. -/
def Told (w : World) (out : Slc) (l : List Int) (L : Nat → List Int) (G : Nat → Prop) : Prop :=
  ∃ ps : List (Int × Slc), Own w out 2 (bkC ps) ∧ ps.length = l.length ∧ ∀ i (h : i < ps.length) (h' : i < l.length), ps[i].1 = l[i] ∧ intsAt w ps[i].2 (L l[i].toNat) ∧ ∀ k, ownB ps[i].2 k → G k
theorem Told.ext {N : Nat → Prop} {w w' : World} {out : Slc} {l : List Int} {L : Nat → List Int} {G : Nat → Prop} (h : Told w out l L G) (he : Ext N w w') (h1 : ∀ k, ownB out k → ¬ N k) (h2 : ∀ k, G k → ¬ N k) : Told w' out l L G := by
  obtain ⟨ps, g1, g2, g3⟩ := h
  exact ⟨ps, g1.ext he h1, g2, fun i hi hi' => ⟨(g3 i hi hi').1, intsAt_ext (g3 i hi hi').2.1 he (fun k hk => h2 k ((g3 i hi hi').2.2 k hk)), (g3 i hi hi').2.2⟩⟩

/-- How a taking ends. -/
def takeR (e n ep : Int) (l : List Int) : Option Nat :=
  if ep ≠ e then some 7 else if l.length < 1 ∨ 3 < l.length ∨ risesL l (-1) = false then some 3 else if n = 4096 then some 12 else none

theorem Take_spec (A : Nat → Addr) (r : Nat) (F : Nat → Prop) (e n : Int) (sl : Nat → Slc) (L : Nat → List Int) (ep : Int) (st : Slc) (l : List Int) (w : World) (h : SeqAt 4 w r F e n sl L) (hF : ∀ k, F k → k < w.heap.size) (hst : intsAt w st l) (hstr : l ≠ [] → ∀ k, ownB st k → k ≠ r) (hl : l.length ≤ 2 ^ 30)
    (hn : 0 ≤ n ∧ n ≤ 4096) (n0 : Nat) (hE : LE5 A n0 w) (hr : n0 ≤ r) :
    Calls Tryd.prog fn_token_Sequencer_Take ⟨[.pointer (some ⟨r, 0, none⟩), .int .i64 ep, st.v]⟩ w fun x w' => ∃ (at_ : Int) (out : Slc) (ev : Value), x = .returned (.tuple ⟨[.int .i64 at_, out.v, ev]⟩) ∧
      match takeR e n ep l with
      | some k => at_ = 0 ∧ out = ⟨none, 0, 0⟩ ∧ ev = errV A (errG.getD k 0) ∧ Keep w w'
      | none => at_ = n ∧ ev = .nilIface ∧ Ext (fun k => k = r) w w' ∧ ∃ G sl', (∀ k, G k → w.heap.size ≤ k ∧ k < w'.heap.size) ∧ SeqAt 4 w' r (fun k => F k ∨ G k) e (n + 1) sl' (takeL n l L) ∧ Told w' out l L G ∧ ∀ k, ownB out k → w.heap.size ≤ k ∧ ¬ G k := by
  have hsl := hst.1
  have hrl : r < w.heap.size := h.o.lt
  refine token_Sequencer_Take_ok _ _ _ ?_
  unfold token_Sequencer_Take
  refine ⟨fun w2 => w2 = w ∧ takeR e n ep l = none ∧ risesL l (-1) = true ∧ n ≠ 4096, ?_, ?_⟩
  · refine needSome_mk rfl ⟨e, h.c0, BIf_ndec (fun h1 => ?_) (fun h1 => ?_)⟩
    · refine ⟨_, (hE.keep (Ext.drew _ w)).at 7 (by decide), _, _, _, rfl, ?_⟩
      rw [takeR, if_pos h1]
      exact ⟨rfl, rfl, rfl, Ext.drew _ _⟩
    · refine ⟨fun b w2 => w2 = w ∧ b = decide (l.length < 1 ∨ 3 < l.length ∨ risesL l (-1) = false), BIf_dec (fun h2 => ⟨rfl, by rw [decide_eq_true (.inl (by omega))]⟩) (fun h2 => BIf_dec (fun h3 => ⟨rfl, by rw [decide_eq_true (.inr (.inl (by omega)))]⟩) (fun h3 => ?_)), ?_⟩
      · refine (rises_spec st l w hst (by omega)).mono ?_
        rintro x w10 ⟨rfl, rfl⟩
        refine ⟨_, rfl, rfl, ?_⟩
        cases hr : risesL l (-1) with
        | true => rw [decide_eq_false (by rintro (h4 | h4 | h4); · omega
                                          · omega
                                          · cases h4)]; rfl
        | false => rw [decide_eq_true (.inr (.inr rfl))]; rfl
      · rintro b w13 ⟨rfl, rfl⟩
        intros
        refine BIf_dec (fun h4 => ?_) (fun h4 => needSome_mk rfl ⟨n, by rw [add_lit]; exact h.c1, BIf_dec (fun h5 => ?_) (fun h5 => ?_)⟩)
        · refine ⟨_, (hE.keep (Ext.drew _ w13)).at 3 (by decide), _, _, _, rfl, ?_⟩
          rw [takeR, if_neg (fun h => h h1), if_pos h4]
          exact ⟨rfl, rfl, rfl, Ext.drew _ _⟩
        · refine ⟨_, (hE.keep (Ext.drew _ w13)).at 12 (by decide), _, _, _, rfl, ?_⟩
          rw [takeR, if_neg (fun h => h h1), if_neg h4, if_pos h5]
          exact ⟨rfl, rfl, rfl, Ext.drew _ _⟩
        · refine ⟨rfl, by rw [takeR, if_neg (fun h => h h1), if_neg h4, if_neg h5], ?_, h5⟩
          cases hr : risesL l (-1) with
          | true => rfl
          | false => exact absurd (.inr (.inr hr)) h4
  · rintro w31 ⟨rfl, hR, hrise, hn5⟩
    intros
    rw [hR]
    have hmem := rises_mem l (-1) hrise
    refine needSome_mk rfl ⟨n, by rw [add_lit]; exact h.c1, fun out i w71 => ∃ (k : Nat) (G : Nat → Prop) (sl' : Nat → Slc), i = k ∧ k ≤ l.length ∧ Ext (fun k => k = r) w31 w71 ∧ (∀ k, G k → w31.heap.size ≤ k ∧ k < w71.heap.size) ∧
      SeqAt 4 w71 r (fun k => F k ∨ G k) e n sl' (takeL n (l.take k) L) ∧ Told w71 out (l.take k) L G ∧ ∀ k, ownB out k → w31.heap.size ≤ k ∧ ¬ G k, fun _ i _ => ((l.length : Int) - i).toNat,
      ⟨0, fun _ => False, sl, rfl, by omega, Ext.refl _ _, fun _ h => h.elim, ?_, ⟨[], Own.nil _ _, rfl, fun i hi => by simp at hi⟩, by rintro k ⟨a, ha, _⟩; cases ha⟩, ?_⟩
    · have e0 : takeL n (l.take 0) L = L := by funext x; simp [takeL]
      rw [e0]
      exact h.wide (fun k hk => .inl hk) (fun hh => hh.elim h.f (fun h => h))
    · rintro out i w71 ⟨k, G, sl', rfl, hk, he, hG, hS, ⟨ps, ho, hpl, hps⟩, hout⟩
      intros
      have hol := bk_len ho
      have hsz := he.size
      refine BIf_dec (fun hlt => ?_) (fun hlt => ?_)
      · have hkl : k < l.length := by omega
        have hst71 : intsAt w71 st l := intsAt_ext hst he (fun k hk hh => hstr (by intro h0; rw [h0] at hkl; simp at hkl) k hk hh)
        obtain ⟨a, ha, hc⟩ := intsAt_cell hst71 hkl
        obtain ⟨y, hy⟩ : ∃ y : Nat, l[k] = (y : Int) := ⟨l[k].toNat, by have := hmem _ (List.getElem_mem hkl); omega⟩
        have hym := hmem _ (List.getElem_mem hkl)
        have hy13 : y < 13 := by omega
        have hnin : (y : Int) ∉ l.take k := by rw [← hy]; exact rises_nodup l (-1) hrise k hkl
        have hLy : takeL n (l.take k) L y = L y := by simp [takeL, hnin]
        have htk : l.take (k + 1) = l.take k ++ [(y : Int)] := by rw [List.take_succ_eq_append_getElem hkl, hy]
        have htl : (l.take k).length = k := by simp; omega
        have ey : Int.toNat (y : Int) * 1 = y := by omega
        obtain ⟨hs1, hs2, hs3⟩ := hS.s y hy13
        rw [hLy] at hs1 hs3
        refine needSome_mk ha ⟨by omega, hlt, l[k], by rw [show Int.toNat (k : Int) * 1 = k by omega]; exact hc, needSome_mk rfl ?_⟩
        rw [hy, ey, add_lit, add_lit]
        refine ⟨by omega, by omega, sl' y, by have := hS.cx hy13; simpa using this, ?_⟩
        refine (CloneI_spec (sl' y) (L y) w71 hs1 (by omega)).mono ?_
        rintro x w111 ⟨t, rfl, ht, htc, hft, htlt, k111⟩
        refine ⟨t, rfl, newS_mk (fun r113 w114 hr113 hb113 k114 hs114 => ?_)⟩
        have k71_114 := k111.trans k114
        have hS4 := hS.keep k71_114
        have ho4 := ho.keep k71_114
        have ht4 := intsAt_keep ht k114
        have hs1' := intsAt_keep hs1 k71_114
        have hsrc : srcAt w114 2 (.slc ⟨some ⟨r113, 0, none⟩, 1, 1⟩) (bkC [((y : Int), t)]) := srcAt_slc (Own.new (sz := 2) (n := 1) hb113 (.inl (by simp)) rfl).cells rfl
        refine appendS_own ho4 (by omega) rfl hsrc (bk_one _) (by simp only [Src.n]; omega) (fun s115 w116 g1 g2 g3 g4 => ?_)
        have hs114z := k71_114.size
        have hs111z := k111.size
        -- what stands, apart from the row of what is told
        have hGo : ∀ k, (F k ∨ G k) → ¬ ownB out k := fun k hk ho' => hk.elim (fun h1 => by have := hF k h1; have := (hout k ho').1; omega) (hout k ho').2
        have hS6 := hS4.ext g2 (fun hh => by have := (hout r hh).1; omega) hGo
        have hto : ∀ k, ownB t k → ¬ ownB out k := fun k hk ho' => by have := hft k hk; have := OwnLt ho k ho'; omega
        have ht6 := intsAt_ext ht4 g2 hto
        have hs16 := intsAt_ext hs1' g2 (fun k hk => hGo k (hs2 k hk))
        refine newS_mk (fun r117 w118 hr117 hb117 k118 hs118 => ?_)
        have ho7 : Own w118 ⟨some ⟨r117, 0, none⟩, 1, 1⟩ 1 ([n].map intV) := Own.new (sz := 1) (n := 1) hb117 (.inl (by simp)) rfl
        have h7o : ∀ k, ownB ⟨some ⟨r117, 0, none⟩, 1, 1⟩ k → k = r117 := by rintro k ⟨a, ha, rfl⟩; cases ha; rfl
        refine appendS_own ho7 (by omega) rfl (srcAt_slc (intsAt_keep hs16 k118).2 (by simp; have := hs16.1; omega)) (one_ints _) (by simp only [Src.n]; have := hs16.1; omega) (fun s119 w120 q1 q2 q3 q4 => ?_)
        rw [← List.map_append] at q1
        have q5 := q1.ints.1
        simp only [List.length_append, List.length_singleton] at q5
        have q6 := q1.le (by omega)
        have g2z := g2.size
        have g1' : Own w116 s115 2 (bkC (ps ++ [((y : Int), t)])) := by rw [bkC, List.flatMap_append]; exact g1
        -- the cell of the stream
        obtain ⟨m, hm, hm2⟩ : ∃ m : Nat, (if (4 : Int) < ((s119.l : Nat) : Int) then (4 : Int) else ((s119.l : Nat) : Int)) = (m : Int) ∧ m = min 4 (1 + (L y).length) := by
          refine ⟨min 4 (1 + (L y).length), ?_, rfl⟩
          split <;> omega
        rw [hm]
        have emt : Int.toNat (m : Int) = m := by omega
        rw [emt]
        refine ⟨by omega, by omega, by omega, by omega, needSome_mk rfl ⟨by omega, by omega, ?_⟩⟩
        rw [add_lit, add_lit]
        have q2d := q2.trans (Ext.drew none0 w120) (fun _ h => h) (fun _ h => h.elim)
        have k116_118 : Keep w116 w118 := k118
        have S118 := hS6.keep k118
        have hGn : ∀ k, (F k ∨ G k) → ¬ ownB ⟨some ⟨r117, 0, none⟩, 1, 1⟩ k := fun k hk ho' => by
          have := h7o k ho'
          rcases hk with h1 | h1
          · have := hF k h1; omega
          · have := (hG k h1).2; omega
        have S120 := S118.ext q2d (fun hh => by have := h7o r hh; omega) hGn
        have hnew : intsAt w120.drew (Slc.sub s119 1 0 m s119.c) ((n :: L y).take 4) := by
          have := intsAt_sub (intsAt_keep q1.ints (Ext.drew _ w120)) (lo := 0) (hi := m) (c := s119.c) (by omega) (by simp; omega) (by omega)
          rw [List.drop_zero] at this
          have e4 : ([n] ++ L y).take m = (n :: L y).take 4 := by
            rw [List.singleton_append, hm2]
            by_cases hlen : 4 ≤ 1 + (L y).length
            · rw [Nat.min_eq_left hlen]
            · rw [Nat.min_eq_right (by omega), List.take_of_length_le (by simp; omega), List.take_of_length_le (by simp; omega)]
          rw [e4] at this
          exact this
        -- the blocks
        obtain ⟨G', hG'⟩ : ∃ G' : Nat → Prop, G' = fun k => G k ∨ ownB t k ∨ ownB s119 k := ⟨_, rfl⟩
        have h19 : ∀ k, ownB s119 k → w116.heap.size ≤ k := fun k hk => by
          rcases q3 k hk with h1 | h1
          · have := h7o k h1; omega
          · have := k118.size; omega
        have hGr : ¬ (F r ∨ G' r) := by
          rw [hG']
          rintro (h1 | h1 | h1 | h1)
          · exact h.f h1
          · have := (hG r h1).1; omega
          · have := hft r h1; omega
          · have := h19 r h1; omega
        have S120' := S120.wide (G := fun k => F k ∨ G' k) (fun k hk => hk.imp (fun h => h) (fun h => by rw [hG']; exact .inl h)) hGr
        obtain ⟨z1, z2⟩ := S120'.setS hy13 hnew (fun k hk => by rw [hG']; exact .inr (.inr (.inr (sub_own hk)))) (by simp; omega) (by simp only [Slc.sub]; omega)
        have er : (⟨r, 0 + 2 + y, none⟩ : Addr) = ⟨r, 2 + y, none⟩ := by rw [Nat.zero_add]
        rw [er]
        refine ⟨z1, fun w123 hw => ?_⟩
        obtain ⟨S123, e123⟩ := z2 w123 hw
        have z120 := q2d.size
        have z123 := e123.size
        have e71_116 : Ext (ownB out) w71 w116 := Ext.trans k71_114 g2 (fun _ h => h.elim) (fun k h => .inl h)
        have e116_123 : Ext (fun k => k = r ∨ k = r117) w116 w123 := by
          refine Ext.trans (Ext.trans k118 q2d (M := fun k => k = r117) (fun _ h => h.elim) (fun k h => .inl (h7o k h))) e123 (fun k h => .inr h) (fun k h => .inl (.inl h))
        refine ⟨inR64 (by omega), ⟨k + 1, G', updS sl' y (Slc.sub s119 1 0 m s119.c), rfl, hkl, ?_, ?_, ?_, ?_, ?_⟩, by dsimp only; omega⟩
        · refine (he.trans e71_116 (fun _ h => h) (fun k h => .inr (hout k h).1)).trans e116_123 (fun _ h => h) (fun k h => h.elim (fun h => .inl h) (fun h => .inr (by omega)))
        · rw [hG']
          rintro k (h1 | h1 | h1)
          · have := hG k h1; omega
          · exact ⟨by have := hft k h1; omega, by have := htlt k h1; have : w120.heap.size ≤ w123.heap.size := e123.size; omega⟩
          · have h2 := OwnLt q1 k h1
            have : w120.heap.size ≤ w123.heap.size := by have := e123.size; exact this
            exact ⟨by have := h19 k h1; omega, by omega⟩
        · rw [htk, takeL_snoc n (l.take k) L y hnin]
          exact S123
        · rw [htk]
          refine ⟨ps ++ [((y : Int), t)], g1'.ext e116_123 (fun k hk hh => ?_), by simp [hpl], fun i hi hi' => ?_⟩
          · rcases g3 k hk with h1 | h1
            · have := OwnLt ho k h1; have := (hout k h1).1; rcases hh with rfl | rfl <;> omega
            · have := OwnLt g1' k hk; rcases hh with rfl | rfl <;> omega
          · by_cases hik : i < ps.length
            · have hik' : i < (l.take k).length := by rw [← hpl]; exact hik
              obtain ⟨p1, p2, p3⟩ := hps i hik hik'
              rw [List.getElem_append_left hik, List.getElem_append_left hik']
              refine ⟨p1, ?_, fun k hk => by rw [hG']; exact .inl (p3 k hk)⟩
              refine intsAt_ext (intsAt_ext p2 e71_116 (fun k hk hh => (hout k hh).2 (p3 k hk))) e116_123 (fun k hk hh => ?_)
              have := hG k (p3 k hk)
              rcases hh with rfl | rfl <;> omega
            · have hie : i = ps.length := by simp at hi; omega
              subst hie
              rw [List.getElem_append_right (by omega), List.getElem_append_right (by omega)]
              simp only [hpl, Nat.sub_self, List.getElem_cons_zero, Int.toNat_natCast]
              refine ⟨trivial, intsAt_ext ht6 e116_123 (fun k hk hh => ?_), fun k hk => by rw [hG']; exact .inr (.inl hk)⟩
              have h1 := hft k hk
              rcases hh with rfl | rfl
              · omega
              · have := htlt k hk; omega
        · intro k hk
          rcases g3 k hk with h1 | h1
          · refine ⟨(hout k h1).1, ?_⟩
            rw [hG']
            rintro (h2 | h2 | h2)
            · exact (hout k h1).2 h2
            · exact hto k h2 h1
            · have := h19 k h2; have := OwnLt g1' k hk; omega
          · refine ⟨by omega, ?_⟩
            rw [hG']
            rintro (h2 | h2 | h2)
            · have := (hG k h2).2; omega
            · have := htlt k h2; omega
            · have := h19 k h2; have := OwnLt g1' k hk; omega
      · have hkl : k = l.length := by omega
        subst hkl
        rw [List.take_length] at hS hpl hps
        refine needSome_mk rfl ⟨n, by rw [add_lit]; exact hS.c1, inR64 (by omega), needSome_mk rfl ?_⟩
        rw [add_lit]
        obtain ⟨z1, z2⟩ := hS.setN (n + 1)
        refine ⟨z1, fun w127 hw => ?_⟩
        obtain ⟨S127, e127⟩ := z2 w127 hw
        refine ⟨_, _, _, rfl, rfl, rfl, he.trans e127 (fun _ h => h) (fun k h => .inl h), G, sl', fun k hk => by have := hG k hk; have := e127.size; omega, S127, ?_, hout⟩
        have hT : Told w71 out l L G := ⟨ps, ho, hpl, hps⟩
        exact hT.ext e127 (fun k hk hh => by have := (hout k hk).1; omega) (fun k hk hh => by have := (hG k hk).1; omega)
end Go.D
