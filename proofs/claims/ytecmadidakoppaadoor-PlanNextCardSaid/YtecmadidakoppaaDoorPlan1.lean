/-
  WHAT IS PROVED: contracts of functions, and the plain law, for this proof. No further conditions.
-/
import Derived.Test.YtecmadidakoppaaDoorVCplan
import Derived.Test.YtecmadidakoppaaDoorVCints
import Derived.Test.YtecmadidakoppaaDoorErrB
import Derived.Test.YtecmadidakoppaaDoorIntsB
set_option linter.unusedVariables false
set_option linter.unusedSimpArgs false
namespace Go.D
open Go Go.Proofs

theorem IntsAt.cut {w : World} {s : Slc} {l : List Int} (h : IntsAt w s l) {j : Nat} (hj : j ≤ l.length) {K : World → Prop} (hK : ∀ w', IntsAt w' ⟨s.p, j, s.c⟩ (l.take j) → Ext (ownB s) w w' → w'.heap.size = w.heap.size → K w') :
    clearS [.int .i64 0] w (Slc.sub s 1 j s.l s.c) fun w' => K w' := by
  have hsl := h.sl
  have hcap := h.cap
  obtain ⟨h1, ⟨hp, h2, h3⟩ | ⟨b, pad, T, f, hp, hb, h4, h5⟩⟩ := h.own
  · rw [flat_int] at h2
    have hl0 : l = [] := by simpa using h2
    subst hl0
    have hj0 : j = 0 := by simpa using hj
    subst hj0
    have e1 : Slc.sub s 1 0 s.l s.c = ⟨none, 0, 0⟩ := by
      unfold Slc.sub
      have e2 : s.l = 0 := by simpa using hsl
      rw [hp, h3, e2]; simp
    rw [e1]
    rintro w1 rfl
    refine hK w1 ?_ (Ext.refl _ _) rfl
    have : (⟨s.p, 0, s.c⟩ : Slc) = ⟨none, 0, 0⟩ := by rw [hp, h3]
    rw [this]
    exact IntsAt.nil _
  · rw [flat_int] at hb h4 h5
    have e1 : ∃ o, Slc.sub s 1 j s.l s.c = ⟨some ⟨b, o, none⟩, s.l - j, s.c - j⟩ ∧ (j < s.c → o = j) := by
      unfold Slc.sub
      rw [hp]
      by_cases hjc : s.c = j
      · rw [if_pos hjc]; exact ⟨0, rfl, fun hh => by omega⟩
      · rw [if_neg hjc]; exact ⟨j, by simp [add_lit], fun _ => rfl⟩
    obtain ⟨o, e1, ho⟩ := e1
    rw [e1]
    have hlp : (l.map (fun x => Value.int .i64 x) ++ pad).length = s.c := by rw [h4]; simp [IntR]
    have hpl : l.length + pad.length = s.c := by rw [← hlp]; simp
    have go : ∀ w1 : World, w1.heap[b]? = some (.cells ⟨(l.take j).map (fun x => Value.int .i64 x) ++ (repl (s.l - j) [.int .i64 0] ++ pad)⟩ T f) → Ext (ownB s) w w1 → w1.heap.size = w.heap.size → K w1 := by
      intro w1 hb1 he hz
      refine hK w1 ⟨⟨?_, .inr ⟨b, repl (s.l - j) [.int .i64 0] ++ pad, T, f, hp, by rw [flat_int]; exact hb1, ?_, ?_⟩⟩, by simp, fun i hi hi' => by simp [IntR], fun k hk => (footC_int hk).elim⟩ he hz
      · rw [flat_int]; simp [IntR]; omega
      · rw [flat_int]; simp [IntR, repl_length]; omega
      · rw [flat_int]
        have : ((l.take j).map (fun x => Value.int .i64 x) ++ (repl (s.l - j) [Value.int .i64 0] ++ pad)).length = (l.map (fun x => Value.int .i64 x) ++ pad).length := by simp [repl_length]; omega
        rw [this]; exact h5
    by_cases hjl : j = l.length
    · have e2 : s.l - j = 0 := by omega
      rw [e2]
      refine ⟨fun i hi => by simp at hi, ?_⟩
      rintro w1 rfl
      refine go w1 ?_ (Ext.refl _ _) rfl
      rw [e2, hjl, List.take_length]
      exact hb
    · have hoj : o = j := ho (by omega)
      subst hoj
      refine ⟨canW_of hb h5 _ _ (by rw [hlp]; simp; omega), ?_⟩
      rintro w1 rfl
      have hh := setCells_heap (repl (s.l - o) [.int .i64 0]) w _ o 0 hb
      have e3 : l.map (fun x => Value.int .i64 x) ++ pad = (l.take o).map (fun x => Value.int .i64 x) ++ ((l.drop o).map (fun x => Value.int .i64 x) ++ pad) := by
        rw [← List.append_assoc, ← List.map_append, List.take_append_drop]
      have e4 : o + 0 = ((l.take o).map fun x => Value.int .i64 x).length := by simp; omega
      rw [e3, e4, setFrom_mid _ _ _ (by simp [repl_length]; omega), List.drop_append_of_le_length (by simp [repl_length]; omega), List.drop_of_length_le (by simp [repl_length]; omega), List.nil_append, List.append_assoc] at hh
      exact go _ hh (Ext.setCells (M := ownB s) (a := (⟨b, o, none⟩ : Addr)) ⟨_, hp, rfl⟩ _ 0 w) (setCells_size _ _ _ _)

/-! ### sorting -/
theorem Less_spec (x y : Int) (w : World) : Calls Tryd.prog fn_cmp_Less_int ⟨[.int .i64 x, .int .i64 y]⟩ w fun e w' => e = .returned (.bool (decide (x < y))) ∧ Keep w w' := by
  have hnan : ∀ z w, Calls Tryd.prog fn_cmp_isNaN_int ⟨[.int .i64 z]⟩ w fun e w' => e = .returned (.bool false) ∧ w' = w := by
    intro z w
    refine cmp_isNaN_int_ok _ ?_
    unfold cmp_isNaN_int
    exact ⟨by simp, rfl⟩
  refine cmp_Less_int_ok _ _ ?_
  unfold cmp_Less_int
  refine (hnan x w).mono ?_
  rintro e w4 ⟨rfl, rfl⟩
  exact ⟨_, rfl, BIf_mk (fun h => by cases h) (fun _ => ⟨rfl, Ext.refl _ _⟩)⟩

def sw (l : List Int) (j : Nat) : List Int := (l.set j (l.getD (j - 1) 0)).set (j - 1) (l.getD j 0)
theorem sw_len (l : List Int) (j : Nat) : (sw l j).length = l.length := by simp [sw]
theorem sw_get {l : List Int} {j x : Nat} (hj : 0 < j) (hjl : j < l.length) (hx : x < l.length) : (sw l j)[x]'(by rw [sw_len]; exact hx) = if x = j - 1 then l[j] else if x = j then l[j - 1]'(by omega) else l[x] := by
  have h1 : j - 1 < l.length := by omega
  simp only [sw, List.getElem_set, List.getD, List.getElem?_eq_getElem hjl, List.getElem?_eq_getElem h1, Option.getD_some]
  by_cases h2 : x = j - 1
  · rw [if_pos h2.symm, if_pos h2]
  · rw [if_neg (fun e => h2 e.symm), if_neg h2]
    by_cases h3 : x = j
    · rw [if_pos h3.symm, if_pos h3]
    · rw [if_neg (fun e => h3 e.symm), if_neg h3]
theorem sw_perm {l : List Int} {j : Nat} (hj : 0 < j) (hjl : j < l.length) : (sw l j).Perm l := by
  have h1 : j - 1 < l.length := by omega
  have e1 : l = l.take (j - 1) ++ (l[j - 1] :: l[j] :: l.drop (j + 1)) := by
    conv => lhs; rw [← List.take_append_drop (j - 1) l]
    congr 1
    rw [List.drop_eq_getElem_cons h1]
    congr 1
    rw [show j - 1 + 1 = j by omega]
    exact List.drop_eq_getElem_cons hjl
  have e2 : sw l j = l.take (j - 1) ++ (l[j] :: l[j - 1] :: l.drop (j + 1)) := by
    apply List.ext_getElem
    · rw [sw_len]; simp; omega
    · intro x hx hx'
      rw [sw_len] at hx
      rw [sw_get hj hjl hx]
      rw [List.getElem_append]
      by_cases h2 : x < j - 1
      · rw [if_neg (by omega), if_neg (by omega)]
        simp only [List.length_take]
        rw [dif_pos (by omega)]
        rw [List.getElem_take]
      · simp only [List.length_take]
        rw [dif_neg (by omega)]
        have e3 : x - min (j - 1) l.length = x - (j - 1) := by omega
        simp only [e3]
        by_cases h3 : x = j - 1
        · rw [if_pos h3]
          have : x - (j - 1) = 0 := by omega
          simp only [this, List.getElem_cons_zero]
        · by_cases h4 : x = j
          · rw [if_neg h3, if_pos h4]
            have : x - (j - 1) = 1 := by omega
            simp only [this, List.getElem_cons_succ, List.getElem_cons_zero]
          · rw [if_neg h3, if_neg h4]
            obtain ⟨y, hy⟩ : ∃ y, x - (j - 1) = y + 2 := ⟨x - (j - 1) - 2, by omega⟩
            simp only [hy, List.getElem_cons_succ, List.getElem_drop]
            congr 1; omega
  rw [e2]
  conv => rhs; rw [e1]
  exact List.Perm.append_left _ (List.Perm.swap _ _ _)

/-- The first i elements are sorted. -/
def SortedTo (l : List Int) (i : Nat) : Prop := ∀ x y (hx : x < l.length) (hy : y < l.length), x < y → y < i → l[x] ≤ l[y]
/-- Those up to i are sorted but for the one at j, that is least of those from j on. -/
def Near (l : List Int) (i j : Nat) : Prop := (∀ x y (hx : x < l.length) (hy : y < l.length), x < y → y ≤ i → x ≠ j → y ≠ j → l[x] ≤ l[y]) ∧ ∀ y (hy : y < l.length) (hj : j < l.length), j < y → y ≤ i → l[j] ≤ l[y]
theorem near_start {l : List Int} {i : Nat} (h : SortedTo l i) : Near l i i := ⟨fun x y hx hy h1 h2 h3 h4 => h x y hx hy h1 (by omega), fun y hy hj h1 h2 => by omega⟩
theorem near_step {l : List Int} {i j : Nat} (hj : 0 < j) (hjl : j < l.length) (hji : j ≤ i) (h : Near l i j) (hlt : l[j] < l[j - 1]'(by omega)) : Near (sw l j) i (j - 1) := by
  refine ⟨fun x y hx hy h1 h2 h3 h4 => ?_, fun y hy hj' h1 h2 => ?_⟩
  · rw [sw_len] at hx hy
    rw [sw_get hj hjl hx, sw_get hj hjl hy, if_neg h3, if_neg h4]
    by_cases h5 : x = j
    · rw [if_pos h5, if_neg (by omega)]
      exact h.1 (j - 1) y (by omega) hy (by omega) h2 (by omega) (by omega)
    · rw [if_neg h5]
      by_cases h6 : y = j
      · rw [if_pos h6]
        exact h.1 x (j - 1) hx (by omega) (by omega) (by omega) h5 (by omega)
      · rw [if_neg h6]
        exact h.1 x y hx hy h1 h2 h5 h6
  · rw [sw_len] at hy hj'
    rw [sw_get hj hjl hj', sw_get hj hjl hy, if_pos rfl, if_neg (by omega)]
    by_cases h6 : y = j
    · rw [if_pos h6]; omega
    · rw [if_neg h6]
      exact h.2 y hy hjl (by omega) h2
theorem near_end {l : List Int} {i j : Nat} (h : Near l i j) (hij : j ≤ i) (hd : ∀ (h1 : j < l.length), 0 < j → ¬ l[j] < l[j - 1]'(by omega)) : SortedTo l (i + 1) := by
  intro x y hx hy h1 h2
  by_cases h3 : x = j
  · subst h3; exact h.2 y hy hx h1 (by omega)
  · by_cases h4 : y = j
    · subst h4
      have h5 := hd hy (by omega)
      by_cases h6 : x = y - 1
      · subst h6; omega
      · have := h.1 x (y - 1) hx (by omega) (by omega) (by omega) h3 (by omega)
        omega
    · exact h.1 x y hx hy h1 (by omega) h3 h4

theorem insertion_spec (s : Slc) (l : List Int) (w : World) (h : IntsAt w s l) (hl : l.length ≤ 2 ^ 30) :
    Calls Tryd.prog fn_slices_insertionSortOrdered_int ⟨[s.v, .int .i64 0, .int .i64 (l.length : Int)]⟩ w fun e w' => e = .returned (.tuple #[]) ∧ ∃ l', l'.Perm l ∧ SortedTo l' l.length ∧ IntsAt w' s l' ∧ Ext (ownB s) w w' := by
  refine slices_insertionSortOrdered_int_ok _ _ _ ?_
  unfold slices_insertionSortOrdered_int
  refine ⟨inR64 (by omega), fun i w2 => ∃ (k : Nat) (l' : List Int), i = k ∧ 1 ≤ k ∧ (k ≤ l.length ∨ k = 1) ∧ l'.Perm l ∧ SortedTo l' k ∧ IntsAt w2 s l' ∧ Ext (ownB s) w w2, fun i _ => ((l.length : Int) - i).toNat,
    ⟨1, l, rfl, by omega, .inr rfl, List.Perm.refl _, fun x y hx hy h1 h2 => by omega, h, Ext.refl _ _⟩, ?_⟩
  rintro i w7 ⟨k, l', rfl, hk1, hk, hp, hs, h7, e7⟩
  intros
  have hpl := hp.length_eq
  refine BIf_dec (fun h1 => ?_) (fun h1 => ?_)
  · refine ⟨fun j w2 => ∃ (m : Nat) (l' : List Int), j = m ∧ m ≤ k ∧ l'.Perm l ∧ Near l' k m ∧ IntsAt w2 s l' ∧ Ext (ownB s) w w2, fun j _ => j.toNat, ⟨k, l', rfl, Nat.le_refl _, hp, near_start hs, h7, e7⟩, ?_⟩
    rintro j w51 ⟨m, l2, rfl, hm, hp2, hn, h51, e51⟩
    intros
    have hpl2 := hp2.length_eq
    have hsl := h51.sl
    have hd := h51.keep (Ext.drew _ w51)
    have ed : Ext (ownB s) w w51.drew := e51.trans (Ext.drew _ _) (fun _ h => h) (fun _ h => .inl h)
    have out : ∀ w3, IntsAt w3 s l2 → Ext (ownB s) w w3 → (∀ (h1 : m < l2.length), 0 < m → ¬ l2[m] < l2[m - 1]'(by omega)) → inR .i64 ((k : Int) + 1) ∧ (∃ (k' : Nat) (l' : List Int), ((k : Int) + 1) = k' ∧ 1 ≤ k' ∧ (k' ≤ l.length ∨ k' = 1) ∧ l'.Perm l ∧ SortedTo l' k' ∧ IntsAt w3 s l' ∧ Ext (ownB s) w w3) ∧ ((l.length : Int) - ((k : Int) + 1)).toNat < ((l.length : Int) - (k : Int)).toNat :=
      fun w3 a1 a2 a3 => ⟨inR64 (by omega), ⟨k + 1, l2, rfl, by omega, .inl (by omega), hp2, near_end hn hm a3, a1, a2⟩, by omega⟩
    refine ⟨fun w3 => 0 < m ∧ (∃ (h1 : m < l2.length), 0 < m ∧ l2[m] < l2[m - 1]'(by omega)) ∧ IntsAt w3 s l2 ∧ Ext (ownB s) w w3, ?_, ?_⟩
    · refine BIf_dec (fun h2 => ?_) (fun h2 => out _ hd ed (fun _ hh => by omega))
      have hml : m < l2.length := by omega
      have hml1 : m - 1 < l2.length := by omega
      obtain ⟨a, ha, c1⟩ := hd.get hml
      obtain ⟨a', ha', c2⟩ := hd.get hml1
      rw [ha] at ha'
      cases ha'
      have e1 : Int.toNat ((m : Int) - 1) * 1 = (m - 1) * 1 := by omega
      refine needSome_mk ha ⟨by omega, by omega, _, by rw [show Int.toNat (m : Int) * 1 = m * 1 by omega]; exact c1, inR64 (by omega), needSome_mk ha ⟨by omega, by omega, _, by rw [e1]; exact c2, ?_⟩⟩
      refine (Less_spec _ _ _).mono ?_
      rintro e w91 ⟨rfl, k91⟩
      have h91 := hd.keep k91
      have e91 : Ext (ownB s) w w91 := ed.trans (k91.mono (fun _ h => h.elim)) (fun _ h => h) (fun _ h => .inl h)
      exact ⟨_, rfl, BIf_dec (fun h3 => ⟨by omega, ⟨hml, by omega, h3⟩, h91, e91⟩) (fun h3 => out _ h91 e91 (fun _ _ => h3))⟩
    · rintro w93 ⟨hm0, ⟨hml, _, hlt⟩, h93, e93⟩
      intros
      have h93d := h93.keep (Ext.drew _ w93)
      have hml1 : m - 1 < l2.length := by omega
      have e1 : Int.toNat ((m : Int) - 1) * 1 = (m - 1) * 1 := by omega
      have e2 : Int.toNat (m : Int) * 1 = m * 1 := by omega
      obtain ⟨a, ha, c1⟩ := h93d.get hml
      obtain ⟨a', ha', c2⟩ := h93d.get hml1
      rw [ha] at ha'
      cases ha'
      obtain ⟨cw1, g1⟩ := h93d.set hml l2[m - 1] ha
      refine ⟨inR64 (by omega), inR64 (by omega), needSome_mk ha ⟨by omega, by omega, _, by rw [e1]; exact c2, needSome_mk ha ⟨by omega, by omega, _, by rw [e2]; exact c1, needSome_mk ha ⟨by omega, by omega, by rw [e2]; exact cw1, fun w114 hw114 => ?_⟩⟩⟩⟩
      obtain ⟨h114, e114, z114⟩ := g1 w114 (by rw [hw114, e2])
      obtain ⟨cw2, g2⟩ := h114.set (i := m - 1) (by simp; omega) l2[m] ha
      refine needSome_mk ha ⟨by omega, by omega, by rw [e1]; exact cw2, fun w116 hw116 => ?_⟩
      obtain ⟨h116, e116, z116⟩ := g2 w116 (by rw [hw116, e1])
      have esw : (l2.set m l2[m - 1]).set (m - 1) l2[m] = sw l2 m := by
        simp [sw, List.getD, hml, hml1]
      rw [esw] at h116
      refine ⟨inR64 (by omega), ⟨m - 1, sw l2 m, by omega, by omega, (sw_perm hm0 hml).trans hp2, near_step hm0 hml hm hn hlt, h116, ?_⟩, by dsimp only; omega⟩
      exact ((e93.trans (Ext.drew (ownB s) _) (fun _ h => h) (fun _ h => .inl h)).trans e114 (fun _ h => h) (fun _ h => .inl h)).trans e116 (fun _ h => h) (fun _ h => .inl h)
  · refine ⟨rfl, l', hp, fun x y hx hy a1 a2 => hs x y hx hy a1 (by omega), h7, e7⟩

set_option maxRecDepth 100000 in
theorem Len_spec (n : Nat) (hn : n ≤ 200) (w : World) : Calls Tryd.prog fn_math_bits_Len ⟨[.int .u64 (n : Int)]⟩ w fun e w' => ∃ k : Int, e = .returned (.int .i64 k) ∧ w' = w := by
  have h64 : Calls Tryd.prog fn_math_bits_Len64 ⟨[.int .u64 (n : Int)]⟩ w fun e w' => ∃ k : Int, e = .returned (.int .i64 k) ∧ w' = w := by
    refine math_bits_Len64_ok _ ?_
    unfold math_bits_Len64
    refine ⟨fun x m w2 => x = n ∧ m = 0 ∧ w2 = w, BIf_dec (fun h => by omega) (fun _ => ⟨rfl, rfl, rfl⟩), ?_⟩
    rintro x m w2 ⟨rfl, rfl, rfl⟩
    intros
    refine ⟨fun x m w3 => x = n ∧ m = 0 ∧ w3 = w2, BIf_dec (fun h => by omega) (fun _ => ⟨rfl, rfl, rfl⟩), ?_⟩
    rintro x m w3 ⟨rfl, rfl, rfl⟩
    intros
    refine BIf_dec (fun h => by omega) (fun _ => ?_)
    have hw : IntKind.wrap .u8 (n : Int) = n := wrap_inR (inR8 (by omega))
    rw [hw]
    have hb : ∀ u : UInt8, (u.toNat : Int) < 256 := fun u => by have := u.toNat_lt; omega
    refine ⟨by omega, ?_, inR64 ?_, inR64 ?_, _, rfl, rfl⟩
    · have e : ∀ (l : List UInt8), l.length = 256 → (n : Int) < ((l.length : Nat) : Int) := fun l hl => by rw [hl]; omega
      exact e _ rfl
    · constructor
      · exact Int.le_trans (by decide) (Int.natCast_nonneg _)
      · exact Int.le_trans (Int.le_of_lt (hb _)) (by decide)
    · rw [Int.zero_add]; constructor
      · exact Int.le_trans (by decide) (Int.natCast_nonneg _)
      · exact Int.le_trans (Int.le_of_lt (hb _)) (by decide)
  refine math_bits_Len_ok _ ?_
  unfold math_bits_Len
  refine h64.mono ?_
  rintro e w' ⟨k, rfl, rfl⟩
  exact ⟨k, rfl, k, rfl, rfl⟩

theorem Sort_spec (s : Slc) (l : List Int) (w : World) (h : IntsAt w s l) (hl : l.length ≤ 12) :
    Calls Tryd.prog fn_slices_Sort_int ⟨[s.v]⟩ w fun e w' => e = .returned (.tuple #[]) ∧ ∃ l', l'.Perm l ∧ SortedTo l' l.length ∧ IntsAt w' s l' ∧ Ext (ownB s) w w' := by
  have hsl := h.sl
  refine slices_Sort_int_ok _ ?_
  unfold slices_Sort_int
  have hw : IntKind.wrap .u64 ((s.l : Nat) : Int) = s.l := wrap_inR (inRu64 (by omega))
  rw [hw]
  refine (Len_spec s.l (by omega) w).mono ?_
  rintro e w3 ⟨k, rfl, rfl⟩
  refine ⟨k, rfl, ?_⟩
  have hp : Calls Tryd.prog fn_slices_pdqsortOrdered_int ⟨[s.v, .int .i64 0, .int .i64 ((s.l : Nat) : Int), .int .i64 k]⟩ w3 fun e w' => e = .returned (.tuple #[]) ∧ ∃ l', l'.Perm l ∧ SortedTo l' l.length ∧ IntsAt w' s l' ∧ Ext (ownB s) w3 w' := by
    refine slices_pdqsortOrdered_int_ok _ _ _ _ ?_
    unfold slices_pdqsortOrdered_int
    refine ⟨fun a b _ _ _ w2 => a = 0 ∧ b = l.length ∧ w2 = w3, fun _ _ _ _ _ _ => 0, ⟨rfl, by rw [hsl], rfl⟩, ?_⟩
    rintro a b lim x1 x2 w12 ⟨rfl, rfl, rfl⟩
    intros
    refine ⟨inR64 (by omega), BIf_dec (fun _ => ?_) (fun hh => by omega)⟩
    refine (insertion_spec s l w12 h (by omega)).mono ?_
    rintro e w138 ⟨rfl, hm⟩
    exact ⟨rfl, rfl, hm⟩
  refine hp.mono ?_
  rintro e w6 ⟨rfl, hm⟩
  exact ⟨rfl, rfl, hm⟩
end Go.D
