/-
  WHAT IS PROVED: contracts of functions, and the plain law, for this proof. No further conditions.
-/
import Derived.Test.YtbkbipecfdfilaaDoorRowsM
import Derived.Test.YtbkbipecfdfilaaDoorRd
import Derived.Test.YtbkbipecfdfilaaDoorVCsort
import Derived.Test.YtbkbipecfdfilaaDoorFlat
import Derived.Test.YtbkbipecfdfilaaDoorVCnum
import Derived.Test.YtbkbipecfdfilaaDoorIsFacts
import Derived.Test.YtbkbipecfdfilaaDoorLaid
import Derived.Test.YtbkbipecfdfilaaDoorMem
import Derived.Test.YtbkbipecfdfilaaDoorVCdedup
import Derived.Test.YtbkbipecfdfilaaDoorMapI
import Derived.Test.YtbkbipecfdfilaaDoorRangeM
import Derived.Test.YtbkbipecfdfilaaDoorVClaw22
set_option linter.unusedVariables false
set_option linter.unusedSimpArgs false
namespace Go.D
open Go

/-! ### integers that are the call's own -/
def intC (x : Int) : List Value := [.int .i64 x]
theorem foot_int {x : Int} {k : Nat} : ¬ footV (intC x) k := by rintro ⟨s, hs, _⟩; simp [intC, Slc.v] at hs
def IntR : RowD Int where
  n := 1
  pos := by omega
  R _ x cs := cs = intC x
  len h := by rw [h]; rfl
  one h := by rw [h]; intro v hv; simp [intC] at hv; subst hv; rfl
  ext h _ _ := h
  lt h := by rw [h]; intro k hk; exact (foot_int hk).elim
def IntsAt (w : World) (s : Slc) (l : List Int) : Prop := Rows IntR w s l (l.map intC)
theorem IntsAt.of {w : World} {s : Slc} {l : List Int} {css : List (List Value)} (h : Rows IntR w s l css) : IntsAt w s l := by
  have : css = l.map intC := by
    apply List.ext_getElem
    · rw [h.len, List.length_map]
    · intro i h1 h2
      rw [List.getElem_map]
      exact h.row i h1 (by simpa using h2)
  rw [this] at h
  exact h
theorem footC_int {l : List Int} {k : Nat} : ¬ footC (l.map intC) k := by
  rintro ⟨cs, hc, hk⟩
  obtain ⟨x, _, rfl⟩ := List.mem_map.1 hc
  exact foot_int hk
theorem IntsAt.ext {M : Nat → Prop} {w w' : World} {s : Slc} {l : List Int} (h : IntsAt w s l) (he : Ext M w w') (h1 : ∀ k, ownB s k → ¬ M k) : IntsAt w' s l := Rows.ext h he h1 (fun k hk => (footC_int hk).elim)
theorem IntsAt.keep {w w' : World} {s : Slc} {l : List Int} (h : IntsAt w s l) (he : Keep w w') : IntsAt w' s l := h.ext he (fun _ _ h => h)
theorem IntsAt.nil (w : World) : IntsAt w ⟨none, 0, 0⟩ [] := Rows.nil _ _
theorem flat_int (l : List Int) : (l.map intC).flatten = l.map fun x => Value.int .i64 x := by
  induction l with
  | nil => rfl
  | cons a l ih => rw [List.map_cons, List.flatten_cons, ih]; rfl
theorem IntsAt.ints {w : World} {s : Slc} {l : List Int} (h : IntsAt w s l) : intsAt w s l := by
  have h1 := h.sl
  have h2 := h.own.cells
  rw [flat_int] at h2
  exact ⟨h1, h2⟩
theorem IntsAt.new {w : World} {r : Nat} {T : TypeId} (h : w.heap[r]? = some (.cells ⟨[]⟩ T)) : IntsAt w ⟨some ⟨r, 0, none⟩, 0, 0⟩ [] :=
  ⟨Own.new (sz := 1) (n := 0) h (.inl (by simp)) rfl, rfl, fun i h => by simp at h, fun k hk => (footC_int (l := []) hk).elim⟩
theorem IntsAt.get {w : World} {s : Slc} {l : List Int} (h : IntsAt w s l) {i : Nat} (hi : i < l.length) : ∃ a, s.p = some a ∧ World.cell? w (Addr.add a (i * 1)) = some (.int .i64 l[i]) := by
  obtain ⟨a, ha, _, hrow⟩ := Rows.get h (i := i) (by simpa using hi)
  rw [List.getElem_map] at hrow
  have := hrow.1
  have e : (a.add (i * IntR.n)).add 0 = a.add (i * 1) := by simp [Addr.add, IntR]
  rw [e] at this
  exact ⟨a, ha, this⟩
theorem IntsAt.set {w : World} {s : Slc} {l : List Int} (h : IntsAt w s l) {i : Nat} (hi : i < l.length) (x : Int) {a : Addr} (ha : s.p = some a) :
    canW w (Addr.add a (i * 1)) 1 ∧ ∀ w', w' = World.setCell w (Addr.add a (i * 1)) (.int .i64 x) → IntsAt w' s (l.set i x) ∧ Ext (ownB s) w w' ∧ w'.heap.size = w.heap.size := by
  have hi2 : i < (l.map intC).length := by simpa using hi
  have hcs : (l.map intC)[i].take 0 ++ [Value.int .i64 x] ++ (l.map intC)[i].drop (0 + [Value.int .i64 x].length) = intC x := by rw [List.getElem_map]; rfl
  obtain ⟨cw, g⟩ := Rows.set h hi2 0 [.int .i64 x] (Nat.le_refl 1) x ha (fun w' _ => by rw [hcs]; rfl) (fun k hk => by rw [hcs] at hk; exact (foot_int hk).elim)
  have e : (a.add (i * IntR.n)).add 0 = a.add (i * 1) := by simp [Addr.add, IntR]
  rw [e] at cw g
  refine ⟨cw, fun w' hw' => ?_⟩
  obtain ⟨g1, g2, g3⟩ := g w' (by rw [hw']; simp [setCells, Addr.add])
  exact ⟨IntsAt.of g1, g2, g3⟩
/-- An integer is appended. -/
theorem IntsAt.push {T E : TypeId} {w w0 : World} {s : Slc} {l : List Int} {x : Int} {K : Slc → World → Prop} (h : IntsAt w s l) (hf : Fresh w0 s) (hk : Keep w0 w) (hlen : l.length < 2 ^ 30)
    (hK : ∀ s' w', IntsAt w' s' (l ++ [x]) → Fresh w0 s' → Keep w0 w' → Ext (ownB s) w w' → (∀ k, ownB s' k → ownB s k ∨ w.heap.size ≤ k) → K s' w') :
    newS w (.cells ⟨[.int .i64 x]⟩ T) fun r w2 => appendS 1 E [.int .i64 0] w2 s (.slc ⟨some ⟨r, 0, none⟩, 1, 1⟩) K := by
  refine newS_mk (fun r w2 hr hb k2 hs2 => ?_)
  have h2 : Rows IntR w2 s l (l.map intC) := h.keep k2
  have z2 := k2.size
  have z0 := hk.size
  refine h2.snoc (cs := intC x) (x := x) (z := [.int .i64 0]) rfl rfl (fun k hk => (foot_int hk).elim) hb (.inl (by simp)) hlen (fun s' w' g1 g2 g3 => ?_)
  have g3' : ∀ k, ownB s' k → ownB s k ∨ w.heap.size ≤ k := fun k hk => (g3 k hk).imp (fun h => h) (fun h => by omega)
  exact hK s' w' (IntsAt.of (by simpa using g1)) (fun j hj => (g3' j hj).elim (fun h => hf j h) (fun h => by omega)) ((hk.trans k2).ext g2 (fun j hj => hf j hj)) (Ext.trans k2 g2 (fun _ h => h.elim) (fun _ h => .inl h)) g3'
end Go.D

set_option linter.unusedVariables false
set_option linter.unusedSimpArgs false
namespace Go.D
open Go Go.Proofs

/-! ### sorting -/
theorem Less_spec (x y : Int) (w : World) : Calls Tryd.prog fn_cmp_Less_int ⟨[.int .i64 x, .int .i64 y]⟩ w fun e w' => e = .returned (.bool (decide (x < y))) ∧ Keep w w' := by
  have hnan : ∀ z w, Calls Tryd.prog fn_cmp_isNaN_int ⟨[.int .i64 z]⟩ w fun e w' => e = .returned (.bool false) ∧ w' = w := by
    intro z w
    refine cmp_isNaN_int_ok _ ?_
    unfold cmp_isNaN_int
    exact ⟨by simp, rfl⟩
  refine cmp_Less_int_ok _ _ ?_
  unfold cmp_Less_int
  refine (hnan x w).mono ?_
  rintro e w4 ⟨rfl, rfl⟩
  exact ⟨_, rfl, BIf_mk (fun h => by cases h) (fun _ => ⟨rfl, Ext.refl _ _⟩)⟩

def sw (l : List Int) (j : Nat) : List Int := (l.set j (l.getD (j - 1) 0)).set (j - 1) (l.getD j 0)
theorem sw_len (l : List Int) (j : Nat) : (sw l j).length = l.length := by simp [sw]
theorem sw_get {l : List Int} {j x : Nat} (hj : 0 < j) (hjl : j < l.length) (hx : x < l.length) : (sw l j)[x]'(by rw [sw_len]; exact hx) = if x = j - 1 then l[j] else if x = j then l[j - 1]'(by omega) else l[x] := by
  have h1 : j - 1 < l.length := by omega
  simp only [sw, List.getElem_set, List.getD, List.getElem?_eq_getElem hjl, List.getElem?_eq_getElem h1, Option.getD_some]
  by_cases h2 : x = j - 1
  · rw [if_pos h2.symm, if_pos h2]
  · rw [if_neg (fun e => h2 e.symm), if_neg h2]
    by_cases h3 : x = j
    · rw [if_pos h3.symm, if_pos h3]
    · rw [if_neg (fun e => h3 e.symm), if_neg h3]
theorem sw_perm {l : List Int} {j : Nat} (hj : 0 < j) (hjl : j < l.length) : (sw l j).Perm l := by
  have h1 : j - 1 < l.length := by omega
  have e1 : l = l.take (j - 1) ++ (l[j - 1] :: l[j] :: l.drop (j + 1)) := by
    conv => lhs; rw [← List.take_append_drop (j - 1) l]
    congr 1
    rw [List.drop_eq_getElem_cons h1]
    congr 1
    rw [show j - 1 + 1 = j by omega]
    exact List.drop_eq_getElem_cons hjl
  have e2 : sw l j = l.take (j - 1) ++ (l[j] :: l[j - 1] :: l.drop (j + 1)) := by
    apply List.ext_getElem
    · rw [sw_len]; simp; omega
    · intro x hx hx'
      rw [sw_len] at hx
      rw [sw_get hj hjl hx]
      rw [List.getElem_append]
      by_cases h2 : x < j - 1
      · rw [if_neg (by omega), if_neg (by omega)]
        simp only [List.length_take]
        rw [dif_pos (by omega)]
        rw [List.getElem_take]
      · simp only [List.length_take]
        rw [dif_neg (by omega)]
        have e3 : x - min (j - 1) l.length = x - (j - 1) := by omega
        simp only [e3]
        by_cases h3 : x = j - 1
        · rw [if_pos h3]
          have : x - (j - 1) = 0 := by omega
          simp only [this, List.getElem_cons_zero]
        · by_cases h4 : x = j
          · rw [if_neg h3, if_pos h4]
            have : x - (j - 1) = 1 := by omega
            simp only [this, List.getElem_cons_succ, List.getElem_cons_zero]
          · rw [if_neg h3, if_neg h4]
            obtain ⟨y, hy⟩ : ∃ y, x - (j - 1) = y + 2 := ⟨x - (j - 1) - 2, by omega⟩
            simp only [hy, List.getElem_cons_succ, List.getElem_drop]
            congr 1; omega
  rw [e2]
  conv => rhs; rw [e1]
  exact List.Perm.append_left _ (List.Perm.swap _ _ _)

/-- The first i elements are sorted. -/
def SortedTo (l : List Int) (i : Nat) : Prop := ∀ x y (hx : x < l.length) (hy : y < l.length), x < y → y < i → l[x] ≤ l[y]
/-- Those up to i are sorted but for the one at j, that is least of those from j on. -/
def Near (l : List Int) (i j : Nat) : Prop := (∀ x y (hx : x < l.length) (hy : y < l.length), x < y → y ≤ i → x ≠ j → y ≠ j → l[x] ≤ l[y]) ∧ ∀ y (hy : y < l.length) (hj : j < l.length), j < y → y ≤ i → l[j] ≤ l[y]
theorem near_start {l : List Int} {i : Nat} (h : SortedTo l i) : Near l i i := ⟨fun x y hx hy h1 h2 h3 h4 => h x y hx hy h1 (by omega), fun y hy hj h1 h2 => by omega⟩
theorem near_step {l : List Int} {i j : Nat} (hj : 0 < j) (hjl : j < l.length) (hji : j ≤ i) (h : Near l i j) (hlt : l[j] < l[j - 1]'(by omega)) : Near (sw l j) i (j - 1) := by
  refine ⟨fun x y hx hy h1 h2 h3 h4 => ?_, fun y hy hj' h1 h2 => ?_⟩
  · rw [sw_len] at hx hy
    rw [sw_get hj hjl hx, sw_get hj hjl hy, if_neg h3, if_neg h4]
    by_cases h5 : x = j
    · rw [if_pos h5, if_neg (by omega)]
      exact h.1 (j - 1) y (by omega) hy (by omega) h2 (by omega) (by omega)
    · rw [if_neg h5]
      by_cases h6 : y = j
      · rw [if_pos h6]
        exact h.1 x (j - 1) hx (by omega) (by omega) (by omega) h5 (by omega)
      · rw [if_neg h6]
        exact h.1 x y hx hy h1 h2 h5 h6
  · rw [sw_len] at hy hj'
    rw [sw_get hj hjl hj', sw_get hj hjl hy, if_pos rfl, if_neg (by omega)]
    by_cases h6 : y = j
    · rw [if_pos h6]; omega
    · rw [if_neg h6]
      exact h.2 y hy hjl (by omega) h2
theorem near_end {l : List Int} {i j : Nat} (h : Near l i j) (hij : j ≤ i) (hd : ∀ (h1 : j < l.length), 0 < j → ¬ l[j] < l[j - 1]'(by omega)) : SortedTo l (i + 1) := by
  intro x y hx hy h1 h2
  by_cases h3 : x = j
  · subst h3; exact h.2 y hy hx h1 (by omega)
  · by_cases h4 : y = j
    · subst h4
      have h5 := hd hy (by omega)
      by_cases h6 : x = y - 1
      · subst h6; omega
      · have := h.1 x (y - 1) hx (by omega) (by omega) (by omega) h3 (by omega)
        omega
    · exact h.1 x y hx hy h1 (by omega) h3 h4

theorem insertion_spec (s : Slc) (l : List Int) (w : World) (h : IntsAt w s l) (hl : l.length ≤ 2 ^ 30) :
    Calls Tryd.prog fn_slices_insertionSortOrdered_int ⟨[s.v, .int .i64 0, .int .i64 (l.length : Int)]⟩ w fun e w' => e = .returned (.tuple #[]) ∧ ∃ l', l'.Perm l ∧ SortedTo l' l.length ∧ IntsAt w' s l' ∧ Ext (ownB s) w w' := by
  refine slices_insertionSortOrdered_int_ok _ _ _ ?_
  unfold slices_insertionSortOrdered_int
  refine ⟨inR64 (by omega), fun i w2 => ∃ (k : Nat) (l' : List Int), i = k ∧ 1 ≤ k ∧ (k ≤ l.length ∨ k = 1) ∧ l'.Perm l ∧ SortedTo l' k ∧ IntsAt w2 s l' ∧ Ext (ownB s) w w2, fun i _ => ((l.length : Int) - i).toNat,
    ⟨1, l, rfl, by omega, .inr rfl, List.Perm.refl _, fun x y hx hy h1 h2 => by omega, h, Ext.refl _ _⟩, ?_⟩
  rintro i w7 ⟨k, l', rfl, hk1, hk, hp, hs, h7, e7⟩
  intros
  have hpl := hp.length_eq
  refine BIf_dec (fun h1 => ?_) (fun h1 => ?_)
  · refine ⟨fun j w2 => ∃ (m : Nat) (l' : List Int), j = m ∧ m ≤ k ∧ l'.Perm l ∧ Near l' k m ∧ IntsAt w2 s l' ∧ Ext (ownB s) w w2, fun j _ => j.toNat, ⟨k, l', rfl, Nat.le_refl _, hp, near_start hs, h7, e7⟩, ?_⟩
    rintro j w51 ⟨m, l2, rfl, hm, hp2, hn, h51, e51⟩
    intros
    have hpl2 := hp2.length_eq
    have hsl := h51.sl
    have hd := h51.keep (Ext.drew _ w51)
    have ed : Ext (ownB s) w w51.drew := e51.trans (Ext.drew _ _) (fun _ h => h) (fun _ h => .inl h)
    have out : ∀ w3, IntsAt w3 s l2 → Ext (ownB s) w w3 → (∀ (h1 : m < l2.length), 0 < m → ¬ l2[m] < l2[m - 1]'(by omega)) → inR .i64 ((k : Int) + 1) ∧ (∃ (k' : Nat) (l' : List Int), ((k : Int) + 1) = k' ∧ 1 ≤ k' ∧ (k' ≤ l.length ∨ k' = 1) ∧ l'.Perm l ∧ SortedTo l' k' ∧ IntsAt w3 s l' ∧ Ext (ownB s) w w3) ∧ ((l.length : Int) - ((k : Int) + 1)).toNat < ((l.length : Int) - (k : Int)).toNat :=
      fun w3 a1 a2 a3 => ⟨inR64 (by omega), ⟨k + 1, l2, rfl, by omega, .inl (by omega), hp2, near_end hn hm a3, a1, a2⟩, by omega⟩
    refine ⟨fun w3 => 0 < m ∧ (∃ (h1 : m < l2.length), 0 < m ∧ l2[m] < l2[m - 1]'(by omega)) ∧ IntsAt w3 s l2 ∧ Ext (ownB s) w w3, ?_, ?_⟩
    · refine BIf_dec (fun h2 => ?_) (fun h2 => out _ hd ed (fun _ hh => by omega))
      have hml : m < l2.length := by omega
      have hml1 : m - 1 < l2.length := by omega
      obtain ⟨a, ha, c1⟩ := hd.get hml
      obtain ⟨a', ha', c2⟩ := hd.get hml1
      rw [ha] at ha'
      cases ha'
      have e1 : Int.toNat ((m : Int) - 1) * 1 = (m - 1) * 1 := by omega
      refine needSome_mk ha ⟨by omega, by omega, _, by rw [show Int.toNat (m : Int) * 1 = m * 1 by omega]; exact c1, inR64 (by omega), needSome_mk ha ⟨by omega, by omega, _, by rw [e1]; exact c2, ?_⟩⟩
      refine (Less_spec _ _ _).mono ?_
      rintro e w91 ⟨rfl, k91⟩
      have h91 := hd.keep k91
      have e91 : Ext (ownB s) w w91 := ed.trans (k91.mono (fun _ h => h.elim)) (fun _ h => h) (fun _ h => .inl h)
      exact ⟨_, rfl, BIf_dec (fun h3 => ⟨by omega, ⟨hml, by omega, h3⟩, h91, e91⟩) (fun h3 => out _ h91 e91 (fun _ _ => h3))⟩
    · rintro w93 ⟨hm0, ⟨hml, _, hlt⟩, h93, e93⟩
      intros
      have h93d := h93.keep (Ext.drew _ w93)
      have hml1 : m - 1 < l2.length := by omega
      have e1 : Int.toNat ((m : Int) - 1) * 1 = (m - 1) * 1 := by omega
      have e2 : Int.toNat (m : Int) * 1 = m * 1 := by omega
      obtain ⟨a, ha, c1⟩ := h93d.get hml
      obtain ⟨a', ha', c2⟩ := h93d.get hml1
      rw [ha] at ha'
      cases ha'
      obtain ⟨cw1, g1⟩ := h93d.set hml l2[m - 1] ha
      refine ⟨inR64 (by omega), inR64 (by omega), needSome_mk ha ⟨by omega, by omega, _, by rw [e1]; exact c2, needSome_mk ha ⟨by omega, by omega, _, by rw [e2]; exact c1, needSome_mk ha ⟨by omega, by omega, by rw [e2]; exact cw1, fun w114 hw114 => ?_⟩⟩⟩⟩
      obtain ⟨h114, e114, z114⟩ := g1 w114 (by rw [hw114, e2])
      obtain ⟨cw2, g2⟩ := h114.set (i := m - 1) (by simp; omega) l2[m] ha
      refine needSome_mk ha ⟨by omega, by omega, by rw [e1]; exact cw2, fun w116 hw116 => ?_⟩
      obtain ⟨h116, e116, z116⟩ := g2 w116 (by rw [hw116, e1])
      have esw : (l2.set m l2[m - 1]).set (m - 1) l2[m] = sw l2 m := by
        simp [sw, List.getD, hml, hml1]
      rw [esw] at h116
      refine ⟨inR64 (by omega), ⟨m - 1, sw l2 m, by omega, by omega, (sw_perm hm0 hml).trans hp2, near_step hm0 hml hm hn hlt, h116, ?_⟩, by dsimp only; omega⟩
      exact ((e93.trans (Ext.drew (ownB s) _) (fun _ h => h) (fun _ h => .inl h)).trans e114 (fun _ h => h) (fun _ h => .inl h)).trans e116 (fun _ h => h) (fun _ h => .inl h)
  · refine ⟨rfl, l', hp, fun x y hx hy a1 a2 => hs x y hx hy a1 (by omega), h7, e7⟩

set_option maxRecDepth 100000 in
theorem Len_spec (n : Nat) (hn : n ≤ 200) (w : World) : Calls Tryd.prog fn_math_bits_Len ⟨[.int .u64 (n : Int)]⟩ w fun e w' => ∃ k : Int, e = .returned (.int .i64 k) ∧ w' = w := by
  have h64 : Calls Tryd.prog fn_math_bits_Len64 ⟨[.int .u64 (n : Int)]⟩ w fun e w' => ∃ k : Int, e = .returned (.int .i64 k) ∧ w' = w := by
    refine math_bits_Len64_ok _ ?_
    unfold math_bits_Len64
    refine ⟨fun x m w2 => x = n ∧ m = 0 ∧ w2 = w, BIf_dec (fun h => by omega) (fun _ => ⟨rfl, rfl, rfl⟩), ?_⟩
    rintro x m w2 ⟨rfl, rfl, rfl⟩
    intros
    refine ⟨fun x m w3 => x = n ∧ m = 0 ∧ w3 = w2, BIf_dec (fun h => by omega) (fun _ => ⟨rfl, rfl, rfl⟩), ?_⟩
    rintro x m w3 ⟨rfl, rfl, rfl⟩
    intros
    refine BIf_dec (fun h => by omega) (fun _ => ?_)
    have hw : IntKind.wrap .u8 (n : Int) = n := wrap_inR (inR8 (by omega))
    rw [hw]
    have hb : ∀ u : UInt8, (u.toNat : Int) < 256 := fun u => by have := u.toNat_lt; omega
    refine ⟨by omega, ?_, inR64 ?_, inR64 ?_, _, rfl, rfl⟩
    · have e : ∀ (l : List UInt8), l.length = 256 → (n : Int) < ((l.length : Nat) : Int) := fun l hl => by rw [hl]; omega
      exact e _ rfl
    · constructor
      · exact Int.le_trans (by decide) (Int.natCast_nonneg _)
      · exact Int.le_trans (Int.le_of_lt (hb _)) (by decide)
    · rw [Int.zero_add]; constructor
      · exact Int.le_trans (by decide) (Int.natCast_nonneg _)
      · exact Int.le_trans (Int.le_of_lt (hb _)) (by decide)
  refine math_bits_Len_ok _ ?_
  unfold math_bits_Len
  refine h64.mono ?_
  rintro e w' ⟨k, rfl, rfl⟩
  exact ⟨k, rfl, k, rfl, rfl⟩

theorem Sort_spec (s : Slc) (l : List Int) (w : World) (h : IntsAt w s l) (hl : l.length ≤ 12) :
    Calls Tryd.prog fn_slices_Sort_int ⟨[s.v]⟩ w fun e w' => e = .returned (.tuple #[]) ∧ ∃ l', l'.Perm l ∧ SortedTo l' l.length ∧ IntsAt w' s l' ∧ Ext (ownB s) w w' := by
  have hsl := h.sl
  refine slices_Sort_int_ok _ ?_
  unfold slices_Sort_int
  have hw : IntKind.wrap .u64 ((s.l : Nat) : Int) = s.l := wrap_inR (inRu64 (by omega))
  rw [hw]
  refine (Len_spec s.l (by omega) w).mono ?_
  rintro e w3 ⟨k, rfl, rfl⟩
  refine ⟨k, rfl, ?_⟩
  have hp : Calls Tryd.prog fn_slices_pdqsortOrdered_int ⟨[s.v, .int .i64 0, .int .i64 ((s.l : Nat) : Int), .int .i64 k]⟩ w3 fun e w' => e = .returned (.tuple #[]) ∧ ∃ l', l'.Perm l ∧ SortedTo l' l.length ∧ IntsAt w' s l' ∧ Ext (ownB s) w3 w' := by
    refine slices_pdqsortOrdered_int_ok _ _ _ _ ?_
    unfold slices_pdqsortOrdered_int
    refine ⟨fun a b _ _ _ w2 => a = 0 ∧ b = l.length ∧ w2 = w3, fun _ _ _ _ _ _ => 0, ⟨rfl, by rw [hsl], rfl⟩, ?_⟩
    rintro a b lim x1 x2 w12 ⟨rfl, rfl, rfl⟩
    intros
    refine ⟨inR64 (by omega), BIf_dec (fun _ => ?_) (fun hh => by omega)⟩
    refine (insertion_spec s l w12 h (by omega)).mono ?_
    rintro e w138 ⟨rfl, hm⟩
    exact ⟨rfl, rfl, hm⟩
  refine hp.mono ?_
  rintro e w6 ⟨rfl, hm⟩
  exact ⟨rfl, rfl, hm⟩
end Go.D

set_option linter.unusedVariables false
set_option linter.unusedSimpArgs false
namespace Go.D
open Go Go.Proofs

/-- The globals of package api's errors, in the order of their numbers. -/
def errG : List Nat := [gl_ErrRange, gl_ErrShort, gl_ErrLong, gl_ErrForm, gl_ErrSum, gl_ErrRune, gl_ErrName, gl_ErrSealed, gl_ErrWritten, gl_ErrUnwritten, gl_ErrTrimmed, gl_ErrDown, gl_ErrFull, gl_ErrEpoch, gl_ErrMoved, gl_ErrNone, gl_ErrState, gl_ErrClash, gl_ErrStale]

abbrev errV (A : Nat → Addr) (g : Nat) : Value := .iface tyErr (.pointer (some (A g)))

/-- All 19 errors are laid, at 19 places. -/
abbrev Errs (A : Nat → Addr) (w : World) : Prop := ErrsOn tyErr errG A w

theorem errG_mem {k : Nat} (hk : k < 19) : errG.getD k 0 ∈ errG := by
  have : errG.getD k 0 = errG[k]'(by simpa [errG] using hk) := by
    simp only [List.getD]
    rw [List.getElem?_eq_getElem (by simpa [errG] using hk)]
    rfl
  rw [this]
  exact List.getElem_mem _
theorem errG_inj {i j : Nat} (hi : i < 19) (hj : j < 19) (h : errG.getD i 0 = errG.getD j 0) : i = j := by
  have : ∀ i < 19, ∀ j < 19, errG.getD i 0 = errG.getD j 0 → i = j := by decide
  exact this i hi j hj h

theorem Errs.at {A : Nat → Addr} {w : World} (h : Errs A w) (k : Nat) (hk : k < 19) : w.cell? (⟨errG.getD k 0, 0, none⟩ : Addr) = some (errV A (errG.getD k 0)) := (h.1 _ (errG_mem hk)).1

theorem Errs.is {A : Nat → Addr} {w : World} (h : Errs A w) {i j : Nat} (hi : i < 19) (hj : j < 19) :
    Calls Tryd.prog fn_errors_Is ⟨[errV A (errG.getD i 0), errV A (errG.getD j 0)]⟩ w fun e w' => e = .returned (.bool (decide (i = j))) ∧ w' = w := by
  by_cases hij : i = j
  · subst hij
    rw [decide_eq_true rfl]
    exact Is_same _ _
  · rw [decide_eq_false hij]
    obtain ⟨_, c1, t1, h1⟩ := h.1 _ (errG_mem hi)
    obtain ⟨_, c2, t2, h2⟩ := h.1 _ (errG_mem hj)
    exact Is_other _ _ c1 c2 t1 t2 _ (fun he => hij (errG_inj hi hj (h.2 _ (errG_mem hi) _ (errG_mem hj) he))) h1 h2

theorem Num_nil (w : World) : Calls Tryd.prog fn_tidewaternum_Num ⟨[.nilIface]⟩ w fun e w' => e = .returned (.int .i64 0) ∧ w' = w := by
  refine tidewaternum_Num_ok _ ?_
  exact ⟨trivial, BIf_mk (fun _ => ⟨rfl, rfl⟩) (fun h => by cases h)⟩

theorem Num_spec (A : Nat → Addr) (k : Nat) (hk : k < 19) (w : World) (h : Errs A w) :
    Calls Tryd.prog fn_tidewaternum_Num ⟨[errV A (errG.getD k 0)]⟩ w fun e w' => e = .returned (.int .i64 ((k + 1 : Nat) : Int)) ∧ Keep w w' := by
  refine tidewaternum_Num_ok _ ?_
  unfold tidewaternum_Num
  refine ⟨trivial, BIf_mk (fun h => by cases h) (fun _ => ?_)⟩
  refine ⟨_, Errs.at h 0 (by omega), _, Errs.at h 1 (by omega), _, Errs.at h 2 (by omega), _, Errs.at h 3 (by omega), _, Errs.at h 4 (by omega), _, Errs.at h 5 (by omega), _, Errs.at h 6 (by omega), _, Errs.at h 7 (by omega), _, Errs.at h 8 (by omega), _, Errs.at h 9 (by omega), _, Errs.at h 10 (by omega), _, Errs.at h 11 (by omega), _, Errs.at h 12 (by omega), _, Errs.at h 13 (by omega), _, Errs.at h 14 (by omega), _, Errs.at h 15 (by omega), _, Errs.at h 16 (by omega), _, Errs.at h 17 (by omega), _, Errs.at h 18 (by omega), ?_⟩
  refine newS_mk (fun r w1 hr hb hkp hs => ?_)
  refine ⟨fun i w2 => w2 = w1 ∧ ∃ n : Nat, i = n ∧ n ≤ k, fun i _ => (19 - i).toNat, ⟨rfl, 0, rfl, by omega⟩, ?_⟩
  rintro i w2 ⟨rfl, n, rfl, hn⟩
  intros
  refine BIf_dec (fun h1 => ?_) (fun h1 => by omega)
  refine ⟨by omega, h1, errV A (errG.getD n 0), ?_, ?_⟩
  · have e : (Int.toNat (n : Int)) * 1 = n := by omega
    rw [e, add_lit, Nat.zero_add, cell_of hb]
    have : n < 19 := by omega
    show ((List.range 19).map fun k => errV A (errG.getD k 0))[n]? = _
    simp [this]
  · refine (Errs.is (h.keep hkp) hk (by omega)).mono ?_
    rintro e w3 ⟨rfl, rfl⟩
    refine ⟨_, rfl, BIf_mk (fun h2 => ?_) (fun h2 => ?_)⟩
    · have : k = n := by simpa using h2
      subst this
      exact ⟨inR64 (by omega), by simp, hkp⟩
    · have : k ≠ n := by simpa using h2
      exact ⟨inR64 (by omega), ⟨rfl, n + 1, rfl, by omega⟩, by dsimp only; omega⟩
end Go.D

set_option linter.unusedVariables false
set_option linter.unusedSimpArgs false
namespace Go.D
open Go Go.Proofs

/-- The errors are laid below n0. -/
def ErrsB (A : Nat → Addr) (n0 : Nat) (w : World) : Prop := Errs A w ∧ ∀ g ∈ errG, g < n0 ∧ (A g).block < n0
abbrev Old (n0 : Nat) := Ext (fun k => n0 ≤ k)
theorem Old.trans {n0 : Nat} {a b c : World} (h1 : Old n0 a b) (h2 : Old n0 b c) : Old n0 a c := Ext.trans h1 h2 (fun _ h => h) (fun _ h => .inl h)
theorem Keep.old {a b : World} (h : Keep a b) (n0 : Nat) : Old n0 a b := h.mono (fun _ h => h.elim)
theorem Old.keep {w0 w : World} {n0 : Nat} (h : Old n0 w0 w) (hn : w0.heap.size ≤ n0) : Keep w0 w := Ext.trans h (Ext.refl none0 _) (fun _ h => h) (fun _ h => h.elim) |> fun h => ⟨h.os, h.tape, h.output, h.size, fun k hk _ => h.block k hk (by omega)⟩
theorem Errs.b {A : Nat → Addr} {w : World} (h : Errs A w) : ErrsB A w.heap.size w := by
  refine ⟨h, fun g hg => ?_⟩
  obtain ⟨h1, c, t, h2⟩ := h.1 g hg
  refine ⟨?_, lt_of_heap h2⟩
  have := World.block_lt_of_cell? w _ h1
  exact this
theorem ErrsB.ext {A : Nat → Addr} {n0 : Nat} {M : Nat → Prop} {w w' : World} (h : ErrsB A n0 w) (he : Ext M w w') (hm : ∀ k, M k → n0 ≤ k) : ErrsB A n0 w' := by
  refine ⟨⟨fun g hg => ?_, h.1.2⟩, h.2⟩
  obtain ⟨h1, c, t, h2⟩ := h.1.1 g hg
  obtain ⟨b1, b2⟩ := h.2 g hg
  exact ⟨he.cell h1 (fun hh => by have := hm _ hh; simp only at this; omega), c, t, he.heap h2 (fun hh => by have := hm _ hh; omega)⟩
theorem ErrsB.keep {A : Nat → Addr} {n0 : Nat} {w w' : World} (h : ErrsB A n0 w) (he : Keep w w') : ErrsB A n0 w' := h.ext he (fun _ h => h.elim)

/-- Some errors are laid below n0. -/
def ErrsG (G : List Nat) (A : Nat → Addr) (n0 : Nat) (w : World) : Prop := ErrsOn tyErr G A w ∧ ∀ g ∈ G, g < n0 ∧ (A g).block < n0
theorem ErrsOn.g {G : List Nat} {A : Nat → Addr} {w : World} (h : ErrsOn tyErr G A w) : ErrsG G A w.heap.size w := by
  refine ⟨h, fun g hg => ?_⟩
  obtain ⟨h1, c, t, h2⟩ := h.1 g hg
  refine ⟨?_, lt_of_heap h2⟩
  have := World.block_lt_of_cell? w _ h1
  exact this
theorem ErrsG.ext {G : List Nat} {A : Nat → Addr} {n0 : Nat} {M : Nat → Prop} {w w' : World} (h : ErrsG G A n0 w) (he : Ext M w w') (hm : ∀ k, M k → n0 ≤ k) : ErrsG G A n0 w' := by
  refine ⟨⟨fun g hg => ?_, h.1.2⟩, h.2⟩
  obtain ⟨h1, c, t, h2⟩ := h.1.1 g hg
  obtain ⟨b1, b2⟩ := h.2 g hg
  exact ⟨he.cell h1 (fun hh => by have := hm _ hh; simp only at this; omega), c, t, he.heap h2 (fun hh => by have := hm _ hh; omega)⟩
theorem ErrsG.keep {G : List Nat} {A : Nat → Addr} {n0 : Nat} {w w' : World} (h : ErrsG G A n0 w) (he : Keep w w') : ErrsG G A n0 w' := h.ext he (fun _ h => h.elim)
theorem ErrsG.sub {G H : List Nat} {A : Nat → Addr} {n0 : Nat} {w : World} (h : ErrsG G A n0 w) (k : ∀ g ∈ H, g ∈ G) : ErrsG H A n0 w := ⟨h.1.sub k, fun g hg => h.2 g (k g hg)⟩
theorem ErrsG.at {G : List Nat} {A : Nat → Addr} {n0 : Nat} {w : World} (h : ErrsG G A n0 w) {g : Nat} (hg : g ∈ G) : w.cell? (⟨g, 0, none⟩ : Addr) = some (errV A g) := (h.1.1 g hg).1
theorem ErrsG.lt {G : List Nat} {A : Nat → Addr} {n0 : Nat} {w : World} (h : ErrsG G A n0 w) {g : Nat} (hg : g ∈ G) : g < n0 := (h.2 g hg).1
theorem ErrsB.g {A : Nat → Addr} {n0 : Nat} {w : World} (h : ErrsB A n0 w) : ErrsG errG A n0 w := h

/-- An error's place in the table, or none. -/
def errO (A : Nat → Addr) : Option Nat → Value
  | none => .nilIface
  | some k => errV A (errG.getD k 0)
theorem errO_isI (A : Nat → Addr) (e : Option Nat) : isI (errO A e) := by cases e <;> trivial
theorem errO_nil (A : Nat → Addr) (e : Option Nat) : isNilI (errO A e) = e.isNone := by cases e <;> rfl
theorem errO_one (A : Nat → Addr) (e : Option Nat) : ∀ X : Prop, X → oneK (errO A e) X := fun X h => by cases e <;> exact h

theorem Own.le {w : World} {s : Slc} {sz : Nat} {vs : List Value} (h : Own w s sz vs) (hsz : 0 < sz) : s.l ≤ s.c := by
  obtain ⟨hl, ⟨_, hv, hc⟩ | ⟨b, pad, T, f, _, _, h1, _⟩⟩ := h
  · subst hv
    have : s.l * sz = 0 := by simpa using hl
    rcases Nat.mul_eq_zero.1 this with h | h <;> omega
  · rw [List.length_append] at h1
    exact Nat.le_of_mul_le_mul_right (by omega) hsz

theorem wrap8x (n : Nat) : Value.int .u8 (IntKind.wrap .u8 (n : Int)) = byteV (UInt8.ofNat n) := by
  have h : IntKind.wrap .u8 (n : Int) = ((n % 256 : Nat) : Int) := by
    simp [IntKind.wrap, IntKind.signed, IntKind.bits]
  rw [h, byteV, UInt8.toNat_ofNat']
theorem errG_at {G : List Nat} {A : Nat → Addr} {n0 : Nat} {w : World} (h : ErrsG G A n0 w) (k : Nat) (g : Nat) (hg : g = errG.getD k 0) (hm : g ∈ G) : w.cell? (⟨g, 0, none⟩ : Addr) = some (errO A (some k)) := by
  subst hg; exact h.at hm
end Go.D

set_option linter.unusedVariables false
set_option linter.unusedSimpArgs false
namespace Go.D
open Go

theorem bytesAt_ltX {w : World} {s : Slc} {b : List UInt8} (h : bytesAt w s b) (hl : 0 < s.l) : ∀ k, ownB s k → k < w.heap.size := by
  rintro k ⟨a, ha, rfl⟩
  have hb : 0 < (b.map byteV).length := by rw [List.length_map, ← h.1]; exact hl
  obtain ⟨a', ha', hc⟩ := cellsAt_get h.2 hb
  rw [ha] at ha'
  cases ha'
  have := World.block_lt_of_cell? w _ hc
  rwa [add_block] at this
theorem bytesAt_stayX {M : Nat → Prop} {w w' : World} {s : Slc} {b : List UInt8} (h : bytesAt w s b) (he : Ext M w w') (hm : 0 < s.l → ∀ k, ownB s k → ¬ M k) : bytesAt w' s b := by
  rcases Nat.eq_zero_or_pos s.l with h0 | h0
  · have : b = [] := by have := h.1; rw [h0] at this; exact List.length_eq_zero_iff.1 this.symm
    subst this
    exact ⟨h.1, .inl rfl⟩
  · exact bytesAt_ext h he (hm h0)
theorem drew_heap (w : World) (k : Nat) : w.drew.heap[k]? = w.heap[k]? := rfl
theorem drew_size (w : World) : w.drew.heap.size = w.heap.size := rfl

abbrev ptrR' (r : Nat) : Value := .pointer (some ⟨r, 0, none⟩)
theorem rowAt_c {w : World} {a : Addr} {cs : List Value} (h : rowAt w a 0 cs) (j : Nat) (hj : j < cs.length) : w.cell? (a.add j) = some cs[j] := by
  have := rowAt_get h j hj
  rwa [Nat.zero_add] at this
end Go.D

set_option linter.unusedVariables false
set_option linter.unusedSimpArgs false
namespace Go.D
open Go Go.Proofs

/-! ### what clients have been answered -/
abbrev L3 := Int × Int × Int
def l3C (x : L3) : List Value := [.int .i64 x.1, .int .i64 x.2.1, .int .i64 x.2.2]
def l3V (x : L3) : Value := .agg ⟨l3C x⟩
def KD : KV Int L3 := KV.int l3V
def z3 : L3 := (0, 0, 0)
structure SeenAt (w : World) (r m : Nat) (al : List (Int × L3)) : Prop where
  o : ObjAt w r [.map (some m)]
  mp : MapB KD w m al
  ne : r ≠ m
theorem SeenAt.ext {M : Nat → Prop} {w w' : World} {r m : Nat} {al : List (Int × L3)} (h : SeenAt w r m al) (he : Ext M w w') (h1 : ¬ M r) (h2 : ¬ M m) : SeenAt w' r m al := ⟨h.o.ext he h1, h.mp.ext he h2, h.ne⟩
theorem SeenAt.keep {w w' : World} {r m : Nat} {al : List (Int × L3)} (h : SeenAt w r m al) (he : Keep w w') : SeenAt w' r m al := h.ext he (fun h => h) (fun h => h)
theorem ObjAt.rowO {w : World} {r : Nat} {cs : List Value} (h : ObjAt w r cs) (o : Nat) (l : List Value) (hl : ∀ j (hj : j < l.length), cs[o + j]? = some l[j]) : rowAt w (⟨r, o, none⟩ : Addr) 0 l :=
  rowAt_of fun j hj => by
    have h1 := hl j hj
    obtain ⟨h2, h3⟩ := List.getElem?_eq_some_iff.1 h1
    rw [add_lit, Nat.zero_add, h.cell (o + j) h2, h3]
theorem row2 {w : World} {r : Nat} {a b c : Value} (h : ObjAt w r [a, b, c]) : rowAt w (⟨r, 1, none⟩ : Addr) 0 [b, c] := h.rowO 1 [b, c] (fun j hj => by
  have : j < 2 := hj
  match j, this with
  | 0, _ => rfl
  | 1, _ => rfl)

theorem New_spec22 (w : World) : Calls Tryd.prog fn_dedup_New ⟨[]⟩ w fun e w' => ∃ r m, e = .returned (ptrR' r) ∧ SeenAt w' r m [] ∧ Keep w w' ∧ w.heap.size ≤ r ∧ w.heap.size ≤ m := by
  refine dedup_New_ok ?_
  unfold dedup_New
  refine newS_mk (fun m w2 hm hb k2 hs2 => newS_mk (fun r w4 hr hb4 k4 hs4 => ?_))
  have z := k2.size
  exact ⟨r, m, rfl, ⟨ObjAt.new' hb4, MapB.new (k4.heap hb), by omega⟩, k2.trans k4, by omega, by omega⟩

def lastV (al : List (Int × L3)) (c : Int) : L3 := (lookL al c).getD z3
theorem Last_spec22 {w : World} {r m : Nat} {al : List (Int × L3)} (h : SeenAt w r m al) (c : Int) :
    Calls Tryd.prog fn_dedup_Seen_Last ⟨[ptrR' r, .int .i64 c]⟩ w fun e w' => e = .returned (.tuple ⟨[.int .i64 (lastV al c).1, .agg ⟨[.int .i64 (lastV al c).2.1, .int .i64 (lastV al c).2.2]⟩, .bool (lookL al c).isSome]⟩) ∧ Keep w w' := by
  refine dedup_Seen_Last_ok _ _ ?_
  unfold dedup_Seen_Last
  refine newS_mk (fun r3 w4 hr3 hb3 k3 hs3 => ?_)
  have h4 := h.keep k3
  have o3 := ObjAt.new' hb3
  obtain ⟨es, hes, hget⟩ := h4.mp.get
  have hg := hget c
  refine needSome_mk rfl ⟨_, h4.o.cell 0 (by simp), es, hes, ?_⟩
  unfold lastV
  cases hq : lookL al c with
  | none =>
    rw [hq] at hg
    refine .inl ⟨hg, var_mk (cs := l3C z3) rfl rfl (fun r11 w13 hr11 o11 k11 hs11 => ?_)⟩
    have kd : Keep w13 (World.drew w13) := Keep.drew (Ext.refl _ _)
    have od := o11.keep kd
    have o3d := (o3.keep k11).keep kd
    refine ⟨_, od.cell 0 (by simp [l3C]), _, _, row2 od, ?_⟩
    obtain ⟨cw, g⟩ := o3d.setAll (n := 2) (cs := [.int .i64 z3.2.1, .int .i64 z3.2.2]) rfl rfl
    refine ⟨cw, fun w17 h17 => ?_⟩
    obtain ⟨g1, g2, _⟩ := g w17 h17
    exact ⟨_, _, g1.row, rfl, ((k3.trans k11).trans kd).step (by omega) g2⟩
  | some x =>
    rw [hq] at hg
    refine .inr ⟨x.1, x.2.1, x.2.2, hg, var_mk (cs := l3C x) rfl rfl (fun r11 w13 hr11 o11 k11 hs11 => ?_)⟩
    have kd : Keep w13 (World.drew w13) := Keep.drew (Ext.refl _ _)
    have od := o11.keep kd
    have o3d := (o3.keep k11).keep kd
    refine ⟨_, od.cell 0 (by simp [l3C]), _, _, row2 od, ?_⟩
    obtain ⟨cw, g⟩ := o3d.setAll (n := 2) (cs := [.int .i64 x.2.1, .int .i64 x.2.2]) rfl rfl
    refine ⟨cw, fun w17 h17 => ?_⟩
    obtain ⟨g1, g2, _⟩ := g w17 h17
    exact ⟨_, _, g1.row, rfl, ((k3.trans k11).trans kd).step (by omega) g2⟩

/-- What a number is: the answer, and 1 (fresh), 2 (again), 3 (old). -/
def askV (al : List (Int × L3)) (c seq : Int) : (Int × Int) × Int :=
  match lookL al c with
  | none => ((0, 0), 1)
  | some x => if x.1 < seq then ((0, 0), 1) else if seq = x.1 then (x.2, 2) else ((0, 0), 3)
theorem Ask_spec22 {w : World} {r m : Nat} {al : List (Int × L3)} (h : SeenAt w r m al) (c seq : Int) :
    Calls Tryd.prog fn_dedup_Seen_Ask ⟨[ptrR' r, .int .i64 c, .int .i64 seq]⟩ w fun e w' => e = .returned (.tuple ⟨[.agg ⟨[.int .i64 (askV al c seq).1.1, .int .i64 (askV al c seq).1.2]⟩, .int .i64 (askV al c seq).2]⟩) ∧ Keep w w' := by
  refine dedup_Seen_Ask_ok _ _ _ ?_
  unfold dedup_Seen_Ask
  refine newS_mk (fun r3 w4 hr3 hb3 k3 hs3 => ?_)
  have h4 := h.keep k3
  have o3 := ObjAt.new' hb3
  obtain ⟨es, hes, hget⟩ := h4.mp.get
  have hg := hget c
  refine needSome_mk rfl ⟨_, h4.o.cell 0 (by simp), es, hes, ?_⟩
  unfold askV
  cases hq : lookL al c with
  | none =>
    rw [hq] at hg
    refine .inl ⟨hg, var_mk (cs := l3C z3) rfl rfl (fun r11 w13 hr11 o11 k11 hs11 => ?_)⟩
    refine ⟨fun b w2 => b = true ∧ w2 = w13, ⟨rfl, rfl⟩, ?_⟩
    rintro b w2 ⟨rfl, rfl⟩
    intros
    refine BIf_mk (fun _ => ?_) (fun hh => by cases hh)
    obtain ⟨cw, g⟩ := (o3.keep k11).setAll (n := 2) (cs := [.int .i64 0, .int .i64 0]) rfl rfl
    refine ⟨cw, fun w17 h17 => ?_⟩
    obtain ⟨g1, g2, _⟩ := g w17 h17
    exact ⟨_, _, g1.row, rfl, (k3.trans k11).step (by omega) g2⟩
  | some x =>
    rw [hq] at hg
    refine .inr ⟨x.1, x.2.1, x.2.2, hg, var_mk (cs := l3C x) rfl rfl (fun r11 w13 hr11 o11 k11 hs11 => ?_)⟩
    refine ⟨fun b w2 => b = decide (x.1 < seq) ∧ w2 = w13, ⟨_, o11.cell 0 (by simp [l3C]), rfl, rfl⟩, ?_⟩
    rintro b w2 ⟨rfl, rfl⟩
    intros
    have set : ∀ (a b : Int), canW w2 (⟨r3, 0, none⟩ : Addr) 2 ∧ ∀ w26 : World, w26 = setCells w2 (⟨r3, 0, none⟩ : Addr) 0 [.int .i64 a, .int .i64 b] → rowAt w26 (⟨r3, 0, none⟩ : Addr) 0 [.int .i64 a, .int .i64 b] ∧ Keep w w26 := by
      intro a b
      obtain ⟨cw, g⟩ := (o3.keep k11).setAll (n := 2) (cs := [.int .i64 a, .int .i64 b]) rfl rfl
      refine ⟨cw, fun w17 h17 => ?_⟩
      obtain ⟨g1, g2, _⟩ := g w17 h17
      exact ⟨g1.row, (k3.trans k11).step (by omega) g2⟩
    refine BIf_dec (fun h1 => ⟨(set 0 0).1, fun w17 h17 => ⟨_, _, ((set 0 0).2 w17 h17).1, ?_, ((set 0 0).2 w17 h17).2⟩⟩) (fun h1 => ⟨_, o11.cell 0 (by simp [l3C]), ?_⟩)
    · dsimp only; rw [if_pos h1]
    · refine BIf_dec (fun h2 => ⟨_, _, row2 o11, (set x.2.1 x.2.2).1, fun w17 h17 => ⟨_, _, ((set _ _).2 w17 h17).1, ?_, ((set _ _).2 w17 h17).2⟩⟩) (fun h2 => ⟨(set 0 0).1, fun w17 h17 => ⟨_, _, ((set 0 0).2 w17 h17).1, ?_, ((set 0 0).2 w17 h17).2⟩⟩)
      · dsimp only; rw [if_neg h1, if_pos h2]
      · dsimp only; rw [if_neg h1, if_neg h2]

def rightD (c seq code at' : Int) : Bool := decide (1 ≤ c ∧ c ≤ 4 ∧ 1 ≤ seq ∧ seq ≤ 1073741824 ∧ (code = 1 ∨ code = 2) ∧ 0 ≤ at' ∧ at' < 4096)
theorem right_spec22 (c seq code at' : Int) (w : World) : Calls Tryd.prog fn_dedup_right ⟨[.int .i64 c, .int .i64 seq, .agg ⟨[.int .i64 code, .int .i64 at']⟩]⟩ w fun e w' => e = .returned (.bool (rightD c seq code at')) ∧ Keep w w' := by
  refine dedup_right_ok _ _ _ _ ?_
  unfold dedup_right rightD
  refine newS_mk (fun r5 w6 hr5 hb5 k5 hs5 => ?_)
  have o := ObjAt.new' hb5
  have no : ∀ {p : Prop} [Decidable p], ¬ p → Ending.returned (.bool false) = .returned (.bool (decide p)) ∧ Keep w w6 := fun h => ⟨by rw [decide_eq_false h], k5⟩
  refine BIf_dec (fun h1 => BIf_dec (fun h2 => BIf_dec (fun h3 => BIf_dec (fun h4 => ⟨_, o.cell 0 (by simp), ?_⟩) (fun h => no (by omega))) (fun h => no (by omega))) (fun h => no (by omega))) (fun h => no (by omega))
  refine BIf_dec (fun h5 => ⟨_, o.cell 1 (by simp), BIf_dec (fun h6 => ⟨_, o.cell 1 (by simp), ?_, k5⟩) (fun h => no (by omega))⟩) (fun h5 => ⟨_, o.cell 0 (by simp), BIf_dec (fun h7 => ⟨_, o.cell 1 (by simp), BIf_dec (fun h6 => ⟨_, o.cell 1 (by simp), ?_, k5⟩) (fun h => no (by omega))⟩) (fun h => no (by omega))⟩)
  · congr 2; rw [decide_eq_decide]; omega
  · congr 2; rw [decide_eq_decide]; omega

def ddG : List Nat := [gl_ErrRange, gl_ErrStale]
/-- Noting: the error's place, and what there is then. -/
def noteV (al : List (Int × L3)) (c seq code at' : Int) : Option Nat × List (Int × L3) :=
  if rightD c seq code at' = false then (some 0, al) else if (askV al c seq).2 = 1 then (none, putL al c (seq, code, at')) else (some 18, al)
theorem Note_spec22 (A : Nat → Addr) {n0 : Nat} {w : World} {r m : Nat} {al : List (Int × L3)} (h : SeenAt w r m al) (c seq code at' : Int) (hE : ErrsG ddG A n0 w) :
    Calls Tryd.prog fn_dedup_Seen_Note ⟨[ptrR' r, .int .i64 c, .int .i64 seq, .agg ⟨[.int .i64 code, .int .i64 at']⟩]⟩ w fun e w' => e = .returned (errO A (noteV al c seq code at').1) ∧ SeenAt w' r m (noteV al c seq code at').2 ∧ Ext (fun k => k = m) w w' := by
  refine dedup_Seen_Note_ok _ _ _ _ _ ?_
  unfold dedup_Seen_Note noteV
  refine newS_mk (fun r6 w7 hr6 hb6 k6 hs6 => ?_)
  have o6 := ObjAt.new' hb6
  refine ⟨_, _, o6.row, (right_spec22 c seq code at' w7).mono ?_⟩
  rintro e w11 ⟨rfl, k11⟩
  have kk := k6.trans k11
  refine ⟨_, rfl, BIf_mk (fun hh => ?_) (fun hh => ?_)⟩
  · rw [if_pos (by simpa using hh)]
    exact ⟨_, errG_at (hE.keep kk) 0 _ rfl (by simp [ddG]), rfl, h.keep kk, kk.mono (fun _ h => h.elim)⟩
  · have hr : rightD c seq code at' = true := by simpa using hh
    rw [if_neg (by rw [hr]; simp)]
    refine (Ask_spec22 (h.keep kk) c seq).mono ?_
    rintro e w15 ⟨rfl, k15⟩
    have kk15 := kk.trans k15
    refine ⟨_, _, _, rfl, var_mk (cs := [.int .i64 (askV al c seq).1.1, .int .i64 (askV al c seq).1.2]) rfl rfl (fun r19 w21 hr19 o19 k19 hs19 => ?_)⟩
    have kk21 := kk15.trans k19
    refine BIf_ndec (fun h1 => ?_) (fun h1 => ?_)
    · rw [if_neg h1]
      exact ⟨_, errG_at (hE.keep kk21) 18 _ rfl (by simp [ddG]), rfl, h.keep kk21, kk21.mono (fun _ h => h.elim)⟩
    · rw [if_pos h1]
      have kd : Keep w21 (World.drew w21) := Keep.drew (Ext.refl _ _)
      have kkd := kk21.trans kd
      have hd := h.keep kkd
      obtain ⟨es, ck, es', ck', g1, g2, g3⟩ := hd.mp.put c (seq, code, at')
      refine needSome_mk rfl ⟨_, hd.o.cell 0 (by simp), _, _, ((((o6.keep k11).keep k15).keep k19).keep kd).row, m, es, ck, es', ck', rfl, g1, g2, fun w32 h32 => ?_⟩
      obtain ⟨g4, g5, g6⟩ := g3 w32 h32
      exact ⟨rfl, ⟨hd.o.ext g5 (fun hh => h.ne hh), g4, h.ne⟩, Ext.trans kkd g5 (fun _ h => h.elim) (fun _ h => .inl h)⟩

theorem Copy_spec22 {w : World} {r m : Nat} {al : List (Int × L3)} (h : SeenAt w r m al) :
    Calls Tryd.prog fn_dedup_Seen_Copy ⟨[ptrR' r]⟩ w fun e w' => ∃ r' m', e = .returned (ptrR' r') ∧ SeenAt w' r' m' al ∧ Keep w w' ∧ w.heap.size ≤ r' ∧ w.heap.size ≤ m' := by
  refine dedup_Seen_Copy_ok _ ?_
  unfold dedup_Seen_Copy
  refine needSome_mk rfl ⟨_, h.o.cell 0 (by simp), ?_⟩
  refine maps_Clone_last_ok _ ?_
  unfold maps_Clone_last
  refine BIf_mk (fun hh => by cases hh) (fun _ => ?_)
  obtain ⟨es, ck, h1, h2⟩ := h.mp.clone
  refine ⟨m, es, ck, rfl, h1, newS_mk (fun m' w6 hm' hb6 k6 hs6 => ⟨_, rfl, _, rfl, newS_mk (fun r' w8 hr' hb8 k8 hs8 => ?_)⟩)⟩
  exact ⟨r', m', rfl, ⟨ObjAt.new' hb8, (h2 m' w6 hb6).keep k8, by omega⟩, k6.trans k8, by omega, by omega⟩

/-! ### its clients, rising -/
theorem Keys_spec22 (m : Nat) (w : World) : Calls Tryd.prog fn_maps_Keys_last ⟨[.map (some m)]⟩ w fun e w' => ∃ b, e = .returned (.func (.func fn_maps_Keys_last_1) ⟨[]⟩ ⟨[ptrR' b]⟩) ∧ ObjAt w' b [.map (some m)] ∧ Keep w w' ∧ w.heap.size ≤ b := by
  refine maps_Keys_last_ok _ ?_
  unfold maps_Keys_last
  exact newS_mk (fun r w3 hr hb k hs => ⟨r, rfl, ObjAt.new' hb, k, by omega⟩)
theorem nodup_len {β : Type} [DecidableEq β] : ∀ {a b : List β}, a.Nodup → (∀ x ∈ a, x ∈ b) → a.length ≤ b.length
  | [], _, _, _ => by simp
  | x :: a, b, hn, hs => by
    rw [List.nodup_cons] at hn
    have hx := hs x (by simp)
    have := nodup_len (a := a) (b := b.erase x) hn.2 (fun y hy => (List.mem_erase_of_ne (by rintro rfl; exact hn.1 hy)).2 (hs y (by simp [hy])))
    rw [List.length_erase_of_mem hx] at this
    have : 0 < b.length := List.length_pos_of_mem hx
    rw [List.length_cons]; omega
theorem Keys1_spec22 (lr cb m : Nat) (al : List (Int × L3)) (J : Nat → List Int → World → Prop) (w : World) (hb : w.cell? ⟨cb, 0, none⟩ = some (.map (some m))) (hm : MapB KD w m al)
    (h0 : ∀ r w1, r = w.heap.size → Keep w w1 → w1.heap.size = r + 1 → J r [] w1)
    (hext : ∀ r ks w1 w2, r = w.heap.size → J r ks w1 → Ext (fun x => x = r) w1 w2 → J r ks w2)
    (hstep : ∀ r ks k (w1 : World), r = w.heap.size → k ∈ al.map (·.1) → k ∉ ks → ks.length < al.length → J r ks w1 → r < w1.heap.size → m < w1.heap.size →
      YieldC Tryd.prog lr ⟨[.int .i64 k]⟩ w1 fun e w' => e = .returned (.bool true) ∧ J r (ks ++ [k]) w' ∧ Ext (fun j => j ≠ r ∧ j ≠ m) w1 w') :
    Calls Tryd.prog fn_maps_Keys_last_1 ⟨[.func (.yield lr) ⟨[]⟩ ⟨[]⟩, ptrR' cb]⟩ w fun e w' => e = .returned (.tuple #[]) ∧ ∃ r ks, r = w.heap.size ∧ ks.Perm (al.map (·.1)) ∧ J r ks w' := by
  refine maps_Keys_last_1_ok _ _ ?_
  unfold maps_Keys_last_1
  refine needSome_mk rfl ⟨_, hb, hm.range (fun r w7 hr hI k7 hs7 => ?_)⟩
  have hml := hm.lt
  refine ⟨fun w2 => ∃ ks, IterAt KD w2 r m al ks ∧ J r ks w2 ∧ ks.Nodup ∧ (∀ k ∈ ks, k ∈ al.map (·.1)) ∧ w7.heap.size ≤ w2.heap.size, fun w2 => al.length - seenN w2 r, ⟨[], hI, h0 r w7 hr k7 hs7, by simp, by simp, Nat.le_refl _⟩, ?_⟩
  rintro w10 ⟨ks, hI, hJ, hnd, hin, hz⟩
  intros
  refine hI.next hm.nd (fun hall => ?_) (fun k a w22 hka hkn hI2 e22 hs22 hent => ?_)
  · refine ⟨rfl, r, ks, hr, ?_, hJ⟩
    refine (List.perm_ext_iff_of_nodup hnd hm.nd).2 (fun k => ⟨hin k, fun hk => ?_⟩)
    obtain ⟨p, hp, rfl⟩ := List.mem_map.1 hk
    exact hall p hp
  · have hkin : k ∈ al.map (·.1) := List.mem_map.2 ⟨(k, a), hka, rfl⟩
    refine ⟨_, _, hent, ?_⟩
    refine Sh.dec_v (s := .int .i64) (x := k) ?_
    have hlen : (ks ++ [k]).length ≤ al.length := by
      have hnd2 : (ks ++ [k]).Nodup := by
        rw [List.nodup_append]
        exact ⟨hnd, by simp, fun x hx y hy => by rw [List.mem_singleton] at hy; subst hy; rintro rfl; exact hkn hx⟩
      have hsub : (ks ++ [k]) ⊆ al.map (·.1) := by
        intro x hx
        rcases List.mem_append.1 hx with hx | hx
        · exact hin x hx
        · rw [List.mem_singleton] at hx; subst hx; exact hkin
      have := nodup_len hnd2 (fun x hx => hsub hx)
      simpa using this
    refine (hstep r ks k w22 hr hkin hkn (by simp at hlen; omega) (hext r ks w10 w22 hr hJ e22) (by omega) (by omega)).mono ?_
    rintro e w27 ⟨rfl, hJ27, e27⟩
    refine ⟨true, rfl, BIf_mk (fun hh => by cases hh) (fun _ => ?_)⟩
    have hI27 := hI2.ext e27 (fun hh => hh.1 rfl) (fun hh => hh.2 rfl)
    refine ⟨⟨ks ++ [k], hI27, hJ27, ?_, ?_, ?_⟩, ?_⟩
    · rw [List.nodup_append]
      exact ⟨hnd, by simp, fun x hx y hy => by rw [List.mem_singleton] at hy; subst hy; rintro rfl; exact hkn hx⟩
    · intro x hx
      rcases List.mem_append.1 hx with hx | hx
      · exact hin x hx
      · rw [List.mem_singleton] at hx; subst hx; exact hkin
    · have := e27.size; omega
    · show al.length - seenN w27 r < al.length - seenN w10 r
      rw [hI27.seen, hI.seen]
      rw [List.length_append] at hlen ⊢
      simp at hlen ⊢
      omega
end Go.D

set_option linter.unusedVariables false
set_option linter.unusedSimpArgs false
namespace Go.D
open Go Go.Proofs

theorem AppendSeq_spec22 (cb m : Nat) (al : List (Int × L3)) (w : World) (hb : ObjAt w cb [.map (some m)]) (hm : MapB KD w m al) (hl : al.length ≤ 2 ^ 20) :
    Calls Tryd.prog fn_slices_AppendSeq_int ⟨[(⟨none, 0, 0⟩ : Slc).v, .func (.func fn_maps_Keys_last_1) ⟨[]⟩ ⟨[ptrR' cb]⟩]⟩ w fun e w' => ∃ (t : Slc) (ks : List Int), e = .returned t.v ∧ IntsAt w' t ks ∧ Fresh w t ∧ ks.Perm (al.map (·.1)) ∧ Keep w w' := by
  refine slices_AppendSeq_int_maps_Keys_last_1_ok _ _ ?_
  unfold slices_AppendSeq_int_maps_Keys_last_1
  refine newS_mk (fun r3 w4 hr3 hb3 k3 hs3 => ?_)
  have o3 := ObjAt.new' hb3
  refine ⟨fn_maps_Keys_last_1, [], [ptrR' cb], rfl, by rfl, ?_⟩
  intro D lr rc w8 hD hlr hw8 hY
  have N := newRange hD hlr hw8
  have k8 := k3.trans N.k
  have hdw := N.dw
  have hdl := N.dl
  have hns := N.s
  have z3 := k3.size
  have hml := hm.lt
  let J : Nat → List Int → World → Prop := fun rI ks w2 => Keep w w2 ∧ w2.heap[lr]? = some (.loop (rc .ready none)) ∧ w2.heap[D]? = some (.deferred (some [])) ∧
    ∃ t : Slc, ObjAt w2 r3 [t.v] ∧ IntsAt w2 t ks ∧ (∀ j, ownB t j → w8.heap.size < j)
  have hC := Keys1_spec22 lr cb m al J w8 ((hb.keep k8).cell 0 (by simp)) (hm.keep k8)
    (fun r w1 hr kr hsr => ⟨k8.trans kr, kr.heap N.l, kr.heap N.d, ⟨none, 0, 0⟩, (o3.keep N.k).keep kr, IntsAt.nil _, (by rintro j ⟨a, ha, _⟩; cases ha)⟩)
    (fun r ks w1 w2 hrr hj he => by
      obtain ⟨g1, g2, g3, t, g4, g5, g6⟩ := hj
      refine ⟨g1.ext he (fun k hk => by rw [show k = r from hk]; have := k8.size; omega), he.heap g2 (fun hh => by omega), he.heap g3 (fun hh => by omega), t, g4.ext he (fun hh => by omega), g5.ext he (fun k hk hh => by have := g6 k hk; omega), g6⟩)
    (fun r ks k w1 hr hkin hkn hlen hj hr1 hm1 => by
      obtain ⟨g1, g2, g3, t, g4, g5, g6⟩ := hj
      have z1 := g1.size
      refine hY _ _ _ g2 ⟨g2, fun w12 hw12 => ?_⟩
      have e12 : Ext (fun j => j = lr) w1 w12 := by rw [hw12]; exact Ext.putObj _ _ _
      have l12 : w12.heap[lr]? = some (.loop (rc .busy none)) := by rw [hw12]; exact putObj_new g2
      have z12 : w12.heap.size = w1.heap.size := by rw [hw12]; exact putObj_size _ _ _
      have o12 := g4.ext e12 (fun hh => by omega)
      have t12 : IntsAt w12 t ks := g5.ext e12 (fun j hj hh => by have := g6 j hj; omega)
      have d12 := e12.heap g3 (fun hh => by omega)
      have k12 : Keep w w12 := g1.ext e12 (fun j hj => by omega)
      have o3l := g4.lt
      refine ⟨t, o12.cell 0 (by simp), ?_⟩
      refine IntsAt.push (w0 := w) t12 (fun j hj => by have := g6 j hj; have := k8.size; omega) k12 (by omega) (fun s16 w17 h1 h2 h3 h4 h5 => ?_)
      have z17 := h4.size
      have o17 := o12.ext h4 (fun hh => by have := g6 _ hh; omega)
      have l17 := h4.heap l12 (fun hh => by have := g6 _ hh; omega)
      have d17 := h4.heap d12 (fun hh => by have := g6 _ hh; omega)
      obtain ⟨cw, g⟩ := o17.setOne 0 (by simp) s16.v
      refine ⟨cw, fun w18 h18 => ?_⟩
      obtain ⟨q1, q2, q3⟩ := g w18 h18
      have f16 : ∀ j, ownB s16 j → w8.heap.size < j := fun j hj => (h5 j hj).elim (g6 j) (fun h => by omega)
      refine ⟨q2.heap l17 (fun hh => by omega), fun w19 hw19 => ?_⟩
      have e19 : Ext (fun j => j = lr) w18 w19 := by rw [hw19]; exact Ext.putObj _ _ _
      refine ⟨rfl, ⟨(h3.ext q2 (fun j hj => by omega)).ext e19 (fun j hj => by omega), ?_, (e19.heap (q2.heap d17 (fun hh => by omega)) (fun hh => by omega)), s16, q1.ext e19 (fun hh => by omega), (h1.ext q2 (fun j hj hh => by have := f16 j hj; omega)).ext e19 (fun j hj hh => by have := f16 j hj; omega), f16⟩, ?_⟩
      · rw [hw19]; exact putObj_new (q2.heap l17 (fun hh => by omega))
      · refine ((e12.trans h4 (M := fun j => j ≠ r ∧ j ≠ m) (fun j hj => ⟨by omega, by omega⟩) (fun j hj => .inl ⟨by have := g6 j hj; omega, by have := g6 j hj; omega⟩)).trans q2 (fun _ h => h) (fun j hj => .inl ⟨by omega, by omega⟩)).trans e19 (fun _ h => h) (fun j hj => .inl ⟨by omega, by omega⟩))
  refine hC.mono ?_
  rintro e w24 ⟨rfl, r, ks, hr, hp, g1, g2, g3, t, g4, g5, g6⟩
  refine ⟨⟨_, rfl⟩, g2, fun w25 hw25 => ?_⟩
  have e25 : Ext (fun j => j = lr) w24 w25 := by rw [hw25]; exact Ext.putObj _ _ _
  have d25 := e25.heap g3 (fun hh => by omega)
  refine ⟨t, (g4.ext e25 (fun hh => by omega)).cell 0 (by simp), d25, fun w27 hw27 => ?_⟩
  have e27 : Ext (fun j => j = D) w25 w27 := by rw [hw27]; exact Ext.putObj _ _ _
  refine ⟨t, ks, rfl, (g5.ext e25 (fun j hj hh => by have := g6 j hj; omega)).ext e27 (fun j hj hh => by have := g6 j hj; omega), fun j hj => by have := g6 j hj; have := k8.size; omega, hp, (g1.ext e25 (fun j hj => by omega)).ext e27 (fun j hj => by omega)⟩

/-- Rising. -/
def Rising (l : List Int) : Prop := ∀ x y (hx : x < l.length) (hy : y < l.length), x < y → l[x] ≤ l[y]
theorem Sorted_spec22 (cb m : Nat) (al : List (Int × L3)) (w : World) (hb : ObjAt w cb [.map (some m)]) (hm : MapB KD w m al) (hl : al.length ≤ 12) :
    Calls Tryd.prog fn_slices_Sorted_int ⟨[.func (.func fn_maps_Keys_last_1) ⟨[]⟩ ⟨[ptrR' cb]⟩]⟩ w fun e w' => ∃ (t : Slc) (ks : List Int), e = .returned t.v ∧ IntsAt w' t ks ∧ Fresh w t ∧ ks.Perm (al.map (·.1)) ∧ Rising ks ∧ Keep w w' := by
  refine slices_Sorted_int_maps_Keys_last_1_ok _ ?_
  unfold slices_Sorted_int_maps_Keys_last_1
  refine slices_Collect_int_maps_Keys_last_1_ok _ ?_
  unfold slices_Collect_int_maps_Keys_last_1
  refine (AppendSeq_spec22 cb m al w hb hm (by omega)).mono ?_
  rintro e w3 ⟨t, ks, rfl, h1, h2, h3, h4⟩
  refine ⟨t, rfl, t, rfl, ?_⟩
  have hlen := h3.length_eq
  simp at hlen
  refine (Sort_spec t ks w3 h1 (by omega)).mono ?_
  rintro e w6 ⟨rfl, l', p1, p2, p3, p4⟩
  refine ⟨rfl, t, l', rfl, p3, h2, p1.trans h3, fun x y hx hy hxy => p2 x y hx hy hxy (by rw [← p1.length_eq]; exact hy), h4.ext p4 (fun j hj => h2 j hj)⟩

theorem rising_spec22 (r : Nat) (w : World) : Calls Tryd.prog fn_dedup_Seen_rising ⟨[ptrR' r]⟩ w fun e w' => ∃ b, e = .returned (.func (.func fn_dedup_Seen_rising_1) ⟨[]⟩ ⟨[ptrR' b]⟩) ∧ ObjAt w' b [ptrR' r] ∧ Keep w w' ∧ w.heap.size ≤ b := by
  refine dedup_Seen_rising_ok _ ?_
  unfold dedup_Seen_rising
  exact newS_mk (fun b w3 hr hb k hs => ⟨b, rfl, ObjAt.new' hb, k, by omega⟩)

theorem rising1_spec22 (lr cb r m : Nat) (al : List (Int × L3)) (J : List Int → Nat → World → Prop) (w : World) (hl : al.length ≤ 12) (hb : ObjAt w cb [ptrR' r]) (hs : SeenAt w r m al)
    (h0 : ∀ ks w1, ks.Perm (al.map (·.1)) → Rising ks → Keep w w1 → J ks 0 w1)
    (hJ : ∀ ks k w1, J ks k w1 → w1.cell? ⟨cb, 0, none⟩ = some (ptrR' r) ∧ SeenAt w1 r m al)
    (hstep : ∀ ks k (hk : k < ks.length) x (w1 : World), ks.Perm (al.map (·.1)) → Rising ks → lookL al ks[k] = some x → J ks k w1 → w.heap.size ≤ w1.heap.size →
      YieldC Tryd.prog lr ⟨[.int .i64 ks[k], l3V x]⟩ w1 fun e w' => e = .returned (.bool true) ∧ J ks (k + 1) w' ∧ Ext (fun j => j < w.heap.size) w1 w') :
    Calls Tryd.prog fn_dedup_Seen_rising_1 ⟨[.func (.yield lr) ⟨[]⟩ ⟨[]⟩, ptrR' cb]⟩ w fun e w' => e = .returned (.tuple #[]) ∧ ∃ ks, ks.Perm (al.map (·.1)) ∧ Rising ks ∧ J ks ks.length w' := by
  refine dedup_Seen_rising_1_ok _ _ ?_
  unfold dedup_Seen_rising_1
  refine needSome_mk rfl ⟨_, hb.cell 0 (by simp), needSome_mk rfl ⟨_, hs.o.cell 0 (by simp), ?_⟩⟩
  refine (Keys_spec22 m w).mono ?_
  rintro e w8 ⟨b, rfl, ob, k8, _⟩
  refine ⟨_, rfl, (Sorted_spec22 b m al w8 ob (hs.mp.keep k8) hl).mono ?_⟩
  rintro e w11 ⟨t, ks, rfl, ht, ft, hp, hri, k11⟩
  have kk := k8.trans k11
  have z8 := k8.size
  have htl := ht.sl
  have hlen := hp.length_eq
  simp at hlen
  refine ⟨t, rfl, fun i w2 => ∃ k : Nat, i = k ∧ k ≤ ks.length ∧ J ks k w2 ∧ IntsAt w2 t ks ∧ w11.heap.size ≤ w2.heap.size, fun i _ => ((ks.length : Int) - i).toNat, ⟨0, rfl, by omega, h0 ks w11 hp hri kk, ht, Nat.le_refl _⟩, ?_⟩
  rintro i w16 ⟨k, rfl, hk, hj, ht16, hz⟩
  intros
  refine BIf_dec (fun hlt => ?_) (fun hge => ?_)
  · have hkl : k < ks.length := by omega
    obtain ⟨a, ha, hc⟩ := ht16.get hkl
    obtain ⟨g1, g2⟩ := hJ _ _ _ hj
    obtain ⟨es, hes, hget⟩ := g2.mp.get
    have hg := hget ks[k]
    have hin : ks[k] ∈ al.map (·.1) := hp.mem_iff.1 (List.getElem_mem hkl)
    refine needSome_mk ha ⟨by omega, hlt, ks[k], by rw [Int.toNat_natCast]; exact hc, needSome_mk rfl ⟨_, g1, needSome_mk rfl ⟨_, g2.o.cell 0 (by simp), es, hes, ?_⟩⟩⟩
    cases hq : lookL al ks[k] with
    | none => exact absurd hin (look_none.1 hq)
    | some x =>
      rw [hq] at hg
      have k11s := kk.size
      refine .inr ⟨x.1, x.2.1, x.2.2, hg, (hstep ks k hkl x w16 hp hri hq hj (by omega)).mono ?_⟩
      rintro e w46 ⟨rfl, hj46, e46⟩
      refine ⟨true, rfl, BIf_mk (fun hh => by cases hh) (fun _ => ⟨inR64 (by omega), ⟨k + 1, rfl, hkl, hj46, ht16.ext e46 (fun j hj hh => by have := ft j hj; omega), by have := e46.size; omega⟩, by dsimp only; omega⟩)⟩
  · have hke : k = ks.length := by omega
    subst hke
    exact ⟨rfl, ks, hp, hri, hj⟩

def joinL (a b : Option L3) : Option L3 :=
  match b with
  | none => a
  | some l => if (a.getD z3).1 < l.1 then some l else a
theorem Join_spec22 {w : World} {r1 m1 r2 m2 : Nat} {al1 al2 : List (Int × L3)} (h1 : SeenAt w r1 m1 al1) (h2 : SeenAt w r2 m2 al2) (hne : m1 ≠ m2) (hr12 : r2 ≠ m1) (hl : al2.length ≤ 12) :
    Calls Tryd.prog fn_dedup_Seen_Join ⟨[ptrR' r1, ptrR' r2]⟩ w fun e w' => e = .returned (.tuple #[]) ∧ ∃ al', SeenAt w' r1 m1 al' ∧ (∀ c, lookL al' c = joinL (lookL al1 c) (lookL al2 c)) ∧ Ext (fun k => k = m1) w w' := by
  refine dedup_Seen_Join_ok _ _ ?_
  unfold dedup_Seen_Join
  refine newS_mk (fun r3 w4 hr3 hb3 k3 hs3 => ?_)
  have o3 := ObjAt.new' hb3
  refine (rising_spec22 r2 w4).mono ?_
  rintro e w6 ⟨cb, rfl, ocb, k6, hcb⟩
  refine ⟨_, rfl, fn_dedup_Seen_rising_1, [], [ptrR' cb], rfl, by rfl, ?_⟩
  intro D lr rc w11 hD hlr hw11 hY
  have N := newRange hD hlr hw11
  have k11 := (k3.trans k6).trans N.k
  have hdw := N.dw
  have hdl := N.dl
  have hns := N.s
  have z3' := k3.size
  have z6 := k6.size
  have hm1 := h1.mp.lt
  have hm2 := h2.mp.lt
  have hr1 := h1.o.lt
  have hr2 := h2.o.lt
  have hcbl := ocb.lt
  have o3l := (o3.keep k6).lt
  have z11 := k11.size
  let J : List Int → Nat → World → Prop := fun ks k w2 => Ext (fun j => j = m1 ∨ j = lr) w11 w2 ∧ w2.heap[lr]? = some (.loop (rc .ready none)) ∧
    ∃ al', SeenAt w2 r1 m1 al' ∧ ∀ c, lookL al' c = if c ∈ ks.take k then joinL (lookL al1 c) (lookL al2 c) else lookL al1 c
  have hC := rising1_spec22 lr cb r2 m2 al2 J w11 hl (ocb.keep N.k) (h2.keep k11)
    (fun ks w1 hp hri kw => ⟨kw.mono (fun _ h => h.elim), kw.heap N.l, al1, (h1.keep k11).keep kw, fun c => by simp⟩)
    (fun ks k w1 hj => ⟨((ocb.keep N.k).ext hj.1 (fun hh => by omega)).cell 0 (by simp), (h2.keep k11).ext hj.1 (fun hh => by omega) (fun hh => by omega)⟩)
    (fun ks k hk x w1 hp hri hx hj hz1 => by
      obtain ⟨g1, g2, al', g3, g4⟩ := hj
      have hnd : ks.Nodup := hp.nodup_iff.2 h2.mp.nd
      refine hY _ _ _ _ _ _ g2 (var_mk (cs := l3C x) rfl rfl (fun r18 w20 hr18 o18 k18 hs18 => ?_))
      have l20 := k18.heap g2
      refine ⟨l20, fun w21 hw21 => ?_⟩
      have e21 : Ext (fun j => j = lr) w20 w21 := by rw [hw21]; exact Ext.putObj _ _ _
      have l21 : w21.heap[lr]? = some (.loop (rc .busy none)) := by rw [hw21]; exact putObj_new l20
      have z21 : w21.heap.size = w20.heap.size := by rw [hw21]; exact putObj_size _ _ _
      have kd : Keep w21 (World.drew w21) := Keep.drew (Ext.refl _ _)
      have kd2 : Keep w21 (World.drew (World.drew w21)) := Keep.drew (Keep.drew (Ext.refl _ _))
      have o21 := o18.ext e21 (fun hh => by omega)
      have s21 := (g3.keep k18).ext e21 (fun hh => by omega) (fun hh => by omega)
      have b21 := (((o3.keep k6).keep N.k).ext g1 (fun hh => by omega)).keep k18 |>.ext e21 (fun hh => by omega)
      have sd := s21.keep kd
      obtain ⟨es, hes, hget⟩ := sd.mp.get
      have hg := hget ks[k]
      have ee21 : Ext (fun j => j = m1 ∨ j = lr) w11 w21 := (g1.trans k18 (fun _ h => h) (fun _ h => h.elim)).trans e21 (fun _ h => h) (fun j hj => .inl (.inr hj))
      have x21 : Ext (fun j => j < w11.heap.size) w1 w21 := (k18.mono (fun _ h => h.elim)).trans e21 (fun _ h => h) (fun j hj => .inl (by omega))
      have hnk : ks[k] ∉ ks.take k := by
        intro hin
        obtain ⟨q, hq, he⟩ := List.getElem_of_mem hin
        rw [List.length_take] at hq
        rw [List.getElem_take] at he
        have := (List.getElem_inj hnd).1 he
        omega
      have hlk : lookL al' ks[k] = lookL al1 ks[k] := by rw [g4, if_neg hnk]
      -- the entry is laid
      have yes : ((lookL al' ks[k]).getD z3).1 < x.1 → ∃ p30 : Option Addr, World.cell? (World.drew (World.drew w21)) (⟨r3, 0, none⟩ : Addr) = some (Value.pointer p30) ∧
          needSome p30 fun a31 => ∃ m32 : Option Nat, World.cell? (World.drew (World.drew w21)) a31 = some (Value.map m32) ∧
          ∃ n33 : Int, ∃ n34 : Int, ∃ n35 : Int, rowAt (World.drew (World.drew w21)) (⟨r18, 0, none⟩ : Addr) 0 [(Value.int .i64 n33), (Value.int .i64 n34), (Value.int .i64 n35)] ∧
          ∃ (mb36 : Nat) (es37 : Array MapEntry) (ck38 : Nat) (es39 : Array MapEntry) (ck40 : Nat), m32 = some mb36 ∧ (World.heap ((World.drew (World.drew w21))))[mb36]? = some (.map es37 ck38) ∧ mapPut (.int .i64) (Value.int .i64 ks[k]) (Value.agg ⟨[(Value.int .i64 n33), (Value.int .i64 n34), (Value.int .i64 n35)]⟩) es37 ck38 = some (es39, ck40) ∧ ∀ w41 : World, w41 = setObjW (World.drew (World.drew w21)) mb36 (.map es39 ck40) →
          (World.heap w41)[lr]? = some (.loop (rc .busy none)) ∧ ∀ w42 : World, w42 = World.putObj w41 lr (.loop (rc .ready none)) → (Ending.returned (Value.bool true) = .returned (.bool true) ∧ J ks (k + 1) w42 ∧ Ext (fun j => j < w11.heap.size) w1 w42) := by
        intro hlt
        have sd2 := s21.keep kd2
        obtain ⟨es', ck, es2, ck2, q1, q2, q3⟩ := sd2.mp.put ks[k] x
        refine ⟨_, (b21.keep kd2).cell 0 (by simp), needSome_mk rfl ⟨_, sd2.o.cell 0 (by simp), _, _, _, (o21.keep kd2).row, m1, es', ck, es2, ck2, rfl, q1, q2, fun w41 h41 => ?_⟩⟩
        obtain ⟨q4, q5, q6⟩ := q3 w41 h41
        have l41 := q5.heap (kd2.heap l21) (fun hh => by omega)
        refine ⟨l41, fun w42 hw42 => ?_⟩
        have e42 : Ext (fun j => j = lr) w41 w42 := by rw [hw42]; exact Ext.putObj _ _ _
        have s41 : SeenAt w41 r1 m1 (putL al' ks[k] x) := ⟨sd2.o.ext q5 (fun hh => h1.ne hh), q4, h1.ne⟩
        refine ⟨rfl, ⟨((ee21.trans kd2 (fun _ h => h) (fun _ h => h.elim)).trans q5 (fun _ h => h) (fun j hj => .inl (.inl hj))).trans e42 (fun _ h => h) (fun j hj => .inl (.inr hj)), ?_, putL al' ks[k] x, s41.ext e42 (fun hh => by omega) (fun hh => by omega), fun c => ?_⟩, ?_⟩
        · rw [hw42]; exact putObj_new l41
        · rw [look_put, List.take_succ_eq_append_getElem hk]
          by_cases hc : c = ks[k]
          · subst hc
            rw [if_pos rfl, if_pos (List.mem_append_right _ (List.mem_singleton.2 rfl)), hx]
            unfold joinL
            dsimp only
            rw [if_pos (by rw [← hlk]; exact hlt)]
          · rw [if_neg hc, g4]
            have : (c ∈ ks.take k ++ [ks[k]]) ↔ c ∈ ks.take k := by rw [List.mem_append, List.mem_singleton]; exact ⟨fun h => h.elim id (fun h => absurd h hc), .inl⟩
            simp only [this]
        · exact ((x21.trans kd2 (fun _ h => h) (fun _ h => h.elim)).trans q5 (fun _ h => h) (fun j hj => .inl (by omega))).trans e42 (fun _ h => h) (fun j hj => .inl (by omega))
      have no : ¬ ((lookL al' ks[k]).getD z3).1 < x.1 → (World.heap (World.drew w21))[lr]? = some (.loop (rc .busy none)) ∧ ∀ w43 : World, w43 = World.putObj (World.drew w21) lr (.loop (rc .ready none)) → (Ending.returned (Value.bool true) = .returned (.bool true) ∧ J ks (k + 1) w43 ∧ Ext (fun j => j < w11.heap.size) w1 w43) := by
        intro hlt
        refine ⟨kd.heap l21, fun w42 hw42 => ?_⟩
        have e42 : Ext (fun j => j = lr) (World.drew w21) w42 := by rw [hw42]; exact Ext.putObj _ _ _
        refine ⟨rfl, ⟨(ee21.trans kd (fun _ h => h) (fun _ h => h.elim)).trans e42 (fun _ h => h) (fun j hj => .inl (.inr hj)), ?_, al', sd.ext e42 (fun hh => by omega) (fun hh => by omega), fun c => ?_⟩, ?_⟩
        · rw [hw42]; exact putObj_new (kd.heap l21)
        · rw [g4, List.take_succ_eq_append_getElem hk]
          by_cases hc : c = ks[k]
          · subst hc
            rw [if_neg hnk, if_pos (List.mem_append_right _ (List.mem_singleton.2 rfl)), hx]
            unfold joinL
            dsimp only
            rw [if_neg (by rw [← hlk]; exact hlt)]
          · have : (c ∈ ks.take k ++ [ks[k]]) ↔ c ∈ ks.take k := by rw [List.mem_append, List.mem_singleton]; exact ⟨fun h => h.elim id (fun h => absurd h hc), .inl⟩
            simp only [this]
        · exact (x21.trans kd (fun _ h => h) (fun _ h => h.elim)).trans e42 (fun _ h => h) (fun j hj => .inl (by omega))
      refine ⟨_, (o21.keep kd).cell 0 (by simp [l3C]), _, (b21.keep kd).cell 0 (by simp), needSome_mk rfl ⟨_, sd.o.cell 0 (by simp), es, hes, ?_⟩⟩
      cases hq : lookL al' ks[k] with
      | none =>
        rw [hq] at hg yes no
        exact .inl ⟨hg, BIf_dec (fun h => yes h) (fun h => no h)⟩
      | some y =>
        rw [hq] at hg yes no
        exact .inr ⟨y.1, y.2.1, y.2.2, hg, BIf_dec (fun h => yes h) (fun h => no h)⟩)
  refine hC.mono ?_
  rintro e w62 ⟨rfl, ks, hp, hri, g1, g2, al', g3, g4⟩
  refine ⟨⟨_, rfl⟩, g2, fun w63 hw63 => ?_⟩
  have e63 : Ext (fun j => j = lr) w62 w63 := by rw [hw63]; exact Ext.putObj _ _ _
  have d63 := e63.heap (g1.heap N.d (fun hh => by omega)) (fun hh => by omega)
  refine ⟨d63, fun w64 hw64 => ?_⟩
  have e64 : Ext (fun j => j = D) w63 w64 := by rw [hw64]; exact Ext.putObj _ _ _
  refine ⟨rfl, al', (g3.ext e63 (fun hh => by omega) (fun hh => by omega)).ext e64 (fun hh => by omega) (fun hh => by omega), fun c => ?_, ?_⟩
  · rw [g4, List.take_length]
    split
    · rfl
    · rename_i hc
      have : lookL al2 c = none := look_none.2 (fun hh => hc (hp.mem_iff.2 hh))
      rw [this]; rfl
  · exact ((Ext.trans k11 g1 (M := fun k => k = m1) (fun _ h => h.elim) (fun j hj => hj.elim .inl (fun h => .inr (by omega)))).trans e63 (fun _ h => h) (fun j hj => .inr (by omega))).trans e64 (fun _ h => h) (fun j hj => .inr (by omega))
end Go.D

set_option linter.unusedVariables false
set_option linter.unusedSimpArgs false
set_option maxRecDepth 8000
namespace Go.D
open Go Go.Proofs

/-! ### two of them -/
def WfD (al : List (Int × L3)) : Prop := ∀ k x, lookL al k = some x → (1 ≤ k ∧ k ≤ 4) ∧ (1 ≤ x.1 ∧ x.1 ≤ 1073741824) ∧ (x.2.1 = 1 ∨ x.2.1 = 2) ∧ (0 ≤ x.2.2 ∧ x.2.2 ≤ 4095)
theorem WfD.len {al : List (Int × L3)} (h : WfD al) (hn : (al.map (·.1)).Nodup) : al.length ≤ 4 := by
  have := nodup_len (a := al.map (·.1)) (b := [1, 2, 3, 4]) hn (fun x hx => by
    have h1 := look_isSome.2 hx
    obtain ⟨y, hy⟩ := Option.isSome_iff_exists.1 h1
    have := (h x y hy).1
    have : x = 1 ∨ x = 2 ∨ x = 3 ∨ x = 4 := by omega
    simpa using this)
  simpa using this
theorem WfD.nil : WfD [] := fun k x h => by simp [lookL] at h
theorem WfD.note {al : List (Int × L3)} (h : WfD al) (c seq code at' : Int) : WfD (noteV al c seq code at').2 := by
  unfold noteV
  split
  · exact h
  · rename_i hr
    have hr : rightD c seq code at' = true := by simpa using hr
    split
    · intro k x hk
      rw [look_put] at hk
      split at hk
      · rename_i hkc; subst hkc
        cases hk
        unfold rightD at hr
        have := of_decide_eq_true hr
        dsimp only
        omega
      · exact h k x hk
    · exact h
theorem WfD.join {a b d : List (Int × L3)} (ha : WfD a) (hb : WfD b) (hd : ∀ c, lookL d c = joinL (lookL a c) (lookL b c)) : WfD d := by
  intro k x hk
  rw [hd] at hk
  unfold joinL at hk
  cases hq : lookL b k with
  | none => rw [hq] at hk; exact ha k x hk
  | some l =>
    rw [hq] at hk
    dsimp only at hk
    split at hk
    · cases hk; exact hb k _ hq
    · exact ha k x hk
theorem note_rises {al : List (Int × L3)} (h : WfD al) (c seq code at' k : Int) : (lastV al k).1 ≤ (lastV (noteV al c seq code at').2 k).1 := by
  unfold noteV
  split
  · exact Int.le_refl _
  · rename_i hr
    have hr : rightD c seq code at' = true := by simpa using hr
    have hr := of_decide_eq_true hr
    split
    · rename_i hf
      unfold lastV
      rw [look_put]
      split
      · rename_i hk; subst hk
        unfold askV at hf
        cases hq : lookL al k with
        | none => show (0 : Int) ≤ seq; omega
        | some x =>
          rw [hq] at hf
          dsimp only at hf
          split at hf
          · show x.1 ≤ seq; omega
          · split at hf <;> simp at hf
      · exact Int.le_refl _
    · exact Int.le_refl _
theorem join_rises (a b : Option L3) : (a.getD z3).1 ≤ ((joinL a b).getD z3).1 := by
  unfold joinL
  cases b with
  | none => exact Int.le_refl _
  | some l => dsimp only; split
              · rename_i h; show _ ≤ l.1; omega
              · exact Int.le_refl _
theorem join_same {a b : Option L3} (ha : ∀ x, a = some x → 1 ≤ x.1) (hb : ∀ x, b = some x → 1 ≤ x.1) : ((joinL a b).getD z3).1 = ((joinL b a).getD z3).1 := by
  unfold joinL
  cases a with
  | none =>
    cases b with
    | none => rfl
    | some y =>
      have := hb y rfl
      dsimp only [Option.getD]
      rw [if_pos (by show (0 : Int) < y.1; omega)]
  | some x =>
    have := ha x rfl
    cases b with
    | none =>
      dsimp only [Option.getD]
      rw [if_pos (by show (0 : Int) < x.1; omega)]
    | some y =>
      dsimp only [Option.getD]
      by_cases h1 : x.1 < y.1
      · rw [if_pos h1, if_neg (by omega)]
      · rw [if_neg h1]
        by_cases h2 : y.1 < x.1
        · rw [if_pos h2]
        · rw [if_neg h2]; dsimp only; omega

theorem SeenAt.ne2 {w : World} {r m r' m' : Nat} {a a' : List (Int × L3)} (h : SeenAt w r m a) (h' : SeenAt w r' m' a') : r ≠ m' := by
  rintro rfl
  obtain ⟨T, f, h1, _⟩ := h.o
  obtain ⟨es, ck, h2, _⟩ := h'.mp.at'
  rw [h1] at h2; cases h2
structure DSt (w0 w : World) (r11 : Nat) (rr mm : Bool → Nat) (aa : Bool → List (Int × L3)) : Prop where
  k : Keep w0 w
  s : ∀ b, SeenAt w (rr b) (mm b) (aa b)
  o : ObjAt w r11 [ptrR' (rr false), ptrR' (rr true)]
  wf : ∀ b, WfD (aa b)
  nm : mm false ≠ mm true
  ge : ∀ b, w0.heap.size ≤ rr b ∧ w0.heap.size ≤ mm b
  g : w0.heap.size ≤ r11
section
variable {w0 w w' : World} {r11 : Nat} {rr mm : Bool → Nat} {aa : Bool → List (Int × L3)}
theorem DSt.ext {M : Nat → Prop} (h : DSt w0 w r11 rr mm aa) (he : Ext M w w') (hm : ∀ j, M j → w0.heap.size ≤ j ∧ j ≠ r11 ∧ ∀ b, j ≠ rr b ∧ j ≠ mm b) : DSt w0 w' r11 rr mm aa :=
  ⟨h.k.ext he (fun j hj => (hm j hj).1), fun b => (h.s b).ext he (fun hh => ((hm _ hh).2.2 b).1 rfl) (fun hh => ((hm _ hh).2.2 b).2 rfl), h.o.ext he (fun hh => (hm _ hh).2.1 rfl), h.wf, h.nm, h.ge, h.g⟩
theorem DSt.keep (h : DSt w0 w r11 rr mm aa) (he : Keep w w') : DSt w0 w' r11 rr mm aa := h.ext he (fun _ h => h.elim)
theorem DSt.lt (h : DSt w0 w r11 rr mm aa) : r11 < w.heap.size ∧ ∀ b, rr b < w.heap.size ∧ mm b < w.heap.size := ⟨h.o.lt, fun b => ⟨(h.s b).o.lt, (h.s b).mp.lt⟩⟩
theorem DSt.mne (h : DSt w0 w r11 rr mm aa) {a b : Bool} (hab : a ≠ b) : mm a ≠ mm b := by
  have := h.nm
  cases a <;> cases b <;> first | exact absurd rfl hab | exact this | exact fun e => this e.symm
theorem DSt.onm (h : DSt w0 w r11 rr mm aa) (b : Bool) : r11 ≠ mm b := by
  intro e
  obtain ⟨T, f, h1, _⟩ := h.o
  obtain ⟨es, ck, h2, _⟩ := (h.s b).mp.at'
  rw [e, h2] at h1; cases h1
theorem DSt.upd (h : DSt w0 w r11 rr mm aa) (b : Bool) {al' : List (Int × L3)} (hs : SeenAt w' (rr b) (mm b) al') (he : Ext (fun j => j = mm b) w w') (hwf : WfD al') : DSt w0 w' r11 rr mm (fun b' => if b' = b then al' else aa b') := by
  refine ⟨h.k.ext he (fun j hj => by rw [show j = mm b from hj]; exact (h.ge b).2), fun b' => ?_, h.o.ext he (fun hh => h.onm b hh), fun b' => ?_, h.nm, h.ge, h.g⟩
  · by_cases hb : b' = b
    · subst hb; rw [if_pos rfl]; exact hs
    · rw [if_neg hb]
      exact (h.s b').ext he (fun hh => (h.s b').ne2 (h.s b) hh) (fun hh => h.mne hb hh)
  · by_cases hb : b' = b
    · subst hb; rw [if_pos rfl]; exact hwf
    · rw [if_neg hb]; exact h.wf b'
end
def ixB (b : Bool) : Int := if b then 1 else 0
theorem ixB_cell {w : World} {r : Nat} {x y : Value} (h : ObjAt w r [x, y]) (b : Bool) : w.cell? (Addr.add (⟨r, 0, none⟩ : Addr) ((Int.toNat (ixB b)) * 1)) = some (if b then y else x) := by
  cases b
  · have := h.cell 0 (by simp)
    rw [add_lit]; exact this
  · have := h.cell 1 (by simp)
    rw [add_lit]; exact this
theorem ixB_cell' {w : World} {r : Nat} {f : Bool → Nat} (h : ObjAt w r [ptrR' (f false), ptrR' (f true)]) (b : Bool) : w.cell? (Addr.add (⟨r, 0, none⟩ : Addr) ((Int.toNat (ixB b)) * 1)) = some (ptrR' (f b)) := by
  rw [ixB_cell h b]; cases b <;> rfl

theorem alive22_spec (A : Nat → Addr) {n0 : Nat} (w : World) (hE : ErrsG ddG A n0 w) : Calls Tryd.prog fn_tidewaterlaw22_alive ⟨[]⟩ w fun e w' => e = .returned (.bool true) ∧ Keep w w' := by
  refine tidewaterlaw22_alive_ok ?_
  unfold tidewaterlaw22_alive
  refine (New_spec22 w).mono ?_
  rintro e w2 ⟨r, m, rfl, hs, k2, hr, hm⟩
  refine ⟨_, rfl, fun w3 => Keep w w3 ∧ SeenAt w3 r m [(1, (5, 1, 0))], BIf_mk (fun hh => by cases hh) (fun _ => ?_), ?_⟩
  · refine (Note_spec22 A hs 1 5 1 0 (hE.keep k2)).mono ?_
    rintro e w6 ⟨rfl, g1, g2⟩
    have e1 : noteV [] 1 5 1 0 = (none, [(1, (5, 1, 0))]) := by decide
    rw [e1] at g1 ⊢
    exact ⟨_, rfl, trivial, BIf_mk (fun hh => by cases hh) (fun _ => ⟨k2.ext g2 (fun j hj => by rw [show j = m from hj]; exact hm), g1⟩)⟩
  · rintro w8 ⟨k8, h8⟩
    intros
    refine (Ask_spec22 h8 1 4).mono ?_
    rintro e w19 ⟨rfl, k19⟩
    refine ⟨_, _, _, rfl, var_mk (cs := [_, _]) rfl rfl (fun r23 w25 hr23 o23 k25 hs25 => ?_)⟩
    refine (Ask_spec22 ((h8.keep k19).keep k25) 1 5).mono ?_
    rintro e w27 ⟨rfl, k27⟩
    refine ⟨_, _, _, rfl, var_mk (cs := [_, _]) rfl rfl (fun r31 w33 hr31 o31 k33 hs33 => ?_)⟩
    have e1 : (askV [(1, (5, 1, 0))] 1 4).2 = 3 := by decide
    have e2 : (askV [(1, (5, 1, 0))] 1 5).2 = 2 := by decide
    rw [e1, e2]
    exact BIf_dec (fun _ => ⟨rfl, (((k8.trans k19).trans k25).trans k27).trans k33⟩) (fun hh => (hh rfl).elim)

/-- An act. -/
abbrev Act22 := Bool × Int × Int × (Int × Int) × Bool
def actC (a : Act22) : List Value := [.bool a.1, .int .i64 a.2.1, .int .i64 a.2.2.1, .int .i64 a.2.2.2.1.1, .int .i64 a.2.2.2.1.2, .bool a.2.2.2.2]
structure ActsAt (w : World) (s : Slc) (l : List Act22) : Prop where
  len : s.l = l.length
  row : ∀ i (h : i < l.length), ∃ a, s.p = some a ∧ rowAt w (a.add (i * 6)) 0 (actC l[i])
theorem ActsAt.keep {w w' : World} {s : Slc} {l : List Act22} (h : ActsAt w s l) (k : Keep w w') : ActsAt w' s l := ⟨h.len, fun i hi => let ⟨a, ha, hr⟩ := h.row i hi; ⟨a, ha, rowAt_keep hr k⟩⟩

/-- The numbers of the clients 0 to 4, the first k of them laid. -/
def wasC (al : List (Int × L3)) (k : Nat) : List Value := (List.range 5).map fun (c : Nat) => .int .i64 (if c < k then (lastV al (c : Int)).1 else 0)
theorem wasC_zero (al : List (Int × L3)) : wasC al 0 = [.int .i64 0, .int .i64 0, .int .i64 0, .int .i64 0, .int .i64 0] := rfl
theorem wasC_get (al : List (Int × L3)) (k c : Nat) (hc : c < (wasC al k).length) : (wasC al k)[c] = .int .i64 (if c < k then (lastV al (c : Int)).1 else 0) := by simp [wasC]
theorem wasC_len (al : List (Int × L3)) (k : Nat) : (wasC al k).length = 5 := by simp [wasC]
theorem wasC_set (al : List (Int × L3)) (k : Nat) (hk : k < 5) : (wasC al k).set k (.int .i64 (lastV al (k : Int)).1) = wasC al (k + 1) := by
  refine List.ext_getElem (by simp [wasC]) (fun i h1 h2 => ?_)
  rw [wasC_get, List.getElem_set]
  split
  · rename_i h; subst h; rw [if_pos (by omega)]
  · rename_i h
    rw [wasC_get]
    have : i < k ↔ i < k + 1 := by omega
    simp only [this]

theorem DedupRises_walk (A : Nat → Addr) (sl : Slc) (l : List Act22) (w : World) (hl : ActsAt w sl l) (hE0 : ErrsOn tyErr ddG A w) :
    Calls Tryd.prog fn_tidewaterlaw22_DedupRises ⟨[sl.v]⟩ w fun e w' => e = .returned (.bool true) ∧ Keep w w' := by
  have hE := hE0.g
  have hll := hl.len
  refine tidewaterlaw22_DedupRises_ok _ ?_
  unfold tidewaterlaw22_DedupRises
  refine (alive22_spec A w hE).mono ?_
  rintro e w3 ⟨rfl, k3⟩
  refine ⟨_, rfl, BIf_mk (fun hh => by cases hh) (fun _ => BIf_dec (fun _ => ⟨rfl, k3⟩) (fun h60 => ?_))⟩
  refine (New_spec22 w3).mono ?_
  rintro e w6 ⟨r0, m0, rfl, s0, k6, hr0, hm0⟩
  refine ⟨_, rfl, (New_spec22 w6).mono ?_⟩
  rintro e w9 ⟨r1, m1, rfl, s1, k9, hr1, hm1⟩
  refine ⟨_, rfl, var_mk (cs := [ptrR' r0, ptrR' r1]) rfl rfl (fun r11 w13 hr11 o11 k13 hs13 => ?_)⟩
  have z3 := k3.size
  have z6 := k6.size
  have z9 := k9.size
  have hm0l := s0.mp.lt
  let rr : Bool → Nat := fun b => if b then r1 else r0
  let mm : Bool → Nat := fun b => if b then m1 else m0
  have D0 : DSt w w13 r11 rr mm (fun _ => []) := by
    refine ⟨((k3.trans k6).trans k9).trans k13, fun b => ?_, o11, fun b => WfD.nil, ?_, fun b => ?_, by omega⟩
    · cases b
      · exact (s0.keep k9).keep k13
      · exact s1.keep k13
    · show m0 ≠ m1; omega
    · cases b
      · show w.heap.size ≤ r0 ∧ w.heap.size ≤ m0; omega
      · show w.heap.size ≤ r1 ∧ w.heap.size ≤ m1; omega
  clear_value rr mm
  refine ⟨fun i w2 => ∃ (k : Nat) (aa : Bool → List (Int × L3)), i = k ∧ k ≤ l.length ∧ DSt w w2 r11 rr mm aa, fun i _ => ((l.length : Int) - i).toNat, ⟨0, _, rfl, by omega, D0⟩, ?_⟩
  rintro i w17 ⟨k, aa, rfl, hk, D17⟩
  intros
  refine BIf_dec (fun hlt => ?_) (fun hge => ?_)
  · have hkl : k < l.length := by omega
    obtain ⟨a, ha, hrow⟩ := (hl.keep D17.k).row k hkl
    generalize hact : l[k] = act at hrow
    obtain ⟨wh, cl, sq, ⟨cd, at'⟩, jn⟩ := act
    refine needSome_mk ha ⟨by omega, hlt, _, _, _, _, _, _, by rw [Int.toNat_natCast]; exact hrow, ?_⟩
    refine var_mk (cs := actC (wh, cl, sq, (cd, at'), jn)) rfl rfl (fun r95 w97 hr95 o95 k97 hs97 => ?_)
    have D97 := D17.keep k97
    refine ⟨fun i w2 => i = ixB wh ∧ w2 = w97, ⟨_, o95.cell 0 (by simp [actC]), BIf_mk (fun h => ⟨by rw [show wh = true from h]; rfl, rfl⟩) (fun h => ⟨by rw [show wh = false from h]; rfl, rfl⟩)⟩, ?_⟩
    rintro i100 w101 ⟨rfl, rfl⟩
    intros
    refine var_mk (cs := wasC (aa wh) 0) rfl (wasC_len _ _) (fun r104 w106 hr104 o104 k106 hs106 => ?_)
    have D106 := D97.keep k106
    have o95' := o95.keep k106
    have lt97 := D97.lt
    have lt17 := D17.lt
    have z97 := k97.size
    have z17 := D17.k.size
    have sep104 : ∀ j, j = r104 → w.heap.size ≤ j ∧ j ≠ r11 ∧ ∀ b, j ≠ rr b ∧ j ≠ mm b := by
      rintro j rfl
      refine ⟨by omega, by have := lt97.1; omega, fun b => ⟨by have := (lt97.2 b).1; omega, by have := (lt97.2 b).2; omega⟩⟩
    have hix : 0 ≤ ixB wh ∧ ixB wh < ((2 : Nat) : Int) := by unfold ixB; split <;> omega
    refine ⟨fun i w2 => ∃ q : Nat, i = q ∧ q ≤ 5 ∧ DSt w w2 r11 rr mm aa ∧ ObjAt w2 r95 (actC (wh, cl, sq, (cd, at'), jn)) ∧ ObjAt w2 r104 (wasC (aa wh) q), fun i _ => (5 - i).toNat, ⟨0, rfl, by omega, D106, o95', o104⟩, ?_⟩
    rintro i109 w110 ⟨q, rfl, hq, D110, o95b, o104b⟩
    intros
    refine BIf_dec (fun hlt5 => ?_) (fun hge5 => ?_)
    · refine ⟨hix.1, hix.2, _, ixB_cell' D110.o wh, (Last_spec22 (D110.s wh) q).mono ?_⟩
      rintro e w128 ⟨rfl, k128⟩
      obtain ⟨cw, g⟩ := (o104b.keep k128).setOne q (by rw [wasC_len]; omega) (.int .i64 (lastV (aa wh) (q : Int)).1)
      have ea : (Addr.add (⟨r104, 0, none⟩ : Addr) ((Int.toNat (q : Int)) * 1)) = ⟨r104, q, none⟩ := by rw [add_lit]; simp
      refine ⟨_, _, _, _, rfl, by omega, by omega, by rw [ea]; exact cw, fun w133 h133 => ?_⟩
      obtain ⟨g1, g2, _⟩ := g w133 (by rw [h133, ea])
      rw [wasC_set _ _ (by omega)] at g1
      exact ⟨inR64 (by omega), ⟨q + 1, rfl, by omega, (D110.keep k128).ext g2 sep104, (o95b.keep k128).ext g2 (fun hh => by omega), g1⟩, by dsimp only; omega⟩
    have hq5 : q = 5 := by omega
    subst hq5
    have kd : Keep w110 (World.drew w110) := Keep.drew (Ext.refl _ _)
    have Dd := D110.keep kd
    have o95d := o95b.keep kd
    have o104d := o104b.keep kd
    refine ⟨fun w2 => ∃ aa' : Bool → List (Int × L3), DSt w w2 r11 rr mm aa' ∧ (∀ c, (lastV (aa wh) c).1 ≤ (lastV (aa' wh) c).1) ∧ ObjAt w2 r104 (wasC (aa wh) 5), ⟨_, o95b.cell 5 (by simp [actC]), BIf_mk (fun hj => ?_) (fun hj => ?_)⟩, ?_⟩
    · have e1 : (1 : Int) - ixB wh = ixB (!wh) := by cases wh <;> rfl
      rw [e1]
      have hix2 : 0 ≤ ixB (!wh) ∧ ixB (!wh) < ((2 : Nat) : Int) := by unfold ixB; split <;> omega
      refine ⟨hix.1, hix.2, _, ixB_cell' Dd.o wh, inR64 (by omega), hix2.1, hix2.2, _, ixB_cell' Dd.o (!wh), (Copy_spec22 (Dd.s (!wh))).mono ?_⟩
      rintro e w139 ⟨r', m', rfl, s', k139, hr', hm'⟩
      have D139 := Dd.keep k139
      have ltd := Dd.lt
      refine ⟨_, rfl, ⟨_, ixB_cell' D139.o wh, rfl⟩, (Join_spec22 (D139.s wh) s' (by have := (ltd.2 wh).2; omega) (by have := (ltd.2 wh).2; omega) (by have := (Dd.wf (!wh)).len (Dd.s (!wh)).mp.nd; omega)).mono ?_⟩
      rintro e w143 ⟨rfl, al', g1, g2, g3⟩
      refine ⟨rfl, _, D139.upd wh g1 g3 ((D139.wf wh).join (D139.wf (!wh)) g2), fun c => ?_, (o104d.keep k139).ext g3 (fun hh => ((sep104 _ rfl).2.2 wh).2 hh)⟩
      rw [if_pos rfl]
      unfold lastV
      rw [g2]
      exact join_rises _ _
    · refine ⟨hix.1, hix.2, _, ixB_cell' Dd.o wh, _, o95d.cell 1 (by simp [actC]), _, o95d.cell 2 (by simp [actC]), cd, at', o95d.rowO 3 [.int .i64 cd, .int .i64 at'] (fun j hj => by
        have : j < 2 := hj
        match j, this with
        | 0, _ => rfl
        | 1, _ => rfl), ?_⟩
      refine (Note_spec22 A (Dd.s wh) cl sq cd at' (hE.keep Dd.k)).mono ?_
      rintro e w150 ⟨rfl, g1, g2⟩
      refine ⟨_, rfl, _, Dd.upd wh g1 g2 ((Dd.wf wh).note _ _ _ _), fun c => ?_, o104d.ext g2 (fun hh => ((sep104 _ rfl).2.2 wh).2 hh)⟩
      rw [if_pos rfl]
      exact note_rises (Dd.wf wh) _ _ _ _ _
    · rintro w152 ⟨aa', D152, hrise, o104c⟩
      intros
      refine ⟨fun i w2 => ∃ q : Nat, i = q ∧ q ≤ 5 ∧ DSt w w2 r11 rr mm aa' ∧ ObjAt w2 r104 (wasC (aa wh) 5), fun i _ => (5 - i).toNat, ⟨0, rfl, by omega, D152, o104c⟩, ?_⟩
      rintro i176 w177 ⟨q, rfl, hq, D177, o104e⟩
      intros
      refine BIf_dec (fun hlt5 => ?_) (fun hge5 => ⟨inR64 (by omega), ⟨k + 1, aa', rfl, hkl, D177⟩, by dsimp only; omega⟩)
      refine ⟨hix.1, hix.2, _, ixB_cell' D177.o wh, (Last_spec22 (D177.s wh) q).mono ?_⟩
      rintro e w202 ⟨rfl, k202⟩
      refine ⟨_, _, _, _, rfl, var_mk (cs := [_, _]) rfl rfl (fun r207 w209 hr207 o207 k209 hs209 => ?_)⟩
      have D209 := (D177.keep k202).keep k209
      have o104f := (o104e.keep k202).keep k209
      have hc := o104f.cell q (by rw [wasC_len]; omega)
      rw [wasC_get, if_pos (by omega)] at hc
      have ea : (Addr.add (⟨r104, 0, none⟩ : Addr) ((Int.toNat (q : Int)) * 1)) = ⟨r104, q, none⟩ := by rw [add_lit]; simp
      refine ⟨by omega, by omega, _, by rw [ea]; exact hc, BIf_dec (fun h => ?_) (fun _ => ⟨inR64 (by omega), ⟨q + 1, rfl, by omega, D209, o104f⟩, by dsimp only; omega⟩)⟩
      exfalso
      have := hrise q
      omega
  · -- the two, joined with each other
    have kd : Keep w17 (World.drew w17) := Keep.drew (Ext.refl _ _)
    have Dd := D17.keep kd
    have c0 : ∀ {w2 : World}, DSt w w2 r11 rr mm aa → w2.cell? ⟨r11, 0, none⟩ = some (ptrR' (rr false)) := fun h => h.o.cell 0 (by simp)
    have c1 : ∀ {w2 : World}, DSt w w2 r11 rr mm aa → w2.cell? ⟨r11, 1, none⟩ = some (ptrR' (rr true)) := fun h => h.o.cell 1 (by simp)
    refine ⟨by omega, by omega, _, c0 Dd, by omega, by omega, _, c1 Dd, (Copy_spec22 (Dd.s false)).mono ?_⟩
    rintro e w214 ⟨rx, mx, rfl, sx, k214, hrx, hmx⟩
    have D214 := Dd.keep k214
    refine ⟨_, rfl, ⟨_, c1 D214, rfl⟩, (Copy_spec22 (D214.s true)).mono ?_⟩
    rintro e w218 ⟨ry, my, rfl, sy, k218, hry, hmy⟩
    have D218 := D214.keep k218
    have sx218 := sx.keep k218
    have ltd := Dd.lt
    have lt214 := D214.lt
    have hmxl := sx.mp.lt
    have hrxl := sx.o.lt
    have zw := Dd.k.size
    have z214 := k214.size
    have sepx : ∀ j, j = mx → w.heap.size ≤ j ∧ j ≠ r11 ∧ ∀ b, j ≠ rr b ∧ j ≠ mm b := by
      rintro j rfl
      refine ⟨by omega, by have := ltd.1; omega, fun b => ⟨by have := (ltd.2 b).1; omega, by have := (ltd.2 b).2; omega⟩⟩
    have sepy : ∀ j, j = my → w.heap.size ≤ j ∧ j ≠ r11 ∧ ∀ b, j ≠ rr b ∧ j ≠ mm b := by
      rintro j rfl
      refine ⟨by omega, by have := lt214.1; omega, fun b => ⟨by have := (lt214.2 b).1; omega, by have := (lt214.2 b).2; omega⟩⟩
    refine ⟨_, rfl, by omega, by omega, _, c1 D218, (Join_spec22 sx218 (D218.s true) (fun hh => ((sepx _ rfl).2.2 true).2 hh) (fun hh => ((sepx _ rfl).2.2 true).1 hh.symm) (by have := (D218.wf true).len (D218.s true).mp.nd; omega)).mono ?_⟩
    rintro e w222 ⟨rfl, ax, gx1, gx2, gx3⟩
    have D222 := D218.ext gx3 sepx
    have sy222 := sy.ext gx3 (fun hh => by omega) (fun hh => by omega)
    refine ⟨rfl, by omega, by omega, _, c0 D222, (Join_spec22 sy222 (D222.s false) (fun hh => ((sepy _ rfl).2.2 false).2 hh) (fun hh => ((sepy _ rfl).2.2 false).1 hh.symm) (by have := (D222.wf false).len (D222.s false).mp.nd; omega)).mono ?_⟩
    rintro e w225 ⟨rfl, ay, gy1, gy2, gy3⟩
    have D225 := D222.ext gy3 sepy
    have sx225 := gx1.ext gy3 (fun hh => by omega) (fun hh => by omega)
    refine ⟨rfl, fun c w2 => ∃ q : Nat, c = q ∧ 1 ≤ q ∧ q ≤ 5 ∧ Keep w225 w2, fun c _ => (5 - c).toNat, ⟨1, rfl, by omega, by omega, Ext.refl _ _⟩, ?_⟩
    rintro c w229 ⟨q, rfl, hq1, hq5, k229⟩
    intros
    refine BIf_dec (fun hlt5 => ?_) (fun hge5 => ⟨rfl, D225.k.trans k229⟩)
    refine (Last_spec22 (sx225.keep k229) q).mono ?_
    rintro e w259 ⟨rfl, k259⟩
    refine ⟨_, _, _, _, rfl, var_mk (cs := [_, _]) rfl rfl (fun r264 w266 hr264 o264 k266 hs266 => ?_)⟩
    refine (Last_spec22 (((gy1.keep k229).keep k259).keep k266) q).mono ?_
    rintro e w268 ⟨rfl, k268⟩
    refine ⟨_, _, _, _, rfl, var_mk (cs := [_, _]) rfl rfl (fun r273 w275 hr273 o273 k275 hs275 => ?_)⟩
    have e1 : (lastV ax (q : Int)).1 = (lastV ay (q : Int)).1 := by
      unfold lastV
      rw [gx2, gy2]
      exact join_same (fun x hx => (D17.wf false _ x hx).2.1.1) (fun x hx => (D17.wf true _ x hx).2.1.1)
    exact BIf_ndec (fun hh => (hh e1).elim) (fun _ => ⟨inR64 (by omega), ⟨q + 1, rfl, by omega, by omega, (((k229.trans k259).trans k266).trans k268).trans k275⟩, by dsimp only; omega⟩)

abbrev rdAct22 : Rd Act22 := Rd.pair Rd.bool (Rd.pair (Rd.int .i64) (Rd.pair (Rd.int .i64) (Rd.pair (Rd.pair (Rd.int .i64) (Rd.int .i64)) Rd.bool)))
theorem acts_of {w : World} {s : Slc} {xs : List Act22} (h : rowsR rdAct22 w s xs) : ActsAt w s xs := by
  obtain ⟨h1, h2, _, h3⟩ := h
  refine ⟨h1, fun i hi => ?_⟩
  obtain ⟨a, cs, ha, ⟨_, _, hcs, rfl, ⟨_, _, rfl, ⟨rfl, _⟩, ⟨_, _, rfl, ⟨rfl, _⟩, ⟨_, _, rfl, ⟨_, _, rfl, ⟨rfl, _⟩, ⟨rfl, _⟩⟩, rfl⟩⟩⟩⟩, hrow⟩ := h3 i hi
  subst hcs
  exact ⟨a, ha, hrow⟩
theorem DedupRises_fin (sl : Slc) (l : List Act22) (w : World) (hl : rowsR rdAct22 w sl l) (A : Nat → Addr) (hE0 : ErrsOn tyErr ddG A w) :
    Calls Tryd.prog fn_tidewaterlaw22_DedupRises ⟨[sl.v]⟩ w fun e w' => e = .returned (.bool true) ∧ Keep w w' := DedupRises_walk A sl l w (acts_of hl) hE0
end Go.D

