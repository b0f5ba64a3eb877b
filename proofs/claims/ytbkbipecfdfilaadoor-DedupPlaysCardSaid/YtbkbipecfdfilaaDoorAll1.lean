/-
  WHAT IS PROVED: contracts of functions, and the plain law, for this proof. No further conditions.
-/
import Derived.Test.YtbkbipecfdfilaaDoorRowsM
import Derived.Test.YtbkbipecfdfilaaDoorRd
import Derived.Test.YtbkbipecfdfilaaDoorVCsort
import Derived.Test.YtbkbipecfdfilaaDoorFlat
import Derived.Test.YtbkbipecfdfilaaDoorVCnum
import Derived.Test.YtbkbipecfdfilaaDoorIsFacts
import Derived.Test.YtbkbipecfdfilaaDoorLaid
import Derived.Test.YtbkbipecfdfilaaDoorMem
import Derived.Test.YtbkbipecfdfilaaDoorVCdedup
import Derived.Test.YtbkbipecfdfilaaDoorMapI
import Derived.Test.YtbkbipecfdfilaaDoorRangeM
import Derived.Test.YtbkbipecfdfilaaDoorVClaw22
import Derived.Test.YtbkbipecfdfilaaDoorVCref22
import Derived.Test.YtbkbipecfdfilaaDoorSub
import Derived.Test.YtbkbipecfdfilaaDoorVCpack
import Derived.Test.YtbkbipecfdfilaaDoorObjM
import Derived.Test.YtbkbipecfdfilaaDoorVCsums
import Derived.Test.YtbkbipecfdfilaaDoorVCref04
import Derived.Test.YtbkbipecfdfilaaDoorArgs
import Derived.Test.YtbkbipecfdfilaaDoorCopyM
set_option linter.unusedVariables false
set_option linter.unusedSimpArgs false
namespace Go.D
open Go

/-! ### integers that are the call's own -/
def intC (x : Int) : List Value := [.int .i64 x]
theorem foot_int {x : Int} {k : Nat} : ¬ footV (intC x) k := by rintro ⟨s, hs, _⟩; simp [intC, Slc.v] at hs
def IntR : RowD Int where
  n := 1
  pos := by omega
  R _ x cs := cs = intC x
  len h := by rw [h]; rfl
  one h := by rw [h]; intro v hv; simp [intC] at hv; subst hv; rfl
  ext h _ _ := h
  lt h := by rw [h]; intro k hk; exact (foot_int hk).elim
def IntsAt (w : World) (s : Slc) (l : List Int) : Prop := Rows IntR w s l (l.map intC)
theorem IntsAt.of {w : World} {s : Slc} {l : List Int} {css : List (List Value)} (h : Rows IntR w s l css) : IntsAt w s l := by
  have : css = l.map intC := by
    apply List.ext_getElem
    · rw [h.len, List.length_map]
    · intro i h1 h2
      rw [List.getElem_map]
      exact h.row i h1 (by simpa using h2)
  rw [this] at h
  exact h
theorem footC_int {l : List Int} {k : Nat} : ¬ footC (l.map intC) k := by
  rintro ⟨cs, hc, hk⟩
  obtain ⟨x, _, rfl⟩ := List.mem_map.1 hc
  exact foot_int hk
theorem IntsAt.ext {M : Nat → Prop} {w w' : World} {s : Slc} {l : List Int} (h : IntsAt w s l) (he : Ext M w w') (h1 : ∀ k, ownB s k → ¬ M k) : IntsAt w' s l := Rows.ext h he h1 (fun k hk => (footC_int hk).elim)
theorem IntsAt.keep {w w' : World} {s : Slc} {l : List Int} (h : IntsAt w s l) (he : Keep w w') : IntsAt w' s l := h.ext he (fun _ _ h => h)
theorem IntsAt.nil (w : World) : IntsAt w ⟨none, 0, 0⟩ [] := Rows.nil _ _
theorem flat_int (l : List Int) : (l.map intC).flatten = l.map fun x => Value.int .i64 x := by
  induction l with
  | nil => rfl
  | cons a l ih => rw [List.map_cons, List.flatten_cons, ih]; rfl
theorem IntsAt.ints {w : World} {s : Slc} {l : List Int} (h : IntsAt w s l) : intsAt w s l := by
  have h1 := h.sl
  have h2 := h.own.cells
  rw [flat_int] at h2
  exact ⟨h1, h2⟩
theorem IntsAt.new {w : World} {r : Nat} {T : TypeId} (h : w.heap[r]? = some (.cells ⟨[]⟩ T)) : IntsAt w ⟨some ⟨r, 0, none⟩, 0, 0⟩ [] :=
  ⟨Own.new (sz := 1) (n := 0) h (.inl (by simp)) rfl, rfl, fun i h => by simp at h, fun k hk => (footC_int (l := []) hk).elim⟩
theorem IntsAt.get {w : World} {s : Slc} {l : List Int} (h : IntsAt w s l) {i : Nat} (hi : i < l.length) : ∃ a, s.p = some a ∧ World.cell? w (Addr.add a (i * 1)) = some (.int .i64 l[i]) := by
  obtain ⟨a, ha, _, hrow⟩ := Rows.get h (i := i) (by simpa using hi)
  rw [List.getElem_map] at hrow
  have := hrow.1
  have e : (a.add (i * IntR.n)).add 0 = a.add (i * 1) := by simp [Addr.add, IntR]
  rw [e] at this
  exact ⟨a, ha, this⟩
theorem IntsAt.set {w : World} {s : Slc} {l : List Int} (h : IntsAt w s l) {i : Nat} (hi : i < l.length) (x : Int) {a : Addr} (ha : s.p = some a) :
    canW w (Addr.add a (i * 1)) 1 ∧ ∀ w', w' = World.setCell w (Addr.add a (i * 1)) (.int .i64 x) → IntsAt w' s (l.set i x) ∧ Ext (ownB s) w w' ∧ w'.heap.size = w.heap.size := by
  have hi2 : i < (l.map intC).length := by simpa using hi
  have hcs : (l.map intC)[i].take 0 ++ [Value.int .i64 x] ++ (l.map intC)[i].drop (0 + [Value.int .i64 x].length) = intC x := by rw [List.getElem_map]; rfl
  obtain ⟨cw, g⟩ := Rows.set h hi2 0 [.int .i64 x] (Nat.le_refl 1) x ha (fun w' _ => by rw [hcs]; rfl) (fun k hk => by rw [hcs] at hk; exact (foot_int hk).elim)
  have e : (a.add (i * IntR.n)).add 0 = a.add (i * 1) := by simp [Addr.add, IntR]
  rw [e] at cw g
  refine ⟨cw, fun w' hw' => ?_⟩
  obtain ⟨g1, g2, g3⟩ := g w' (by rw [hw']; simp [setCells, Addr.add])
  exact ⟨IntsAt.of g1, g2, g3⟩
/-- An integer is appended. -/
theorem IntsAt.push {T E : TypeId} {w w0 : World} {s : Slc} {l : List Int} {x : Int} {K : Slc → World → Prop} (h : IntsAt w s l) (hf : Fresh w0 s) (hk : Keep w0 w) (hlen : l.length < 2 ^ 30)
    (hK : ∀ s' w', IntsAt w' s' (l ++ [x]) → Fresh w0 s' → Keep w0 w' → Ext (ownB s) w w' → (∀ k, ownB s' k → ownB s k ∨ w.heap.size ≤ k) → K s' w') :
    newS w (.cells ⟨[.int .i64 x]⟩ T) fun r w2 => appendS 1 E [.int .i64 0] w2 s (.slc ⟨some ⟨r, 0, none⟩, 1, 1⟩) K := by
  refine newS_mk (fun r w2 hr hb k2 hs2 => ?_)
  have h2 : Rows IntR w2 s l (l.map intC) := h.keep k2
  have z2 := k2.size
  have z0 := hk.size
  refine h2.snoc (cs := intC x) (x := x) (z := [.int .i64 0]) rfl rfl (fun k hk => (foot_int hk).elim) hb (.inl (by simp)) hlen (fun s' w' g1 g2 g3 => ?_)
  have g3' : ∀ k, ownB s' k → ownB s k ∨ w.heap.size ≤ k := fun k hk => (g3 k hk).imp (fun h => h) (fun h => by omega)
  exact hK s' w' (IntsAt.of (by simpa using g1)) (fun j hj => (g3' j hj).elim (fun h => hf j h) (fun h => by omega)) ((hk.trans k2).ext g2 (fun j hj => hf j hj)) (Ext.trans k2 g2 (fun _ h => h.elim) (fun _ h => .inl h)) g3'
end Go.D

set_option linter.unusedVariables false
set_option linter.unusedSimpArgs false
namespace Go.D
open Go Go.Proofs

/-! ### sorting -/
theorem Less_spec (x y : Int) (w : World) : Calls Tryd.prog fn_cmp_Less_int ⟨[.int .i64 x, .int .i64 y]⟩ w fun e w' => e = .returned (.bool (decide (x < y))) ∧ Keep w w' := by
  have hnan : ∀ z w, Calls Tryd.prog fn_cmp_isNaN_int ⟨[.int .i64 z]⟩ w fun e w' => e = .returned (.bool false) ∧ w' = w := by
    intro z w
    refine cmp_isNaN_int_ok _ ?_
    unfold cmp_isNaN_int
    exact ⟨by simp, rfl⟩
  refine cmp_Less_int_ok _ _ ?_
  unfold cmp_Less_int
  refine (hnan x w).mono ?_
  rintro e w4 ⟨rfl, rfl⟩
  exact ⟨_, rfl, BIf_mk (fun h => by cases h) (fun _ => ⟨rfl, Ext.refl _ _⟩)⟩

def sw (l : List Int) (j : Nat) : List Int := (l.set j (l.getD (j - 1) 0)).set (j - 1) (l.getD j 0)
theorem sw_len (l : List Int) (j : Nat) : (sw l j).length = l.length := by simp [sw]
theorem sw_get {l : List Int} {j x : Nat} (hj : 0 < j) (hjl : j < l.length) (hx : x < l.length) : (sw l j)[x]'(by rw [sw_len]; exact hx) = if x = j - 1 then l[j] else if x = j then l[j - 1]'(by omega) else l[x] := by
  have h1 : j - 1 < l.length := by omega
  simp only [sw, List.getElem_set, List.getD, List.getElem?_eq_getElem hjl, List.getElem?_eq_getElem h1, Option.getD_some]
  by_cases h2 : x = j - 1
  · rw [if_pos h2.symm, if_pos h2]
  · rw [if_neg (fun e => h2 e.symm), if_neg h2]
    by_cases h3 : x = j
    · rw [if_pos h3.symm, if_pos h3]
    · rw [if_neg (fun e => h3 e.symm), if_neg h3]
theorem sw_perm {l : List Int} {j : Nat} (hj : 0 < j) (hjl : j < l.length) : (sw l j).Perm l := by
  have h1 : j - 1 < l.length := by omega
  have e1 : l = l.take (j - 1) ++ (l[j - 1] :: l[j] :: l.drop (j + 1)) := by
    conv => lhs; rw [← List.take_append_drop (j - 1) l]
    congr 1
    rw [List.drop_eq_getElem_cons h1]
    congr 1
    rw [show j - 1 + 1 = j by omega]
    exact List.drop_eq_getElem_cons hjl
  have e2 : sw l j = l.take (j - 1) ++ (l[j] :: l[j - 1] :: l.drop (j + 1)) := by
    apply List.ext_getElem
    · rw [sw_len]; simp; omega
    · intro x hx hx'
      rw [sw_len] at hx
      rw [sw_get hj hjl hx]
      rw [List.getElem_append]
      by_cases h2 : x < j - 1
      · rw [if_neg (by omega), if_neg (by omega)]
        simp only [List.length_take]
        rw [dif_pos (by omega)]
        rw [List.getElem_take]
      · simp only [List.length_take]
        rw [dif_neg (by omega)]
        have e3 : x - min (j - 1) l.length = x - (j - 1) := by omega
        simp only [e3]
        by_cases h3 : x = j - 1
        · rw [if_pos h3]
          have : x - (j - 1) = 0 := by omega
          simp only [this, List.getElem_cons_zero]
        · by_cases h4 : x = j
          · rw [if_neg h3, if_pos h4]
            have : x - (j - 1) = 1 := by omega
            simp only [this, List.getElem_cons_succ, List.getElem_cons_zero]
          · rw [if_neg h3, if_neg h4]
            obtain ⟨y, hy⟩ : ∃ y, x - (j - 1) = y + 2 := ⟨x - (j - 1) - 2, by omega⟩
            simp only [hy, List.getElem_cons_succ, List.getElem_drop]
            congr 1; omega
  rw [e2]
  conv => rhs; rw [e1]
  exact List.Perm.append_left _ (List.Perm.swap _ _ _)

/-- The first i elements are sorted. -/
def SortedTo (l : List Int) (i : Nat) : Prop := ∀ x y (hx : x < l.length) (hy : y < l.length), x < y → y < i → l[x] ≤ l[y]
/-- Those up to i are sorted but for the one at j, that is least of those from j on. -/
def Near (l : List Int) (i j : Nat) : Prop := (∀ x y (hx : x < l.length) (hy : y < l.length), x < y → y ≤ i → x ≠ j → y ≠ j → l[x] ≤ l[y]) ∧ ∀ y (hy : y < l.length) (hj : j < l.length), j < y → y ≤ i → l[j] ≤ l[y]
theorem near_start {l : List Int} {i : Nat} (h : SortedTo l i) : Near l i i := ⟨fun x y hx hy h1 h2 h3 h4 => h x y hx hy h1 (by omega), fun y hy hj h1 h2 => by omega⟩
theorem near_step {l : List Int} {i j : Nat} (hj : 0 < j) (hjl : j < l.length) (hji : j ≤ i) (h : Near l i j) (hlt : l[j] < l[j - 1]'(by omega)) : Near (sw l j) i (j - 1) := by
  refine ⟨fun x y hx hy h1 h2 h3 h4 => ?_, fun y hy hj' h1 h2 => ?_⟩
  · rw [sw_len] at hx hy
    rw [sw_get hj hjl hx, sw_get hj hjl hy, if_neg h3, if_neg h4]
    by_cases h5 : x = j
    · rw [if_pos h5, if_neg (by omega)]
      exact h.1 (j - 1) y (by omega) hy (by omega) h2 (by omega) (by omega)
    · rw [if_neg h5]
      by_cases h6 : y = j
      · rw [if_pos h6]
        exact h.1 x (j - 1) hx (by omega) (by omega) (by omega) h5 (by omega)
      · rw [if_neg h6]
        exact h.1 x y hx hy h1 h2 h5 h6
  · rw [sw_len] at hy hj'
    rw [sw_get hj hjl hj', sw_get hj hjl hy, if_pos rfl, if_neg (by omega)]
    by_cases h6 : y = j
    · rw [if_pos h6]; omega
    · rw [if_neg h6]
      exact h.2 y hy hjl (by omega) h2
theorem near_end {l : List Int} {i j : Nat} (h : Near l i j) (hij : j ≤ i) (hd : ∀ (h1 : j < l.length), 0 < j → ¬ l[j] < l[j - 1]'(by omega)) : SortedTo l (i + 1) := by
  intro x y hx hy h1 h2
  by_cases h3 : x = j
  · subst h3; exact h.2 y hy hx h1 (by omega)
  · by_cases h4 : y = j
    · subst h4
      have h5 := hd hy (by omega)
      by_cases h6 : x = y - 1
      · subst h6; omega
      · have := h.1 x (y - 1) hx (by omega) (by omega) (by omega) h3 (by omega)
        omega
    · exact h.1 x y hx hy h1 (by omega) h3 h4

theorem insertion_spec (s : Slc) (l : List Int) (w : World) (h : IntsAt w s l) (hl : l.length ≤ 2 ^ 30) :
    Calls Tryd.prog fn_slices_insertionSortOrdered_int ⟨[s.v, .int .i64 0, .int .i64 (l.length : Int)]⟩ w fun e w' => e = .returned (.tuple #[]) ∧ ∃ l', l'.Perm l ∧ SortedTo l' l.length ∧ IntsAt w' s l' ∧ Ext (ownB s) w w' := by
  refine slices_insertionSortOrdered_int_ok _ _ _ ?_
  unfold slices_insertionSortOrdered_int
  refine ⟨inR64 (by omega), fun i w2 => ∃ (k : Nat) (l' : List Int), i = k ∧ 1 ≤ k ∧ (k ≤ l.length ∨ k = 1) ∧ l'.Perm l ∧ SortedTo l' k ∧ IntsAt w2 s l' ∧ Ext (ownB s) w w2, fun i _ => ((l.length : Int) - i).toNat,
    ⟨1, l, rfl, by omega, .inr rfl, List.Perm.refl _, fun x y hx hy h1 h2 => by omega, h, Ext.refl _ _⟩, ?_⟩
  rintro i w7 ⟨k, l', rfl, hk1, hk, hp, hs, h7, e7⟩
  intros
  have hpl := hp.length_eq
  refine BIf_dec (fun h1 => ?_) (fun h1 => ?_)
  · refine ⟨fun j w2 => ∃ (m : Nat) (l' : List Int), j = m ∧ m ≤ k ∧ l'.Perm l ∧ Near l' k m ∧ IntsAt w2 s l' ∧ Ext (ownB s) w w2, fun j _ => j.toNat, ⟨k, l', rfl, Nat.le_refl _, hp, near_start hs, h7, e7⟩, ?_⟩
    rintro j w51 ⟨m, l2, rfl, hm, hp2, hn, h51, e51⟩
    intros
    have hpl2 := hp2.length_eq
    have hsl := h51.sl
    have hd := h51.keep (Ext.drew _ w51)
    have ed : Ext (ownB s) w w51.drew := e51.trans (Ext.drew _ _) (fun _ h => h) (fun _ h => .inl h)
    have out : ∀ w3, IntsAt w3 s l2 → Ext (ownB s) w w3 → (∀ (h1 : m < l2.length), 0 < m → ¬ l2[m] < l2[m - 1]'(by omega)) → inR .i64 ((k : Int) + 1) ∧ (∃ (k' : Nat) (l' : List Int), ((k : Int) + 1) = k' ∧ 1 ≤ k' ∧ (k' ≤ l.length ∨ k' = 1) ∧ l'.Perm l ∧ SortedTo l' k' ∧ IntsAt w3 s l' ∧ Ext (ownB s) w w3) ∧ ((l.length : Int) - ((k : Int) + 1)).toNat < ((l.length : Int) - (k : Int)).toNat :=
      fun w3 a1 a2 a3 => ⟨inR64 (by omega), ⟨k + 1, l2, rfl, by omega, .inl (by omega), hp2, near_end hn hm a3, a1, a2⟩, by omega⟩
    refine ⟨fun w3 => 0 < m ∧ (∃ (h1 : m < l2.length), 0 < m ∧ l2[m] < l2[m - 1]'(by omega)) ∧ IntsAt w3 s l2 ∧ Ext (ownB s) w w3, ?_, ?_⟩
    · refine BIf_dec (fun h2 => ?_) (fun h2 => out _ hd ed (fun _ hh => by omega))
      have hml : m < l2.length := by omega
      have hml1 : m - 1 < l2.length := by omega
      obtain ⟨a, ha, c1⟩ := hd.get hml
      obtain ⟨a', ha', c2⟩ := hd.get hml1
      rw [ha] at ha'
      cases ha'
      have e1 : Int.toNat ((m : Int) - 1) * 1 = (m - 1) * 1 := by omega
      refine needSome_mk ha ⟨by omega, by omega, _, by rw [show Int.toNat (m : Int) * 1 = m * 1 by omega]; exact c1, inR64 (by omega), needSome_mk ha ⟨by omega, by omega, _, by rw [e1]; exact c2, ?_⟩⟩
      refine (Less_spec _ _ _).mono ?_
      rintro e w91 ⟨rfl, k91⟩
      have h91 := hd.keep k91
      have e91 : Ext (ownB s) w w91 := ed.trans (k91.mono (fun _ h => h.elim)) (fun _ h => h) (fun _ h => .inl h)
      exact ⟨_, rfl, BIf_dec (fun h3 => ⟨by omega, ⟨hml, by omega, h3⟩, h91, e91⟩) (fun h3 => out _ h91 e91 (fun _ _ => h3))⟩
    · rintro w93 ⟨hm0, ⟨hml, _, hlt⟩, h93, e93⟩
      intros
      have h93d := h93.keep (Ext.drew _ w93)
      have hml1 : m - 1 < l2.length := by omega
      have e1 : Int.toNat ((m : Int) - 1) * 1 = (m - 1) * 1 := by omega
      have e2 : Int.toNat (m : Int) * 1 = m * 1 := by omega
      obtain ⟨a, ha, c1⟩ := h93d.get hml
      obtain ⟨a', ha', c2⟩ := h93d.get hml1
      rw [ha] at ha'
      cases ha'
      obtain ⟨cw1, g1⟩ := h93d.set hml l2[m - 1] ha
      refine ⟨inR64 (by omega), inR64 (by omega), needSome_mk ha ⟨by omega, by omega, _, by rw [e1]; exact c2, needSome_mk ha ⟨by omega, by omega, _, by rw [e2]; exact c1, needSome_mk ha ⟨by omega, by omega, by rw [e2]; exact cw1, fun w114 hw114 => ?_⟩⟩⟩⟩
      obtain ⟨h114, e114, z114⟩ := g1 w114 (by rw [hw114, e2])
      obtain ⟨cw2, g2⟩ := h114.set (i := m - 1) (by simp; omega) l2[m] ha
      refine needSome_mk ha ⟨by omega, by omega, by rw [e1]; exact cw2, fun w116 hw116 => ?_⟩
      obtain ⟨h116, e116, z116⟩ := g2 w116 (by rw [hw116, e1])
      have esw : (l2.set m l2[m - 1]).set (m - 1) l2[m] = sw l2 m := by
        simp [sw, List.getD, hml, hml1]
      rw [esw] at h116
      refine ⟨inR64 (by omega), ⟨m - 1, sw l2 m, by omega, by omega, (sw_perm hm0 hml).trans hp2, near_step hm0 hml hm hn hlt, h116, ?_⟩, by dsimp only; omega⟩
      exact ((e93.trans (Ext.drew (ownB s) _) (fun _ h => h) (fun _ h => .inl h)).trans e114 (fun _ h => h) (fun _ h => .inl h)).trans e116 (fun _ h => h) (fun _ h => .inl h)
  · refine ⟨rfl, l', hp, fun x y hx hy a1 a2 => hs x y hx hy a1 (by omega), h7, e7⟩

set_option maxRecDepth 100000 in
theorem Len_spec (n : Nat) (hn : n ≤ 200) (w : World) : Calls Tryd.prog fn_math_bits_Len ⟨[.int .u64 (n : Int)]⟩ w fun e w' => ∃ k : Int, e = .returned (.int .i64 k) ∧ w' = w := by
  have h64 : Calls Tryd.prog fn_math_bits_Len64 ⟨[.int .u64 (n : Int)]⟩ w fun e w' => ∃ k : Int, e = .returned (.int .i64 k) ∧ w' = w := by
    refine math_bits_Len64_ok _ ?_
    unfold math_bits_Len64
    refine ⟨fun x m w2 => x = n ∧ m = 0 ∧ w2 = w, BIf_dec (fun h => by omega) (fun _ => ⟨rfl, rfl, rfl⟩), ?_⟩
    rintro x m w2 ⟨rfl, rfl, rfl⟩
    intros
    refine ⟨fun x m w3 => x = n ∧ m = 0 ∧ w3 = w2, BIf_dec (fun h => by omega) (fun _ => ⟨rfl, rfl, rfl⟩), ?_⟩
    rintro x m w3 ⟨rfl, rfl, rfl⟩
    intros
    refine BIf_dec (fun h => by omega) (fun _ => ?_)
    have hw : IntKind.wrap .u8 (n : Int) = n := wrap_inR (inR8 (by omega))
    rw [hw]
    have hb : ∀ u : UInt8, (u.toNat : Int) < 256 := fun u => by have := u.toNat_lt; omega
    refine ⟨by omega, ?_, inR64 ?_, inR64 ?_, _, rfl, rfl⟩
    · have e : ∀ (l : List UInt8), l.length = 256 → (n : Int) < ((l.length : Nat) : Int) := fun l hl => by rw [hl]; omega
      exact e _ rfl
    · constructor
      · exact Int.le_trans (by decide) (Int.natCast_nonneg _)
      · exact Int.le_trans (Int.le_of_lt (hb _)) (by decide)
    · rw [Int.zero_add]; constructor
      · exact Int.le_trans (by decide) (Int.natCast_nonneg _)
      · exact Int.le_trans (Int.le_of_lt (hb _)) (by decide)
  refine math_bits_Len_ok _ ?_
  unfold math_bits_Len
  refine h64.mono ?_
  rintro e w' ⟨k, rfl, rfl⟩
  exact ⟨k, rfl, k, rfl, rfl⟩

theorem Sort_spec (s : Slc) (l : List Int) (w : World) (h : IntsAt w s l) (hl : l.length ≤ 12) :
    Calls Tryd.prog fn_slices_Sort_int ⟨[s.v]⟩ w fun e w' => e = .returned (.tuple #[]) ∧ ∃ l', l'.Perm l ∧ SortedTo l' l.length ∧ IntsAt w' s l' ∧ Ext (ownB s) w w' := by
  have hsl := h.sl
  refine slices_Sort_int_ok _ ?_
  unfold slices_Sort_int
  have hw : IntKind.wrap .u64 ((s.l : Nat) : Int) = s.l := wrap_inR (inRu64 (by omega))
  rw [hw]
  refine (Len_spec s.l (by omega) w).mono ?_
  rintro e w3 ⟨k, rfl, rfl⟩
  refine ⟨k, rfl, ?_⟩
  have hp : Calls Tryd.prog fn_slices_pdqsortOrdered_int ⟨[s.v, .int .i64 0, .int .i64 ((s.l : Nat) : Int), .int .i64 k]⟩ w3 fun e w' => e = .returned (.tuple #[]) ∧ ∃ l', l'.Perm l ∧ SortedTo l' l.length ∧ IntsAt w' s l' ∧ Ext (ownB s) w3 w' := by
    refine slices_pdqsortOrdered_int_ok _ _ _ _ ?_
    unfold slices_pdqsortOrdered_int
    refine ⟨fun a b _ _ _ w2 => a = 0 ∧ b = l.length ∧ w2 = w3, fun _ _ _ _ _ _ => 0, ⟨rfl, by rw [hsl], rfl⟩, ?_⟩
    rintro a b lim x1 x2 w12 ⟨rfl, rfl, rfl⟩
    intros
    refine ⟨inR64 (by omega), BIf_dec (fun _ => ?_) (fun hh => by omega)⟩
    refine (insertion_spec s l w12 h (by omega)).mono ?_
    rintro e w138 ⟨rfl, hm⟩
    exact ⟨rfl, rfl, hm⟩
  refine hp.mono ?_
  rintro e w6 ⟨rfl, hm⟩
  exact ⟨rfl, rfl, hm⟩
end Go.D

set_option linter.unusedVariables false
set_option linter.unusedSimpArgs false
namespace Go.D
open Go Go.Proofs

/-- The globals of package api's errors, in the order of their numbers. -/
def errG : List Nat := [gl_ErrRange, gl_ErrShort, gl_ErrLong, gl_ErrForm, gl_ErrSum, gl_ErrRune, gl_ErrName, gl_ErrSealed, gl_ErrWritten, gl_ErrUnwritten, gl_ErrTrimmed, gl_ErrDown, gl_ErrFull, gl_ErrEpoch, gl_ErrMoved, gl_ErrNone, gl_ErrState, gl_ErrClash, gl_ErrStale]

abbrev errV (A : Nat → Addr) (g : Nat) : Value := .iface tyErr (.pointer (some (A g)))

/-- All 19 errors are laid, at 19 places. -/
abbrev Errs (A : Nat → Addr) (w : World) : Prop := ErrsOn tyErr errG A w

theorem errG_mem {k : Nat} (hk : k < 19) : errG.getD k 0 ∈ errG := by
  have : errG.getD k 0 = errG[k]'(by simpa [errG] using hk) := by
    simp only [List.getD]
    rw [List.getElem?_eq_getElem (by simpa [errG] using hk)]
    rfl
  rw [this]
  exact List.getElem_mem _
theorem errG_inj {i j : Nat} (hi : i < 19) (hj : j < 19) (h : errG.getD i 0 = errG.getD j 0) : i = j := by
  have : ∀ i < 19, ∀ j < 19, errG.getD i 0 = errG.getD j 0 → i = j := by decide
  exact this i hi j hj h

theorem Errs.at {A : Nat → Addr} {w : World} (h : Errs A w) (k : Nat) (hk : k < 19) : w.cell? (⟨errG.getD k 0, 0, none⟩ : Addr) = some (errV A (errG.getD k 0)) := (h.1 _ (errG_mem hk)).1

theorem Errs.is {A : Nat → Addr} {w : World} (h : Errs A w) {i j : Nat} (hi : i < 19) (hj : j < 19) :
    Calls Tryd.prog fn_errors_Is ⟨[errV A (errG.getD i 0), errV A (errG.getD j 0)]⟩ w fun e w' => e = .returned (.bool (decide (i = j))) ∧ w' = w := by
  by_cases hij : i = j
  · subst hij
    rw [decide_eq_true rfl]
    exact Is_same _ _
  · rw [decide_eq_false hij]
    obtain ⟨_, c1, t1, h1⟩ := h.1 _ (errG_mem hi)
    obtain ⟨_, c2, t2, h2⟩ := h.1 _ (errG_mem hj)
    exact Is_other _ _ c1 c2 t1 t2 _ (fun he => hij (errG_inj hi hj (h.2 _ (errG_mem hi) _ (errG_mem hj) he))) h1 h2

theorem Num_nil (w : World) : Calls Tryd.prog fn_tidewaternum_Num ⟨[.nilIface]⟩ w fun e w' => e = .returned (.int .i64 0) ∧ w' = w := by
  refine tidewaternum_Num_ok _ ?_
  exact ⟨trivial, BIf_mk (fun _ => ⟨rfl, rfl⟩) (fun h => by cases h)⟩

theorem Num_spec (A : Nat → Addr) (k : Nat) (hk : k < 19) (w : World) (h : Errs A w) :
    Calls Tryd.prog fn_tidewaternum_Num ⟨[errV A (errG.getD k 0)]⟩ w fun e w' => e = .returned (.int .i64 ((k + 1 : Nat) : Int)) ∧ Keep w w' := by
  refine tidewaternum_Num_ok _ ?_
  unfold tidewaternum_Num
  refine ⟨trivial, BIf_mk (fun h => by cases h) (fun _ => ?_)⟩
  refine ⟨_, Errs.at h 0 (by omega), _, Errs.at h 1 (by omega), _, Errs.at h 2 (by omega), _, Errs.at h 3 (by omega), _, Errs.at h 4 (by omega), _, Errs.at h 5 (by omega), _, Errs.at h 6 (by omega), _, Errs.at h 7 (by omega), _, Errs.at h 8 (by omega), _, Errs.at h 9 (by omega), _, Errs.at h 10 (by omega), _, Errs.at h 11 (by omega), _, Errs.at h 12 (by omega), _, Errs.at h 13 (by omega), _, Errs.at h 14 (by omega), _, Errs.at h 15 (by omega), _, Errs.at h 16 (by omega), _, Errs.at h 17 (by omega), _, Errs.at h 18 (by omega), ?_⟩
  refine newS_mk (fun r w1 hr hb hkp hs => ?_)
  refine ⟨fun i w2 => w2 = w1 ∧ ∃ n : Nat, i = n ∧ n ≤ k, fun i _ => (19 - i).toNat, ⟨rfl, 0, rfl, by omega⟩, ?_⟩
  rintro i w2 ⟨rfl, n, rfl, hn⟩
  intros
  refine BIf_dec (fun h1 => ?_) (fun h1 => by omega)
  refine ⟨by omega, h1, errV A (errG.getD n 0), ?_, ?_⟩
  · have e : (Int.toNat (n : Int)) * 1 = n := by omega
    rw [e, add_lit, Nat.zero_add, cell_of hb]
    have : n < 19 := by omega
    show ((List.range 19).map fun k => errV A (errG.getD k 0))[n]? = _
    simp [this]
  · refine (Errs.is (h.keep hkp) hk (by omega)).mono ?_
    rintro e w3 ⟨rfl, rfl⟩
    refine ⟨_, rfl, BIf_mk (fun h2 => ?_) (fun h2 => ?_)⟩
    · have : k = n := by simpa using h2
      subst this
      exact ⟨inR64 (by omega), by simp, hkp⟩
    · have : k ≠ n := by simpa using h2
      exact ⟨inR64 (by omega), ⟨rfl, n + 1, rfl, by omega⟩, by dsimp only; omega⟩
end Go.D

set_option linter.unusedVariables false
set_option linter.unusedSimpArgs false
namespace Go.D
open Go Go.Proofs

/-- The errors are laid below n0. -/
def ErrsB (A : Nat → Addr) (n0 : Nat) (w : World) : Prop := Errs A w ∧ ∀ g ∈ errG, g < n0 ∧ (A g).block < n0
abbrev Old (n0 : Nat) := Ext (fun k => n0 ≤ k)
theorem Old.trans {n0 : Nat} {a b c : World} (h1 : Old n0 a b) (h2 : Old n0 b c) : Old n0 a c := Ext.trans h1 h2 (fun _ h => h) (fun _ h => .inl h)
theorem Keep.old {a b : World} (h : Keep a b) (n0 : Nat) : Old n0 a b := h.mono (fun _ h => h.elim)
theorem Old.keep {w0 w : World} {n0 : Nat} (h : Old n0 w0 w) (hn : w0.heap.size ≤ n0) : Keep w0 w := Ext.trans h (Ext.refl none0 _) (fun _ h => h) (fun _ h => h.elim) |> fun h => ⟨h.os, h.tape, h.output, h.size, fun k hk _ => h.block k hk (by omega)⟩
theorem Errs.b {A : Nat → Addr} {w : World} (h : Errs A w) : ErrsB A w.heap.size w := by
  refine ⟨h, fun g hg => ?_⟩
  obtain ⟨h1, c, t, h2⟩ := h.1 g hg
  refine ⟨?_, lt_of_heap h2⟩
  have := World.block_lt_of_cell? w _ h1
  exact this
theorem ErrsB.ext {A : Nat → Addr} {n0 : Nat} {M : Nat → Prop} {w w' : World} (h : ErrsB A n0 w) (he : Ext M w w') (hm : ∀ k, M k → n0 ≤ k) : ErrsB A n0 w' := by
  refine ⟨⟨fun g hg => ?_, h.1.2⟩, h.2⟩
  obtain ⟨h1, c, t, h2⟩ := h.1.1 g hg
  obtain ⟨b1, b2⟩ := h.2 g hg
  exact ⟨he.cell h1 (fun hh => by have := hm _ hh; simp only at this; omega), c, t, he.heap h2 (fun hh => by have := hm _ hh; omega)⟩
theorem ErrsB.keep {A : Nat → Addr} {n0 : Nat} {w w' : World} (h : ErrsB A n0 w) (he : Keep w w') : ErrsB A n0 w' := h.ext he (fun _ h => h.elim)

/-- Some errors are laid below n0. -/
def ErrsG (G : List Nat) (A : Nat → Addr) (n0 : Nat) (w : World) : Prop := ErrsOn tyErr G A w ∧ ∀ g ∈ G, g < n0 ∧ (A g).block < n0
theorem ErrsOn.g {G : List Nat} {A : Nat → Addr} {w : World} (h : ErrsOn tyErr G A w) : ErrsG G A w.heap.size w := by
  refine ⟨h, fun g hg => ?_⟩
  obtain ⟨h1, c, t, h2⟩ := h.1 g hg
  refine ⟨?_, lt_of_heap h2⟩
  have := World.block_lt_of_cell? w _ h1
  exact this
theorem ErrsG.ext {G : List Nat} {A : Nat → Addr} {n0 : Nat} {M : Nat → Prop} {w w' : World} (h : ErrsG G A n0 w) (he : Ext M w w') (hm : ∀ k, M k → n0 ≤ k) : ErrsG G A n0 w' := by
  refine ⟨⟨fun g hg => ?_, h.1.2⟩, h.2⟩
  obtain ⟨h1, c, t, h2⟩ := h.1.1 g hg
  obtain ⟨b1, b2⟩ := h.2 g hg
  exact ⟨he.cell h1 (fun hh => by have := hm _ hh; simp only at this; omega), c, t, he.heap h2 (fun hh => by have := hm _ hh; omega)⟩
theorem ErrsG.keep {G : List Nat} {A : Nat → Addr} {n0 : Nat} {w w' : World} (h : ErrsG G A n0 w) (he : Keep w w') : ErrsG G A n0 w' := h.ext he (fun _ h => h.elim)
theorem ErrsG.sub {G H : List Nat} {A : Nat → Addr} {n0 : Nat} {w : World} (h : ErrsG G A n0 w) (k : ∀ g ∈ H, g ∈ G) : ErrsG H A n0 w := ⟨h.1.sub k, fun g hg => h.2 g (k g hg)⟩
theorem ErrsG.at {G : List Nat} {A : Nat → Addr} {n0 : Nat} {w : World} (h : ErrsG G A n0 w) {g : Nat} (hg : g ∈ G) : w.cell? (⟨g, 0, none⟩ : Addr) = some (errV A g) := (h.1.1 g hg).1
theorem ErrsG.lt {G : List Nat} {A : Nat → Addr} {n0 : Nat} {w : World} (h : ErrsG G A n0 w) {g : Nat} (hg : g ∈ G) : g < n0 := (h.2 g hg).1
theorem ErrsB.g {A : Nat → Addr} {n0 : Nat} {w : World} (h : ErrsB A n0 w) : ErrsG errG A n0 w := h

/-- An error's place in the table, or none. -/
def errO (A : Nat → Addr) : Option Nat → Value
  | none => .nilIface
  | some k => errV A (errG.getD k 0)
theorem errO_isI (A : Nat → Addr) (e : Option Nat) : isI (errO A e) := by cases e <;> trivial
theorem errO_nil (A : Nat → Addr) (e : Option Nat) : isNilI (errO A e) = e.isNone := by cases e <;> rfl
theorem errO_one (A : Nat → Addr) (e : Option Nat) : ∀ X : Prop, X → oneK (errO A e) X := fun X h => by cases e <;> exact h

theorem Own.le {w : World} {s : Slc} {sz : Nat} {vs : List Value} (h : Own w s sz vs) (hsz : 0 < sz) : s.l ≤ s.c := by
  obtain ⟨hl, ⟨_, hv, hc⟩ | ⟨b, pad, T, f, _, _, h1, _⟩⟩ := h
  · subst hv
    have : s.l * sz = 0 := by simpa using hl
    rcases Nat.mul_eq_zero.1 this with h | h <;> omega
  · rw [List.length_append] at h1
    exact Nat.le_of_mul_le_mul_right (by omega) hsz

theorem wrap8x (n : Nat) : Value.int .u8 (IntKind.wrap .u8 (n : Int)) = byteV (UInt8.ofNat n) := by
  have h : IntKind.wrap .u8 (n : Int) = ((n % 256 : Nat) : Int) := by
    simp [IntKind.wrap, IntKind.signed, IntKind.bits]
  rw [h, byteV, UInt8.toNat_ofNat']
theorem errG_at {G : List Nat} {A : Nat → Addr} {n0 : Nat} {w : World} (h : ErrsG G A n0 w) (k : Nat) (g : Nat) (hg : g = errG.getD k 0) (hm : g ∈ G) : w.cell? (⟨g, 0, none⟩ : Addr) = some (errO A (some k)) := by
  subst hg; exact h.at hm
end Go.D

set_option linter.unusedVariables false
set_option linter.unusedSimpArgs false
namespace Go.D
open Go

theorem bytesAt_ltX {w : World} {s : Slc} {b : List UInt8} (h : bytesAt w s b) (hl : 0 < s.l) : ∀ k, ownB s k → k < w.heap.size := by
  rintro k ⟨a, ha, rfl⟩
  have hb : 0 < (b.map byteV).length := by rw [List.length_map, ← h.1]; exact hl
  obtain ⟨a', ha', hc⟩ := cellsAt_get h.2 hb
  rw [ha] at ha'
  cases ha'
  have := World.block_lt_of_cell? w _ hc
  rwa [add_block] at this
theorem bytesAt_stayX {M : Nat → Prop} {w w' : World} {s : Slc} {b : List UInt8} (h : bytesAt w s b) (he : Ext M w w') (hm : 0 < s.l → ∀ k, ownB s k → ¬ M k) : bytesAt w' s b := by
  rcases Nat.eq_zero_or_pos s.l with h0 | h0
  · have : b = [] := by have := h.1; rw [h0] at this; exact List.length_eq_zero_iff.1 this.symm
    subst this
    exact ⟨h.1, .inl rfl⟩
  · exact bytesAt_ext h he (hm h0)
theorem drew_heap (w : World) (k : Nat) : w.drew.heap[k]? = w.heap[k]? := rfl
theorem drew_size (w : World) : w.drew.heap.size = w.heap.size := rfl

abbrev ptrR' (r : Nat) : Value := .pointer (some ⟨r, 0, none⟩)
theorem rowAt_c {w : World} {a : Addr} {cs : List Value} (h : rowAt w a 0 cs) (j : Nat) (hj : j < cs.length) : w.cell? (a.add j) = some cs[j] := by
  have := rowAt_get h j hj
  rwa [Nat.zero_add] at this
theorem Own.set0 {w : World} {s : Slc} {b : UInt8} {rest : List UInt8} (h : Own w s 1 ((b :: rest).map byteV)) (c : UInt8) :
    ∃ a, s.p = some a ∧ w.cell? a = some (byteV b) ∧ canW w a 1 ∧ ∀ w', w' = w.setCell a (byteV c) → Own w' s 1 ((c :: rest).map byteV) ∧ Ext (ownB s) w w' ∧ w'.heap.size = w.heap.size := by
  obtain ⟨hl, ⟨_, h0, _⟩ | ⟨r, pad, T, f, hp, hb, h1, h2⟩⟩ := h
  · cases h0
  · refine ⟨_, hp, by rw [cell_of hb]; rfl, canW_of hb h2 0 1 (by simp), ?_⟩
    rintro w' rfl
    have hh := heap_setCell hb 0 (byteV c)
    refine ⟨⟨by simpa using hl, .inr ⟨r, pad, T, f, hp, hh, by simpa using h1, by simpa using h2⟩⟩, Ext.setCell (M := ownB s) (a := (⟨r, 0, none⟩ : Addr)) ⟨_, hp, rfl⟩ _, by simp [World.setCell]⟩

end Go.D

set_option linter.unusedVariables false
set_option linter.unusedSimpArgs false
namespace Go.D
open Go Go.Proofs

/-! ### what clients have been answered -/
abbrev L3 := Int × Int × Int
def l3C (x : L3) : List Value := [.int .i64 x.1, .int .i64 x.2.1, .int .i64 x.2.2]
def l3V (x : L3) : Value := .agg ⟨l3C x⟩
def KD : KV Int L3 := KV.int l3V
def z3 : L3 := (0, 0, 0)
structure SeenAt (w : World) (r m : Nat) (al : List (Int × L3)) : Prop where
  o : ObjAt w r [.map (some m)]
  mp : MapB KD w m al
  ne : r ≠ m
theorem SeenAt.ext {M : Nat → Prop} {w w' : World} {r m : Nat} {al : List (Int × L3)} (h : SeenAt w r m al) (he : Ext M w w') (h1 : ¬ M r) (h2 : ¬ M m) : SeenAt w' r m al := ⟨h.o.ext he h1, h.mp.ext he h2, h.ne⟩
theorem SeenAt.keep {w w' : World} {r m : Nat} {al : List (Int × L3)} (h : SeenAt w r m al) (he : Keep w w') : SeenAt w' r m al := h.ext he (fun h => h) (fun h => h)
theorem ObjAt.rowO {w : World} {r : Nat} {cs : List Value} (h : ObjAt w r cs) (o : Nat) (l : List Value) (hl : ∀ j (hj : j < l.length), cs[o + j]? = some l[j]) : rowAt w (⟨r, o, none⟩ : Addr) 0 l :=
  rowAt_of fun j hj => by
    have h1 := hl j hj
    obtain ⟨h2, h3⟩ := List.getElem?_eq_some_iff.1 h1
    rw [add_lit, Nat.zero_add, h.cell (o + j) h2, h3]
theorem row2 {w : World} {r : Nat} {a b c : Value} (h : ObjAt w r [a, b, c]) : rowAt w (⟨r, 1, none⟩ : Addr) 0 [b, c] := h.rowO 1 [b, c] (fun j hj => by
  have : j < 2 := hj
  match j, this with
  | 0, _ => rfl
  | 1, _ => rfl)

theorem New_spec22 (w : World) : Calls Tryd.prog fn_dedup_New ⟨[]⟩ w fun e w' => ∃ r m, e = .returned (ptrR' r) ∧ SeenAt w' r m [] ∧ Keep w w' ∧ w.heap.size ≤ r ∧ w.heap.size ≤ m := by
  refine dedup_New_ok ?_
  unfold dedup_New
  refine newS_mk (fun m w2 hm hb k2 hs2 => newS_mk (fun r w4 hr hb4 k4 hs4 => ?_))
  have z := k2.size
  exact ⟨r, m, rfl, ⟨ObjAt.new' hb4, MapB.new (k4.heap hb), by omega⟩, k2.trans k4, by omega, by omega⟩

def lastV (al : List (Int × L3)) (c : Int) : L3 := (lookL al c).getD z3
theorem Last_spec22 {w : World} {r m : Nat} {al : List (Int × L3)} (h : SeenAt w r m al) (c : Int) :
    Calls Tryd.prog fn_dedup_Seen_Last ⟨[ptrR' r, .int .i64 c]⟩ w fun e w' => e = .returned (.tuple ⟨[.int .i64 (lastV al c).1, .agg ⟨[.int .i64 (lastV al c).2.1, .int .i64 (lastV al c).2.2]⟩, .bool (lookL al c).isSome]⟩) ∧ Keep w w' := by
  refine dedup_Seen_Last_ok _ _ ?_
  unfold dedup_Seen_Last
  refine newS_mk (fun r3 w4 hr3 hb3 k3 hs3 => ?_)
  have h4 := h.keep k3
  have o3 := ObjAt.new' hb3
  obtain ⟨es, hes, hget⟩ := h4.mp.get
  have hg := hget c
  refine needSome_mk rfl ⟨_, h4.o.cell 0 (by simp), es, hes, ?_⟩
  unfold lastV
  cases hq : lookL al c with
  | none =>
    rw [hq] at hg
    refine .inl ⟨hg, var_mk (cs := l3C z3) rfl rfl (fun r11 w13 hr11 o11 k11 hs11 => ?_)⟩
    have kd : Keep w13 (World.drew w13) := Keep.drew (Ext.refl _ _)
    have od := o11.keep kd
    have o3d := (o3.keep k11).keep kd
    refine ⟨_, od.cell 0 (by simp [l3C]), _, _, row2 od, ?_⟩
    obtain ⟨cw, g⟩ := o3d.setAll (n := 2) (cs := [.int .i64 z3.2.1, .int .i64 z3.2.2]) rfl rfl
    refine ⟨cw, fun w17 h17 => ?_⟩
    obtain ⟨g1, g2, _⟩ := g w17 h17
    exact ⟨_, _, g1.row, rfl, ((k3.trans k11).trans kd).step (by omega) g2⟩
  | some x =>
    rw [hq] at hg
    refine .inr ⟨x.1, x.2.1, x.2.2, hg, var_mk (cs := l3C x) rfl rfl (fun r11 w13 hr11 o11 k11 hs11 => ?_)⟩
    have kd : Keep w13 (World.drew w13) := Keep.drew (Ext.refl _ _)
    have od := o11.keep kd
    have o3d := (o3.keep k11).keep kd
    refine ⟨_, od.cell 0 (by simp [l3C]), _, _, row2 od, ?_⟩
    obtain ⟨cw, g⟩ := o3d.setAll (n := 2) (cs := [.int .i64 x.2.1, .int .i64 x.2.2]) rfl rfl
    refine ⟨cw, fun w17 h17 => ?_⟩
    obtain ⟨g1, g2, _⟩ := g w17 h17
    exact ⟨_, _, g1.row, rfl, ((k3.trans k11).trans kd).step (by omega) g2⟩

/-- What a number is: the answer, and 1 (fresh), 2 (again), 3 (old). -/
def askV (al : List (Int × L3)) (c seq : Int) : (Int × Int) × Int :=
  match lookL al c with
  | none => ((0, 0), 1)
  | some x => if x.1 < seq then ((0, 0), 1) else if seq = x.1 then (x.2, 2) else ((0, 0), 3)
theorem Ask_spec22 {w : World} {r m : Nat} {al : List (Int × L3)} (h : SeenAt w r m al) (c seq : Int) :
    Calls Tryd.prog fn_dedup_Seen_Ask ⟨[ptrR' r, .int .i64 c, .int .i64 seq]⟩ w fun e w' => e = .returned (.tuple ⟨[.agg ⟨[.int .i64 (askV al c seq).1.1, .int .i64 (askV al c seq).1.2]⟩, .int .i64 (askV al c seq).2]⟩) ∧ Keep w w' := by
  refine dedup_Seen_Ask_ok _ _ _ ?_
  unfold dedup_Seen_Ask
  refine newS_mk (fun r3 w4 hr3 hb3 k3 hs3 => ?_)
  have h4 := h.keep k3
  have o3 := ObjAt.new' hb3
  obtain ⟨es, hes, hget⟩ := h4.mp.get
  have hg := hget c
  refine needSome_mk rfl ⟨_, h4.o.cell 0 (by simp), es, hes, ?_⟩
  unfold askV
  cases hq : lookL al c with
  | none =>
    rw [hq] at hg
    refine .inl ⟨hg, var_mk (cs := l3C z3) rfl rfl (fun r11 w13 hr11 o11 k11 hs11 => ?_)⟩
    refine ⟨fun b w2 => b = true ∧ w2 = w13, ⟨rfl, rfl⟩, ?_⟩
    rintro b w2 ⟨rfl, rfl⟩
    intros
    refine BIf_mk (fun _ => ?_) (fun hh => by cases hh)
    obtain ⟨cw, g⟩ := (o3.keep k11).setAll (n := 2) (cs := [.int .i64 0, .int .i64 0]) rfl rfl
    refine ⟨cw, fun w17 h17 => ?_⟩
    obtain ⟨g1, g2, _⟩ := g w17 h17
    exact ⟨_, _, g1.row, rfl, (k3.trans k11).step (by omega) g2⟩
  | some x =>
    rw [hq] at hg
    refine .inr ⟨x.1, x.2.1, x.2.2, hg, var_mk (cs := l3C x) rfl rfl (fun r11 w13 hr11 o11 k11 hs11 => ?_)⟩
    refine ⟨fun b w2 => b = decide (x.1 < seq) ∧ w2 = w13, ⟨_, o11.cell 0 (by simp [l3C]), rfl, rfl⟩, ?_⟩
    rintro b w2 ⟨rfl, rfl⟩
    intros
    have set : ∀ (a b : Int), canW w2 (⟨r3, 0, none⟩ : Addr) 2 ∧ ∀ w26 : World, w26 = setCells w2 (⟨r3, 0, none⟩ : Addr) 0 [.int .i64 a, .int .i64 b] → rowAt w26 (⟨r3, 0, none⟩ : Addr) 0 [.int .i64 a, .int .i64 b] ∧ Keep w w26 := by
      intro a b
      obtain ⟨cw, g⟩ := (o3.keep k11).setAll (n := 2) (cs := [.int .i64 a, .int .i64 b]) rfl rfl
      refine ⟨cw, fun w17 h17 => ?_⟩
      obtain ⟨g1, g2, _⟩ := g w17 h17
      exact ⟨g1.row, (k3.trans k11).step (by omega) g2⟩
    refine BIf_dec (fun h1 => ⟨(set 0 0).1, fun w17 h17 => ⟨_, _, ((set 0 0).2 w17 h17).1, ?_, ((set 0 0).2 w17 h17).2⟩⟩) (fun h1 => ⟨_, o11.cell 0 (by simp [l3C]), ?_⟩)
    · dsimp only; rw [if_pos h1]
    · refine BIf_dec (fun h2 => ⟨_, _, row2 o11, (set x.2.1 x.2.2).1, fun w17 h17 => ⟨_, _, ((set _ _).2 w17 h17).1, ?_, ((set _ _).2 w17 h17).2⟩⟩) (fun h2 => ⟨(set 0 0).1, fun w17 h17 => ⟨_, _, ((set 0 0).2 w17 h17).1, ?_, ((set 0 0).2 w17 h17).2⟩⟩)
      · dsimp only; rw [if_neg h1, if_pos h2]
      · dsimp only; rw [if_neg h1, if_neg h2]

def rightD (c seq code at' : Int) : Bool := decide (1 ≤ c ∧ c ≤ 4 ∧ 1 ≤ seq ∧ seq ≤ 1073741824 ∧ (code = 1 ∨ code = 2) ∧ 0 ≤ at' ∧ at' < 4096)
theorem right_spec22 (c seq code at' : Int) (w : World) : Calls Tryd.prog fn_dedup_right ⟨[.int .i64 c, .int .i64 seq, .agg ⟨[.int .i64 code, .int .i64 at']⟩]⟩ w fun e w' => e = .returned (.bool (rightD c seq code at')) ∧ Keep w w' := by
  refine dedup_right_ok _ _ _ _ ?_
  unfold dedup_right rightD
  refine newS_mk (fun r5 w6 hr5 hb5 k5 hs5 => ?_)
  have o := ObjAt.new' hb5
  have no : ∀ {p : Prop} [Decidable p], ¬ p → Ending.returned (.bool false) = .returned (.bool (decide p)) ∧ Keep w w6 := fun h => ⟨by rw [decide_eq_false h], k5⟩
  refine BIf_dec (fun h1 => BIf_dec (fun h2 => BIf_dec (fun h3 => BIf_dec (fun h4 => ⟨_, o.cell 0 (by simp), ?_⟩) (fun h => no (by omega))) (fun h => no (by omega))) (fun h => no (by omega))) (fun h => no (by omega))
  refine BIf_dec (fun h5 => ⟨_, o.cell 1 (by simp), BIf_dec (fun h6 => ⟨_, o.cell 1 (by simp), ?_, k5⟩) (fun h => no (by omega))⟩) (fun h5 => ⟨_, o.cell 0 (by simp), BIf_dec (fun h7 => ⟨_, o.cell 1 (by simp), BIf_dec (fun h6 => ⟨_, o.cell 1 (by simp), ?_, k5⟩) (fun h => no (by omega))⟩) (fun h => no (by omega))⟩)
  · congr 2; rw [decide_eq_decide]; omega
  · congr 2; rw [decide_eq_decide]; omega

def ddG : List Nat := [gl_ErrRange, gl_ErrStale]
/-- Noting: the error's place, and what there is then. -/
def noteV (al : List (Int × L3)) (c seq code at' : Int) : Option Nat × List (Int × L3) :=
  if rightD c seq code at' = false then (some 0, al) else if (askV al c seq).2 = 1 then (none, putL al c (seq, code, at')) else (some 18, al)
theorem Note_spec22 (A : Nat → Addr) {n0 : Nat} {w : World} {r m : Nat} {al : List (Int × L3)} (h : SeenAt w r m al) (c seq code at' : Int) (hE : ErrsG ddG A n0 w) :
    Calls Tryd.prog fn_dedup_Seen_Note ⟨[ptrR' r, .int .i64 c, .int .i64 seq, .agg ⟨[.int .i64 code, .int .i64 at']⟩]⟩ w fun e w' => e = .returned (errO A (noteV al c seq code at').1) ∧ SeenAt w' r m (noteV al c seq code at').2 ∧ Ext (fun k => k = m) w w' := by
  refine dedup_Seen_Note_ok _ _ _ _ _ ?_
  unfold dedup_Seen_Note noteV
  refine newS_mk (fun r6 w7 hr6 hb6 k6 hs6 => ?_)
  have o6 := ObjAt.new' hb6
  refine ⟨_, _, o6.row, (right_spec22 c seq code at' w7).mono ?_⟩
  rintro e w11 ⟨rfl, k11⟩
  have kk := k6.trans k11
  refine ⟨_, rfl, BIf_mk (fun hh => ?_) (fun hh => ?_)⟩
  · rw [if_pos (by simpa using hh)]
    exact ⟨_, errG_at (hE.keep kk) 0 _ rfl (by simp [ddG]), rfl, h.keep kk, kk.mono (fun _ h => h.elim)⟩
  · have hr : rightD c seq code at' = true := by simpa using hh
    rw [if_neg (by rw [hr]; simp)]
    refine (Ask_spec22 (h.keep kk) c seq).mono ?_
    rintro e w15 ⟨rfl, k15⟩
    have kk15 := kk.trans k15
    refine ⟨_, _, _, rfl, var_mk (cs := [.int .i64 (askV al c seq).1.1, .int .i64 (askV al c seq).1.2]) rfl rfl (fun r19 w21 hr19 o19 k19 hs19 => ?_)⟩
    have kk21 := kk15.trans k19
    refine BIf_ndec (fun h1 => ?_) (fun h1 => ?_)
    · rw [if_neg h1]
      exact ⟨_, errG_at (hE.keep kk21) 18 _ rfl (by simp [ddG]), rfl, h.keep kk21, kk21.mono (fun _ h => h.elim)⟩
    · rw [if_pos h1]
      have kd : Keep w21 (World.drew w21) := Keep.drew (Ext.refl _ _)
      have kkd := kk21.trans kd
      have hd := h.keep kkd
      obtain ⟨es, ck, es', ck', g1, g2, g3⟩ := hd.mp.put c (seq, code, at')
      refine needSome_mk rfl ⟨_, hd.o.cell 0 (by simp), _, _, ((((o6.keep k11).keep k15).keep k19).keep kd).row, m, es, ck, es', ck', rfl, g1, g2, fun w32 h32 => ?_⟩
      obtain ⟨g4, g5, g6⟩ := g3 w32 h32
      exact ⟨rfl, ⟨hd.o.ext g5 (fun hh => h.ne hh), g4, h.ne⟩, Ext.trans kkd g5 (fun _ h => h.elim) (fun _ h => .inl h)⟩

theorem Copy_spec22 {w : World} {r m : Nat} {al : List (Int × L3)} (h : SeenAt w r m al) :
    Calls Tryd.prog fn_dedup_Seen_Copy ⟨[ptrR' r]⟩ w fun e w' => ∃ r' m', e = .returned (ptrR' r') ∧ SeenAt w' r' m' al ∧ Keep w w' ∧ w.heap.size ≤ r' ∧ w.heap.size ≤ m' := by
  refine dedup_Seen_Copy_ok _ ?_
  unfold dedup_Seen_Copy
  refine needSome_mk rfl ⟨_, h.o.cell 0 (by simp), ?_⟩
  refine maps_Clone_last_ok _ ?_
  unfold maps_Clone_last
  refine BIf_mk (fun hh => by cases hh) (fun _ => ?_)
  obtain ⟨es, ck, h1, h2⟩ := h.mp.clone
  refine ⟨m, es, ck, rfl, h1, newS_mk (fun m' w6 hm' hb6 k6 hs6 => ⟨_, rfl, _, rfl, newS_mk (fun r' w8 hr' hb8 k8 hs8 => ?_)⟩)⟩
  exact ⟨r', m', rfl, ⟨ObjAt.new' hb8, (h2 m' w6 hb6).keep k8, by omega⟩, k6.trans k8, by omega, by omega⟩

/-! ### its clients, rising -/
theorem Keys_spec22 (m : Nat) (w : World) : Calls Tryd.prog fn_maps_Keys_last ⟨[.map (some m)]⟩ w fun e w' => ∃ b, e = .returned (.func (.func fn_maps_Keys_last_1) ⟨[]⟩ ⟨[ptrR' b]⟩) ∧ ObjAt w' b [.map (some m)] ∧ Keep w w' ∧ w.heap.size ≤ b := by
  refine maps_Keys_last_ok _ ?_
  unfold maps_Keys_last
  exact newS_mk (fun r w3 hr hb k hs => ⟨r, rfl, ObjAt.new' hb, k, by omega⟩)
theorem nodup_len {β : Type} [DecidableEq β] : ∀ {a b : List β}, a.Nodup → (∀ x ∈ a, x ∈ b) → a.length ≤ b.length
  | [], _, _, _ => by simp
  | x :: a, b, hn, hs => by
    rw [List.nodup_cons] at hn
    have hx := hs x (by simp)
    have := nodup_len (a := a) (b := b.erase x) hn.2 (fun y hy => (List.mem_erase_of_ne (by rintro rfl; exact hn.1 hy)).2 (hs y (by simp [hy])))
    rw [List.length_erase_of_mem hx] at this
    have : 0 < b.length := List.length_pos_of_mem hx
    rw [List.length_cons]; omega
theorem Keys1_spec22 (lr cb m : Nat) (al : List (Int × L3)) (J : Nat → List Int → World → Prop) (w : World) (hb : w.cell? ⟨cb, 0, none⟩ = some (.map (some m))) (hm : MapB KD w m al)
    (h0 : ∀ r w1, r = w.heap.size → Keep w w1 → w1.heap.size = r + 1 → J r [] w1)
    (hext : ∀ r ks w1 w2, r = w.heap.size → J r ks w1 → Ext (fun x => x = r) w1 w2 → J r ks w2)
    (hstep : ∀ r ks k (w1 : World), r = w.heap.size → k ∈ al.map (·.1) → k ∉ ks → ks.length < al.length → J r ks w1 → r < w1.heap.size → m < w1.heap.size →
      YieldC Tryd.prog lr ⟨[.int .i64 k]⟩ w1 fun e w' => e = .returned (.bool true) ∧ J r (ks ++ [k]) w' ∧ Ext (fun j => j ≠ r ∧ j ≠ m) w1 w') :
    Calls Tryd.prog fn_maps_Keys_last_1 ⟨[.func (.yield lr) ⟨[]⟩ ⟨[]⟩, ptrR' cb]⟩ w fun e w' => e = .returned (.tuple #[]) ∧ ∃ r ks, r = w.heap.size ∧ ks.Perm (al.map (·.1)) ∧ J r ks w' := by
  refine maps_Keys_last_1_ok _ _ ?_
  unfold maps_Keys_last_1
  refine needSome_mk rfl ⟨_, hb, hm.range (fun r w7 hr hI k7 hs7 => ?_)⟩
  have hml := hm.lt
  refine ⟨fun w2 => ∃ ks, IterAt KD w2 r m al ks ∧ J r ks w2 ∧ ks.Nodup ∧ (∀ k ∈ ks, k ∈ al.map (·.1)) ∧ w7.heap.size ≤ w2.heap.size, fun w2 => al.length - seenN w2 r, ⟨[], hI, h0 r w7 hr k7 hs7, by simp, by simp, Nat.le_refl _⟩, ?_⟩
  rintro w10 ⟨ks, hI, hJ, hnd, hin, hz⟩
  intros
  refine hI.next hm.nd (fun hall => ?_) (fun k a w22 hka hkn hI2 e22 hs22 hent => ?_)
  · refine ⟨rfl, r, ks, hr, ?_, hJ⟩
    refine (List.perm_ext_iff_of_nodup hnd hm.nd).2 (fun k => ⟨hin k, fun hk => ?_⟩)
    obtain ⟨p, hp, rfl⟩ := List.mem_map.1 hk
    exact hall p hp
  · have hkin : k ∈ al.map (·.1) := List.mem_map.2 ⟨(k, a), hka, rfl⟩
    refine ⟨_, _, hent, ?_⟩
    refine Sh.dec_v (s := .int .i64) (x := k) ?_
    have hlen : (ks ++ [k]).length ≤ al.length := by
      have hnd2 : (ks ++ [k]).Nodup := by
        rw [List.nodup_append]
        exact ⟨hnd, by simp, fun x hx y hy => by rw [List.mem_singleton] at hy; subst hy; rintro rfl; exact hkn hx⟩
      have hsub : (ks ++ [k]) ⊆ al.map (·.1) := by
        intro x hx
        rcases List.mem_append.1 hx with hx | hx
        · exact hin x hx
        · rw [List.mem_singleton] at hx; subst hx; exact hkin
      have := nodup_len hnd2 (fun x hx => hsub hx)
      simpa using this
    refine (hstep r ks k w22 hr hkin hkn (by simp at hlen; omega) (hext r ks w10 w22 hr hJ e22) (by omega) (by omega)).mono ?_
    rintro e w27 ⟨rfl, hJ27, e27⟩
    refine ⟨true, rfl, BIf_mk (fun hh => by cases hh) (fun _ => ?_)⟩
    have hI27 := hI2.ext e27 (fun hh => hh.1 rfl) (fun hh => hh.2 rfl)
    refine ⟨⟨ks ++ [k], hI27, hJ27, ?_, ?_, ?_⟩, ?_⟩
    · rw [List.nodup_append]
      exact ⟨hnd, by simp, fun x hx y hy => by rw [List.mem_singleton] at hy; subst hy; rintro rfl; exact hkn hx⟩
    · intro x hx
      rcases List.mem_append.1 hx with hx | hx
      · exact hin x hx
      · rw [List.mem_singleton] at hx; subst hx; exact hkin
    · have := e27.size; omega
    · show al.length - seenN w27 r < al.length - seenN w10 r
      rw [hI27.seen, hI.seen]
      rw [List.length_append] at hlen ⊢
      simp at hlen ⊢
      omega
end Go.D

set_option linter.unusedVariables false
set_option linter.unusedSimpArgs false
namespace Go.D
open Go Go.Proofs

theorem AppendSeq_spec22 (cb m : Nat) (al : List (Int × L3)) (w : World) (hb : ObjAt w cb [.map (some m)]) (hm : MapB KD w m al) (hl : al.length ≤ 2 ^ 20) :
    Calls Tryd.prog fn_slices_AppendSeq_int ⟨[(⟨none, 0, 0⟩ : Slc).v, .func (.func fn_maps_Keys_last_1) ⟨[]⟩ ⟨[ptrR' cb]⟩]⟩ w fun e w' => ∃ (t : Slc) (ks : List Int), e = .returned t.v ∧ IntsAt w' t ks ∧ Fresh w t ∧ ks.Perm (al.map (·.1)) ∧ Keep w w' := by
  refine slices_AppendSeq_int_maps_Keys_last_1_ok _ _ ?_
  unfold slices_AppendSeq_int_maps_Keys_last_1
  refine newS_mk (fun r3 w4 hr3 hb3 k3 hs3 => ?_)
  have o3 := ObjAt.new' hb3
  refine ⟨fn_maps_Keys_last_1, [], [ptrR' cb], rfl, by rfl, ?_⟩
  intro D lr rc w8 hD hlr hw8 hY
  have N := newRange hD hlr hw8
  have k8 := k3.trans N.k
  have hdw := N.dw
  have hdl := N.dl
  have hns := N.s
  have z3 := k3.size
  have hml := hm.lt
  let J : Nat → List Int → World → Prop := fun rI ks w2 => Keep w w2 ∧ w2.heap[lr]? = some (.loop (rc .ready none)) ∧ w2.heap[D]? = some (.deferred (some [])) ∧
    ∃ t : Slc, ObjAt w2 r3 [t.v] ∧ IntsAt w2 t ks ∧ (∀ j, ownB t j → w8.heap.size < j)
  have hC := Keys1_spec22 lr cb m al J w8 ((hb.keep k8).cell 0 (by simp)) (hm.keep k8)
    (fun r w1 hr kr hsr => ⟨k8.trans kr, kr.heap N.l, kr.heap N.d, ⟨none, 0, 0⟩, (o3.keep N.k).keep kr, IntsAt.nil _, (by rintro j ⟨a, ha, _⟩; cases ha)⟩)
    (fun r ks w1 w2 hrr hj he => by
      obtain ⟨g1, g2, g3, t, g4, g5, g6⟩ := hj
      refine ⟨g1.ext he (fun k hk => by rw [show k = r from hk]; have := k8.size; omega), he.heap g2 (fun hh => by omega), he.heap g3 (fun hh => by omega), t, g4.ext he (fun hh => by omega), g5.ext he (fun k hk hh => by have := g6 k hk; omega), g6⟩)
    (fun r ks k w1 hr hkin hkn hlen hj hr1 hm1 => by
      obtain ⟨g1, g2, g3, t, g4, g5, g6⟩ := hj
      have z1 := g1.size
      refine hY _ _ _ g2 ⟨g2, fun w12 hw12 => ?_⟩
      have e12 : Ext (fun j => j = lr) w1 w12 := by rw [hw12]; exact Ext.putObj _ _ _
      have l12 : w12.heap[lr]? = some (.loop (rc .busy none)) := by rw [hw12]; exact putObj_new g2
      have z12 : w12.heap.size = w1.heap.size := by rw [hw12]; exact putObj_size _ _ _
      have o12 := g4.ext e12 (fun hh => by omega)
      have t12 : IntsAt w12 t ks := g5.ext e12 (fun j hj hh => by have := g6 j hj; omega)
      have d12 := e12.heap g3 (fun hh => by omega)
      have k12 : Keep w w12 := g1.ext e12 (fun j hj => by omega)
      have o3l := g4.lt
      refine ⟨t, o12.cell 0 (by simp), ?_⟩
      refine IntsAt.push (w0 := w) t12 (fun j hj => by have := g6 j hj; have := k8.size; omega) k12 (by omega) (fun s16 w17 h1 h2 h3 h4 h5 => ?_)
      have z17 := h4.size
      have o17 := o12.ext h4 (fun hh => by have := g6 _ hh; omega)
      have l17 := h4.heap l12 (fun hh => by have := g6 _ hh; omega)
      have d17 := h4.heap d12 (fun hh => by have := g6 _ hh; omega)
      obtain ⟨cw, g⟩ := o17.setOne 0 (by simp) s16.v
      refine ⟨cw, fun w18 h18 => ?_⟩
      obtain ⟨q1, q2, q3⟩ := g w18 h18
      have f16 : ∀ j, ownB s16 j → w8.heap.size < j := fun j hj => (h5 j hj).elim (g6 j) (fun h => by omega)
      refine ⟨q2.heap l17 (fun hh => by omega), fun w19 hw19 => ?_⟩
      have e19 : Ext (fun j => j = lr) w18 w19 := by rw [hw19]; exact Ext.putObj _ _ _
      refine ⟨rfl, ⟨(h3.ext q2 (fun j hj => by omega)).ext e19 (fun j hj => by omega), ?_, (e19.heap (q2.heap d17 (fun hh => by omega)) (fun hh => by omega)), s16, q1.ext e19 (fun hh => by omega), (h1.ext q2 (fun j hj hh => by have := f16 j hj; omega)).ext e19 (fun j hj hh => by have := f16 j hj; omega), f16⟩, ?_⟩
      · rw [hw19]; exact putObj_new (q2.heap l17 (fun hh => by omega))
      · refine ((e12.trans h4 (M := fun j => j ≠ r ∧ j ≠ m) (fun j hj => ⟨by omega, by omega⟩) (fun j hj => .inl ⟨by have := g6 j hj; omega, by have := g6 j hj; omega⟩)).trans q2 (fun _ h => h) (fun j hj => .inl ⟨by omega, by omega⟩)).trans e19 (fun _ h => h) (fun j hj => .inl ⟨by omega, by omega⟩))
  refine hC.mono ?_
  rintro e w24 ⟨rfl, r, ks, hr, hp, g1, g2, g3, t, g4, g5, g6⟩
  refine ⟨⟨_, rfl⟩, g2, fun w25 hw25 => ?_⟩
  have e25 : Ext (fun j => j = lr) w24 w25 := by rw [hw25]; exact Ext.putObj _ _ _
  have d25 := e25.heap g3 (fun hh => by omega)
  refine ⟨t, (g4.ext e25 (fun hh => by omega)).cell 0 (by simp), d25, fun w27 hw27 => ?_⟩
  have e27 : Ext (fun j => j = D) w25 w27 := by rw [hw27]; exact Ext.putObj _ _ _
  refine ⟨t, ks, rfl, (g5.ext e25 (fun j hj hh => by have := g6 j hj; omega)).ext e27 (fun j hj hh => by have := g6 j hj; omega), fun j hj => by have := g6 j hj; have := k8.size; omega, hp, (g1.ext e25 (fun j hj => by omega)).ext e27 (fun j hj => by omega)⟩

/-- Rising. -/
def Rising (l : List Int) : Prop := ∀ x y (hx : x < l.length) (hy : y < l.length), x < y → l[x] ≤ l[y]
theorem Sorted_spec22 (cb m : Nat) (al : List (Int × L3)) (w : World) (hb : ObjAt w cb [.map (some m)]) (hm : MapB KD w m al) (hl : al.length ≤ 12) :
    Calls Tryd.prog fn_slices_Sorted_int ⟨[.func (.func fn_maps_Keys_last_1) ⟨[]⟩ ⟨[ptrR' cb]⟩]⟩ w fun e w' => ∃ (t : Slc) (ks : List Int), e = .returned t.v ∧ IntsAt w' t ks ∧ Fresh w t ∧ ks.Perm (al.map (·.1)) ∧ Rising ks ∧ Keep w w' := by
  refine slices_Sorted_int_maps_Keys_last_1_ok _ ?_
  unfold slices_Sorted_int_maps_Keys_last_1
  refine slices_Collect_int_maps_Keys_last_1_ok _ ?_
  unfold slices_Collect_int_maps_Keys_last_1
  refine (AppendSeq_spec22 cb m al w hb hm (by omega)).mono ?_
  rintro e w3 ⟨t, ks, rfl, h1, h2, h3, h4⟩
  refine ⟨t, rfl, t, rfl, ?_⟩
  have hlen := h3.length_eq
  simp at hlen
  refine (Sort_spec t ks w3 h1 (by omega)).mono ?_
  rintro e w6 ⟨rfl, l', p1, p2, p3, p4⟩
  refine ⟨rfl, t, l', rfl, p3, h2, p1.trans h3, fun x y hx hy hxy => p2 x y hx hy hxy (by rw [← p1.length_eq]; exact hy), h4.ext p4 (fun j hj => h2 j hj)⟩

theorem rising_spec22 (r : Nat) (w : World) : Calls Tryd.prog fn_dedup_Seen_rising ⟨[ptrR' r]⟩ w fun e w' => ∃ b, e = .returned (.func (.func fn_dedup_Seen_rising_1) ⟨[]⟩ ⟨[ptrR' b]⟩) ∧ ObjAt w' b [ptrR' r] ∧ Keep w w' ∧ w.heap.size ≤ b := by
  refine dedup_Seen_rising_ok _ ?_
  unfold dedup_Seen_rising
  exact newS_mk (fun b w3 hr hb k hs => ⟨b, rfl, ObjAt.new' hb, k, by omega⟩)

theorem rising1_spec22 (lr cb r m : Nat) (al : List (Int × L3)) (J : Nat → List Int → Nat → World → Prop) (w : World) (hl : al.length ≤ 12) (hb : ObjAt w cb [ptrR' r]) (hs : SeenAt w r m al)
    (h0 : ∀ n1 ks w1, n1 = w1.heap.size → ks.Perm (al.map (·.1)) → Rising ks → Keep w w1 → J n1 ks 0 w1)
    (hJ : ∀ n1 ks k w1, J n1 ks k w1 → w1.cell? ⟨cb, 0, none⟩ = some (ptrR' r) ∧ SeenAt w1 r m al)
    (hstep : ∀ n1 ks k (hk : k < ks.length) x (w1 : World), ks.Perm (al.map (·.1)) → Rising ks → lookL al ks[k] = some x → J n1 ks k w1 → w.heap.size ≤ n1 → n1 ≤ w1.heap.size →
      YieldC Tryd.prog lr ⟨[.int .i64 ks[k], l3V x]⟩ w1 fun e w' => e = .returned (.bool true) ∧ J n1 ks (k + 1) w' ∧ Ext (fun j => j < w.heap.size ∨ n1 ≤ j) w1 w') :
    Calls Tryd.prog fn_dedup_Seen_rising_1 ⟨[.func (.yield lr) ⟨[]⟩ ⟨[]⟩, ptrR' cb]⟩ w fun e w' => e = .returned (.tuple #[]) ∧ ∃ n1 ks, ks.Perm (al.map (·.1)) ∧ Rising ks ∧ J n1 ks ks.length w' := by
  refine dedup_Seen_rising_1_ok _ _ ?_
  unfold dedup_Seen_rising_1
  refine needSome_mk rfl ⟨_, hb.cell 0 (by simp), needSome_mk rfl ⟨_, hs.o.cell 0 (by simp), ?_⟩⟩
  refine (Keys_spec22 m w).mono ?_
  rintro e w8 ⟨b, rfl, ob, k8, _⟩
  refine ⟨_, rfl, (Sorted_spec22 b m al w8 ob (hs.mp.keep k8) hl).mono ?_⟩
  rintro e w11 ⟨t, ks, rfl, ht, ft, hp, hri, k11⟩
  have kk := k8.trans k11
  have z8 := k8.size
  have htl := ht.sl
  have htl11 := Rows.lt ht
  have hlen := hp.length_eq
  simp at hlen
  refine ⟨t, rfl, fun i w2 => ∃ k : Nat, i = k ∧ k ≤ ks.length ∧ J w11.heap.size ks k w2 ∧ IntsAt w2 t ks ∧ w11.heap.size ≤ w2.heap.size, fun i _ => ((ks.length : Int) - i).toNat, ⟨0, rfl, by omega, h0 _ ks w11 rfl hp hri kk, ht, Nat.le_refl _⟩, ?_⟩
  rintro i w16 ⟨k, rfl, hk, hj, ht16, hz⟩
  intros
  refine BIf_dec (fun hlt => ?_) (fun hge => ?_)
  · have hkl : k < ks.length := by omega
    obtain ⟨a, ha, hc⟩ := ht16.get hkl
    obtain ⟨g1, g2⟩ := hJ _ _ _ _ hj
    obtain ⟨es, hes, hget⟩ := g2.mp.get
    have hg := hget ks[k]
    have hin : ks[k] ∈ al.map (·.1) := hp.mem_iff.1 (List.getElem_mem hkl)
    refine needSome_mk ha ⟨by omega, hlt, ks[k], by rw [Int.toNat_natCast]; exact hc, needSome_mk rfl ⟨_, g1, needSome_mk rfl ⟨_, g2.o.cell 0 (by simp), es, hes, ?_⟩⟩⟩
    cases hq : lookL al ks[k] with
    | none => exact absurd hin (look_none.1 hq)
    | some x =>
      rw [hq] at hg
      have k11s := kk.size
      refine .inr ⟨x.1, x.2.1, x.2.2, hg, (hstep _ ks k hkl x w16 hp hri hq hj (by omega) hz).mono ?_⟩
      rintro e w46 ⟨rfl, hj46, e46⟩
      refine ⟨true, rfl, BIf_mk (fun hh => by cases hh) (fun _ => ⟨inR64 (by omega), ⟨k + 1, rfl, hkl, hj46, ht16.ext e46 (fun j hj hh => by have := ft j hj; have := htl11 j hj; omega), by have := e46.size; omega⟩, by dsimp only; omega⟩)⟩
  · have hke : k = ks.length := by omega
    subst hke
    exact ⟨rfl, _, ks, hp, hri, hj⟩

def joinL (a b : Option L3) : Option L3 :=
  match b with
  | none => a
  | some l => if (a.getD z3).1 < l.1 then some l else a
theorem Join_spec22 {w : World} {r1 m1 r2 m2 : Nat} {al1 al2 : List (Int × L3)} (h1 : SeenAt w r1 m1 al1) (h2 : SeenAt w r2 m2 al2) (hne : m1 ≠ m2) (hr12 : r2 ≠ m1) (hl : al2.length ≤ 12) :
    Calls Tryd.prog fn_dedup_Seen_Join ⟨[ptrR' r1, ptrR' r2]⟩ w fun e w' => e = .returned (.tuple #[]) ∧ ∃ al', SeenAt w' r1 m1 al' ∧ (∀ c, lookL al' c = joinL (lookL al1 c) (lookL al2 c)) ∧ Ext (fun k => k = m1) w w' := by
  refine dedup_Seen_Join_ok _ _ ?_
  unfold dedup_Seen_Join
  refine newS_mk (fun r3 w4 hr3 hb3 k3 hs3 => ?_)
  have o3 := ObjAt.new' hb3
  refine (rising_spec22 r2 w4).mono ?_
  rintro e w6 ⟨cb, rfl, ocb, k6, hcb⟩
  refine ⟨_, rfl, fn_dedup_Seen_rising_1, [], [ptrR' cb], rfl, by rfl, ?_⟩
  intro D lr rc w11 hD hlr hw11 hY
  have N := newRange hD hlr hw11
  have k11 := (k3.trans k6).trans N.k
  have hdw := N.dw
  have hdl := N.dl
  have hns := N.s
  have z3' := k3.size
  have z6 := k6.size
  have hm1 := h1.mp.lt
  have hm2 := h2.mp.lt
  have hr1 := h1.o.lt
  have hr2 := h2.o.lt
  have hcbl := ocb.lt
  have o3l := (o3.keep k6).lt
  have z11 := k11.size
  let J : List Int → Nat → World → Prop := fun ks k w2 => Ext (fun j => j = m1 ∨ j = lr) w11 w2 ∧ w2.heap[lr]? = some (.loop (rc .ready none)) ∧
    ∃ al', SeenAt w2 r1 m1 al' ∧ ∀ c, lookL al' c = if c ∈ ks.take k then joinL (lookL al1 c) (lookL al2 c) else lookL al1 c
  have hC := rising1_spec22 lr cb r2 m2 al2 (fun _ => J) w11 hl (ocb.keep N.k) (h2.keep k11)
    (fun _ ks w1 _ hp hri kw => ⟨kw.mono (fun _ h => h.elim), kw.heap N.l, al1, (h1.keep k11).keep kw, fun c => by simp⟩)
    (fun _ ks k w1 hj => ⟨((ocb.keep N.k).ext hj.1 (fun hh => by omega)).cell 0 (by simp), (h2.keep k11).ext hj.1 (fun hh => by omega) (fun hh => by omega)⟩)
    (fun n1 ks k hk x w1 hp hri hx hj hn1 hz1 => by
      obtain ⟨g1, g2, al', g3, g4⟩ := hj
      have hnd : ks.Nodup := hp.nodup_iff.2 h2.mp.nd
      refine hY _ _ _ _ _ _ g2 (var_mk (cs := l3C x) rfl rfl (fun r18 w20 hr18 o18 k18 hs18 => ?_))
      have l20 := k18.heap g2
      refine ⟨l20, fun w21 hw21 => ?_⟩
      have e21 : Ext (fun j => j = lr) w20 w21 := by rw [hw21]; exact Ext.putObj _ _ _
      have l21 : w21.heap[lr]? = some (.loop (rc .busy none)) := by rw [hw21]; exact putObj_new l20
      have z21 : w21.heap.size = w20.heap.size := by rw [hw21]; exact putObj_size _ _ _
      have kd : Keep w21 (World.drew w21) := Keep.drew (Ext.refl _ _)
      have kd2 : Keep w21 (World.drew (World.drew w21)) := Keep.drew (Keep.drew (Ext.refl _ _))
      have o21 := o18.ext e21 (fun hh => by omega)
      have s21 := (g3.keep k18).ext e21 (fun hh => by omega) (fun hh => by omega)
      have b21 := (((o3.keep k6).keep N.k).ext g1 (fun hh => by omega)).keep k18 |>.ext e21 (fun hh => by omega)
      have sd := s21.keep kd
      obtain ⟨es, hes, hget⟩ := sd.mp.get
      have hg := hget ks[k]
      have ee21 : Ext (fun j => j = m1 ∨ j = lr) w11 w21 := (g1.trans k18 (fun _ h => h) (fun _ h => h.elim)).trans e21 (fun _ h => h) (fun j hj => .inl (.inr hj))
      have x21 : Ext (fun j => j < w11.heap.size ∨ n1 ≤ j) w1 w21 := (k18.mono (fun _ h => h.elim)).trans e21 (fun _ h => h) (fun j hj => .inl (by omega))
      have hnk : ks[k] ∉ ks.take k := by
        intro hin
        obtain ⟨q, hq, he⟩ := List.getElem_of_mem hin
        rw [List.length_take] at hq
        rw [List.getElem_take] at he
        have := (List.getElem_inj hnd).1 he
        omega
      have hlk : lookL al' ks[k] = lookL al1 ks[k] := by rw [g4, if_neg hnk]
      -- the entry is laid
      have yes : ((lookL al' ks[k]).getD z3).1 < x.1 → ∃ p30 : Option Addr, World.cell? (World.drew (World.drew w21)) (⟨r3, 0, none⟩ : Addr) = some (Value.pointer p30) ∧
          needSome p30 fun a31 => ∃ m32 : Option Nat, World.cell? (World.drew (World.drew w21)) a31 = some (Value.map m32) ∧
          ∃ n33 : Int, ∃ n34 : Int, ∃ n35 : Int, rowAt (World.drew (World.drew w21)) (⟨r18, 0, none⟩ : Addr) 0 [(Value.int .i64 n33), (Value.int .i64 n34), (Value.int .i64 n35)] ∧
          ∃ (mb36 : Nat) (es37 : Array MapEntry) (ck38 : Nat) (es39 : Array MapEntry) (ck40 : Nat), m32 = some mb36 ∧ (World.heap ((World.drew (World.drew w21))))[mb36]? = some (.map es37 ck38) ∧ mapPut (.int .i64) (Value.int .i64 ks[k]) (Value.agg ⟨[(Value.int .i64 n33), (Value.int .i64 n34), (Value.int .i64 n35)]⟩) es37 ck38 = some (es39, ck40) ∧ ∀ w41 : World, w41 = setObjW (World.drew (World.drew w21)) mb36 (.map es39 ck40) →
          (World.heap w41)[lr]? = some (.loop (rc .busy none)) ∧ ∀ w42 : World, w42 = World.putObj w41 lr (.loop (rc .ready none)) → (Ending.returned (Value.bool true) = .returned (.bool true) ∧ J ks (k + 1) w42 ∧ Ext (fun j => j < w11.heap.size ∨ n1 ≤ j) w1 w42) := by
        intro hlt
        have sd2 := s21.keep kd2
        obtain ⟨es', ck, es2, ck2, q1, q2, q3⟩ := sd2.mp.put ks[k] x
        refine ⟨_, (b21.keep kd2).cell 0 (by simp), needSome_mk rfl ⟨_, sd2.o.cell 0 (by simp), _, _, _, (o21.keep kd2).row, m1, es', ck, es2, ck2, rfl, q1, q2, fun w41 h41 => ?_⟩⟩
        obtain ⟨q4, q5, q6⟩ := q3 w41 h41
        have l41 := q5.heap (kd2.heap l21) (fun hh => by omega)
        refine ⟨l41, fun w42 hw42 => ?_⟩
        have e42 : Ext (fun j => j = lr) w41 w42 := by rw [hw42]; exact Ext.putObj _ _ _
        have s41 : SeenAt w41 r1 m1 (putL al' ks[k] x) := ⟨sd2.o.ext q5 (fun hh => h1.ne hh), q4, h1.ne⟩
        refine ⟨rfl, ⟨((ee21.trans kd2 (fun _ h => h) (fun _ h => h.elim)).trans q5 (fun _ h => h) (fun j hj => .inl (.inl hj))).trans e42 (fun _ h => h) (fun j hj => .inl (.inr hj)), ?_, putL al' ks[k] x, s41.ext e42 (fun hh => by omega) (fun hh => by omega), fun c => ?_⟩, ?_⟩
        · rw [hw42]; exact putObj_new l41
        · rw [look_put, List.take_succ_eq_append_getElem hk]
          by_cases hc : c = ks[k]
          · subst hc
            rw [if_pos rfl, if_pos (List.mem_append_right _ (List.mem_singleton.2 rfl)), hx]
            unfold joinL
            dsimp only
            rw [if_pos (by rw [← hlk]; exact hlt)]
          · rw [if_neg hc, g4]
            have : (c ∈ ks.take k ++ [ks[k]]) ↔ c ∈ ks.take k := by rw [List.mem_append, List.mem_singleton]; exact ⟨fun h => h.elim id (fun h => absurd h hc), .inl⟩
            simp only [this]
        · exact ((x21.trans kd2 (fun _ h => h) (fun _ h => h.elim)).trans q5 (fun _ h => h) (fun j hj => .inl (by omega))).trans e42 (fun _ h => h) (fun j hj => .inl (by omega))
      have no : ¬ ((lookL al' ks[k]).getD z3).1 < x.1 → (World.heap (World.drew w21))[lr]? = some (.loop (rc .busy none)) ∧ ∀ w43 : World, w43 = World.putObj (World.drew w21) lr (.loop (rc .ready none)) → (Ending.returned (Value.bool true) = .returned (.bool true) ∧ J ks (k + 1) w43 ∧ Ext (fun j => j < w11.heap.size ∨ n1 ≤ j) w1 w43) := by
        intro hlt
        refine ⟨kd.heap l21, fun w42 hw42 => ?_⟩
        have e42 : Ext (fun j => j = lr) (World.drew w21) w42 := by rw [hw42]; exact Ext.putObj _ _ _
        refine ⟨rfl, ⟨(ee21.trans kd (fun _ h => h) (fun _ h => h.elim)).trans e42 (fun _ h => h) (fun j hj => .inl (.inr hj)), ?_, al', sd.ext e42 (fun hh => by omega) (fun hh => by omega), fun c => ?_⟩, ?_⟩
        · rw [hw42]; exact putObj_new (kd.heap l21)
        · rw [g4, List.take_succ_eq_append_getElem hk]
          by_cases hc : c = ks[k]
          · subst hc
            rw [if_neg hnk, if_pos (List.mem_append_right _ (List.mem_singleton.2 rfl)), hx]
            unfold joinL
            dsimp only
            rw [if_neg (by rw [← hlk]; exact hlt)]
          · have : (c ∈ ks.take k ++ [ks[k]]) ↔ c ∈ ks.take k := by rw [List.mem_append, List.mem_singleton]; exact ⟨fun h => h.elim id (fun h => absurd h hc), .inl⟩
            simp only [this]
        · exact (x21.trans kd (fun _ h => h) (fun _ h => h.elim)).trans e42 (fun _ h => h) (fun j hj => .inl (by omega))
      refine ⟨_, (o21.keep kd).cell 0 (by simp [l3C]), _, (b21.keep kd).cell 0 (by simp), needSome_mk rfl ⟨_, sd.o.cell 0 (by simp), es, hes, ?_⟩⟩
      cases hq : lookL al' ks[k] with
      | none =>
        rw [hq] at hg yes no
        exact .inl ⟨hg, BIf_dec (fun h => yes h) (fun h => no h)⟩
      | some y =>
        rw [hq] at hg yes no
        exact .inr ⟨y.1, y.2.1, y.2.2, hg, BIf_dec (fun h => yes h) (fun h => no h)⟩)
  refine hC.mono ?_
  rintro e w62 ⟨rfl, _, ks, hp, hri, g1, g2, al', g3, g4⟩
  refine ⟨⟨_, rfl⟩, g2, fun w63 hw63 => ?_⟩
  have e63 : Ext (fun j => j = lr) w62 w63 := by rw [hw63]; exact Ext.putObj _ _ _
  have d63 := e63.heap (g1.heap N.d (fun hh => by omega)) (fun hh => by omega)
  refine ⟨d63, fun w64 hw64 => ?_⟩
  have e64 : Ext (fun j => j = D) w63 w64 := by rw [hw64]; exact Ext.putObj _ _ _
  refine ⟨rfl, al', (g3.ext e63 (fun hh => by omega) (fun hh => by omega)).ext e64 (fun hh => by omega) (fun hh => by omega), fun c => ?_, ?_⟩
  · rw [g4, List.take_length]
    split
    · rfl
    · rename_i hc
      have : lookL al2 c = none := look_none.2 (fun hh => hc (hp.mem_iff.2 hh))
      rw [this]; rfl
  · exact ((Ext.trans k11 g1 (M := fun k => k = m1) (fun _ h => h.elim) (fun j hj => hj.elim .inl (fun h => .inr (by omega)))).trans e63 (fun _ h => h) (fun j hj => .inr (by omega))).trans e64 (fun _ h => h) (fun j hj => .inr (by omega))
end Go.D

set_option linter.unusedVariables false
set_option linter.unusedSimpArgs false
set_option maxRecDepth 8000
namespace Go.D
open Go Go.Proofs

/-! ### two of them -/
def WfD (al : List (Int × L3)) : Prop := ∀ k x, lookL al k = some x → (1 ≤ k ∧ k ≤ 4) ∧ (1 ≤ x.1 ∧ x.1 ≤ 1073741824) ∧ (x.2.1 = 1 ∨ x.2.1 = 2) ∧ (0 ≤ x.2.2 ∧ x.2.2 ≤ 4095)
theorem WfD.len {al : List (Int × L3)} (h : WfD al) (hn : (al.map (·.1)).Nodup) : al.length ≤ 4 := by
  have := nodup_len (a := al.map (·.1)) (b := [1, 2, 3, 4]) hn (fun x hx => by
    have h1 := look_isSome.2 hx
    obtain ⟨y, hy⟩ := Option.isSome_iff_exists.1 h1
    have := (h x y hy).1
    have : x = 1 ∨ x = 2 ∨ x = 3 ∨ x = 4 := by omega
    simpa using this)
  simpa using this
theorem WfD.nil : WfD [] := fun k x h => by simp [lookL] at h
theorem WfD.note {al : List (Int × L3)} (h : WfD al) (c seq code at' : Int) : WfD (noteV al c seq code at').2 := by
  unfold noteV
  split
  · exact h
  · rename_i hr
    have hr : rightD c seq code at' = true := by simpa using hr
    split
    · intro k x hk
      rw [look_put] at hk
      split at hk
      · rename_i hkc; subst hkc
        cases hk
        unfold rightD at hr
        have := of_decide_eq_true hr
        dsimp only
        omega
      · exact h k x hk
    · exact h
theorem WfD.join {a b d : List (Int × L3)} (ha : WfD a) (hb : WfD b) (hd : ∀ c, lookL d c = joinL (lookL a c) (lookL b c)) : WfD d := by
  intro k x hk
  rw [hd] at hk
  unfold joinL at hk
  cases hq : lookL b k with
  | none => rw [hq] at hk; exact ha k x hk
  | some l =>
    rw [hq] at hk
    dsimp only at hk
    split at hk
    · cases hk; exact hb k _ hq
    · exact ha k x hk
theorem note_rises {al : List (Int × L3)} (h : WfD al) (c seq code at' k : Int) : (lastV al k).1 ≤ (lastV (noteV al c seq code at').2 k).1 := by
  unfold noteV
  split
  · exact Int.le_refl _
  · rename_i hr
    have hr : rightD c seq code at' = true := by simpa using hr
    have hr := of_decide_eq_true hr
    split
    · rename_i hf
      unfold lastV
      rw [look_put]
      split
      · rename_i hk; subst hk
        unfold askV at hf
        cases hq : lookL al k with
        | none => show (0 : Int) ≤ seq; omega
        | some x =>
          rw [hq] at hf
          dsimp only at hf
          split at hf
          · show x.1 ≤ seq; omega
          · split at hf <;> simp at hf
      · exact Int.le_refl _
    · exact Int.le_refl _
theorem join_rises (a b : Option L3) : (a.getD z3).1 ≤ ((joinL a b).getD z3).1 := by
  unfold joinL
  cases b with
  | none => exact Int.le_refl _
  | some l => dsimp only; split
              · rename_i h; show _ ≤ l.1; omega
              · exact Int.le_refl _
theorem join_same {a b : Option L3} (ha : ∀ x, a = some x → 1 ≤ x.1) (hb : ∀ x, b = some x → 1 ≤ x.1) : ((joinL a b).getD z3).1 = ((joinL b a).getD z3).1 := by
  unfold joinL
  cases a with
  | none =>
    cases b with
    | none => rfl
    | some y =>
      have := hb y rfl
      dsimp only [Option.getD]
      rw [if_pos (by show (0 : Int) < y.1; omega)]
  | some x =>
    have := ha x rfl
    cases b with
    | none =>
      dsimp only [Option.getD]
      rw [if_pos (by show (0 : Int) < x.1; omega)]
    | some y =>
      dsimp only [Option.getD]
      by_cases h1 : x.1 < y.1
      · rw [if_pos h1, if_neg (by omega)]
      · rw [if_neg h1]
        by_cases h2 : y.1 < x.1
        · rw [if_pos h2]
        · rw [if_neg h2]; dsimp only; omega

theorem SeenAt.ne2 {w : World} {r m r' m' : Nat} {a a' : List (Int × L3)} (h : SeenAt w r m a) (h' : SeenAt w r' m' a') : r ≠ m' := by
  rintro rfl
  obtain ⟨T, f, h1, _⟩ := h.o
  obtain ⟨es, ck, h2, _⟩ := h'.mp.at'
  rw [h1] at h2; cases h2
structure DSt (w0 w : World) (r11 : Nat) (rr mm : Bool → Nat) (aa : Bool → List (Int × L3)) : Prop where
  k : Keep w0 w
  s : ∀ b, SeenAt w (rr b) (mm b) (aa b)
  o : ObjAt w r11 [ptrR' (rr false), ptrR' (rr true)]
  wf : ∀ b, WfD (aa b)
  nm : mm false ≠ mm true
  ge : ∀ b, w0.heap.size ≤ rr b ∧ w0.heap.size ≤ mm b
  g : w0.heap.size ≤ r11
section
variable {w0 w w' : World} {r11 : Nat} {rr mm : Bool → Nat} {aa : Bool → List (Int × L3)}
theorem DSt.ext {M : Nat → Prop} (h : DSt w0 w r11 rr mm aa) (he : Ext M w w') (hm : ∀ j, M j → w0.heap.size ≤ j ∧ j ≠ r11 ∧ ∀ b, j ≠ rr b ∧ j ≠ mm b) : DSt w0 w' r11 rr mm aa :=
  ⟨h.k.ext he (fun j hj => (hm j hj).1), fun b => (h.s b).ext he (fun hh => ((hm _ hh).2.2 b).1 rfl) (fun hh => ((hm _ hh).2.2 b).2 rfl), h.o.ext he (fun hh => (hm _ hh).2.1 rfl), h.wf, h.nm, h.ge, h.g⟩
theorem DSt.keep (h : DSt w0 w r11 rr mm aa) (he : Keep w w') : DSt w0 w' r11 rr mm aa := h.ext he (fun _ h => h.elim)
theorem DSt.lt (h : DSt w0 w r11 rr mm aa) : r11 < w.heap.size ∧ ∀ b, rr b < w.heap.size ∧ mm b < w.heap.size := ⟨h.o.lt, fun b => ⟨(h.s b).o.lt, (h.s b).mp.lt⟩⟩
theorem DSt.mne (h : DSt w0 w r11 rr mm aa) {a b : Bool} (hab : a ≠ b) : mm a ≠ mm b := by
  have := h.nm
  cases a <;> cases b <;> first | exact absurd rfl hab | exact this | exact fun e => this e.symm
theorem DSt.onm (h : DSt w0 w r11 rr mm aa) (b : Bool) : r11 ≠ mm b := by
  intro e
  obtain ⟨T, f, h1, _⟩ := h.o
  obtain ⟨es, ck, h2, _⟩ := (h.s b).mp.at'
  rw [e, h2] at h1; cases h1
theorem DSt.upd (h : DSt w0 w r11 rr mm aa) (b : Bool) {al' : List (Int × L3)} (hs : SeenAt w' (rr b) (mm b) al') (he : Ext (fun j => j = mm b) w w') (hwf : WfD al') : DSt w0 w' r11 rr mm (fun b' => if b' = b then al' else aa b') := by
  refine ⟨h.k.ext he (fun j hj => by rw [show j = mm b from hj]; exact (h.ge b).2), fun b' => ?_, h.o.ext he (fun hh => h.onm b hh), fun b' => ?_, h.nm, h.ge, h.g⟩
  · by_cases hb : b' = b
    · subst hb; rw [if_pos rfl]; exact hs
    · rw [if_neg hb]
      exact (h.s b').ext he (fun hh => (h.s b').ne2 (h.s b) hh) (fun hh => h.mne hb hh)
  · by_cases hb : b' = b
    · subst hb; rw [if_pos rfl]; exact hwf
    · rw [if_neg hb]; exact h.wf b'
end
def ixB (b : Bool) : Int := if b then 1 else 0
theorem ixB_cell {w : World} {r : Nat} {x y : Value} (h : ObjAt w r [x, y]) (b : Bool) : w.cell? (Addr.add (⟨r, 0, none⟩ : Addr) ((Int.toNat (ixB b)) * 1)) = some (if b then y else x) := by
  cases b
  · have := h.cell 0 (by simp)
    rw [add_lit]; exact this
  · have := h.cell 1 (by simp)
    rw [add_lit]; exact this
theorem ixB_cell' {w : World} {r : Nat} {f : Bool → Nat} (h : ObjAt w r [ptrR' (f false), ptrR' (f true)]) (b : Bool) : w.cell? (Addr.add (⟨r, 0, none⟩ : Addr) ((Int.toNat (ixB b)) * 1)) = some (ptrR' (f b)) := by
  rw [ixB_cell h b]; cases b <;> rfl

theorem alive22_spec (A : Nat → Addr) {n0 : Nat} (w : World) (hE : ErrsG ddG A n0 w) : Calls Tryd.prog fn_tidewaterlaw22_alive ⟨[]⟩ w fun e w' => e = .returned (.bool true) ∧ Keep w w' := by
  refine tidewaterlaw22_alive_ok ?_
  unfold tidewaterlaw22_alive
  refine (New_spec22 w).mono ?_
  rintro e w2 ⟨r, m, rfl, hs, k2, hr, hm⟩
  refine ⟨_, rfl, fun w3 => Keep w w3 ∧ SeenAt w3 r m [(1, (5, 1, 0))], BIf_mk (fun hh => by cases hh) (fun _ => ?_), ?_⟩
  · refine (Note_spec22 A hs 1 5 1 0 (hE.keep k2)).mono ?_
    rintro e w6 ⟨rfl, g1, g2⟩
    have e1 : noteV [] 1 5 1 0 = (none, [(1, (5, 1, 0))]) := by decide
    rw [e1] at g1 ⊢
    exact ⟨_, rfl, trivial, BIf_mk (fun hh => by cases hh) (fun _ => ⟨k2.ext g2 (fun j hj => by rw [show j = m from hj]; exact hm), g1⟩)⟩
  · rintro w8 ⟨k8, h8⟩
    intros
    refine (Ask_spec22 h8 1 4).mono ?_
    rintro e w19 ⟨rfl, k19⟩
    refine ⟨_, _, _, rfl, var_mk (cs := [_, _]) rfl rfl (fun r23 w25 hr23 o23 k25 hs25 => ?_)⟩
    refine (Ask_spec22 ((h8.keep k19).keep k25) 1 5).mono ?_
    rintro e w27 ⟨rfl, k27⟩
    refine ⟨_, _, _, rfl, var_mk (cs := [_, _]) rfl rfl (fun r31 w33 hr31 o31 k33 hs33 => ?_)⟩
    have e1 : (askV [(1, (5, 1, 0))] 1 4).2 = 3 := by decide
    have e2 : (askV [(1, (5, 1, 0))] 1 5).2 = 2 := by decide
    rw [e1, e2]
    exact BIf_dec (fun _ => ⟨rfl, (((k8.trans k19).trans k25).trans k27).trans k33⟩) (fun hh => (hh rfl).elim)

/-- An act. -/
abbrev Act22 := Bool × Int × Int × (Int × Int) × Bool
def actC (a : Act22) : List Value := [.bool a.1, .int .i64 a.2.1, .int .i64 a.2.2.1, .int .i64 a.2.2.2.1.1, .int .i64 a.2.2.2.1.2, .bool a.2.2.2.2]
structure ActsAt (w : World) (s : Slc) (l : List Act22) : Prop where
  len : s.l = l.length
  row : ∀ i (h : i < l.length), ∃ a, s.p = some a ∧ rowAt w (a.add (i * 6)) 0 (actC l[i])
theorem ActsAt.keep {w w' : World} {s : Slc} {l : List Act22} (h : ActsAt w s l) (k : Keep w w') : ActsAt w' s l := ⟨h.len, fun i hi => let ⟨a, ha, hr⟩ := h.row i hi; ⟨a, ha, rowAt_keep hr k⟩⟩

/-- The numbers of the clients 0 to 4, the first k of them laid. -/
def wasC (al : List (Int × L3)) (k : Nat) : List Value := (List.range 5).map fun (c : Nat) => .int .i64 (if c < k then (lastV al (c : Int)).1 else 0)
theorem wasC_zero (al : List (Int × L3)) : wasC al 0 = [.int .i64 0, .int .i64 0, .int .i64 0, .int .i64 0, .int .i64 0] := rfl
theorem wasC_get (al : List (Int × L3)) (k c : Nat) (hc : c < (wasC al k).length) : (wasC al k)[c] = .int .i64 (if c < k then (lastV al (c : Int)).1 else 0) := by simp [wasC]
theorem wasC_len (al : List (Int × L3)) (k : Nat) : (wasC al k).length = 5 := by simp [wasC]
theorem wasC_set (al : List (Int × L3)) (k : Nat) (hk : k < 5) : (wasC al k).set k (.int .i64 (lastV al (k : Int)).1) = wasC al (k + 1) := by
  refine List.ext_getElem (by simp [wasC]) (fun i h1 h2 => ?_)
  rw [wasC_get, List.getElem_set]
  split
  · rename_i h; subst h; rw [if_pos (by omega)]
  · rename_i h
    rw [wasC_get]
    have : i < k ↔ i < k + 1 := by omega
    simp only [this]

theorem DedupRises_walk (A : Nat → Addr) (sl : Slc) (l : List Act22) (w : World) (hl : ActsAt w sl l) (hE0 : ErrsOn tyErr ddG A w) :
    Calls Tryd.prog fn_tidewaterlaw22_DedupRises ⟨[sl.v]⟩ w fun e w' => e = .returned (.bool true) ∧ Keep w w' := by
  have hE := hE0.g
  have hll := hl.len
  refine tidewaterlaw22_DedupRises_ok _ ?_
  unfold tidewaterlaw22_DedupRises
  refine (alive22_spec A w hE).mono ?_
  rintro e w3 ⟨rfl, k3⟩
  refine ⟨_, rfl, BIf_mk (fun hh => by cases hh) (fun _ => BIf_dec (fun _ => ⟨rfl, k3⟩) (fun h60 => ?_))⟩
  refine (New_spec22 w3).mono ?_
  rintro e w6 ⟨r0, m0, rfl, s0, k6, hr0, hm0⟩
  refine ⟨_, rfl, (New_spec22 w6).mono ?_⟩
  rintro e w9 ⟨r1, m1, rfl, s1, k9, hr1, hm1⟩
  refine ⟨_, rfl, var_mk (cs := [ptrR' r0, ptrR' r1]) rfl rfl (fun r11 w13 hr11 o11 k13 hs13 => ?_)⟩
  have z3 := k3.size
  have z6 := k6.size
  have z9 := k9.size
  have hm0l := s0.mp.lt
  let rr : Bool → Nat := fun b => if b then r1 else r0
  let mm : Bool → Nat := fun b => if b then m1 else m0
  have D0 : DSt w w13 r11 rr mm (fun _ => []) := by
    refine ⟨((k3.trans k6).trans k9).trans k13, fun b => ?_, o11, fun b => WfD.nil, ?_, fun b => ?_, by omega⟩
    · cases b
      · exact (s0.keep k9).keep k13
      · exact s1.keep k13
    · show m0 ≠ m1; omega
    · cases b
      · show w.heap.size ≤ r0 ∧ w.heap.size ≤ m0; omega
      · show w.heap.size ≤ r1 ∧ w.heap.size ≤ m1; omega
  clear_value rr mm
  refine ⟨fun i w2 => ∃ (k : Nat) (aa : Bool → List (Int × L3)), i = k ∧ k ≤ l.length ∧ DSt w w2 r11 rr mm aa, fun i _ => ((l.length : Int) - i).toNat, ⟨0, _, rfl, by omega, D0⟩, ?_⟩
  rintro i w17 ⟨k, aa, rfl, hk, D17⟩
  intros
  refine BIf_dec (fun hlt => ?_) (fun hge => ?_)
  · have hkl : k < l.length := by omega
    obtain ⟨a, ha, hrow⟩ := (hl.keep D17.k).row k hkl
    generalize hact : l[k] = act at hrow
    obtain ⟨wh, cl, sq, ⟨cd, at'⟩, jn⟩ := act
    refine needSome_mk ha ⟨by omega, hlt, _, _, _, _, _, _, by rw [Int.toNat_natCast]; exact hrow, ?_⟩
    refine var_mk (cs := actC (wh, cl, sq, (cd, at'), jn)) rfl rfl (fun r95 w97 hr95 o95 k97 hs97 => ?_)
    have D97 := D17.keep k97
    refine ⟨fun i w2 => i = ixB wh ∧ w2 = w97, ⟨_, o95.cell 0 (by simp [actC]), BIf_mk (fun h => ⟨by rw [show wh = true from h]; rfl, rfl⟩) (fun h => ⟨by rw [show wh = false from h]; rfl, rfl⟩)⟩, ?_⟩
    rintro i100 w101 ⟨rfl, rfl⟩
    intros
    refine var_mk (cs := wasC (aa wh) 0) rfl (wasC_len _ _) (fun r104 w106 hr104 o104 k106 hs106 => ?_)
    have D106 := D97.keep k106
    have o95' := o95.keep k106
    have lt97 := D97.lt
    have lt17 := D17.lt
    have z97 := k97.size
    have z17 := D17.k.size
    have sep104 : ∀ j, j = r104 → w.heap.size ≤ j ∧ j ≠ r11 ∧ ∀ b, j ≠ rr b ∧ j ≠ mm b := by
      rintro j rfl
      refine ⟨by omega, by have := lt97.1; omega, fun b => ⟨by have := (lt97.2 b).1; omega, by have := (lt97.2 b).2; omega⟩⟩
    have hix : 0 ≤ ixB wh ∧ ixB wh < ((2 : Nat) : Int) := by unfold ixB; split <;> omega
    refine ⟨fun i w2 => ∃ q : Nat, i = q ∧ q ≤ 5 ∧ DSt w w2 r11 rr mm aa ∧ ObjAt w2 r95 (actC (wh, cl, sq, (cd, at'), jn)) ∧ ObjAt w2 r104 (wasC (aa wh) q), fun i _ => (5 - i).toNat, ⟨0, rfl, by omega, D106, o95', o104⟩, ?_⟩
    rintro i109 w110 ⟨q, rfl, hq, D110, o95b, o104b⟩
    intros
    refine BIf_dec (fun hlt5 => ?_) (fun hge5 => ?_)
    · refine ⟨hix.1, hix.2, _, ixB_cell' D110.o wh, (Last_spec22 (D110.s wh) q).mono ?_⟩
      rintro e w128 ⟨rfl, k128⟩
      obtain ⟨cw, g⟩ := (o104b.keep k128).setOne q (by rw [wasC_len]; omega) (.int .i64 (lastV (aa wh) (q : Int)).1)
      have ea : (Addr.add (⟨r104, 0, none⟩ : Addr) ((Int.toNat (q : Int)) * 1)) = ⟨r104, q, none⟩ := by rw [add_lit]; simp
      refine ⟨_, _, _, _, rfl, by omega, by omega, by rw [ea]; exact cw, fun w133 h133 => ?_⟩
      obtain ⟨g1, g2, _⟩ := g w133 (by rw [h133, ea])
      rw [wasC_set _ _ (by omega)] at g1
      exact ⟨inR64 (by omega), ⟨q + 1, rfl, by omega, (D110.keep k128).ext g2 sep104, (o95b.keep k128).ext g2 (fun hh => by omega), g1⟩, by dsimp only; omega⟩
    have hq5 : q = 5 := by omega
    subst hq5
    have kd : Keep w110 (World.drew w110) := Keep.drew (Ext.refl _ _)
    have Dd := D110.keep kd
    have o95d := o95b.keep kd
    have o104d := o104b.keep kd
    refine ⟨fun w2 => ∃ aa' : Bool → List (Int × L3), DSt w w2 r11 rr mm aa' ∧ (∀ c, (lastV (aa wh) c).1 ≤ (lastV (aa' wh) c).1) ∧ ObjAt w2 r104 (wasC (aa wh) 5), ⟨_, o95b.cell 5 (by simp [actC]), BIf_mk (fun hj => ?_) (fun hj => ?_)⟩, ?_⟩
    · have e1 : (1 : Int) - ixB wh = ixB (!wh) := by cases wh <;> rfl
      rw [e1]
      have hix2 : 0 ≤ ixB (!wh) ∧ ixB (!wh) < ((2 : Nat) : Int) := by unfold ixB; split <;> omega
      refine ⟨hix.1, hix.2, _, ixB_cell' Dd.o wh, inR64 (by omega), hix2.1, hix2.2, _, ixB_cell' Dd.o (!wh), (Copy_spec22 (Dd.s (!wh))).mono ?_⟩
      rintro e w139 ⟨r', m', rfl, s', k139, hr', hm'⟩
      have D139 := Dd.keep k139
      have ltd := Dd.lt
      refine ⟨_, rfl, ⟨_, ixB_cell' D139.o wh, rfl⟩, (Join_spec22 (D139.s wh) s' (by have := (ltd.2 wh).2; omega) (by have := (ltd.2 wh).2; omega) (by have := (Dd.wf (!wh)).len (Dd.s (!wh)).mp.nd; omega)).mono ?_⟩
      rintro e w143 ⟨rfl, al', g1, g2, g3⟩
      refine ⟨rfl, _, D139.upd wh g1 g3 ((D139.wf wh).join (D139.wf (!wh)) g2), fun c => ?_, (o104d.keep k139).ext g3 (fun hh => ((sep104 _ rfl).2.2 wh).2 hh)⟩
      rw [if_pos rfl]
      unfold lastV
      rw [g2]
      exact join_rises _ _
    · refine ⟨hix.1, hix.2, _, ixB_cell' Dd.o wh, _, o95d.cell 1 (by simp [actC]), _, o95d.cell 2 (by simp [actC]), cd, at', o95d.rowO 3 [.int .i64 cd, .int .i64 at'] (fun j hj => by
        have : j < 2 := hj
        match j, this with
        | 0, _ => rfl
        | 1, _ => rfl), ?_⟩
      refine (Note_spec22 A (Dd.s wh) cl sq cd at' (hE.keep Dd.k)).mono ?_
      rintro e w150 ⟨rfl, g1, g2⟩
      refine ⟨_, rfl, _, Dd.upd wh g1 g2 ((Dd.wf wh).note _ _ _ _), fun c => ?_, o104d.ext g2 (fun hh => ((sep104 _ rfl).2.2 wh).2 hh)⟩
      rw [if_pos rfl]
      exact note_rises (Dd.wf wh) _ _ _ _ _
    · rintro w152 ⟨aa', D152, hrise, o104c⟩
      intros
      refine ⟨fun i w2 => ∃ q : Nat, i = q ∧ q ≤ 5 ∧ DSt w w2 r11 rr mm aa' ∧ ObjAt w2 r104 (wasC (aa wh) 5), fun i _ => (5 - i).toNat, ⟨0, rfl, by omega, D152, o104c⟩, ?_⟩
      rintro i176 w177 ⟨q, rfl, hq, D177, o104e⟩
      intros
      refine BIf_dec (fun hlt5 => ?_) (fun hge5 => ⟨inR64 (by omega), ⟨k + 1, aa', rfl, hkl, D177⟩, by dsimp only; omega⟩)
      refine ⟨hix.1, hix.2, _, ixB_cell' D177.o wh, (Last_spec22 (D177.s wh) q).mono ?_⟩
      rintro e w202 ⟨rfl, k202⟩
      refine ⟨_, _, _, _, rfl, var_mk (cs := [_, _]) rfl rfl (fun r207 w209 hr207 o207 k209 hs209 => ?_)⟩
      have D209 := (D177.keep k202).keep k209
      have o104f := (o104e.keep k202).keep k209
      have hc := o104f.cell q (by rw [wasC_len]; omega)
      rw [wasC_get, if_pos (by omega)] at hc
      have ea : (Addr.add (⟨r104, 0, none⟩ : Addr) ((Int.toNat (q : Int)) * 1)) = ⟨r104, q, none⟩ := by rw [add_lit]; simp
      refine ⟨by omega, by omega, _, by rw [ea]; exact hc, BIf_dec (fun h => ?_) (fun _ => ⟨inR64 (by omega), ⟨q + 1, rfl, by omega, D209, o104f⟩, by dsimp only; omega⟩)⟩
      exfalso
      have := hrise q
      omega
  · -- the two, joined with each other
    have kd : Keep w17 (World.drew w17) := Keep.drew (Ext.refl _ _)
    have Dd := D17.keep kd
    have c0 : ∀ {w2 : World}, DSt w w2 r11 rr mm aa → w2.cell? ⟨r11, 0, none⟩ = some (ptrR' (rr false)) := fun h => h.o.cell 0 (by simp)
    have c1 : ∀ {w2 : World}, DSt w w2 r11 rr mm aa → w2.cell? ⟨r11, 1, none⟩ = some (ptrR' (rr true)) := fun h => h.o.cell 1 (by simp)
    refine ⟨by omega, by omega, _, c0 Dd, by omega, by omega, _, c1 Dd, (Copy_spec22 (Dd.s false)).mono ?_⟩
    rintro e w214 ⟨rx, mx, rfl, sx, k214, hrx, hmx⟩
    have D214 := Dd.keep k214
    refine ⟨_, rfl, ⟨_, c1 D214, rfl⟩, (Copy_spec22 (D214.s true)).mono ?_⟩
    rintro e w218 ⟨ry, my, rfl, sy, k218, hry, hmy⟩
    have D218 := D214.keep k218
    have sx218 := sx.keep k218
    have ltd := Dd.lt
    have lt214 := D214.lt
    have hmxl := sx.mp.lt
    have hrxl := sx.o.lt
    have zw := Dd.k.size
    have z214 := k214.size
    have sepx : ∀ j, j = mx → w.heap.size ≤ j ∧ j ≠ r11 ∧ ∀ b, j ≠ rr b ∧ j ≠ mm b := by
      rintro j rfl
      refine ⟨by omega, by have := ltd.1; omega, fun b => ⟨by have := (ltd.2 b).1; omega, by have := (ltd.2 b).2; omega⟩⟩
    have sepy : ∀ j, j = my → w.heap.size ≤ j ∧ j ≠ r11 ∧ ∀ b, j ≠ rr b ∧ j ≠ mm b := by
      rintro j rfl
      refine ⟨by omega, by have := lt214.1; omega, fun b => ⟨by have := (lt214.2 b).1; omega, by have := (lt214.2 b).2; omega⟩⟩
    refine ⟨_, rfl, by omega, by omega, _, c1 D218, (Join_spec22 sx218 (D218.s true) (fun hh => ((sepx _ rfl).2.2 true).2 hh) (fun hh => ((sepx _ rfl).2.2 true).1 hh.symm) (by have := (D218.wf true).len (D218.s true).mp.nd; omega)).mono ?_⟩
    rintro e w222 ⟨rfl, ax, gx1, gx2, gx3⟩
    have D222 := D218.ext gx3 sepx
    have sy222 := sy.ext gx3 (fun hh => by omega) (fun hh => by omega)
    refine ⟨rfl, by omega, by omega, _, c0 D222, (Join_spec22 sy222 (D222.s false) (fun hh => ((sepy _ rfl).2.2 false).2 hh) (fun hh => ((sepy _ rfl).2.2 false).1 hh.symm) (by have := (D222.wf false).len (D222.s false).mp.nd; omega)).mono ?_⟩
    rintro e w225 ⟨rfl, ay, gy1, gy2, gy3⟩
    have D225 := D222.ext gy3 sepy
    have sx225 := gx1.ext gy3 (fun hh => by omega) (fun hh => by omega)
    refine ⟨rfl, fun c w2 => ∃ q : Nat, c = q ∧ 1 ≤ q ∧ q ≤ 5 ∧ Keep w225 w2, fun c _ => (5 - c).toNat, ⟨1, rfl, by omega, by omega, Ext.refl _ _⟩, ?_⟩
    rintro c w229 ⟨q, rfl, hq1, hq5, k229⟩
    intros
    refine BIf_dec (fun hlt5 => ?_) (fun hge5 => ⟨rfl, D225.k.trans k229⟩)
    refine (Last_spec22 (sx225.keep k229) q).mono ?_
    rintro e w259 ⟨rfl, k259⟩
    refine ⟨_, _, _, _, rfl, var_mk (cs := [_, _]) rfl rfl (fun r264 w266 hr264 o264 k266 hs266 => ?_)⟩
    refine (Last_spec22 (((gy1.keep k229).keep k259).keep k266) q).mono ?_
    rintro e w268 ⟨rfl, k268⟩
    refine ⟨_, _, _, _, rfl, var_mk (cs := [_, _]) rfl rfl (fun r273 w275 hr273 o273 k275 hs275 => ?_)⟩
    have e1 : (lastV ax (q : Int)).1 = (lastV ay (q : Int)).1 := by
      unfold lastV
      rw [gx2, gy2]
      exact join_same (fun x hx => (D17.wf false _ x hx).2.1.1) (fun x hx => (D17.wf true _ x hx).2.1.1)
    exact BIf_ndec (fun hh => (hh e1).elim) (fun _ => ⟨inR64 (by omega), ⟨q + 1, rfl, by omega, by omega, (((k229.trans k259).trans k266).trans k268).trans k275⟩, by dsimp only; omega⟩)

abbrev rdAct22 : Rd Act22 := Rd.pair Rd.bool (Rd.pair (Rd.int .i64) (Rd.pair (Rd.int .i64) (Rd.pair (Rd.pair (Rd.int .i64) (Rd.int .i64)) Rd.bool)))
theorem acts_of {w : World} {s : Slc} {xs : List Act22} (h : rowsR rdAct22 w s xs) : ActsAt w s xs := by
  obtain ⟨h1, h2, _, h3⟩ := h
  refine ⟨h1, fun i hi => ?_⟩
  obtain ⟨a, cs, ha, ⟨_, _, hcs, rfl, ⟨_, _, rfl, ⟨rfl, _⟩, ⟨_, _, rfl, ⟨rfl, _⟩, ⟨_, _, rfl, ⟨_, _, rfl, ⟨rfl, _⟩, ⟨rfl, _⟩⟩, rfl⟩⟩⟩⟩, hrow⟩ := h3 i hi
  subst hcs
  exact ⟨a, ha, hrow⟩
theorem DedupRises_fin (sl : Slc) (l : List Act22) (w : World) (hl : rowsR rdAct22 w sl l) (A : Nat → Addr) (hE0 : ErrsOn tyErr ddG A w) :
    Calls Tryd.prog fn_tidewaterlaw22_DedupRises ⟨[sl.v]⟩ w fun e w' => e = .returned (.bool true) ∧ Keep w w' := DedupRises_walk A sl l w (acts_of hl) hE0
end Go.D

set_option linter.unusedVariables false
set_option linter.unusedSimpArgs false
set_option maxRecDepth 8000
namespace Go.D
open Go Go.Proofs

/-! ### the document's -/
def refC (f : Int → L3) : List Value := [.int .i64 (f 0).1, .int .i64 (f 1).1, .int .i64 (f 2).1, .int .i64 (f 3).1, .int .i64 (f 4).1,
  .int .i64 (f 0).2.1, .int .i64 (f 0).2.2, .int .i64 (f 1).2.1, .int .i64 (f 1).2.2, .int .i64 (f 2).2.1, .int .i64 (f 2).2.2, .int .i64 (f 3).2.1, .int .i64 (f 3).2.2, .int .i64 (f 4).2.1, .int .i64 (f 4).2.2]
def updF (f : Int → L3) (c : Int) (x : L3) : Int → L3 := fun k => if k = c then x else f k
theorem refC_seq (f : Int → L3) (c : Nat) (h : c < 5) : (refC f)[c]? = some (.int .i64 (f c).1) := by
  match c, h with
  | 0, _ => rfl
  | 1, _ => rfl
  | 2, _ => rfl
  | 3, _ => rfl
  | 4, _ => rfl
theorem refC_code (f : Int → L3) (c : Nat) (h : c < 5) : (refC f)[5 + c * 2]? = some (.int .i64 (f c).2.1) ∧ (refC f)[5 + c * 2 + 1]? = some (.int .i64 (f c).2.2) := by
  match c, h with
  | 0, _ => exact ⟨rfl, rfl⟩
  | 1, _ => exact ⟨rfl, rfl⟩
  | 2, _ => exact ⟨rfl, rfl⟩
  | 3, _ => exact ⟨rfl, rfl⟩
  | 4, _ => exact ⟨rfl, rfl⟩
theorem refC_set (f : Int → L3) (c : Nat) (h : c < 5) (x : L3) : setFrom ((refC f).set c (.int .i64 x.1)) (5 + c * 2) [.int .i64 x.2.1, .int .i64 x.2.2] = refC (updF f c x) := by
  match c, h with
  | 0, _ => rfl
  | 1, _ => rfl
  | 2, _ => rfl
  | 3, _ => rfl
  | 4, _ => rfl
theorem refC_congr {f g : Int → L3} (h : ∀ c : Nat, c < 5 → f c = g c) : refC f = refC g := by
  have h0 := h 0 (by omega)
  have h1 := h 1 (by omega)
  have h2 := h 2 (by omega)
  have h3 := h 3 (by omega)
  have h4 := h 4 (by omega)
  unfold refC
  have e0 : f 0 = g 0 := h0
  have e1 : f 1 = g 1 := h1
  have e2 : f 2 = g 2 := h2
  have e3 : f 3 = g 3 := h3
  have e4 : f 4 = g 4 := h4
  rw [e0, e1, e2, e3, e4]
theorem refC_len (f : Int → L3) : (refC f).length = 15 := rfl
section
variable {w : World} {q : Nat} {f : Int → L3}
theorem ref_seq (h : ObjAt w q (refC f)) (c : Nat) (hc : c < 5) : w.cell? (Addr.add (⟨q, 0, none⟩ : Addr) ((Int.toNat (c : Int)) * 1)) = some (.int .i64 (f c).1) := by
  have h1 := h.cell c (by rw [refC_len]; omega)
  have h2 := refC_seq f c hc
  rw [List.getElem?_eq_getElem (by rw [refC_len]; omega)] at h2
  rw [add_lit, show 0 + Int.toNat (c : Int) * 1 = c by omega, h1]
  exact h2
theorem ref_pair (h : ObjAt w q (refC f)) (c : Nat) (hc : c < 5) : rowAt w (Addr.add ((⟨q, 0, none⟩ : Addr).add 5) ((Int.toNat (c : Int)) * 2)) 0 [.int .i64 (f c).2.1, .int .i64 (f c).2.2] := by
  rw [add_lit, add_lit, show 0 + 5 + Int.toNat (c : Int) * 2 = 5 + c * 2 by omega]
  obtain ⟨h1, h2⟩ := refC_code f c hc
  refine h.rowO (5 + c * 2) _ (fun j hj => ?_)
  have : j < 2 := hj
  match j, this with
  | 0, _ => exact h1
  | 1, _ => exact h2
end
/-- Cells in the midst of a block are written. -/
theorem ObjAt.setAt {w : World} {r : Nat} {cs : List Value} (h : ObjAt w r cs) (k : Nat) (vs : List Value) (hk : k + vs.length ≤ cs.length) :
    canW w (⟨r, k, none⟩ : Addr) vs.length ∧ ∀ w2 : World, w2 = setCells w (⟨r, k, none⟩ : Addr) 0 vs → ObjAt w2 r (setFrom cs k vs) ∧ Ext (fun x => x = r) w w2 ∧ w2.heap.size = w.heap.size := by
  obtain ⟨T, f, hb, hf⟩ := h
  refine ⟨canW_of hb hf k _ hk, ?_⟩
  rintro w2 rfl
  have h1 := setCells_heap vs w cs k 0 hb
  rw [Nat.add_zero] at h1
  have hlen : (setFrom cs k vs).length = cs.length := by
    have : cs = cs.take k ++ cs.drop k := (List.take_append_drop k cs).symm
    have h2 := setFrom_mid vs (cs.take k) (cs.drop k) (by rw [List.length_drop]; omega)
    rw [← this, List.length_take, Nat.min_eq_left (by omega)] at h2
    rw [h2]
    simp only [List.length_append, List.length_take, List.length_drop]; omega
  exact ⟨⟨T, f, h1, by rw [hlen]; exact hf⟩, Ext.setCells (M := fun x => x = r) (a := ⟨r, k, none⟩) rfl vs 0 w, setCells_size _ _ _ _⟩

theorem lastV_out {al : List (Int × L3)} (h : WfD al) {c : Int} (hc : ¬ (1 ≤ c ∧ c ≤ 4)) : lookL al c = none := by
  cases hq : lookL al c with
  | none => rfl
  | some x => exact absurd (h c x hq).1 hc
theorem lastV_zero {al : List (Int × L3)} (h : WfD al) {c : Int} : (lastV al c).1 = 0 ↔ lookL al c = none := by
  unfold lastV
  cases hq : lookL al c with
  | none => exact ⟨fun _ => rfl, fun _ => rfl⟩
  | some x =>
    have := (h c x hq).2.1
    refine ⟨fun hh => ?_, fun hh => by cases hh⟩
    have : x.1 = 0 := hh
    omega
theorem refLast_spec {w : World} {q : Nat} {al : List (Int × L3)} (hw : WfD al) (h : ObjAt w q (refC (lastV al))) (c : Int) :
    Calls Tryd.prog fn_tidewaterref22_Seen_last ⟨[ptrR' q, .int .i64 c]⟩ w fun e w' => e = .returned (.int .i64 (lastV al c).1) ∧ w' = w := by
  refine tidewaterref22_Seen_last_ok _ _ ?_
  unfold tidewaterref22_Seen_last
  have out : ¬ (1 ≤ c ∧ c ≤ 4) → (lastV al c).1 = 0 := fun hc => (lastV_zero hw).2 (lastV_out hw hc)
  refine BIf_dec (fun h1 => ⟨by rw [out (by omega)], rfl⟩) (fun h1 => BIf_dec (fun h2 => ⟨by rw [out (by omega)], rfl⟩) (fun h2 => ?_))
  obtain ⟨n, rfl⟩ : ∃ n : Nat, c = n := ⟨c.toNat, by omega⟩
  exact needSome_mk rfl ⟨by omega, by omega, _, ref_seq h n (by omega), rfl, rfl⟩
theorem refAsk_spec {w : World} {q : Nat} {al : List (Int × L3)} (hw : WfD al) (h : ObjAt w q (refC (lastV al))) (c seq : Int) :
    Calls Tryd.prog fn_tidewaterref22_Seen_Ask ⟨[ptrR' q, .int .i64 c, .int .i64 seq]⟩ w fun e w' => e = .returned (.tuple ⟨[.agg ⟨[.int .i64 (askV al c seq).1.1, .int .i64 (askV al c seq).1.2]⟩, .int .i64 (askV al c seq).2]⟩) ∧ Keep w w' := by
  refine tidewaterref22_Seen_Ask_ok _ _ _ ?_
  unfold tidewaterref22_Seen_Ask
  refine newS_mk (fun r4 w5 hr4 hb4 k4 hs4 => ?_)
  have o4 := ObjAt.new' hb4
  refine (refLast_spec hw (h.keep k4) c).mono ?_
  rintro e w7 ⟨rfl, rfl⟩
  have set : ∀ (a b : Int), canW w7 (⟨r4, 0, none⟩ : Addr) 2 ∧ ∀ w26 : World, w26 = setCells w7 (⟨r4, 0, none⟩ : Addr) 0 [.int .i64 a, .int .i64 b] → rowAt w26 (⟨r4, 0, none⟩ : Addr) 0 [.int .i64 a, .int .i64 b] ∧ Keep w w26 := by
    intro a b
    obtain ⟨cw, g⟩ := o4.setAll (n := 2) (cs := [.int .i64 a, .int .i64 b]) rfl rfl
    refine ⟨cw, fun w17 h17 => ?_⟩
    obtain ⟨g1, g2, _⟩ := g w17 h17
    exact ⟨g1.row, k4.step (by omega) g2⟩
  refine ⟨_, rfl, fun w2 => w2 = w7 ∧ ∃ x, lookL al c = some x ∧ ¬ x.1 < seq, ?_, ?_⟩
  · refine BIf_dec (fun h1 => ⟨(set 0 0).1, fun w17 h17 => ⟨_, _, ((set 0 0).2 w17 h17).1, ?_, ((set 0 0).2 w17 h17).2⟩⟩) (fun h1 => BIf_dec (fun h2 => ⟨(set 0 0).1, fun w17 h17 => ⟨_, _, ((set 0 0).2 w17 h17).1, ?_, ((set 0 0).2 w17 h17).2⟩⟩) (fun h2 => ⟨rfl, ?_⟩))
    · unfold askV
      rw [(lastV_zero hw).1 h1]
    · unfold askV
      cases hq : lookL al c with
      | none => exact absurd ((lastV_zero hw).2 hq) h1
      | some x =>
        unfold lastV at h2
        rw [hq] at h2
        have h2 : x.1 < seq := h2
        dsimp only
        rw [if_pos h2]
    · cases hq : lookL al c with
      | none => exact absurd ((lastV_zero hw).2 hq) h1
      | some x =>
        unfold lastV at h2
        rw [hq] at h2
        exact ⟨x, rfl, h2⟩
  · rintro w16 ⟨rfl, x, hx, hns⟩
    intros
    have hlx : lastV al c = x := by unfold lastV; rw [hx]; rfl
    have hc := (hw c x hx).1
    obtain ⟨n, rfl⟩ : ∃ n : Nat, c = n := ⟨c.toNat, by omega⟩
    have hp := ref_pair (h.keep k4) n (by omega)
    have e1 : askV al (n : Int) seq = if seq = x.1 then (x.2, 2) else ((0, 0), 3) := by
      unfold askV; rw [hx]; dsimp only; rw [if_neg hns]
    rw [hlx] at hp ⊢
    rw [e1]
    refine BIf_dec (fun h2 => needSome_mk rfl ⟨by omega, by omega, _, _, hp, (set x.2.1 x.2.2).1, fun w17 h17 => ⟨_, _, ((set _ _).2 w17 h17).1, ?_, ((set _ _).2 w17 h17).2⟩⟩) (fun h2 => ⟨(set 0 0).1, fun w17 h17 => ⟨_, _, ((set 0 0).2 w17 h17).1, ?_, ((set 0 0).2 w17 h17).2⟩⟩)
    · rw [if_pos h2]
    · rw [if_neg h2]

def noteN : Option Nat → Int
  | none => 0
  | some k => ((k + 1 : Nat) : Int)
theorem refNote_spec {w : World} {q : Nat} {al : List (Int × L3)} (hw : WfD al) (h : ObjAt w q (refC (lastV al))) (c seq code at' : Int) :
    Calls Tryd.prog fn_tidewaterref22_Seen_Note ⟨[ptrR' q, .int .i64 c, .int .i64 seq, .agg ⟨[.int .i64 code, .int .i64 at']⟩]⟩ w fun e w' => e = .returned (.int .i64 (noteN (noteV al c seq code at').1)) ∧ ObjAt w' q (refC (lastV (noteV al c seq code at').2)) ∧ Ext (fun k => k = q) w w' := by
  refine tidewaterref22_Seen_Note_ok _ _ _ _ _ ?_
  unfold tidewaterref22_Seen_Note
  refine newS_mk (fun r6 w7 hr6 hb6 k6 hs6 => ?_)
  have o6 := ObjAt.new' hb6
  have kk : Ext (fun k => k = q) w w7 := k6.mono (fun _ h => h.elim)
  have hql := h.lt
  have bad : ¬ (1 ≤ c ∧ c ≤ 4 ∧ 1 ≤ seq ∧ seq ≤ 1073741824 ∧ (code = 1 ∨ code = 2) ∧ 0 ≤ at' ∧ at' < 4096) → Ending.returned (.int .i64 1) = .returned (.int .i64 (noteN (noteV al c seq code at').1)) ∧ ObjAt w7 q (refC (lastV (noteV al c seq code at').2)) ∧ Ext (fun k => k = q) w w7 := by
    intro hb
    have : rightD c seq code at' = false := decide_eq_false hb
    unfold noteV
    rw [if_pos this]
    exact ⟨rfl, h.keep k6, kk⟩
  refine ⟨fun w2 => w2 = w7 ∧ 1 ≤ c ∧ c ≤ 4 ∧ 1 ≤ seq ∧ seq ≤ 1073741824 ∧ (code = 1 ∨ code = 2) ∧ 0 ≤ at' ∧ at' < 4096, ?_, ?_⟩
  · refine BIf_dec (fun h1 => bad (by omega)) (fun h1 => BIf_dec (fun h2 => bad (by omega)) (fun h2 => BIf_dec (fun h3 => bad (by omega)) (fun h3 => BIf_dec (fun h4 => bad (by omega)) (fun h4 => ⟨_, o6.cell 0 (by simp), BIf_dec (fun h5 => bad (by omega)) (fun h5 => ⟨_, o6.cell 0 (by simp), BIf_dec (fun h6 => bad (by omega)) (fun h6 =>
      ⟨_, o6.cell 1 (by simp), BIf_dec (fun h7 => bad (by omega)) (fun h7 => ⟨_, o6.cell 1 (by simp), BIf_dec (fun h8 => bad (by omega)) (fun h8 => ⟨rfl, by omega, by omega, by omega, by omega, by omega, by omega, by omega⟩)⟩)⟩)⟩)⟩))))
  rintro w13 ⟨rfl, g1, g2, g3, g4, g5, g6, g7⟩
  intros
  have hrt : rightD c seq code at' = true := decide_eq_true ⟨g1, g2, g3, g4, g5, g6, g7⟩
  have e1 : noteV al c seq code at' = if (askV al c seq).2 = 1 then (none, putL al c (seq, code, at')) else (some 18, al) := by
    unfold noteV; rw [if_neg (by rw [hrt]; simp)]
  rw [e1]
  obtain ⟨n, rfl⟩ : ∃ n : Nat, c = n := ⟨c.toNat, by omega⟩
  have hs := ref_seq (h.keep k6) n (by omega)
  have hfresh : (askV al (n : Int) seq).2 = 1 ↔ ¬ seq ≤ (lastV al (n : Int)).1 := by
    unfold askV lastV
    cases hq : lookL al (n : Int) with
    | none =>
      refine ⟨fun _ => ?_, fun _ => rfl⟩
      show ¬ seq ≤ (0 : Int); omega
    | some x =>
      dsimp only [Option.getD]
      by_cases h1 : x.1 < seq
      · rw [if_pos h1]; exact ⟨fun _ => by omega, fun _ => rfl⟩
      · rw [if_neg h1]
        refine ⟨fun hh => ?_, fun hh => by omega⟩
        split at hh <;> simp at hh
  refine needSome_mk rfl ⟨by omega, by omega, _, hs, BIf_dec (fun h1 => ?_) (fun h1 => ?_)⟩
  · rw [if_neg (fun hh => hfresh.1 hh h1)]
    exact ⟨rfl, h.keep k6, kk⟩
  · rw [if_pos (hfresh.2 h1)]
    have kd : Keep w13 (World.drew w13) := Keep.drew (Ext.refl _ _)
    have hd := (h.keep k6).keep kd
    have o6d := o6.keep kd
    have ea : (Addr.add (⟨q, 0, none⟩ : Addr) ((Int.toNat (n : Int)) * 1)) = ⟨q, n, none⟩ := by rw [add_lit]; simp
    have eb : (Addr.add ((⟨q, 0, none⟩ : Addr).add 5) ((Int.toNat (n : Int)) * 2)) = ⟨q, 5 + n * 2, none⟩ := by rw [add_lit, add_lit]; simp
    obtain ⟨cw, g⟩ := hd.setOne n (by rw [refC_len]; omega) (.int .i64 seq)
    refine ⟨_, _, o6d.row, needSome_mk rfl ⟨by omega, by omega, needSome_mk rfl ⟨by rw [ea]; exact cw, fun w55 h55 => ?_⟩⟩⟩
    obtain ⟨q1, q2, _⟩ := g w55 (by rw [h55, ea])
    have o55 := o6d.ext q2 (fun hh => by omega)
    obtain ⟨cw2, g'⟩ := q1.setAt (5 + n * 2) [.int .i64 code, .int .i64 at'] (by rw [List.length_set, refC_len]; simp; omega)
    refine ⟨⟨_, _, o55.row, rfl⟩, by omega, by omega, by rw [eb]; exact cw2, fun w58 h58 => ?_⟩
    obtain ⟨q3, q4, _⟩ := g' w58 (by rw [h58, eb])
    have e2 := refC_set (lastV al) n (by omega) (seq, code, at')
    dsimp only at e2
    rw [e2] at q3
    refine ⟨rfl, ?_, ((kk.trans kd (fun _ h => h) (fun _ h => h.elim)).trans q2 (fun _ h => h) (fun _ h => .inl h)).trans q4 (fun _ h => h) (fun _ h => .inl h)⟩
    have e3 : refC (updF (lastV al) (n : Int) (seq, code, at')) = refC (lastV (putL al (n : Int) (seq, code, at'))) := by
      refine refC_congr (fun c hc => ?_)
      unfold updF lastV
      rw [look_put]
      split <;> rfl
    rw [← e3]; exact q3

theorem refCopy_spec {w : World} {q : Nat} {f : Int → L3} (h : ObjAt w q (refC f)) :
    Calls Tryd.prog fn_tidewaterref22_Seen_Copy ⟨[ptrR' q]⟩ w fun e w' => ∃ q', e = .returned (ptrR' q') ∧ ObjAt w' q' (refC f) ∧ Keep w w' ∧ w.heap.size ≤ q' := by
  refine tidewaterref22_Seen_Copy_ok _ ?_
  unfold tidewaterref22_Seen_Copy
  refine needSome_mk rfl ⟨_, _, _, _, _, _, _, _, _, _, _, _, _, _, _, h.row, var_mk (cs := refC f) rfl rfl (fun r w2 hr o k hs => ?_)⟩
  exact ⟨r, rfl, o, k, by omega⟩

def joinF (f g : Int → L3) : Int → L3 := fun c => if (f c).1 < (g c).1 then g c else f c
def joinK (f g : Int → L3) (n : Nat) : Int → L3 := fun c => if 1 ≤ c ∧ c < (n : Int) then joinF f g c else f c
theorem refJoin_spec {w : World} {q p : Nat} {f g : Int → L3} (h : ObjAt w q (refC f)) (hg : ObjAt w p (refC g)) (hne : p ≠ q) :
    Calls Tryd.prog fn_tidewaterref22_Seen_Join ⟨[ptrR' q, ptrR' p]⟩ w fun e w' => e = .returned (.tuple #[]) ∧ ObjAt w' q (refC (joinK f g 5)) ∧ Ext (fun k => k = q) w w' := by
  refine tidewaterref22_Seen_Join_ok _ _ ?_
  unfold tidewaterref22_Seen_Join
  refine ⟨fun c w2 => ∃ n : Nat, c = n ∧ 1 ≤ n ∧ n ≤ 5 ∧ ObjAt w2 q (refC (joinK f g n)) ∧ Ext (fun k => k = q) w w2, fun c _ => (5 - c).toNat, ⟨1, rfl, by omega, by omega, ?_, Ext.refl _ _⟩, ?_⟩
  · have : refC (joinK f g 1) = refC f := refC_congr (fun c hc => by unfold joinK; rw [if_neg (by omega)])
    rw [this]; exact h
  rintro c w6 ⟨n, rfl, hn1, hn5, ho, he⟩
  intros
  refine BIf_dec (fun hlt => ?_) (fun hge => ?_)
  · have hn : n < 5 := by omega
    have kd : Keep w6 (World.drew w6) := Keep.drew (Ext.refl _ _)
    have kd2 : Keep w6 (World.drew (World.drew w6)) := Keep.drew (Keep.drew (Ext.refl _ _))
    have hp := hg.ext he (fun hh => hne hh)
    have ed : Ext (fun k => k = q) w (World.drew w6) := he.trans kd (fun _ h => h) (fun _ h => h.elim)
    have fn : joinK f g n (n : Int) = f n := by unfold joinK; rw [if_neg (by omega)]
    refine needSome_mk rfl ⟨by omega, by omega, _, ref_seq (hp.keep kd) n hn, needSome_mk rfl ⟨by omega, by omega, _, ref_seq (ho.keep kd) n hn, BIf_dec (fun h1 => ?_) (fun h1 => ?_)⟩⟩
    · rw [fn] at h1
      have hd2 := ho.keep kd2
      have hp2 := hp.keep kd2
      have ea : (Addr.add (⟨q, 0, none⟩ : Addr) ((Int.toNat (n : Int)) * 1)) = ⟨q, n, none⟩ := by rw [add_lit]; simp
      have eb : (Addr.add ((⟨q, 0, none⟩ : Addr).add 5) ((Int.toNat (n : Int)) * 2)) = ⟨q, 5 + n * 2, none⟩ := by rw [add_lit, add_lit]; simp
      obtain ⟨cw, gg⟩ := hd2.setOne n (by rw [refC_len]; omega) (.int .i64 (g n).1)
      refine needSome_mk rfl ⟨by omega, by omega, _, ref_seq hp2 n hn, needSome_mk rfl ⟨by omega, by omega, _, _, ref_pair hp2 n hn, needSome_mk rfl ⟨by omega, by omega, needSome_mk rfl ⟨by rw [ea]; exact cw, fun w57 h57 => ?_⟩⟩⟩⟩
      obtain ⟨q1, q2, _⟩ := gg w57 (by rw [h57, ea])
      obtain ⟨cw2, g'⟩ := q1.setAt (5 + n * 2) [.int .i64 (g n).2.1, .int .i64 (g n).2.2] (by rw [List.length_set, refC_len]; simp; omega)
      refine ⟨by omega, by omega, by rw [eb]; exact cw2, fun w58 h58 => ?_⟩
      obtain ⟨q3, q4, _⟩ := g' w58 (by rw [h58, eb])
      rw [refC_set _ n hn (g n)] at q3
      refine ⟨inR64 (by omega), ⟨n + 1, rfl, by omega, by omega, ?_, ((he.trans kd2 (fun _ h => h) (fun _ h => h.elim)).trans q2 (fun _ h => h) (fun _ h => .inl h)).trans q4 (fun _ h => h) (fun _ h => .inl h)⟩, by dsimp only; omega⟩
      have e3 : refC (updF (joinK f g n) (n : Int) (g n)) = refC (joinK f g (n + 1)) := by
        refine refC_congr (fun c hc => ?_)
        unfold updF joinK
        by_cases hcn : (c : Int) = n
        · rw [if_pos hcn, hcn, if_pos (by omega)]
          unfold joinF; rw [if_pos h1]
        · rw [if_neg hcn]
          have : (1 ≤ (c : Int) ∧ (c : Int) < (n : Int)) ↔ (1 ≤ (c : Int) ∧ (c : Int) < ((n + 1 : Nat) : Int)) := by omega
          simp only [this]
      rw [← e3]; exact q3
    · rw [fn] at h1
      refine ⟨inR64 (by omega), ⟨n + 1, rfl, by omega, by omega, ?_, ed⟩, by dsimp only; omega⟩
      have e3 : refC (joinK f g (n + 1)) = refC (joinK f g n) := by
        refine refC_congr (fun c hc => ?_)
        unfold joinK
        by_cases hcn : (c : Int) = n
        · rw [hcn, if_pos (by omega), if_neg (by omega)]
          unfold joinF; rw [if_neg h1]
        · have : (1 ≤ (c : Int) ∧ (c : Int) < (n : Int)) ↔ (1 ≤ (c : Int) ∧ (c : Int) < ((n + 1 : Nat) : Int)) := by omega
          simp only [this]
      rw [e3]; exact ho.keep kd
  · have : n = 5 := by omega
    subst this
    exact ⟨rfl, ho, he⟩

/-- It tells what its model holds. -/
theorem same_spec22 {w : World} {r m q : Nat} {al : List (Int × L3)} {f : Int → L3} (hw : WfD al) (hs : SeenAt w r m al) (hq : ObjAt w q (refC f)) (hf : ∀ c : Nat, c < 5 → f c = lastV al c) :
    Calls Tryd.prog fn_tidewaterlaw22_same ⟨[ptrR' r, ptrR' q]⟩ w fun e w' => e = .returned (.bool true) ∧ Keep w w' := by
  refine tidewaterlaw22_same_ok _ _ ?_
  unfold tidewaterlaw22_same
  refine ⟨fun i w2 => ∃ n : Nat, i = n ∧ n ≤ 6 ∧ Keep w w2, fun i _ => (6 - i).toNat, ⟨0, rfl, by omega, Ext.refl _ _⟩, ?_⟩
  rintro i w6 ⟨n, rfl, hn, k6⟩
  intros
  refine BIf_dec (fun hlt => ?_) (fun _ => ⟨rfl, k6⟩)
  refine (Last_spec22 (hs.keep k6) n).mono ?_
  rintro e w58 ⟨rfl, k58⟩
  generalize hx : lastV al (n : Int) = x
  refine ⟨_, _, _, _, rfl, var_mk (cs := [.int .i64 x.2.1, .int .i64 x.2.2]) rfl rfl (fun r63 w65 hr63 o63 k63 hs63 => ?_)⟩
  refine var_mk (cs := [.int .i64 0, .int .i64 0]) rfl rfl (fun r66 w68 hr66 o66 k66 hs66 => ?_)
  have kk68 := ((k6.trans k58).trans k63).trans k66
  have z := (k6.trans k58).size
  have z63 := k63.size
  refine ⟨fun want w2 => Keep w w2 ∧ ObjAt w2 r63 [.int .i64 x.2.1, .int .i64 x.2.2] ∧ ObjAt w2 r66 [.int .i64 x.2.1, .int .i64 x.2.2] ∧ want = x.1, ?_, ?_⟩
  · refine ⟨fun b w2 => b = decide (1 ≤ (n : Int) ∧ (n : Int) ≤ 4) ∧ w2 = w68, BIf_dec (fun h1 => ⟨by rw [decide_eq_decide]; omega, rfl⟩) (fun h1 => ⟨by rw [decide_eq_false (by omega)], rfl⟩), ?_⟩
    rintro b w72 ⟨rfl, rfl⟩
    intros
    refine BIf_dec (fun h1 => ?_) (fun h1 => ?_)
    · have kd : Keep w72 (World.drew w72) := Keep.drew (Ext.refl _ _)
      have hqd := (hq.keep kk68).keep kd
      have e1 : f n = x := by rw [hf n (by omega), hx]
      have s1 := ref_seq hqd n (by omega)
      have s2 := ref_pair hqd n (by omega)
      rw [e1] at s1 s2
      obtain ⟨cw, g⟩ := (o66.keep kd).setAll (n := 2) (cs := [.int .i64 x.2.1, .int .i64 x.2.2]) rfl rfl
      refine needSome_mk rfl ⟨by omega, by omega, _, s1, needSome_mk rfl ⟨by omega, by omega, _, _, s2, cw, fun w83 h83 => ?_⟩⟩
      obtain ⟨g1, g2, _⟩ := g w83 h83
      exact ⟨(kk68.trans kd).step (by omega) g2, ((o63.keep k66).keep kd).ext g2 (fun hh => by omega), g1, rfl⟩
    · have hx0 : x = z3 := by
        rw [← hx]
        unfold lastV
        rw [lastV_out hw (by omega)]; rfl
      subst hx0
      exact ⟨kk68, o63.keep k66, o66, rfl⟩
  · rintro want w85 ⟨k85, o63', o66', rfl⟩
    intros
    refine BIf_ndec (fun hh => (hh rfl).elim) (fun _ => ⟨_, _, o63'.row, _, _, o66'.row, ?_⟩)
    have e1 : (!(decide (x.2.1 = x.2.1) && (decide (x.2.2 = x.2.2) && true))) = false := by simp
    rw [e1]
    have e2 : (lookL al (n : Int)).isSome = decide (0 < x.1) := by
      rw [← hx]
      unfold lastV
      cases hl : lookL al (n : Int) with
      | none => rfl
      | some y =>
        have := (hw _ _ hl).2.1
        show true = decide (0 < y.1)
        rw [decide_eq_true (by omega)]
    rw [e2]
    have e3 : (!(decide (0 < x.1) == decide ((0 : Int) < x.1))) = false := by cases decide (0 < x.1) <;> rfl
    rw [e3]
    exact BIf_mk (fun hh => by cases hh) (fun _ => BIf_mk (fun hh => by cases hh) (fun _ => ⟨inR64 (by omega), ⟨n + 1, rfl, by omega, k85⟩, by dsimp only; omega⟩))
end Go.D

set_option linter.unusedVariables false
set_option linter.unusedSimpArgs false
namespace Go.D
open Go

theorem wrap8 (n : Nat) : Value.int .u8 (IntKind.wrap .u8 (n : Int)) = byteV (UInt8.ofNat n) := by
  have h : IntKind.wrap .u8 (n : Int) = ((n % 256 : Nat) : Int) := by
    simp [IntKind.wrap, IntKind.signed, IntKind.bits]
  rw [h, byteV, UInt8.toNat_ofNat']
theorem wrap8d (n d : Nat) : Value.int .u8 (IntKind.wrap .u8 ((n : Int) / (d : Int))) = byteV (UInt8.ofNat (n / d)) := wrap8 (n / d)

/-- Four bytes, the low one first. -/
def le4 (n : Nat) : List UInt8 := [UInt8.ofNat n, UInt8.ofNat (n / 256), UInt8.ofNat (n / 65536), UInt8.ofNat (n / 16777216)]
def le2 (n : Nat) : List UInt8 := [UInt8.ofNat n, UInt8.ofNat (n / 256)]
theorem bits_or (a b : Nat) : bitsI .or (a : Int) (b : Int) = ((a ||| b : Nat) : Int) := rfl

theorem or_disj (a b i : Nat) (ha : a < 2 ^ i) : a ||| b * 2 ^ i = a + b * 2 ^ i := by
  have := Nat.shiftLeft_add_eq_or_of_lt ha b
  rw [Nat.shiftLeft_eq] at this
  rw [Nat.or_comm, ← this, Nat.add_comm]
theorem drop_get {α : Type} {l : List α} {k : Nat} (h : k < l.length) : l.drop k = l[k] :: l.drop (k + 1) := List.drop_eq_getElem_cons h
end Go.D

set_option linter.unusedVariables false
set_option linter.unusedSimpArgs false
namespace Go.D

/-- The bytes of a number. -/
def encN (n : Nat) : List UInt8 :=
  if h : n < 128 then [UInt8.ofNat n] else UInt8.ofNat (n % 128 + 128) :: encN (n / 128)
termination_by n
decreasing_by omega

theorem encN_len : ∀ (n j : Nat), n < 128 ^ (j + 1) → (encN n).length ≤ j + 1
  | n, 0, h => by rw [encN.eq_1, dif_pos (by simpa using h)]; simp
  | n, j + 1, h => by
    rw [encN.eq_1]
    split
    · simp
    · have := encN_len (n / 128) j (by rw [Nat.pow_succ] at h; omega)
      simp; omega
theorem encN_pos (n : Nat) : 0 < (encN n).length := by
  rw [encN.eq_1]; split <;> simp

theorem encN_lt {n : Nat} (h : n < 128) : encN n = [UInt8.ofNat n] := by rw [encN.eq_1, dif_pos h]
theorem encN_ge {n : Nat} (h : ¬ n < 128) : encN n = UInt8.ofNat (n % 128 + 128) :: encN (n / 128) := by rw [encN.eq_1, dif_neg h]

end Go.D

set_option linter.unusedVariables false
set_option linter.unusedSimpArgs false
namespace Go.D
open Go Go.Proofs

def failE (ev v : Value) : Value := if isNilI ev then v else ev

theorem Out_fail_spec (r : Nat) (s : Slc) (bs : List UInt8) (ev v : Value) (w : World) (h : OutAt w r s bs ev) (hi : isI ev) (hv : ∀ X : Prop, X → oneK v X) :
    Calls Tryd.prog fn_pack_Out_fail ⟨[.pointer (some ⟨r, 0, none⟩), v]⟩ w fun e w' => e = .returned (.tuple #[]) ∧ OutAt w' r s bs (failE ev v) ∧ Foot (OutM r s) (OutM r s) w w' := by
  refine pack_Out_fail_ok _ _ ?_
  refine needSome_mk rfl ⟨_, by rw [add_lit]; exact h.c1, hi, BIf_mk (fun hn => needSome_mk rfl (hv _ (hv _ ?_))) (fun hn => ?_)⟩
  · obtain ⟨h1, h2, h3⟩ := h.setErr v
    rw [add_lit]
    refine ⟨h1, ?_⟩
    rintro w6 rfl
    refine ⟨rfl, ?_, h3⟩
    rw [failE, if_pos hn]; exact h2
  · refine ⟨rfl, ?_, Foot.refl _ _⟩
    rw [failE, if_neg (by rw [hn]; decide)]; exact h

theorem errV_one (A : Nat → Addr) (g : Nat) : ∀ X : Prop, X → oneK (errV A g) X := fun X h => h

theorem Out_Num_spec (A : Nat → Addr) (r : Nat) (s : Slc) (bs : List UInt8) (ev : Value) (n : Int) (w : World) (h : OutAt w r s bs ev) (hi : isI ev) (hn : -9223372036854775808 ≤ n ∧ n ≤ 9223372036854775807) (hl : bs.length ≤ 2 ^ 20)
    (hE : ErrIs tyErr w gl_ErrRange (A gl_ErrRange)) :
    Calls Tryd.prog fn_pack_Out_Num ⟨[.pointer (some ⟨r, 0, none⟩), .int .i64 n]⟩ w fun e w' => e = .returned (.tuple #[]) ∧
      ∃ s', OutAt w' r s' (if n < 0 ∨ 4611686018427387903 < n then bs else bs ++ encN n.toNat) (if n < 0 ∨ 4611686018427387903 < n then failE ev (errV A gl_ErrRange) else ev) ∧ Foot (OutM r s) (OutM r s') w w' := by
  refine pack_Out_Num_ok _ _ ?_
  unfold pack_Out_Num
  by_cases hbad : n < 0 ∨ 4611686018427387903 < n
  · rw [if_pos hbad, if_pos hbad]
    have key := Out_fail_spec r s bs ev (errV A gl_ErrRange) w h hi (errV_one A _)
    refine ⟨fun _ => False, BIf_dec (fun h1 => ⟨_, hE.1, key.mono ?_⟩) (fun h1 => BIf_dec (fun h2 => ⟨_, hE.1, key.mono ?_⟩) (fun h2 => by omega)), fun _ h => h.elim⟩
    · rintro e w' ⟨rfl, h2, h3⟩
      exact ⟨rfl, rfl, s, h2, h3⟩
    · rintro e w' ⟨rfl, h2, h3⟩
      exact ⟨rfl, rfl, s, h2, h3⟩
  · rw [if_neg hbad, if_neg hbad]
    refine ⟨fun w2 => w2 = w, BIf_dec (fun h1 => by omega) (fun h1 => BIf_dec (fun h2 => by omega) (fun h2 => rfl)), ?_⟩
    rintro w2 rfl
    intros
    refine ⟨fun m w3 => ∃ (k : Nat) (s' : Slc) (x : List UInt8), m = k ∧ x ++ encN k = bs ++ encN n.toNat ∧ OutAt w3 r s' x ev ∧ Foot (OutM r s) (OutM r s') w2 w3, fun m _ => m.toNat, ⟨n.toNat, s, bs, by omega, rfl, h, Foot.refl _ _⟩, ?_⟩
    rintro m w3 ⟨k, s', x, rfl, hx, ho, hft⟩
    intros
    have hlen := congrArg List.length hx
    have hle := encN_len n.toNat 8 (by omega)
    have hpos := encN_pos k
    simp only [List.length_append] at hlen
    have hsl : s'.l = x.length := by have := ho.2.1.1; simpa using this
    refine BIf_dec (fun h1 => ?_) (fun h1 => ?_)
    · refine needSome_mk rfl ⟨s', ho.c0, by omega, by omega, inR64 (by omega), newS_mk (fun r43 w44 hr43 hb43 hk43 hs43 => ?_)⟩
      have e1 : ((k : Int) % 128 + 128) = ((k % 128 + 128 : Nat) : Int) := by omega
      rw [e1, wrap8] at hb43
      have hb : bytesAt w44 ⟨some ⟨r43, 0, none⟩, 1, 1⟩ [UInt8.ofNat (k % 128 + 128)] := (Own.new (sz := 1) (n := 1) hb43 (.inl (by simp)) rfl).bytes
      refine (ho.keep hk43).append rfl (srcAt_bytes hb) (by simp only [Src.n]; omega) (fun s45 w46 hc hh => needSome_mk rfl ⟨hc, ?_⟩)
      rintro w48 rfl
      obtain ⟨h5, h6⟩ := hh _ rfl
      refine ⟨by omega, by omega, ⟨k / 128, s45, _, by omega, ?_, h5, (hft.keep hk43).trans h6⟩, by dsimp only; omega⟩
      rw [← hx, encN.eq_1 k, dif_neg (by omega)]; simp
    · refine needSome_mk rfl ⟨s', ho.c0, newS_mk (fun r43 w44 hr43 hb43 hk43 hs43 => ?_)⟩
      rw [wrap8] at hb43
      have hb : bytesAt w44 ⟨some ⟨r43, 0, none⟩, 1, 1⟩ [UInt8.ofNat k] := (Own.new (sz := 1) (n := 1) hb43 (.inl (by simp)) rfl).bytes
      refine (ho.keep hk43).append rfl (srcAt_bytes hb) (by simp only [Src.n]; omega) (fun s45 w46 hc hh => needSome_mk rfl ⟨hc, ?_⟩)
      rintro w48 rfl
      obtain ⟨h5, h6⟩ := hh _ rfl
      refine ⟨rfl, s45, ?_, (hft.keep hk43).trans h6⟩
      rw [encN.eq_1 k, dif_pos (by omega)] at hx
      rw [← hx]; exact h5
end Go.D

set_option linter.unusedVariables false
set_option linter.unusedSimpArgs false
namespace Go.D
open Go Go.Proofs

theorem CloneB_own (s : Slc) (b : List UInt8) (w : World) (hb : bytesAt w s b) (hl : s.l ≤ 2 ^ 30) :
    Calls Tryd.prog fn_slices_Clone_byte ⟨[s.v]⟩ w fun e w' => ∃ t : Slc, e = .returned t.v ∧ Own w' t 1 (b.map byteV) ∧ Fresh w t ∧ Keep w w' := by
  refine slices_Clone_byte_ok _ ?_
  unfold slices_Clone_byte
  refine BIf_mk (fun h => ?_) (fun h => ?_)
  · have hp : s.p = none := by simpa using h
    have hb0 : b = [] := by
      rcases hb.2 with h0 | ⟨a, ha, _⟩
      · simpa using h0
      · rw [hp] at ha; cases ha
    subst hb0
    exact ⟨_, rfl, Own.nil _ _, Fresh.nil _ _ _, Ext.refl _ _⟩
  · refine newS_mk (fun r w1 hr hb1 hk hs => ?_)
    refine append_bytes (vs := []) (w0 := w) (Own.new (sz := 1) (n := 0) hb1 (.inl (by simp)) rfl) rfl (Fresh.at (by omega)) hk (srcAt_bytes (bytesAt_keep hb hk)) (by simp only [Src.n]; omega) (fun s' w' h1 h2 h3 h4 => ?_)
    exact ⟨s', rfl, by simpa using h1, h3, h2⟩
end Go.D

set_option linter.unusedVariables false
set_option linter.unusedSimpArgs false
namespace Go.D
open Go Go.Proofs

theorem Out_Done_spec (A : Nat → Addr) (r : Nat) (s : Slc) (bs : List UInt8) (ev : Value) (w : World) (h : OutAt w r s bs ev) (hi : isI ev) (hl : bs.length ≤ 2 ^ 22)
    (hE : ErrIs tyErr w gl_ErrLong (A gl_ErrLong)) :
    Calls Tryd.prog fn_pack_Out_Done ⟨[.pointer (some ⟨r, 0, none⟩)]⟩ w fun e w' => ∃ (t : Slc) (e2 : Value), e = .returned (.tuple ⟨[t.v, e2]⟩) ∧ Keep w w' ∧ Fresh w t ∧
      (if isNilI ev = false then t = ⟨none, 0, 0⟩ ∧ e2 = ev else if 65536 < bs.length then t = ⟨none, 0, 0⟩ ∧ e2 = errV A gl_ErrLong else e2 = .nilIface ∧ bytesAt w' t bs) := by
  refine pack_Out_Done_ok _ ?_
  unfold pack_Out_Done
  have hsl : s.l = bs.length := by have := h.2.1.1; simpa using this
  refine needSome_mk rfl ⟨_, by rw [add_lit]; exact h.c1, hi, BIf_mk (fun hn => ?_) (fun hn => ?_)⟩
  · have hn' : isNilI ev = false := by simpa using hn
    refine needSome_mk rfl ⟨ev, by rw [add_lit]; exact (h.keep (Ext.drew _ w)).c1, _, _, rfl, Ext.drew _ _, Fresh.nil _ _ _, ?_⟩
    rw [if_pos hn']; exact ⟨rfl, rfl⟩
  · have hn' : ¬ isNilI ev = false := by simpa using hn
    refine needSome_mk rfl ⟨s, h.c0, BIf_dec (fun h1 => ?_) (fun h1 => ?_)⟩
    · refine ⟨_, (hE.keep (Ext.drew _ w)).1, _, _, rfl, Ext.drew _ _, Fresh.nil _ _ _, ?_⟩
      rw [if_neg hn', if_pos (by omega)]; exact ⟨rfl, rfl⟩
    · refine needSome_mk rfl ⟨s, h.c0, ?_⟩
      refine (CloneB_own s bs w h.2.1.bytes (by omega)).mono ?_
      rintro e w' ⟨t, rfl, hb, hf, hk⟩
      refine ⟨t, rfl, t, _, rfl, hk, hf, ?_⟩
      rw [if_neg hn', if_neg (by omega)]; exact ⟨rfl, hb.bytes⟩
end Go.D

set_option linter.unusedVariables false
set_option linter.unusedSimpArgs false
namespace Go.D
open Go Go.Proofs

abbrev InS := List UInt8 × Option Nat
def OutS (A : Nat → Addr) (w : World) (r : Nat) (s : Slc) (st : InS) : Prop := OutAt w r s st.1 (errO A st.2)
def oNum (n : Int) (st : InS) : InS := if n < 0 ∨ 4611686018427387903 < n then (st.1, some (st.2.getD 0)) else (st.1 ++ encN n.toNat, st.2)
def oText (t : List UInt8) (st : InS) : InS := (st.1 ++ encN t.length ++ t, st.2)
def oNums (l : List Int) (st : InS) : InS := l.foldl (fun st n => oNum n st) (oNum l.length st)

theorem failE_errO (A : Nat → Addr) (e : Option Nat) : failE (errO A e) (errV A gl_ErrRange) = errO A (some (e.getD 0)) := by
  cases e <;> rfl

theorem OutS_Num (A : Nat → Addr) (n0 r : Nat) (s : Slc) (st : InS) (n : Int) (w : World) (h : OutS A w r s st) (hn : -9223372036854775808 ≤ n ∧ n ≤ 9223372036854775807) (hl : st.1.length ≤ 2 ^ 20) (hE : ErrsB A n0 w) :
    Calls Tryd.prog fn_pack_Out_Num ⟨[.pointer (some ⟨r, 0, none⟩), .int .i64 n]⟩ w fun e w' => e = .returned (.tuple #[]) ∧ ∃ s', OutS A w' r s' (oNum n st) ∧ Foot (OutM r s) (OutM r s') w w' := by
  refine (Out_Num_spec A r s st.1 (errO A st.2) n w h (errO_isI _ _) hn hl (hE.1.1 gl_ErrRange (errG_mem (k := 0) (by omega)))).mono ?_
  rintro e w' ⟨rfl, s', h1, h2⟩
  refine ⟨rfl, s', ?_, h2⟩
  unfold OutS oNum
  split at h1
  · rename_i hh; rw [if_pos hh]
    rw [failE_errO] at h1; exact h1
  · rename_i hh; rw [if_neg hh]
    exact h1

theorem oNum_len (n : Int) (st : InS) : (oNum n st).1.length ≤ st.1.length + 9 := by
  unfold oNum
  split
  · simp
  · have := encN_len n.toNat 8 (by omega)
    simp; omega

theorem oNums_len : ∀ (l : List Int) (st : InS), (l.foldl (fun st n => oNum n st) st).1.length ≤ st.1.length + 9 * l.length
  | [], st => by simp
  | n :: l, st => by
    have h1 := oNums_len l (oNum n st)
    have h2 := oNum_len n st
    simp only [List.foldl_cons, List.length_cons]; omega

theorem OutS_Done (A : Nat → Addr) (n0 r : Nat) (s : Slc) (st : InS) (w : World) (h : OutS A w r s st) (hl : st.1.length ≤ 2 ^ 22) (hE : ErrsB A n0 w) :
    Calls Tryd.prog fn_pack_Out_Done ⟨[.pointer (some ⟨r, 0, none⟩)]⟩ w fun e w' => ∃ (t : Slc) (e2 : Option Nat), e = .returned (.tuple ⟨[t.v, errO A e2]⟩) ∧ Keep w w' ∧ Fresh w t ∧
      e2 = (match st.2 with | some k => some k | none => if 65536 < st.1.length then some 2 else none) ∧ (e2.isSome = true → t = ⟨none, 0, 0⟩) ∧ (e2 = none → bytesAt w' t st.1) := by
  refine (Out_Done_spec A r s st.1 (errO A st.2) w h (errO_isI _ _) hl (hE.1.1 gl_ErrLong (errG_mem (k := 2) (by omega)))).mono ?_
  rintro e w' ⟨t, e2, rfl, h1, h2, h3⟩
  obtain ⟨bs, er⟩ := st
  cases er with
  | some k =>
    rw [if_pos (by rfl)] at h3
    obtain ⟨rfl, rfl⟩ := h3
    exact ⟨_, some k, rfl, h1, h2, rfl, fun _ => rfl, fun h => by cases h⟩
  | none =>
    rw [if_neg (by intro h; cases h)] at h3
    dsimp only at h3 ⊢
    split at h3
    · rename_i hh
      obtain ⟨rfl, rfl⟩ := h3
      exact ⟨_, some 2, rfl, h1, h2, by rw [if_pos hh], fun _ => rfl, fun h => by cases h⟩
    · rename_i hh
      obtain ⟨rfl, h4⟩ := h3
      exact ⟨_, none, rfl, h1, h2, by rw [if_neg hh], fun h => by simp at h, fun _ => h4⟩

/-- A new writer. -/
theorem OutS.new {w1 : World} {r : Nat} {T : TypeId} (A : Nat → Addr) (h : w1.heap[r]? = some (.cells ⟨[(Slc.v (⟨none, 0, 0⟩ : Slc)), Value.nilIface]⟩ T)) : OutS A w1 r ⟨none, 0, 0⟩ ([], none) :=
  ⟨⟨T, (0, 0), h, .inl (by simp)⟩, Own.nil _ _, by rintro ⟨a, ha, _⟩; cases ha⟩
theorem OutM_nil {r k : Nat} (h : OutM r ⟨none, 0, 0⟩ k) : k = r := by
  rcases h with h | ⟨a, ha, _⟩
  · exact h
  · cases ha

theorem Foot.newM {w0 w w' : World} {M M' : Nat → Prop} (h : Foot M M' w w') (hk : Keep w0 w) (hm : ∀ k, M k → w0.heap.size ≤ k) : Keep w0 w' := (h.new hk hm).1

end Go.D

set_option linter.unusedVariables false
set_option linter.unusedSimpArgs false
namespace Go.D

/-! ### numbers and texts as bytes -/
def numB (n : Int) : List UInt8 := encN n.toNat
def textB (t : List UInt8) : List UInt8 := encN t.length ++ t
theorem numB_len (n : Int) (h : n ≤ 2 ^ 40) : (numB n).length ≤ 6 := encN_len n.toNat 5 (by omega)
theorem textB_len (t : List UInt8) (h : t.length ≤ 2 ^ 20) : (textB t).length ≤ 6 + t.length := by
  have := encN_len t.length 5 (by omega)
  unfold textB; rw [List.length_append]; omega
theorem heads_len : ∀ (l : List Int), (∀ n ∈ l, n ≤ 2 ^ 40) → (l.flatMap numB).length ≤ 6 * l.length
  | [], _ => by simp
  | n :: l, h => by
    have h1 := heads_len l (fun n hn => h n (by simp [hn]))
    have h2 := numB_len n (h n (by simp))
    simp at h1 ⊢; omega
end Go.D

set_option linter.unusedVariables false
set_option linter.unusedSimpArgs false
namespace Go.D
open Go Go.Proofs

/-! ### a writer without an error, whose blocks are new since w0 -/
structure OutK (A : Nat → Addr) (w0 w : World) (r : Nat) (s : Slc) (b : List UInt8) : Prop where
  o : OutS A w r s (b, none)
  m : ∀ k, OutM r s k → w0.heap.size ≤ k
  k : Keep w0 w
section
variable {A : Nat → Addr} {n0 : Nat} {w0 w : World} {r : Nat} {s : Slc} {b : List UInt8}
theorem OutK.keep {w' : World} (h : OutK A w0 w r s b) (k : Keep w w') : OutK A w0 w' r s b := ⟨OutAt.keep h.o k, h.m, h.k.trans k⟩
theorem OutK.lt (h : OutK A w0 w r s b) : ∀ k, OutM r s k → k < w.heap.size := by
  rintro k (rfl | hk)
  · exact h.o.1.lt
  · exact OwnLt h.o.2.1 k hk
theorem foot_obj {w' : World} {s' : Slc} {x : Nat} {cs : List Value} (f : Foot (OutM r s) (OutM r s') w w') (ho : ObjAt w x cs) (hn : ¬ OutM r s x) : ObjAt w' x cs ∧ ¬ OutM r s' x :=
  ⟨ho.ext f.1 hn, fun hh => (f.2 x hh).elim hn (fun h => by have := ho.lt; omega)⟩
theorem outNum {n : Int} (h : OutK A w0 w r s b) (hn : 0 ≤ n ∧ n ≤ 2 ^ 40) (hb : b.length ≤ 2 ^ 19) (hE : ErrsB A n0 w0) :
    Calls Tryd.prog fn_pack_Out_Num ⟨[.pointer (some ⟨r, 0, none⟩), .int .i64 n]⟩ w fun e w' => e = .returned (.tuple #[]) ∧ ∃ s', OutK A w0 w' r s' (b ++ numB n) ∧ Foot (OutM r s) (OutM r s') w w' := by
  refine (OutS_Num A n0 r s (b, none) n w h.o (by omega) (by simp only; omega) (hE.keep h.k)).mono ?_
  rintro e w' ⟨rfl, s', g1, g2⟩
  have e1 : oNum n (b, none) = (b ++ numB n, none) := by unfold oNum numB; rw [if_neg (by omega)]
  rw [e1] at g1
  obtain ⟨g3, g4⟩ := g2.new h.k h.m
  exact ⟨rfl, s', ⟨g1, g4, g3⟩, g2⟩
end
theorem outDoneK {A : Nat → Addr} {n0 : Nat} {w0 w : World} {r : Nat} {s : Slc} {b : List UInt8} (h : OutK A w0 w r s b) (hb : b.length ≤ 65536) (hE : ErrsB A n0 w0) :
    Calls Tryd.prog fn_pack_Out_Done ⟨[.pointer (some ⟨r, 0, none⟩)]⟩ w fun e w' => ∃ t : Slc, e = .returned (.tuple ⟨[t.v, .nilIface]⟩) ∧ Own w' t 1 (b.map byteV) ∧ Fresh w0 t ∧ Keep w0 w' ∧ Keep w w' := by
  refine pack_Out_Done_ok _ ?_
  unfold pack_Out_Done
  have ho := h.o
  have hsl : s.l = b.length := by have := ho.2.1.1; simpa using this
  refine needSome_mk rfl ⟨_, by rw [add_lit]; exact ho.c1, errO_isI A _, BIf_mk (fun hn => by cases hn) (fun hn => ?_)⟩
  refine needSome_mk rfl ⟨s, ho.c0, BIf_dec (fun h1 => by omega) (fun h1 => ?_)⟩
  refine needSome_mk rfl ⟨s, ho.c0, ?_⟩
  refine (CloneB_own s b w ho.2.1.bytes (by omega)).mono ?_
  rintro e w' ⟨t, rfl, hb, hf, hk⟩
  exact ⟨t, rfl, t, rfl, hb, hf.mono h.k.size, h.k.trans hk, hk⟩
theorem outDone {A : Nat → Addr} {n0 : Nat} {w0 w : World} {r : Nat} {s : Slc} {b : List UInt8} (h : OutK A w0 w r s b) (hb : b.length ≤ 65536) (hE : ErrsB A n0 w0) :
    Calls Tryd.prog fn_pack_Out_Done ⟨[.pointer (some ⟨r, 0, none⟩)]⟩ w fun e w' => ∃ t : Slc, e = .returned (.tuple ⟨[t.v, .nilIface]⟩) ∧ Own w' t 1 (b.map byteV) ∧ Fresh w0 t ∧ Keep w0 w' := by
  refine (outDoneK h hb hE).mono ?_
  rintro e w' ⟨t, h1, h2, h3, h4, _⟩
  exact ⟨t, h1, h2, h3, h4⟩

end Go.D

set_option linter.unusedVariables false
set_option linter.unusedSimpArgs false
namespace Go.D
open Go Go.Proofs

/-- A number read off bytes: its value and what is behind, or the error's place. -/
def rawR : Nat → Nat → List UInt8 → Except Nat (Nat × List UInt8)
  | _, _, [] => .error 1
  | k, n, c :: rest =>
    if 128 ≤ c.toNat ∧ k < 8 then rawR (k + 1) (n + (c.toNat % 128) * 2 ^ (7 * k)) rest
    else if 128 ≤ c.toNat ∨ (c.toNat = 0 ∧ 0 < k) ∨ 4611686018427387903 < n + (c.toNat % 128) * 2 ^ (7 * k) then .error 3
    else .ok (n + (c.toNat % 128) * 2 ^ (7 * k), rest)

/-- A reader: a struct that holds a slice of bytes and an error. -/
def InAt (w : World) (r : Nat) (s : Slc) (bs : List UInt8) (ev : Value) : Prop := ObjAt w r [s.v, ev] ∧ bytesAt w s bs ∧ ¬ ownB s r ∧ s.l ≤ s.c
def eqB (r k : Nat) : Prop := k = r

theorem InAt.ext {M : Nat → Prop} {w w' : World} {r : Nat} {s : Slc} {bs : List UInt8} {ev : Value} (h : InAt w r s bs ev) (he : Ext M w w') (hm : ∀ k, OutM r s k → ¬ M k) : InAt w' r s bs ev :=
  ⟨h.1.ext he (hm r (.inl rfl)), bytesAt_ext h.2.1 he (fun k hk => hm k (.inr hk)), h.2.2⟩
theorem InAt.keep {w w' : World} {r : Nat} {s : Slc} {bs : List UInt8} {ev : Value} (h : InAt w r s bs ev) (he : Keep w w') : InAt w' r s bs ev := h.ext he (fun _ _ h => h)
theorem InAt.c0 {w : World} {r : Nat} {s : Slc} {bs : List UInt8} {ev : Value} (h : InAt w r s bs ev) : w.cell? ⟨r, 0, none⟩ = some s.v := h.1.cell 0 (by simp)
theorem InAt.c1 {w : World} {r : Nat} {s : Slc} {bs : List UInt8} {ev : Value} (h : InAt w r s bs ev) : w.cell? ⟨r, 1, none⟩ = some ev := h.1.cell 1 (by simp)
theorem InAt.setErr {w : World} {r : Nat} {s : Slc} {bs : List UInt8} {ev : Value} (h : InAt w r s bs ev) (v : Value) :
    canW w ⟨r, 1, none⟩ 1 ∧ InAt (w.setCell ⟨r, 1, none⟩ v) r s bs v ∧ Ext (eqB r) w (w.setCell ⟨r, 1, none⟩ v) := by
  obtain ⟨h1, h2, h3⟩ := h.1.set 1 (by simp) v
  exact ⟨h1, ⟨h2, bytesAt_ext h.2.1 h3 (fun k hk he => h.2.2.1 (he ▸ hk)), h.2.2⟩, h3⟩

theorem In_fail_spec (r : Nat) (s : Slc) (bs : List UInt8) (ev v : Value) (w : World) (h : InAt w r s bs ev) (hi : isI ev) (hv : ∀ X : Prop, X → oneK v X) :
    Calls Tryd.prog fn_pack_In_fail ⟨[.pointer (some ⟨r, 0, none⟩), v]⟩ w fun e w' => e = .returned (.int .i64 0) ∧ InAt w' r s bs (failE ev v) ∧ Ext (eqB r) w w' := by
  refine pack_In_fail_ok _ _ ?_
  refine needSome_mk rfl ⟨_, by rw [add_lit]; exact h.c1, hi, BIf_mk (fun hn => needSome_mk rfl (hv _ (hv _ ?_))) (fun hn => ?_)⟩
  · obtain ⟨h1, h2, h3⟩ := h.setErr v
    rw [add_lit]
    refine ⟨h1, ?_⟩
    rintro w6 rfl
    refine ⟨rfl, ?_, h3⟩
    rw [failE, if_pos hn]; exact h2
  · refine ⟨rfl, ?_, Ext.refl _ _⟩
    rw [failE, if_neg (by rw [hn]; decide)]; exact h

theorem ownB_sub {s : Slc} {sz lo hi c k : Nat} (h : ownB (Slc.sub s sz lo hi c) k) : ownB s k := by
  obtain ⟨a, ha, rfl⟩ := h
  simp only [Slc.sub] at ha
  split at ha
  · exact ⟨a, ha, rfl⟩
  · obtain ⟨b, hb, rfl⟩ := Option.map_eq_some_iff.1 ha
    exact ⟨b, hb, (add_block b _).symm⟩

/-- The reader's slice is cut. -/
theorem InAt.cut {w : World} {r : Nat} {s : Slc} {bs : List UInt8} {ev : Value} (h : InAt w r s bs ev) {k : Nat} (hk : k ≤ bs.length) :
    canW w ⟨r, 0, none⟩ 1 ∧ InAt (w.setCell ⟨r, 0, none⟩ (Slc.sub s 1 k s.l s.c).v) r (Slc.sub s 1 k s.l s.c) (bs.drop k) ev ∧ Ext (eqB r) w (w.setCell ⟨r, 0, none⟩ (Slc.sub s 1 k s.l s.c).v) := by
  obtain ⟨h1, h2, h3⟩ := h.1.set 0 (by simp) (Slc.sub s 1 k s.l s.c).v
  have hl := h.2.1.1
  have hc := h.2.2.2
  have hb : bytesAt w (Slc.sub s 1 k s.l s.c) (bs.drop k) := by
    have := bytesAt_sub h.2.1 (lo := k) (hi := s.l) (c := s.c) (by omega) (by omega) (by omega)
    rw [hl, List.take_length] at this
    rw [hl]; exact this
  have hn : ¬ ownB (Slc.sub s 1 k s.l s.c) r := fun hh => h.2.2.1 (ownB_sub hh)
  refine ⟨h1, ⟨h2, bytesAt_ext hb h3 (fun x hx he => hn (he ▸ hx)), hn, ?_⟩, h3⟩
  simp only [Slc.sub]
  omega

/-- How a reading of a number ends. -/
def RawRes (A : Nat → Addr) (w w' : World) (r : Nat) (s : Slc) (bs : List UInt8) (n : Int) : Except Nat (Nat × List UInt8) → Prop
  | .error k => n = 0 ∧ InAt w' r s bs (errV A (errG.getD k 0)) ∧ Ext (eqB r) w w'
  | .ok (m, rest) => n = m ∧ ∃ s', InAt w' r s' rest .nilIface ∧ (∀ k, ownB s' k → ownB s k) ∧ Ext (eqB r) w w'

theorem In_raw_spec (A : Nat → Addr) (r : Nat) (s : Slc) (bs : List UInt8) (w : World) (h : InAt w r s bs .nilIface) (hl : bs.length ≤ 2 ^ 30) (hE : Errs A w) :
    Calls Tryd.prog fn_pack_In_raw ⟨[.pointer (some ⟨r, 0, none⟩)]⟩ w fun e w' => ∃ n : Int, e = .returned (.int .i64 n) ∧ RawRes A w w' r s bs n (rawR 0 0 bs) := by
  have hsl := h.2.1.1
  refine pack_In_raw_ok _ ?_
  unfold pack_In_raw
  refine needSome_mk rfl ⟨s, h.c0, ?_⟩
  refine ⟨fun n i w2 => w2 = w ∧ ∃ k m : Nat, i = k ∧ n = m ∧ k ≤ bs.length ∧ k ≤ 8 ∧ m < 2 ^ (7 * k) ∧ rawR k m (bs.drop k) = rawR 0 0 bs, fun _ i _ => ((bs.length : Int) - i).toNat, ⟨rfl, 0, 0, rfl, rfl, by omega, by omega, by simp, rfl⟩, ?_⟩
  rintro n6 i7 w8 ⟨rfl, k, m, rfl, rfl, hk, hk8, hm, hraw⟩
  intros
  have fail : ∀ (j : Nat), j < 19 → Calls Tryd.prog fn_pack_In_fail ⟨[.pointer (some ⟨r, 0, none⟩), errV A (errG.getD j 0)]⟩ w8 fun e w' => e = .returned (.int .i64 0) ∧ InAt w' r s bs (errV A (errG.getD j 0)) ∧ Ext (eqB r) w8 w' :=
    fun j hj => In_fail_spec r s bs .nilIface _ w8 h trivial (errV_one A _)
  refine BIf_dec (fun h1 => ?_) (fun h1 => ?_)
  · have hkl : k < bs.length := by omega
    obtain ⟨a, ha, hc⟩ := bytesAt_cell h.2.1 hkl
    have hd : bs.drop k = bs[k] :: bs.drop (k + 1) := drop_get hkl
    rw [hd, rawR] at hraw
    have hcl := bs[k].toNat_lt
    generalize hcc : bs[k].toNat = c at hraw hcl
    have hc' : w8.cell? (a.add k) = some (.int .u8 (c : Int)) := by rw [hc, byteV, hcc]
    have hmin : min (Int.toNat ((7 : Int) * (k : Int))) 64 = 7 * k := by omega
    have hP : 2 ^ (7 * k) ≤ 2 ^ 56 := Nat.pow_le_pow_right (by omega) (by omega)
    have hP1 : 2 ^ (7 * (k + 1)) = 128 * 2 ^ (7 * k) := by rw [show 7 * (k + 1) = 7 + 7 * k by omega, Nat.pow_add]
    have hor := or_disj m (c % 128) (7 * k) hm
    have hdm : (c % 128) * 2 ^ (7 * k) ≤ 127 * 2 ^ (7 * k) := Nat.mul_le_mul_right _ (by omega)
    rw [hmin]
    have ecast : ((c : Int) % 128) * ((2 ^ (7 * k) : Nat) : Int) = (((c % 128) * 2 ^ (7 * k) : Nat) : Int) := by
      rw [Int.natCast_mul]; congr 1
    refine needSome_mk ha ⟨by omega, h1, (c : Int), by rw [show (Int.toNat (k : Int)) * 1 = k by omega]; exact hc', ?_⟩
    rw [ecast, bits_or, hor]
    generalize hdv : (c % 128) * 2 ^ (7 * k) = d at hraw hdm
    generalize hPv : 2 ^ (7 * k) = P at hP hP1 hm hdm
    refine ⟨by omega, by omega, inR64 (by omega), inR64 (by omega), by omega, inR64 (by omega), by omega, by omega, inR64 (by omega), inR64 (by omega), ?_⟩
    refine ⟨fun w2 => w2 = w8 ∧ ¬ (128 ≤ c ∧ k < 8), BIf_dec (fun h2 => BIf_dec (fun h3 => ?_) (fun h3 => ⟨rfl, by omega⟩)) (fun h2 => ⟨rfl, by omega⟩), ?_⟩
    · rw [if_pos (by omega)] at hraw
      exact ⟨inR64 (by omega), ⟨rfl, k + 1, m + d, rfl, rfl, by omega, by omega, by rw [hP1]; omega, hraw⟩, by dsimp only; omega⟩
    · rintro w66 ⟨rfl, hno⟩
      intros
      rw [if_neg hno] at hraw
      have form : (128 ≤ c ∨ (c = 0 ∧ 0 < k) ∨ 4611686018427387903 < m + d) → ∃ v : Value, w66.cell? ⟨gl_ErrForm, 0, none⟩ = some v ∧ Calls Tryd.prog fn_pack_In_fail ⟨[.pointer (some ⟨r, 0, none⟩), v]⟩ w66 fun e w' => ∃ n : Int, e = .returned (.int .i64 n) ∧ ∃ n' : Int, Ending.returned (Value.int .i64 n) = .returned (.int .i64 n') ∧ RawRes A w66 w' r s bs n' (rawR 0 0 bs) := by
        intro hbad
        refine ⟨_, Errs.at hE 3 (by omega), (fail 3 (by omega)).mono ?_⟩
        rintro e w' ⟨rfl, g1, g2⟩
        rw [if_pos hbad] at hraw
        refine ⟨0, rfl, 0, rfl, ?_⟩
        rw [← hraw]
        exact ⟨rfl, g1, g2⟩
      have good : ¬ (128 ≤ c ∨ (c = 0 ∧ 0 < k) ∨ 4611686018427387903 < m + d) →
          needSome (some (⟨r, 0, none⟩ : Addr)) fun a102 => ∃ s103 : Slc, w66.cell? a102 = some s103.v ∧ inR .i64 ((k : Int) + 1) ∧ 0 ≤ ((k : Int) + 1) ∧ ((k : Int) + 1) ≤ ((s103.l : Nat) : Int) ∧ ((s103.l : Nat) : Int) ≤ ((s103.c : Nat) : Int) ∧ ((s103.c : Nat) : Int) ≤ ((s103.c : Nat) : Int) ∧
            needSome (some (⟨r, 0, none⟩ : Addr)) fun a105 => canW w66 a105 1 ∧ ∀ w106 : World, w106 = w66.setCell a105 (Slc.v (Slc.sub s103 1 (Int.toNat ((k : Int) + 1)) s103.l s103.c)) →
              ∃ n' : Int, Ending.returned (Value.int .i64 ((m + d : Nat) : Int)) = .returned (.int .i64 n') ∧ RawRes A w66 w106 r s bs n' (rawR 0 0 bs) := by
        intro hgood
        rw [if_neg hgood] at hraw
        have ek : Int.toNat ((k : Int) + 1) = k + 1 := by omega
        obtain ⟨g1, g2, g3⟩ := h.cut (k := k + 1) (by omega)
        refine needSome_mk rfl ⟨s, h.c0, inR64 (by omega), by omega, by omega, by have := h.2.2.2; omega, by omega, needSome_mk rfl ⟨g1, ?_⟩⟩
        rintro w106 rfl
        rw [ek]
        refine ⟨_, rfl, ?_⟩
        rw [← hraw]
        exact ⟨rfl, _, g2, fun x hx => ownB_sub hx, g3⟩
      refine BIf_dec (fun h2 => form (.inl (by omega))) (fun h2 => BIf_dec (fun h3 => BIf_dec (fun h4 => form (.inr (.inl (by omega)))) (fun h4 => ?_)) (fun h3 => ?_))
      · refine BIf_dec (fun h5 => form (.inr (.inr (by omega)))) (fun h5 => BIf_dec (fun h6 => by omega) (fun h6 => good (by omega)))
      · refine BIf_dec (fun h5 => form (.inr (.inr (by omega)))) (fun h5 => BIf_dec (fun h6 => by omega) (fun h6 => good (by omega)))
  · refine ⟨_, Errs.at hE 1 (by omega), (fail 1 (by omega)).mono ?_⟩
    rintro e w' ⟨rfl, g1, g2⟩
    have : bs.drop k = [] := List.drop_eq_nil_of_le (by omega)
    rw [this, rawR] at hraw
    refine ⟨0, rfl, 0, rfl, ?_⟩
    rw [← hraw]
    exact ⟨rfl, g1, g2⟩
end Go.D

set_option linter.unusedVariables false
set_option linter.unusedSimpArgs false
namespace Go.D
open Go Go.Proofs

theorem ofNat_toNat8 {n : Nat} (h : n < 256) : (UInt8.ofNat n).toNat = n := by
  simp [UInt8.toNat_ofNat', Nat.mod_eq_of_lt h]
theorem toNat_ofNat8 (c : UInt8) : UInt8.ofNat c.toNat = c := by simp

theorem pow7 (k : Nat) : 2 ^ (7 * (k + 1)) = 128 * 2 ^ (7 * k) := by rw [show 7 * (k + 1) = 7 + 7 * k by omega, Nat.pow_add]

/-- What is read is what was written. -/
theorem rawR_enc : ∀ (bs : List UInt8) (k m n : Nat) (rest : List UInt8), rawR k m bs = .ok (n, rest) →
    ∃ q, n = m + q * 2 ^ (7 * k) ∧ bs = encN q ++ rest ∧ (0 < k → 0 < q) ∧ n ≤ 4611686018427387903
  | [], k, m, n, rest, h => by simp [rawR] at h
  | c :: bs, k, m, n, rest, h => by
    rw [rawR] at h
    have hc := c.toNat_lt
    split at h
    · rename_i h1
      obtain ⟨q, h2, h3, h4, h5⟩ := rawR_enc bs (k + 1) _ n rest h
      refine ⟨c.toNat % 128 + 128 * q, ?_, ?_, fun _ => by have := h4 (by omega); omega, h5⟩
      · rw [h2, pow7, Nat.add_mul, Nat.add_assoc, ← Nat.mul_assoc, Nat.mul_comm q 128]
      · have hq := h4 (by omega)
        rw [encN_ge (by omega), h3]
        have e1 : (c.toNat % 128 + 128 * q) % 128 + 128 = c.toNat := by omega
        have e2 : (c.toNat % 128 + 128 * q) / 128 = q := by omega
        rw [e1, e2, toNat_ofNat8]; rfl
    · split at h
      · cases h
      · rename_i h1 h2
        simp only [Except.ok.injEq, Prod.mk.injEq] at h
        obtain ⟨rfl, rfl⟩ := h
        have h3 : c.toNat < 128 := by omega
        have e1 : c.toNat % 128 = c.toNat := by omega
        rw [e1] at h2 ⊢
        refine ⟨c.toNat, rfl, ?_, fun _ => by omega, by omega⟩
        rw [encN_lt h3, toNat_ofNat8]; rfl

/-- What was written is read. -/
theorem enc_rawR : ∀ (q k m : Nat) (rest : List UInt8), k ≤ 8 → (0 < k → 0 < q) → m + q * 2 ^ (7 * k) ≤ 4611686018427387903 →
    rawR k m (encN q ++ rest) = .ok (m + q * 2 ^ (7 * k), rest) := by
  intro q
  induction q using Nat.strongRecOn with
  | ind q ih =>
    intro k m rest hk hq hm
    by_cases h : q < 128
    · rw [encN_lt h]
      simp only [List.cons_append, List.nil_append, rawR, ofNat_toNat8 (show q < 256 by omega)]
      have e1 : q % 128 = q := by omega
      rw [e1, if_neg (by omega), if_neg (by omega)]
    · rw [encN_ge h]
      simp only [List.cons_append, rawR, ofNat_toNat8 (show q % 128 + 128 < 256 by omega)]
      have e1 : (q % 128 + 128) % 128 = q % 128 := by omega
      have hk8 : k < 8 := by
        rcases Nat.lt_or_ge k 8 with h | h
        · exact h
        · have hk8 : k = 8 := by omega
          subst hk8
          exfalso
          have e9 : (2 : Nat) ^ (7 * 8) = 72057594037927936 := by decide
          rw [e9] at hm
          have : 128 * 72057594037927936 ≤ q * 72057594037927936 := Nat.mul_le_mul_right _ (by omega)
          omega
      have e2 : m + q % 128 * 2 ^ (7 * k) + q / 128 * 2 ^ (7 * (k + 1)) = m + q * 2 ^ (7 * k) := by
        rw [pow7, Nat.add_assoc]
        congr 1
        rw [← Nat.mul_assoc, ← Nat.add_mul]
        congr 1
        omega
      rw [e1, if_pos ⟨by omega, hk8⟩, ih (q / 128) (by omega) (k + 1) _ rest (by omega) (fun _ => by omega) (by rw [e2]; exact hm), e2]

theorem enc_raw (n : Nat) (rest : List UInt8) (h : n ≤ 4611686018427387903) : rawR 0 0 (encN n ++ rest) = .ok (n, rest) := by
  have := enc_rawR n 0 0 rest (by omega) (fun h => by omega) (by simpa using h)
  simpa using this
theorem raw_enc {bs : List UInt8} {n : Nat} {rest : List UInt8} (h : rawR 0 0 bs = .ok (n, rest)) : bs = encN n ++ rest ∧ n ≤ 4611686018427387903 := by
  obtain ⟨q, h1, h2, _, h4⟩ := rawR_enc bs 0 0 n rest h
  have : n = q := by simpa using h1
  subst this
  exact ⟨h2, h4⟩
theorem rawR_err : ∀ (bs : List UInt8) (k m j : Nat), rawR k m bs = .error j → j = 1 ∨ j = 3
  | [], k, m, j, h => by simp [rawR] at h; exact .inl h.symm
  | c :: bs, k, m, j, h => by
    rw [rawR] at h
    split at h
    · exact rawR_err bs _ _ j h
    · split at h
      · simp at h; exact .inr h.symm
      · cases h
end Go.D

set_option linter.unusedVariables false
set_option linter.unusedSimpArgs false
namespace Go.D
open Go Go.Proofs

/-- A reader at block r, which holds bytes that lie in the blocks F. -/
def InR (A : Nat → Addr) (w : World) (r : Nat) (F : Nat → Prop) (st : InS) : Prop :=
  ∃ s, InAt w r s st.1 (errO A st.2) ∧ (∀ k, ownB s k → F k) ∧ ¬ F r

theorem InR.ext {A : Nat → Addr} {M : Nat → Prop} {w w' : World} {r : Nat} {F : Nat → Prop} {st : InS} (h : InR A w r F st) (he : Ext M w w') (h1 : ¬ M r) (h2 : ∀ k, F k → ¬ M k) : InR A w' r F st := by
  obtain ⟨s, g1, g2, g3⟩ := h
  exact ⟨s, g1.ext he (fun k hk => hk.elim (fun h => h ▸ h1) (fun h => h2 k (g2 k h))), g2, g3⟩
theorem InR.keep {A : Nat → Addr} {w w' : World} {r : Nat} {F : Nat → Prop} {st : InS} (h : InR A w r F st) (he : Keep w w') : InR A w' r F st := h.ext he (fun h => h) (fun _ _ h => h)

def rNum (most : Int) : InS → Int × InS
  | (bs, some k) => (0, (bs, some k))
  | (bs, none) => match rawR 0 0 bs with
    | .error k => (0, (bs, some k))
    | .ok (n, rest) => if most < (n : Int) then (0, (rest, some 0)) else ((n : Int), (rest, none))

theorem rNum_bad {bs : List UInt8} {k : Nat} (most : Int) (h : rawR 0 0 bs = .error k) : rNum most (bs, none) = (0, (bs, some k)) := by simp [rNum, h]
theorem rNum_big {bs rest : List UInt8} {n : Nat} {most : Int} (h : rawR 0 0 bs = .ok (n, rest)) (hm : most < (n : Int)) : rNum most (bs, none) = (0, (rest, some 0)) := by simp [rNum, h, hm]
theorem rNum_ok {bs rest : List UInt8} {n : Nat} {most : Int} (h : rawR 0 0 bs = .ok (n, rest)) (hm : ¬ most < (n : Int)) : rNum most (bs, none) = ((n : Int), (rest, none)) := by simp [rNum, h, hm]
theorem Ext.trans' {M : Nat → Prop} {a b c : World} (h1 : Ext M a b) (h2 : Ext M b c) : Ext M a c := h1.trans h2 (fun _ h => h) (fun _ h => .inl h)

theorem Read_spec (A : Nat → Addr) (s : Slc) (bs : List UInt8) (w : World) (h : bytesAt w s bs) (hl : s.l ≤ 2 ^ 30) :
    Calls Tryd.prog fn_pack_Read ⟨[s.v]⟩ w fun e w' => ∃ (r : Nat) (F : Nat → Prop), e = .returned (.pointer (some ⟨r, 0, none⟩)) ∧ InR A w' r F (bs, none) ∧ Keep w w' ∧ w.heap.size ≤ r ∧ (∀ k, F k → w.heap.size ≤ k ∧ k < w'.heap.size) := by
  refine pack_Read_ok _ ?_
  unfold pack_Read
  refine (CloneB_own s bs w h hl).mono ?_
  rintro e w3 ⟨t, rfl, ht, hf, hk⟩
  refine ⟨t, rfl, newS_mk (fun r w6 hr hb hk6 hs6 => ?_)⟩
  have hnot : ¬ ownB t r := fun hh => by have := OwnLt ht r hh; omega
  exact ⟨r, ownB t, rfl, ⟨t, ⟨⟨_, _, hb, .inl (by simp)⟩, bytesAt_keep ht.bytes hk6, hnot, ht.le (by omega)⟩, fun _ h => h, hnot⟩, hk.trans hk6, by have := hk.size; omega, fun k hk => ⟨hf k hk, by have := OwnLt ht k hk; omega⟩⟩

theorem In_failR {A : Nat → Addr} {r : Nat} {F : Nat → Prop} {bs : List UInt8} {w : World} (h : InR A w r F (bs, none)) (k : Nat) :
    Calls Tryd.prog fn_pack_In_fail ⟨[.pointer (some ⟨r, 0, none⟩), errV A (errG.getD k 0)]⟩ w fun e w' => e = .returned (.int .i64 0) ∧ InR A w' r F (bs, some k) ∧ Ext (eqB r) w w' := by
  obtain ⟨s, h1, h2, h3⟩ := h
  refine (In_fail_spec r s bs .nilIface (errV A (errG.getD k 0)) w h1 trivial (errV_one A _)).mono ?_
  rintro e w' ⟨rfl, g1, g2⟩
  exact ⟨rfl, ⟨s, g1, h2, h3⟩, g2⟩

theorem In_Num_spec (A : Nat → Addr) (n0 r : Nat) (F : Nat → Prop) (st : InS) (most : Int) (w : World) (h : InR A w r F st) (hl : st.1.length ≤ 2 ^ 30) (hE : ErrsB A n0 w) (hr : n0 ≤ r) :
    Calls Tryd.prog fn_pack_In_Num ⟨[.pointer (some ⟨r, 0, none⟩), .int .i64 most]⟩ w fun e w' => e = .returned (.int .i64 (rNum most st).1) ∧ InR A w' r F (rNum most st).2 ∧ Ext (eqB r) w w' := by
  obtain ⟨bs, er⟩ := st
  refine pack_In_Num_ok _ _ ?_
  unfold pack_In_Num
  have h0 := h
  obtain ⟨s, h1, h2, h3⟩ := h
  refine needSome_mk rfl ⟨_, by rw [add_lit]; exact h1.c1, errO_isI _ _, ?_⟩
  cases er with
  | some k =>
    refine BIf_mk (fun _ => ?_) (fun hh => by cases hh)
    exact ⟨rfl, h0, Ext.refl _ _⟩
  | none =>
    refine BIf_mk (fun hh => by cases hh) (fun _ => ?_)
    refine (In_raw_spec A r s bs w h1 hl hE.1).mono ?_
    rintro e w6 ⟨n, rfl, hres⟩
    refine ⟨n, rfl, ?_⟩
    cases hraw : rawR 0 0 bs with
    | error k =>
      rw [hraw] at hres
      obtain ⟨rfl, g1, g2⟩ := hres
      rw [rNum_bad most hraw]
      refine needSome_mk rfl ⟨errV A (errG.getD k 0), by rw [add_lit]; exact g1.c1, trivial, BIf_mk (fun hh => by cases hh) (fun _ => ?_)⟩
      exact ⟨rfl, ⟨s, g1, h2, h3⟩, g2⟩
    | ok x =>
      obtain ⟨m, rest⟩ := x
      rw [hraw] at hres
      obtain ⟨rfl, s', g1, g2, g3⟩ := hres
      have hR : InR A w6 r F (rest, none) := ⟨s', g1, fun k hk => h2 k (g2 k hk), h3⟩
      refine needSome_mk rfl ⟨.nilIface, by rw [add_lit]; exact g1.c1, trivial, BIf_mk (fun _ => BIf_dec (fun hlt => ?_) (fun hlt => ?_)) (fun hh => by cases hh)⟩
      · refine ⟨_, Errs.at (hE.ext g3 (fun k hk => by rw [show k = r from hk]; exact hr)).1 0 (by omega), (In_failR hR 0).mono ?_⟩
        rintro e w12 ⟨rfl, q1, q2⟩
        rw [rNum_big hraw hlt]
        exact ⟨_, rfl, rfl, q1, g3.trans' q2⟩
      · rw [rNum_ok hraw hlt]
        exact ⟨rfl, hR, g3⟩

theorem rNum_cases (most : Int) (st : InS) :
    (∃ bs k, st = (bs, some k) ∧ rNum most st = (0, (bs, some k))) ∨
    (∃ bs k, st = (bs, none) ∧ (k = 1 ∨ k = 3) ∧ rNum most st = (0, (bs, some k))) ∨
    (∃ n rest, st = (encN n ++ rest, none) ∧ n ≤ 4611686018427387903 ∧ most < (n : Int) ∧ rNum most st = (0, (rest, some 0))) ∨
    (∃ n rest, st = (encN n ++ rest, none) ∧ n ≤ 4611686018427387903 ∧ (n : Int) ≤ most ∧ rNum most st = ((n : Int), (rest, none))) := by
  obtain ⟨bs, er⟩ := st
  cases er with
  | some k => exact .inl ⟨bs, k, rfl, rfl⟩
  | none =>
    cases h : rawR 0 0 bs with
    | error k => exact .inr (.inl ⟨bs, k, rfl, rawR_err _ _ _ _ h, rNum_bad most h⟩)
    | ok x =>
      obtain ⟨n, rest⟩ := x
      obtain ⟨h1, h2⟩ := raw_enc h
      by_cases hm : most < (n : Int)
      · exact .inr (.inr (.inl ⟨n, rest, by rw [h1], h2, hm, rNum_big h hm⟩))
      · exact .inr (.inr (.inr ⟨n, rest, by rw [h1], h2, by omega, rNum_ok h hm⟩))
theorem rNum_enc (most : Int) (n : Nat) (rest : List UInt8) (h : n ≤ 4611686018427387903) (hm : (n : Int) ≤ most) : rNum most (encN n ++ rest, none) = ((n : Int), (rest, none)) :=
  rNum_ok (enc_raw n rest h) (by omega)
theorem rNum_len (most : Int) (st : InS) : (rNum most st).2.1.length ≤ st.1.length := by
  rcases rNum_cases most st with ⟨bs, k, rfl, h⟩ | ⟨bs, k, rfl, _, h⟩ | ⟨n, rest, rfl, _, _, h⟩ | ⟨n, rest, rfl, _, _, h⟩ <;> rw [h] <;> simp
theorem rNum_nonneg (most : Int) (st : InS) : 0 ≤ (rNum most st).1 ∧ (rNum most st).1 ≤ 4611686018427387903 := by
  rcases rNum_cases most st with ⟨bs, k, rfl, h⟩ | ⟨bs, k, rfl, _, h⟩ | ⟨n, rest, rfl, _, _, h⟩ | ⟨n, rest, rfl, _, _, h⟩ <;> rw [h] <;> simp <;> omega
theorem rNum_pos (most : Int) (st : InS) (h0 : 0 < (rNum most st).1) : (rNum most st).2.2 = none := by
  rcases rNum_cases most st with ⟨bs, k, rfl, h⟩ | ⟨bs, k, rfl, _, h⟩ | ⟨n, rest, rfl, _, _, h⟩ | ⟨n, rest, rfl, _, _, h⟩ <;> rw [h] at h0 ⊢ <;> simp at h0
theorem rNum_most (most : Int) (st : InS) (h0 : (rNum most st).2.2 = none) : (rNum most st).1 ≤ most := by
  rcases rNum_cases most st with ⟨bs, k, rfl, h⟩ | ⟨bs, k, rfl, _, h⟩ | ⟨n, rest, rfl, _, _, h⟩ | ⟨n, rest, rfl, _, hm, h⟩ <;> rw [h] at h0 ⊢ <;> simp at h0
  exact hm

def rEnd : InS → Option Nat
  | (bs, some k) => some k
  | (bs, none) => if 0 < bs.length then some 3 else none
theorem In_End_spec (A : Nat → Addr) (n0 r : Nat) (F : Nat → Prop) (st : InS) (w : World) (h : InR A w r F st) (hE : ErrsB A n0 w) :
    Calls Tryd.prog fn_pack_In_End ⟨[.pointer (some ⟨r, 0, none⟩)]⟩ w fun e w' => e = .returned (errO A (rEnd st)) ∧ w' = w := by
  refine pack_In_End_ok _ ?_
  obtain ⟨bs, er⟩ := st
  obtain ⟨s, h1, h2, h3⟩ := h
  have hl := h1.2.1.1
  dsimp only at hl
  refine needSome_mk rfl ⟨_, by rw [add_lit]; exact h1.c1, errO_isI _ _, ?_⟩
  cases er with
  | some k => exact BIf_mk (fun hh => by cases hh) (fun _ => needSome_mk rfl ⟨_, by rw [add_lit]; exact h1.c1, rfl, rfl⟩)
  | none =>
    refine BIf_mk (fun _ => needSome_mk rfl ⟨s, h1.c0, BIf_dec (fun hlt => ?_) (fun hlt => ?_)⟩) (fun hh => by cases hh)
    · refine ⟨_, Errs.at hE.1 3 (by omega), ?_, rfl⟩
      rw [rEnd, if_pos (by omega)]; rfl
    · refine needSome_mk rfl ⟨_, by rw [add_lit]; exact h1.c1, ?_, rfl⟩
      rw [rEnd, if_neg (by omega)]

def rTextF (n : Int) : InS → List UInt8 × InS
  | (bs, some k) => ([], (bs, some k))
  | (bs, none) => if (bs.length : Int) < n then ([], (bs, some 1)) else (bs.take n.toNat, (bs.drop n.toNat, none))
theorem rTextF_short {n : Int} {bs : List UInt8} (h : (bs.length : Int) < n) : rTextF n (bs, none) = ([], (bs, some 1)) := by simp [rTextF, h]
theorem rTextF_ok {n : Int} {bs : List UInt8} (h : ¬ (bs.length : Int) < n) : rTextF n (bs, none) = (bs.take n.toNat, (bs.drop n.toNat, none)) := by simp [rTextF, h]
def rText (most : Int) (st : InS) : List UInt8 × InS := rTextF (rNum most st).1 (rNum most st).2
theorem rText_enc (most : Int) (t rest : List UInt8) (h : t.length ≤ 4611686018427387903) (hm : (t.length : Int) ≤ most) : rText most (encN t.length ++ (t ++ rest), none) = (t, (rest, none)) := by
  rw [rText, rNum_enc most _ _ h hm, rTextF_ok (by simp; omega)]
  simp

end Go.D

set_option linter.unusedVariables false
set_option linter.unusedSimpArgs false
namespace Go.D
open Go Go.Proofs

/-! ### operations, read -/
structure RdK (A : Nat → Addr) (n0 : Nat) (w0 w : World) (r : Nat) (F : Nat → Prop) (bs : List UInt8) : Prop where
  i : InR A w r F (bs, none)
  ge : w0.heap.size ≤ r
  l : r < w.heap.size
  f : ∀ k, F k → w0.heap.size ≤ k ∧ k < w.heap.size
  k : Keep w0 w
  e : ErrsB A n0 w0
  n : n0 ≤ w0.heap.size
  b : bs.length ≤ 2 ^ 20
section
variable {A : Nat → Addr} {n0 : Nat} {w0 w : World} {r : Nat} {F : Nat → Prop} {bs rest : List UInt8}
theorem RdK.ext {M : Nat → Prop} {w' : World} (h : RdK A n0 w0 w r F bs) (he : Ext M w w') (hm : ∀ k, M k → w.heap.size ≤ k ∨ (w0.heap.size ≤ k ∧ k ≠ r ∧ ¬ F k)) : RdK A n0 w0 w' r F bs := by
  have z := he.size
  have z0 := h.k.size
  refine ⟨h.i.ext he (fun hh => ?_) (fun k hk hh => ?_), h.ge, by have := h.l; omega, fun k hk => ⟨(h.f k hk).1, by have := (h.f k hk).2; omega⟩, h.k.ext he (fun k hk => ?_), h.e, h.n, h.b⟩
  · rcases hm _ hh with g | g
    · have := h.l; omega
    · exact g.2.1 rfl
  · rcases hm _ hh with g | g
    · have := (h.f k hk).2; omega
    · exact g.2.2 hk
  · rcases hm _ hk with g | g
    · omega
    · exact g.1
theorem RdK.keep {w' : World} (h : RdK A n0 w0 w r F bs) (he : Keep w w') : RdK A n0 w0 w' r F bs := h.ext he (fun _ h => h.elim)
theorem RdK.step {w' : World} {bs' : List UInt8} (h : RdK A n0 w0 w r F bs) (he : Ext (eqB r) w w') (hi : InR A w' r F (bs', none)) (hb : bs'.length ≤ 2 ^ 20) : RdK A n0 w0 w' r F bs' := by
  have z := he.size
  exact ⟨hi, h.ge, by have := h.l; omega, fun k hk => ⟨(h.f k hk).1, by have := (h.f k hk).2; omega⟩, h.k.ext he (fun k hk => by rw [show k = r from hk]; exact h.ge), h.e, h.n, hb⟩
theorem rdNum {n most : Int} (h : RdK A n0 w0 w r F (numB n ++ rest)) (hn : 0 ≤ n) (hm : n ≤ most) (hb : most ≤ 2 ^ 40) :
    Calls Tryd.prog fn_pack_In_Num ⟨[.pointer (some ⟨r, 0, none⟩), .int .i64 most]⟩ w fun e w' => e = .returned (.int .i64 n) ∧ RdK A n0 w0 w' r F rest ∧ Ext (eqB r) w w' := by
  have hl := h.b
  have q := rNum_enc most n.toNat rest (by omega) (by omega)
  have hrl : rest.length ≤ 2 ^ 20 := by rw [List.length_append] at hl; omega
  refine (In_Num_spec A n0 r F _ most w h.i (by dsimp only; omega) (h.e.keep h.k) (by have := h.n; have := h.ge; omega)).mono ?_
  rintro e w' ⟨rfl, g, k⟩
  unfold numB at *
  rw [q] at g ⊢
  refine ⟨?_, h.step k g hrl, k⟩
  rw [show ((n.toNat : Nat) : Int) = n by omega]
end

end Go.D

set_option linter.unusedVariables false
set_option linter.unusedSimpArgs false
namespace Go.D
open Go Go.Proofs

theorem ref04_Num_specZ : ∀ (n : Nat) (z : Int) (w : World), z = n → n ≤ 9223372036854775807 →
    Calls Tryd.prog fn_tidewaterref04_Num ⟨[.int .i64 z]⟩ w fun e w' => ∃ s : Slc, e = .returned s.v ∧ Own w' s 1 ((encN n).map byteV) ∧ Fresh w s ∧ Keep w w' := by
  intro n
  induction n using Nat.strongRecOn with
  | ind n ih =>
    intro z w hz hn
    refine tidewaterref04_Num_ok _ ?_
    unfold tidewaterref04_Num
    refine BIf_dec (fun h => ?_) (fun h => ?_)
    · refine newS_mk (fun r w3 hr hb hk hs => ?_)
      rw [hz, wrap8] at hb
      refine ⟨_, rfl, ?_, Fresh.at (by omega), hk⟩
      rw [encN_lt (by omega)]
      exact Own.new (sz := 1) hb (.inl (by simp)) rfl
    · refine ⟨by omega, by omega, inR64 (by omega), newS_mk (fun r w5 hr hb hk hs => ?_)⟩
      rw [show (z % 128 + 128) = ((n % 128 + 128 : Nat) : Int) by omega, wrap8] at hb
      refine ⟨by omega, by omega, inR64 (by omega), ?_⟩
      refine (ih (n / 128) (by omega) (z / 128) w5 (by omega) (by omega)).mono ?_
      rintro e w7 ⟨s8, rfl, h8, f8, k8⟩
      have ho : Own w7 ⟨some ⟨r, 0, none⟩, 1, 1⟩ 1 ([UInt8.ofNat (n % 128 + 128)].map byteV) := Own.keep (Own.new (sz := 1) hb (.inl (by simp)) rfl) k8
      have hle := encN_len (n / 128) 9 (by omega)
      have h81 := h8.bytes.1
      refine ⟨s8, rfl, append_bytes (w0 := w) ho rfl (Fresh.at (by omega)) (hk.trans k8) (srcAt_bytes h8.bytes) (by simp only [Src.n]; omega) (fun s9 w10 g1 g2 g3 g4 => ?_)⟩
      refine ⟨s9, rfl, ?_, g3, g2⟩
      rw [encN_ge (by omega)]
      exact g1

theorem ref04_Num_spec (n : Nat) (w : World) (h : n ≤ 9223372036854775807) :
    Calls Tryd.prog fn_tidewaterref04_Num ⟨[.int .i64 (n : Int)]⟩ w fun e w' => ∃ s : Slc, e = .returned s.v ∧ Own w' s 1 ((encN n).map byteV) ∧ Fresh w s ∧ Keep w w' := ref04_Num_specZ n n w rfl h

end Go.D

set_option linter.unusedVariables false
set_option linter.unusedSimpArgs false
namespace Go.D
open Go Go.Proofs

/-! ### bytes behind bytes -/
theorem own_blen {w : World} {s : Slc} {b : List UInt8} (h : Own w s 1 (b.map byteV)) : s.l = b.length := by have := h.1; simpa using this
/-- What an appending keeps. -/
structure Added (w0 w w' : World) (out s' : Slc) (b : List UInt8) : Prop where
  own : Own w' s' 1 (b.map byteV)
  fr : Fresh w0 s'
  k : Keep w0 w'
  x : Ext (ownB out) w w'
  n : ∀ r, r < w.heap.size → ¬ ownB out r → ¬ ownB s' r
theorem addSlc {E : TypeId} {w0 w : World} {out s : Slc} {b c : List UInt8} {K : Slc → World → Prop} (ho : Own w out 1 (b.map byteV)) (hf : Fresh w0 out) (hk : Keep w0 w) (hs : bytesAt w s c) (hb : b.length + c.length ≤ 2 ^ 29)
    (h : ∀ s' w', Added w0 w w' out s' (b ++ c) → K s' w') : appendS 1 E [.int .u8 0] w out (.slc s) K := by
  have h1 := own_blen ho
  have h2 := hs.1
  exact append_bytes2 (w0 := w0) ho rfl hf hk (srcAt_bytes hs) (by simp only [Src.n]; omega) (fun s' w' g1 g2 g3 g4 g5 => h s' w' ⟨g1, g3, g2, g4, fun r hr hn hh => (g5 r hh).elim hn (fun h => by omega)⟩)
theorem addNum {E : TypeId} {w0 w : World} {out : Slc} {b : List UInt8} {n : Int} {K : Slc → World → Prop} (hn : 0 ≤ n ∧ n ≤ 2 ^ 40) (ho : Own w out 1 (b.map byteV)) (hf : Fresh w0 out) (hk : Keep w0 w) (hb : b.length ≤ 2 ^ 20)
    (h : ∀ s' w', Added w0 w w' out s' (b ++ numB n) → K s' w') :
    Calls Tryd.prog fn_tidewaterref04_Num ⟨[.int .i64 n]⟩ w fun e w2 => ∃ s : Slc, e = .returned s.v ∧ appendS 1 E [.int .u8 0] w2 out (.slc s) K := by
  refine (ref04_Num_specZ n.toNat n w (by omega) (by omega)).mono ?_
  rintro e w2 ⟨s, rfl, hs, fs, ks⟩
  have hl := numB_len n hn.2
  refine ⟨s, rfl, addSlc (ho.keep ks) hf (hk.trans ks) hs.bytes (by unfold numB at hl; omega) (fun s' w' g => h s' w' ⟨g.own, g.fr, g.k, Ext.trans ks g.x (fun _ h => h.elim) (fun _ h => .inl h), fun r hr hn => g.n r (by have := ks.size; omega) hn⟩)⟩
end Go.D

set_option linter.unusedVariables false
set_option linter.unusedSimpArgs false
set_option maxRecDepth 8000
namespace Go.D
open Go Go.Proofs

/-! ### its bytes -/
def quad (c : Int) (x : L3) : List Int := [c, x.1, x.2.1, x.2.2]
def keysTo (al : List (Int × L3)) (n : Nat) : List Int := ((List.range n).map fun (i : Nat) => (i : Int) + 1).filter fun c => (lookL al c).isSome
def entsD (al : List (Int × L3)) (ks : List Int) : List UInt8 := ks.flatMap fun c => (quad c (lastV al c)).flatMap numB
def bytesD (al : List (Int × L3)) : List UInt8 := numB ((keysTo al 4).length : Int) ++ entsD al (keysTo al 4)
theorem keysTo_succ (al : List (Int × L3)) (n : Nat) : keysTo al (n + 1) = keysTo al n ++ (if (lookL al ((n : Int) + 1)).isSome = true then [(n : Int) + 1] else []) := by
  unfold keysTo
  rw [List.range_succ, List.map_append, List.filter_append]
  congr 1
  by_cases h : (lookL al ((n : Int) + 1)).isSome = true
  · simp [h]
  · simp [h]
theorem keysTo_len (al : List (Int × L3)) (n : Nat) : (keysTo al n).length ≤ n := by
  unfold keysTo
  exact Nat.le_trans (List.length_filter_le _ _) (by simp)
theorem keysTo_mem {al : List (Int × L3)} {n : Nat} {c : Int} : c ∈ keysTo al n ↔ (1 ≤ c ∧ c ≤ n) ∧ (lookL al c).isSome = true := by
  unfold keysTo
  rw [List.mem_filter, List.mem_map]
  constructor
  · rintro ⟨⟨i, hi, rfl⟩, h⟩
    rw [List.mem_range] at hi
    exact ⟨by omega, h⟩
  · rintro ⟨h, h2⟩
    exact ⟨⟨(c - 1).toNat, by rw [List.mem_range]; omega, by omega⟩, h2⟩
theorem keysTo_sorted (al : List (Int × L3)) (n : Nat) : (keysTo al n).Pairwise (· < ·) := by
  unfold keysTo
  refine List.Pairwise.filter _ ?_
  rw [List.pairwise_map]
  exact List.Pairwise.imp (fun h => by omega) List.pairwise_lt_range
theorem keys_canon {al : List (Int × L3)} (hw : WfD al) (hn : (al.map (·.1)).Nodup) {ks : List Int} (hp : ks.Perm (al.map (·.1))) (hr : Rising ks) : ks = keysTo al 4 := by
  refine List.Perm.eq_of_pairwise (le := fun a b : Int => a ≤ b) (fun a b _ _ h1 h2 => by omega) (List.pairwise_iff_getElem.2 (fun i j hi hj hij => hr i j hi hj hij)) ((keysTo_sorted al 4).imp (fun h => by omega)) ?_
  refine (List.perm_ext_iff_of_nodup (hp.nodup_iff.2 hn) ((keysTo_sorted al 4).imp (fun h => by omega))).2 (fun c => ?_)
  rw [hp.mem_iff, keysTo_mem, ← look_isSome]
  constructor
  · intro h
    obtain ⟨x, hx⟩ := Option.isSome_iff_exists.1 h
    have := (hw c x hx).1
    exact ⟨⟨this.1, this.2⟩, h⟩
  · exact fun h => h.2
theorem quad_in {al : List (Int × L3)} (hw : WfD al) {c : Int} {x : L3} (hx : lookL al c = some x) : ∀ n ∈ quad c x, 0 ≤ n ∧ n ≤ 2 ^ 40 := by
  obtain ⟨h1, h2, h3, h4⟩ := hw c x hx
  intro n hn
  unfold quad at hn
  simp at hn
  rcases hn with rfl | rfl | rfl | rfl <;> omega
theorem quad_len {al : List (Int × L3)} (hw : WfD al) {c : Int} {x : L3} (hx : lookL al c = some x) : ((quad c x).flatMap numB).length ≤ 24 := by
  have := heads_len (quad c x) (fun n hn => (quad_in hw hx n hn).2)
  simpa [quad] using this
theorem ents_len {al : List (Int × L3)} (hw : WfD al) : ∀ {ks : List Int}, (∀ c ∈ ks, (lookL al c).isSome = true) → (entsD al ks).length ≤ 24 * ks.length
  | [], _ => by simp [entsD]
  | c :: ks, h => by
    have h1 := ents_len hw (ks := ks) (fun d hd => h d (by simp [hd]))
    obtain ⟨x, hx⟩ := Option.isSome_iff_exists.1 (h c (by simp))
    have h2 := quad_len hw hx
    have e : lastV al c = x := by unfold lastV; rw [hx]; rfl
    unfold entsD at h1 ⊢
    rw [List.flatMap_cons, List.length_append, e, List.length_cons]; omega

theorem Bytes_spec22 (A : Nat → Addr) {n0 : Nat} {w : World} {r m : Nat} {al : List (Int × L3)} (hs : SeenAt w r m al) (hw : WfD al) (hE : ErrsB A n0 w) :
    Calls Tryd.prog fn_dedup_Seen_Bytes ⟨[ptrR' r]⟩ w fun e w' => ∃ t : Slc, e = .returned (.tuple ⟨[t.v, .nilIface]⟩) ∧ Own w' t 1 ((bytesD al).map byteV) ∧ Fresh w t ∧ Keep w w' := by
  refine dedup_Seen_Bytes_ok _ ?_
  unfold dedup_Seen_Bytes
  have hal := hw.len hs.mp.nd
  refine newS_mk (fun r2 w3 hr2 hb2 k2 hs2 => ?_)
  refine var1_mk (fun r4 w6 hr4 o4 k4 hs4 => ?_)
  have kd : Keep w6 (World.drew w6) := Keep.drew (Ext.refl _ _)
  have z2 := k2.size
  have z4 := k4.size
  have hO : OutK A w w3 r2 ⟨none, 0, 0⟩ [] := ⟨OutS.new A hb2, fun k hk => by rw [OutM_nil hk]; omega, k2⟩
  have hOd := (hO.keep k4).keep kd
  have kkd := (k2.trans k4).trans kd
  have o4d := o4.keep kd
  obtain ⟨es, hes, hsz⟩ := (hs.keep kkd).mp.at.size
  refine ⟨_, o4d.cell 0 (by simp), needSome_mk rfl ⟨_, (hs.keep kkd).o.cell 0 (by simp), es, hes, ?_⟩⟩
  rw [hsz]
  have l1 := numB_len (al.length : Int) (by omega)
  refine (outNum hOd (n := (al.length : Int)) (by omega) (by simp) hE).mono ?_
  rintro e w12 ⟨rfl, s12, h12, f12⟩
  rw [List.nil_append] at h12
  have hdz : (World.drew w6).heap.size = w6.heap.size := rfl
  have z12 := f12.1.size
  have o4e := o4d.ext f12.1 (fun hh => by have := OutM_nil hh; omega)
  refine ⟨rfl, (rising_spec22 r w12).mono ?_⟩
  rintro e w14 ⟨cb, rfl, ocb, k14, hcb⟩
  refine ⟨_, rfl, fn_dedup_Seen_rising_1, [], [ptrR' cb], rfl, by rfl, ?_⟩
  intro D lr rc w19 hD hlr hw19 hY
  have N := newRange hD hlr hw19
  have hdw := N.dw
  have hdl := N.dl
  have hns := N.s
  have z14 := k14.size
  have hcbl := ocb.lt
  have hO19 := (h12.keep k14).keep N.k
  have o4l := o4e.lt
  have hM12 : ∀ j, OutM r2 s12 j → j < w12.heap.size ∧ j ≠ r4 := by
    intro j hj
    refine ⟨h12.lt j hj, fun he => ?_⟩
    rcases f12.2 j hj with h | h
    · have := OutM_nil h; omega
    · omega
  let J : Nat → List Int → Nat → World → Prop := fun n1 ks k w2 => ∃ s, OutK A w w2 r2 s (numB (al.length : Int) ++ entsD al (ks.take k)) ∧ w2.heap[lr]? = some (.loop (rc .ready none)) ∧ w2.heap[D]? = some (.deferred (some [])) ∧
    ObjAt w2 r4 [ptrR' r2] ∧ ObjAt w2 cb [ptrR' r] ∧ ∀ j, OutM r2 s j → (j < w19.heap.size ∨ n1 ≤ j) ∧ j ≠ r4 ∧ j ≠ cb ∧ j ≠ lr ∧ j ≠ D
  have hC := rising1_spec22 lr cb r m al J w19 (by omega) (ocb.keep N.k) (hs.keep hO19.k)
    (fun n1 ks w1 hn1 hp hri kw => ⟨s12, by simpa [entsD] using hO19.keep kw, kw.heap N.l, kw.heap N.d, ((o4e.keep k14).keep N.k).keep kw, (ocb.keep N.k).keep kw, fun j hj => by
      have := hM12 j hj
      exact ⟨.inl (by omega), this.2, by omega, by omega, by omega⟩⟩)
    (fun n1 ks k w1 hj => by
      obtain ⟨s, g1, g2, g3, g4, g5, g6⟩ := hj
      exact ⟨g5.cell 0 (by simp), hs.keep g1.k⟩)
    (fun n1 ks k hk x w1 hp hri hx hj hn1 hz1 => by
      obtain ⟨s, g1, g2, g3, g4, g5, g6⟩ := hj
      have hin : ∀ c ∈ ks, (lookL al c).isSome = true := fun c hc => look_isSome.2 (hp.mem_iff.1 hc)
      have hklen := hp.length_eq
      simp at hklen
      have htk : (ks.take k).length ≤ 4 := by rw [List.length_take]; omega
      have hel := ents_len hw (ks := ks.take k) (fun c hc => hin c (List.mem_of_mem_take hc))
      have hqi := quad_in hw hx
      have hql := quad_len hw hx
      have hlx : lastV al ks[k] = x := by unfold lastV; rw [hx]; rfl
      refine hY _ _ _ _ _ _ g2 (var_mk (cs := l3C x) rfl rfl (fun r26 w28 hr26 o26 k26 hs26 => ?_))
      have l28 := k26.heap g2
      refine ⟨l28, fun w29 hw29 => ?_⟩
      have e29 : Ext (fun j => j = lr) w28 w29 := by rw [hw29]; exact Ext.putObj _ _ _
      have l29 : w29.heap[lr]? = some (.loop (rc .busy none)) := by rw [hw29]; exact putObj_new l28
      have z29 : w29.heap.size = w28.heap.size := by rw [hw29]; exact putObj_size _ _ _
      have lrw : w.heap.size ≤ lr := by have := kkd.size; omega
      have hO29 : OutK A w w29 r2 s (numB (al.length : Int) ++ entsD al (ks.take k)) :=
        ⟨OutAt.ext (g1.keep k26).o e29 (fun j hj hh => (g6 j hj).2.2.2.1 hh), g1.m, (g1.keep k26).k.ext e29 (fun j hj => by omega)⟩
      have o26b := o26.ext e29 (fun hh => by omega)
      have lt1 := g1.lt
      refine ⟨_, o26b.cell 0 (by simp [l3C]), _, o26b.cell 1 (by simp [l3C]), _, o26b.cell 2 (by simp [l3C]), newS_mk (fun r33 w34 hr33 hb33 k33 hs33 => ?_)⟩
      have o33 : ObjAt w34 r33 ((quad ks[k] x).map intV) := ObjAt.new' hb33
      have z26 := k26.size
      have x29 : Ext (fun j => j < w19.heap.size ∨ n1 ≤ j) w1 w29 := (k26.mono (fun _ h => h.elim)).trans e29 (fun _ h => h) (fun j hj => .inl (.inl (by omega)))
      refine ⟨fun i w2 => ∃ (q : Nat) (s' : Slc), i = q ∧ q ≤ 4 ∧ OutK A w w2 r2 s' (numB (al.length : Int) ++ entsD al (ks.take k) ++ ((quad ks[k] x).take q).flatMap numB) ∧ Foot (OutM r2 s) (OutM r2 s') w34 w2, fun i _ => (4 - i).toNat, ⟨0, s, rfl, by omega, by simpa using hO29.keep k33, Foot.refl _ _⟩, ?_⟩
      rintro i w38 ⟨q, s', rfl, hq4, hOq, hF⟩
      intros
      have hM' : ∀ j, OutM r2 s' j → ((j < w19.heap.size ∨ n1 ≤ j) ∧ j ≠ r4 ∧ j ≠ cb ∧ j ≠ lr ∧ j ≠ D) := by
        intro j hj
        rcases hF.2 j hj with h | h
        · exact g6 j h
        · have hk4 := g4.lt
          have hkc := g5.lt
          have hkl := lt_of_heap g2
          have hkD := lt_of_heap g3
          have := k33.size
          exact ⟨.inr (by omega), by omega, by omega, by omega, by omega⟩
      have o4q : ObjAt w38 r4 [ptrR' r2] := (((g4.keep k26).ext e29 (fun hh => by have := hO19.k.size; have := lt_of_heap N.l; omega)).keep k33).ext hF.1 (fun hh => (g6 _ hh).2.1 rfl)
      refine BIf_dec (fun hlt => ?_) (fun hge => ?_)
      · have o33q : ObjAt w38 r33 ((quad ks[k] x).map intV) := o33.ext hF.1 (fun hh => by have := lt1 _ hh; omega)
        have hcell := o33q.cell q (by simp [quad]; omega)
        rw [List.getElem_map] at hcell
        have ea : (Addr.add (⟨r33, 0, none⟩ : Addr) ((Int.toNat (q : Int)) * 1)) = ⟨r33, q, none⟩ := by rw [add_lit]; simp
        have hq : q < (quad ks[k] x).length := by simp [quad]; omega
        have hlq := heads_len ((quad ks[k] x).take q) (fun n hn => (hqi n (List.mem_of_mem_take hn)).2)
        have htq : ((quad ks[k] x).take q).length ≤ 4 := by rw [List.length_take]; omega
        refine ⟨by omega, by omega, (quad ks[k] x)[q], by rw [ea]; exact hcell, _, o4q.cell 0 (by simp), (outNum hOq (hqi _ (List.getElem_mem hq)) (by simp only [List.length_append]; omega) hE).mono ?_⟩
        rintro e w50 ⟨rfl, s50, h50, f50⟩
        refine ⟨rfl, inR64 (by omega), ⟨q + 1, s50, rfl, by omega, ?_, hF.trans f50⟩, by dsimp only; omega⟩
        rw [List.take_succ_eq_append_getElem hq, List.flatMap_append]
        simpa using h50
      · have hqe : q = 4 := by omega
        subst hqe
        have l38 : w38.heap[lr]? = some (.loop (rc .busy none)) := hF.1.heap (k33.heap l29) (fun hh => (g6 _ hh).2.2.2.1 rfl)
        have d38 : w38.heap[D]? = some (.deferred (some [])) := hF.1.heap (k33.heap (e29.heap (k26.heap g3) (fun hh => by omega))) (fun hh => (g6 _ hh).2.2.2.2 rfl)
        have c38 : ObjAt w38 cb [ptrR' r] := (((g5.keep k26).ext e29 (fun hh => by omega)).keep k33).ext hF.1 (fun hh => (g6 _ hh).2.2.1 rfl)
        refine ⟨l38, fun w51 hw51 => ?_⟩
        have e51 : Ext (fun j => j = lr) w38 w51 := by rw [hw51]; exact Ext.putObj _ _ _
        have e3 : numB (al.length : Int) ++ entsD al (ks.take (k + 1)) = numB (al.length : Int) ++ entsD al (ks.take k) ++ ((quad ks[k] x).take 4).flatMap numB := by
          rw [List.take_succ_eq_append_getElem hk]
          unfold entsD
          rw [List.flatMap_append, List.append_assoc]
          congr 2
          rw [List.flatMap_singleton, hlx]
          rfl
        refine ⟨rfl, ⟨s', ⟨?_, hOq.m, hOq.k.ext e51 (fun j hj => by omega)⟩, ?_, e51.heap d38 (fun hh => by omega), o4q.ext e51 (fun hh => by omega), c38.ext e51 (fun hh => by omega), hM'⟩, ?_⟩
        · rw [e3]
          exact OutAt.ext hOq.o e51 (fun j hj hh => (hM' j hj).2.2.2.1 hh)
        · rw [hw51]; exact putObj_new l38
        · exact ((x29.trans k33 (fun _ h => h) (fun _ h => h.elim)).trans hF.1 (fun _ h => h) (fun j hj => .inl (g6 j hj).1)).trans e51 (fun _ h => h) (fun j hj => .inl (.inl (by omega))))
  refine hC.mono ?_
  rintro e w56 ⟨rfl, n1, ks, hp, hri, s, g1, g2, g3, g4, g5, g6⟩
  refine ⟨⟨_, rfl⟩, g2, fun w57 hw57 => ?_⟩
  have e57 : Ext (fun j => j = lr) w56 w57 := by rw [hw57]; exact Ext.putObj _ _ _
  have hcan := keys_canon hw hs.mp.nd hp hri
  have hklen := hp.length_eq
  simp at hklen
  rw [List.take_length] at g1
  subst hcan
  rw [← hklen] at g1
  have g1 : OutK A w w56 r2 s (bytesD al) := g1
  have hel := ents_len hw (ks := keysTo al 4) (fun c hc => (keysTo_mem.1 hc).2)
  have l2 := numB_len ((keysTo al 4).length : Int) (by omega)
  have hbl : (bytesD al).length ≤ 200 := by
    unfold bytesD
    rw [List.length_append]; omega
  have hO57 : OutK A w w57 r2 s (bytesD al) := ⟨OutAt.ext g1.o e57 (fun j hj hh => (g6 j hj).2.2.2.1 hh), g1.m, g1.k.ext e57 (fun j hj => by have := kkd.size; omega)⟩
  refine ⟨_, (g4.ext e57 (fun hh => by omega)).cell 0 (by simp), (outDoneK hO57 (by omega) hE).mono ?_⟩
  rintro e w60 ⟨t, rfl, q1, q2, q3, q4⟩
  have d60 := q4.heap (e57.heap g3 (fun hh => by omega))
  refine ⟨t, _, rfl, d60, fun w63 hw63 => ?_⟩
  have e63 : Ext (fun j => j = D) w60 w63 := by rw [hw63]; exact Ext.putObj _ _ _
  refine ⟨t, rfl, q1.ext e63 (fun j hj hh => ?_), q2, q3.ext e63 (fun j hj => by have := kkd.size; omega)⟩
  subst hh
  obtain ⟨c, T, f, hc⟩ := Own.ne q1 hj
  rw [d60] at hc; cases hc
end Go.D

set_option linter.unusedVariables false
set_option linter.unusedSimpArgs false
set_option maxRecDepth 8000
namespace Go.D
open Go Go.Proofs

theorem numB_small {n : Nat} (h : n < 128) : numB (n : Int) = [UInt8.ofNat n] := by
  unfold numB; rw [encN_lt (by omega)]; rfl
theorem refBytes22_spec {w : World} {q : Nat} {al : List (Int × L3)} (hw : WfD al) (hq : ObjAt w q (refC (lastV al))) :
    Calls Tryd.prog fn_tidewaterref22_Seen_Bytes ⟨[ptrR' q]⟩ w fun e w' => ∃ t : Slc, e = .returned t.v ∧ Own w' t 1 ((bytesD al).map byteV) ∧ Keep w w' := by
  refine tidewaterref22_Seen_Bytes_ok _ ?_
  unfold tidewaterref22_Seen_Bytes
  refine newS_mk (fun r2 w3 hr2 hb2 k2 hs2 => ?_)
  have z2 := k2.size
  have h0 : Own w3 ⟨some ⟨r2, 0, none⟩, 1, 1⟩ 1 (([UInt8.ofNat 0] : List UInt8).map byteV) := Own.new (sz := 1) (n := 1) hb2 (.inl (by simp)) rfl
  refine ⟨fun out c w2 => ∃ n : Nat, c = (n : Int) + 1 ∧ n ≤ 4 ∧ Own w2 out 1 ((UInt8.ofNat (keysTo al n).length :: entsD al (keysTo al n)).map byteV) ∧ Fresh w out ∧ Keep w w2, fun _ c _ => (5 - c).toNat, ⟨0, rfl, by omega, h0, Fresh.at (by omega), k2⟩, ?_⟩
  rintro out c w8 ⟨n, rfl, hn, ho, hf, k8⟩
  intros
  have hkl := keysTo_len al n
  have hel := ents_len hw (ks := keysTo al n) (fun c hc => (keysTo_mem.1 hc).2)
  refine BIf_dec (fun hlt => ?_) (fun hge => ?_)
  · have hn4 : n < 4 := by omega
    have hq8 := hq.keep k8
    have es := ref_seq hq8 (n + 1) (by omega)
    have ecast : (((n + 1 : Nat)) : Int) = (n : Int) + 1 := by omega
    rw [ecast] at es
    refine needSome_mk rfl ⟨by omega, by omega, _, es, BIf_dec (fun h1 => ?_) (fun h1 => ?_)⟩
    · have hsome : ∃ x, lookL al ((n : Int) + 1) = some x := by
        cases hl : lookL al ((n : Int) + 1) with
        | none => rw [(lastV_zero hw).2 hl] at h1; omega
        | some x => exact ⟨x, rfl⟩
      obtain ⟨x, hx⟩ := hsome
      have hlx : lastV al ((n : Int) + 1) = x := by unfold lastV; rw [hx]; rfl
      have hqi := quad_in hw hx
      have hql := quad_len hw hx
      obtain ⟨a, ha, hc, cw, g⟩ := ho.set0 (UInt8.ofNat ((keysTo al n).length + 1))
      have hol := ho.bytes.1
      simp only [List.length_cons] at hol
      have ebyte : byteV (UInt8.ofNat (keysTo al n).length) = .int .u8 (((keysTo al n).length : Nat) : Int) := by
        unfold byteV
        rw [UInt8.toNat_ofNat', Nat.mod_eq_of_lt (by omega)]
      rw [ebyte] at hc
      refine needSome_mk ha ⟨by omega, by omega, _, hc, needSome_mk ha ⟨by omega, by omega, cw, fun w63 h63 => ?_⟩⟩
      have ew : Value.int .u8 (IntKind.wrap .u8 ((((keysTo al n).length : Nat) : Int) + 1)) = byteV (UInt8.ofNat ((keysTo al n).length + 1)) := by
        rw [show (((keysTo al n).length : Nat) : Int) + 1 = (((keysTo al n).length + 1 : Nat) : Int) by omega, wrap8]
      obtain ⟨g1, g2, _⟩ := g w63 (by rw [h63, ew])
      have k63 : Keep w w63 := k8.ext g2 (fun j hj => hf j hj)
      have kd : Keep w63 (World.drew w63) := Keep.drew (Ext.refl _ _)
      have kkd := k63.trans kd
      have hqd := hq.keep kkd
      have es2 := ref_seq hqd (n + 1) (by omega)
      have ep := ref_pair hqd (n + 1) (by omega)
      rw [ecast] at es2 ep
      have e0 := rowAt_c ep 0 (by simp)
      have e1 := rowAt_c ep 1 (by simp)
      have z0 : ∀ a : Addr, a.add 0 = a := fun a => by simp [Addr.add]
      rw [z0] at e0
      rw [hlx] at es2 e0 e1
      refine needSome_mk rfl ⟨by omega, by omega, _, es2, needSome_mk rfl ⟨by omega, by omega, _, e0, needSome_mk rfl ⟨by omega, by omega, _, e1, newS_mk (fun r70 w71 hr70 hb70 k70 hs70 => ?_)⟩⟩⟩
      have o70 : ObjAt w71 r70 ((quad ((n : Int) + 1) x).map intV) := ObjAt.new' hb70
      have kk71 := kkd.trans k70
      have g1' := (g1.keep kd).keep k70
      refine ⟨fun out i w2 => ∃ p : Nat, i = p ∧ p ≤ 4 ∧ Own w2 out 1 ((UInt8.ofNat ((keysTo al n).length + 1) :: entsD al (keysTo al n) ++ ((quad ((n : Int) + 1) x).take p).flatMap numB).map byteV) ∧ Fresh w out ∧ Keep w w2 ∧ ObjAt w2 r70 ((quad ((n : Int) + 1) x).map intV) ∧ ¬ ownB out r70, fun _ i _ => (4 - i).toNat,
        ⟨0, rfl, by omega, by simpa using g1', hf, kk71, o70, fun hh => ?_⟩, ?_⟩
      · have := OwnLt (g1.keep kd) _ hh; omega
      rintro out2 i w76 ⟨p, rfl, hp, ho2, hf2, k76, o76, hno⟩
      intros
      refine BIf_dec (fun hlt2 => ?_) (fun hge2 => ?_)
      · have hcell := o76.cell p (by simp [quad]; omega)
        rw [List.getElem_map] at hcell
        have ea : (Addr.add (⟨r70, 0, none⟩ : Addr) ((Int.toNat (p : Int)) * 1)) = ⟨r70, p, none⟩ := by rw [add_lit]; simp
        have hpq : p < (quad ((n : Int) + 1) x).length := by simp [quad]; omega
        have hlq := heads_len ((quad ((n : Int) + 1) x).take p) (fun n hn => (hqi n (List.mem_of_mem_take hn)).2)
        have htq : ((quad ((n : Int) + 1) x).take p).length ≤ 4 := by rw [List.length_take]; omega
        refine ⟨by omega, by omega, (quad ((n : Int) + 1) x)[p], by rw [ea]; exact hcell, ?_⟩
        refine addNum (hqi _ (List.getElem_mem hpq)) ho2 hf2 k76 (by simp only [List.length_append, List.length_cons]; omega) (fun s' w' ga => ?_)
        refine ⟨inR64 (by omega), ⟨p + 1, rfl, by omega, ?_, ga.fr, ga.k, o76.ext ga.x hno, ga.n r70 o76.lt hno⟩, by dsimp only; omega⟩
        rw [List.take_succ_eq_append_getElem hpq, List.flatMap_append]
        simpa using ga.own
      · have hpe : p = 4 := by omega
        subst hpe
        refine ⟨inR64 (by omega), ⟨n + 1, by omega, by omega, ?_, hf2, k76⟩, by dsimp only; omega⟩
        rw [keysTo_succ, hx, if_pos (by rfl), List.length_append, List.length_singleton]
        unfold entsD at ho2 ⊢
        rw [List.flatMap_append, List.flatMap_singleton, hlx]
        exact ho2
    · have hnone : lookL al ((n : Int) + 1) = none := by
        cases hl : lookL al ((n : Int) + 1) with
        | none => rfl
        | some x =>
          have := (hw _ _ hl).2.1
          have e : lastV al ((n : Int) + 1) = x := by unfold lastV; rw [hl]; rfl
          rw [e] at h1
          omega
      refine ⟨inR64 (by omega), ⟨n + 1, by omega, by omega, ?_, hf, k8⟩, by dsimp only; omega⟩
      rw [keysTo_succ, hnone, if_neg (by simp), List.append_nil]
      exact ho
  · have : n = 4 := by omega
    subst this
    refine ⟨out, rfl, ?_, k8⟩
    unfold bytesD
    rw [numB_small (by omega)]
    exact ho

theorem Read_spec22 (A : Nat → Addr) {n0 : Nat} {w : World} {t : Slc} {al : List (Int × L3)} (hw : WfD al) (hb : bytesAt w t (bytesD al)) (hE : ErrsB A n0 w) (hn0 : n0 ≤ w.heap.size) :
    Calls Tryd.prog fn_dedup_Read ⟨[t.v]⟩ w fun e w' => ∃ r m al', e = .returned (.tuple ⟨[ptrR' r, .nilIface]⟩) ∧ SeenAt w' r m al' ∧ (∀ c, lookL al' c = lookL al c) ∧ Keep w w' := by
  refine dedup_Read_ok _ ?_
  unfold dedup_Read
  have hkl := keysTo_len al 4
  have hel := ents_len hw (ks := keysTo al 4) (fun c hc => (keysTo_mem.1 hc).2)
  have l2 := numB_len ((keysTo al 4).length : Int) (by omega)
  have hbl : (bytesD al).length ≤ 200 := by
    unfold bytesD
    rw [List.length_append]; omega
  have htl := hb.1
  have hEd : ErrsG ddG A n0 w := hE.g.sub (by decide)
  refine (Read_spec A t _ w hb (by omega)).mono ?_
  rintro e w3 ⟨r, F, rfl, hI, k3, hr3, hF3⟩
  have hR : RdK A n0 w w3 r F (bytesD al) := ⟨hI, hr3, by obtain ⟨_, h, _⟩ := hI; exact h.1.lt, hF3, k3, hE, hn0, by omega⟩
  refine ⟨_, rfl, (New_spec22 w3).mono ?_⟩
  rintro e w6 ⟨rs, ms, rfl, hs, k6, hrs, hms⟩
  have hR6 := hR.keep k6
  have hrl := hR.l
  unfold bytesD at hR6
  refine ⟨_, rfl, (rdNum hR6 (by omega) (by omega) (by omega)).mono ?_⟩
  rintro e w9 ⟨rfl, h9, e9⟩
  have hs9 := hs.ext e9 (fun hh => by have hh : rs = r := hh; omega) (fun hh => by have hh : ms = r := hh; omega)
  generalize hks : keysTo al 4 = ks at *
  have hin : ∀ c ∈ ks, (1 ≤ c ∧ c ≤ 4) ∧ (lookL al c).isSome = true := fun c hc => by rw [← hks] at hc; exact keysTo_mem.1 hc
  have hsort : ks.Pairwise (· < ·) := by rw [← hks]; exact keysTo_sorted al 4
  have hall : ∀ c, (lookL al c).isSome = true → c ∈ ks := fun c hc => by
    obtain ⟨x, hx⟩ := Option.isSome_iff_exists.1 hc
    have := (hw c x hx).1
    rw [← hks]; exact keysTo_mem.2 ⟨by omega, hc⟩
  have hlt : ∀ i j (hi : i < ks.length) (hj : j < ks.length), i < j → ks[i] < ks[j] := fun i j hi hj hij => List.pairwise_iff_getElem.1 hsort i j hi hj hij
  refine ⟨_, rfl, fun before ok n w2 => ∃ (k : Nat) (al' : List (Int × L3)), n = (ks.length : Int) - k ∧ k ≤ ks.length ∧ ok = true ∧ (k = 0 ∧ before = 0 ∨ ∃ (hk : k - 1 < ks.length), 0 < k ∧ before = ks[k - 1]) ∧ RdK A n0 w w2 r F (entsD al (ks.drop k)) ∧ SeenAt w2 rs ms al' ∧ ∀ c, lookL al' c = if c ∈ ks.take k then lookL al c else none,
    fun _ _ n _ => n.toNat, ⟨0, [], by omega, by omega, rfl, .inl ⟨rfl, rfl⟩, h9, hs9, fun c => by simp [lookL]⟩, ?_⟩
  rintro before ok n w16 ⟨k, al', rfl, hk, rfl, hbef, h16, s16, hal'⟩
  intros
  refine BIf_dec (fun hlt0 => ?_) (fun hge => ?_)
  · have hkk : k < ks.length := by omega
    obtain ⟨hc4, hcs⟩ := hin _ (List.getElem_mem hkk)
    obtain ⟨x, hx⟩ := Option.isSome_iff_exists.1 hcs
    obtain ⟨_, hx1, hx2, hx3⟩ := hw _ _ hx
    have hlx : lastV al ks[k] = x := by unfold lastV; rw [hx]; rfl
    have hsp : entsD al (ks.drop k) = numB ks[k] ++ (numB x.1 ++ (numB x.2.1 ++ (numB x.2.2 ++ entsD al (ks.drop (k + 1))))) := by
      rw [List.drop_eq_getElem_cons hkk]
      unfold entsD
      rw [List.flatMap_cons, hlx]
      simp [quad]
    rw [hsp] at h16
    have sx : ∀ {w1 w2 : World} {al : List (Int × L3)}, SeenAt w1 rs ms al → Ext (eqB r) w1 w2 → SeenAt w2 rs ms al := fun h he => h.ext he (fun hh => by have hh : rs = r := hh; omega) (fun hh => by have hh : ms = r := hh; omega)
    refine (rdNum h16 (by omega) (by omega) (by omega)).mono ?_
    rintro e w46 ⟨rfl, h46, e46⟩
    refine ⟨_, rfl, (rdNum h46 (by omega) (by omega) (by omega)).mono ?_⟩
    rintro e w49 ⟨rfl, h49, e49⟩
    refine ⟨_, rfl, (rdNum h49 (by omega) (by omega) (by omega)).mono ?_⟩
    rintro e w52 ⟨rfl, h52, e52⟩
    refine ⟨_, rfl, (rdNum h52 (by omega) (by omega) (by omega)).mono ?_⟩
    rintro e w55 ⟨rfl, h55, e55⟩
    have s55 := sx (sx (sx (sx s16 e46) e49) e52) e55
    refine ⟨_, rfl, var_mk (cs := [.int .i64 x.2.1, .int .i64 x.2.2]) rfl rfl (fun r57 w59 hr57 o57 k57 hs57 => ?_)⟩
    refine BIf_dec (fun hle => ?_) (fun hnle => ?_)
    · exfalso
      rcases hbef with ⟨rfl, rfl⟩ | ⟨hk1, hk0, rfl⟩
      · omega
      · have := hlt (k - 1) k hk1 hkk (by omega); omega
    · have s59 := s55.keep k57
      have h59 := h55.keep k57
      have hnk : ks[k] ∉ ks.take k := by
        intro hin
        obtain ⟨q, hq, he⟩ := List.getElem_of_mem hin
        rw [List.length_take] at hq
        rw [List.getElem_take] at he
        have := hlt q k (by omega) hkk (by omega)
        omega
      refine ⟨_, _, o57.row, (Note_spec22 A s59 ks[k] x.1 x.2.1 x.2.2 (hEd.keep h59.k)).mono ?_⟩
      rintro e w63 ⟨rfl, s63, e63⟩
      have hnv : noteV al' ks[k] x.1 x.2.1 x.2.2 = (none, putL al' ks[k] x) := by
        have h1 : rightD ks[k] x.1 x.2.1 x.2.2 = true := decide_eq_true (by omega)
        have h2 : (askV al' ks[k] x.1).2 = 1 := by unfold askV; rw [hal', if_neg hnk]
        unfold noteV
        rw [h1, if_neg (by simp), if_pos h2]
      rw [hnv] at s63 ⊢
      have hmsl := s59.mp.lt
      have h63 := h59.ext e63 (fun j hj => .inr ⟨by rw [show j = ms from hj]; have := k3.size; omega, fun hh => by omega, fun hh => by have := (hF3 j hh).2; omega⟩)
      refine ⟨_, rfl, trivial, BIf_mk (fun hh => by cases hh) (fun _ => ⟨inR64 (by omega), ⟨k + 1, putL al' ks[k] x, by omega, by omega, rfl, .inr ⟨by simpa using hkk, by omega, by simp⟩, h63, s63, fun c => ?_⟩, by dsimp only; omega⟩)⟩
      rw [look_put, List.take_succ_eq_append_getElem hkk]
      by_cases hc : c = ks[k]
      · subst hc
        rw [if_pos rfl, if_pos (List.mem_append_right _ (List.mem_singleton.2 rfl)), hx]
      · rw [if_neg hc, hal']
        have : (c ∈ ks.take k ++ [ks[k]]) ↔ c ∈ ks.take k := by rw [List.mem_append, List.mem_singleton]; exact ⟨fun h => h.elim id (fun h => absurd h hc), .inl⟩
        simp only [this]
  · have hke : k = ks.length := by omega
    subst hke
    rw [List.drop_length] at h16
    refine (In_End_spec A n0 r F _ w16 h16.i (hE.keep h16.k)).mono ?_
    rintro e w66 ⟨rfl, rfl⟩
    refine ⟨_, rfl, errO_isI A _, BIf_mk (fun hh => by cases hh) (fun _ => BIf_mk (fun hh => by cases hh) (fun _ => ?_))⟩
    refine ⟨rs, ms, al', rfl, s16, fun c => ?_, h16.k⟩
    rw [hal', List.take_length]
    split
    · rfl
    · rename_i hc
      cases hl : lookL al c with
      | none => rfl
      | some x => exact absurd (hall c (by rw [hl]; rfl)) hc
end Go.D

set_option linter.unusedVariables false
set_option linter.unusedSimpArgs false
set_option maxRecDepth 8000
namespace Go.D
open Go Go.Proofs

theorem Num22 (A : Nat → Addr) {n0 : Nat} (al : List (Int × L3)) (c seq code at' : Int) (w : World) (hE : ErrsB A n0 w) :
    Calls Tryd.prog fn_tidewaternum_Num ⟨[errO A (noteV al c seq code at').1]⟩ w fun e w' => e = .returned (.int .i64 (noteN (noteV al c seq code at').1)) ∧ Keep w w' := by
  have h19 : ∀ k, (noteV al c seq code at').1 = some k → k < 19 := by
    intro k hk
    unfold noteV at hk
    split at hk
    · cases hk; omega
    · split at hk
      · cases hk
      · cases hk; omega
  cases hq : (noteV al c seq code at').1 with
  | none => refine (Num_nil w).mono ?_; rintro e w' ⟨rfl, rfl⟩; exact ⟨rfl, Ext.refl _ _⟩
  | some k => exact Num_spec A k (h19 k hq) w hE.1

/-- The two and their models. -/
structure PSt (w0 w : World) (r11 r20 : Nat) (rr mm qq : Bool → Nat) (aa : Bool → List (Int × L3)) : Prop where
  d : DSt w0 w r11 rr mm aa
  q : ∀ b, ObjAt w (qq b) (refC (lastV (aa b)))
  o : ObjAt w r20 [ptrR' (qq false), ptrR' (qq true)]
  nq : qq false ≠ qq true
  n1 : ∀ b b', qq b ≠ rr b' ∧ qq b ≠ r11 ∧ qq b ≠ r20 ∧ rr b' ≠ r20
  n2 : r20 ≠ r11
  ge : ∀ b, w0.heap.size ≤ qq b
  g : w0.heap.size ≤ r20
section
variable {w0 w w' : World} {r11 r20 : Nat} {rr mm qq : Bool → Nat} {aa : Bool → List (Int × L3)}
theorem PSt.ext {M : Nat → Prop} (h : PSt w0 w r11 r20 rr mm qq aa) (he : Ext M w w') (hm : ∀ j, M j → w0.heap.size ≤ j ∧ j ≠ r11 ∧ j ≠ r20 ∧ ∀ b, j ≠ rr b ∧ j ≠ mm b ∧ j ≠ qq b) : PSt w0 w' r11 r20 rr mm qq aa :=
  ⟨h.d.ext he (fun j hj => ⟨(hm j hj).1, (hm j hj).2.1, fun b => ⟨((hm j hj).2.2.2 b).1, ((hm j hj).2.2.2 b).2.1⟩⟩), fun b => (h.q b).ext he (fun hh => ((hm _ hh).2.2.2 b).2.2 rfl), h.o.ext he (fun hh => (hm _ hh).2.2.1 rfl), h.nq, h.n1, h.n2, h.ge, h.g⟩
theorem PSt.keep (h : PSt w0 w r11 r20 rr mm qq aa) (he : Keep w w') : PSt w0 w' r11 r20 rr mm qq aa := h.ext he (fun _ h => h.elim)
theorem objNeMap {r m : Nat} {cs : List Value} {al : List (Int × L3)} {r' : Nat} (h : ObjAt w r cs) (h' : SeenAt w r' m al) : r ≠ m := by
  rintro rfl
  obtain ⟨T, f, h1, _⟩ := h
  obtain ⟨es, ck, h2, _⟩ := h'.mp.at'
  rw [h1] at h2; cases h2
theorem PSt.qne (h : PSt w0 w r11 r20 rr mm qq aa) {a b : Bool} (hab : a ≠ b) : qq a ≠ qq b := by
  have := h.nq
  cases a <;> cases b <;> first | exact absurd rfl hab | exact this | exact fun e => this e.symm
/-- One of the two, with its model, is turned. -/
theorem PSt.upd (h : PSt w0 w r11 r20 rr mm qq aa) (b : Bool) {w1 w2 : World} {al' : List (Int × L3)} (hs : SeenAt w1 (rr b) (mm b) al') (he : Ext (fun j => j = mm b) w w1) (hwf : WfD al')
    (hk : Keep w1 w2) {w3 : World} (hq : ObjAt w3 (qq b) (refC (lastV al'))) (he2 : Ext (fun j => j = qq b) w2 w3) : PSt w0 w3 r11 r20 rr mm qq (fun b' => if b' = b then al' else aa b') := by
  have d1 := (h.d.upd b hs he hwf).keep hk
  have d3 := d1.ext he2 (fun j hj => by
    rw [show j = qq b from hj]
    exact ⟨h.ge b, (h.n1 b b).2.1, fun b' => ⟨(h.n1 b b').1, objNeMap (h.q b) (h.d.s b')⟩⟩)
  refine ⟨d3, fun b' => ?_, ?_, h.nq, h.n1, h.n2, h.ge, h.g⟩
  · by_cases hb : b' = b
    · subst hb; rw [if_pos rfl]; exact hq
    · rw [if_neg hb]
      exact (((h.q b').ext he (fun hh => objNeMap (h.q b') (h.d.s b) hh)).keep hk).ext he2 (fun hh => h.qne hb hh)
  · exact ((h.o.ext he (fun hh => objNeMap h.o (h.d.s b) hh)).keep hk).ext he2 (fun hh => (h.n1 b b).2.2.1 hh.symm)
end

theorem join_last {a b d : List (Int × L3)} (ha : WfD a) (hd : ∀ c, lookL d c = joinL (lookL a c) (lookL b c)) (c : Int) : lastV d c = joinF (lastV a) (lastV b) c := by
  have h0 : 0 ≤ ((lookL a c).getD z3).1 := by
    cases hq : lookL a c with
    | none => exact Int.le_refl _
    | some x => have := (ha c x hq).2.1; show 0 ≤ x.1; omega
  show (lookL d c).getD z3 = if ((lookL a c).getD z3).1 < ((lookL b c).getD z3).1 then (lookL b c).getD z3 else (lookL a c).getD z3
  rw [hd]
  unfold joinL
  cases hq : lookL b c with
  | none =>
    rw [if_neg (by show ¬ _ < (0 : Int); omega)]
  | some l =>
    show (if ((lookL a c).getD z3).1 < l.1 then some l else lookL a c).getD z3 = if ((lookL a c).getD z3).1 < l.1 then l else (lookL a c).getD z3
    split <;> rfl

theorem DedupPlays_walk (A : Nat → Addr) (sl : Slc) (l : List Act22) (client seq : Int) (w : World) (hl : ActsAt w sl l) (hE0 : Errs A w) :
    Calls Tryd.prog fn_tidewaterlaw22_DedupPlays ⟨[sl.v, .int .i64 client, .int .i64 seq]⟩ w fun e w' => e = .returned (.bool true) ∧ Keep w w' := by
  have hEB := hE0.b
  have hE : ErrsG ddG A w.heap.size w := hEB.g.sub (by decide)
  have hll := hl.len
  refine tidewaterlaw22_DedupPlays_ok _ _ _ ?_
  unfold tidewaterlaw22_DedupPlays
  refine (alive22_spec A w hE).mono ?_
  rintro e w5 ⟨rfl, k5⟩
  refine ⟨_, rfl, BIf_mk (fun hh => by cases hh) (fun _ => BIf_dec (fun _ => ⟨rfl, k5⟩) (fun h60 => ?_))⟩
  refine (New_spec22 w5).mono ?_
  rintro e w8 ⟨r0, m0, rfl, s0, k8, hr0, hm0⟩
  refine ⟨_, rfl, (New_spec22 w8).mono ?_⟩
  rintro e w11 ⟨r1, m1, rfl, s1, k11, hr1, hm1⟩
  refine ⟨_, rfl, var_mk (cs := [ptrR' r0, ptrR' r1]) rfl rfl (fun r13 w15 hr13 o13 k15 hs15 => ?_)⟩
  refine newS_mk (fun q0 w17 hq0 hb17 k17 hs17 => newS_mk (fun q1 w19 hq1 hb19 k19 hs19 => ?_))
  refine var_mk (cs := [ptrR' q0, ptrR' q1]) rfl rfl (fun r20 w22 hr20 o20 k22 hs22 => ?_)
  have z5 := k5.size
  have z8 := k8.size
  have z11 := k11.size
  have z15 := k15.size
  have z17 := k17.size
  have z19 := k19.size
  have hm0l := s0.mp.lt
  have hr0l := s0.o.lt
  have hm1l := s1.mp.lt
  have hr1l := s1.o.lt
  have kk : Keep w11 w22 := ((k15.trans k17).trans k19).trans k22
  have oq0 : ObjAt w22 q0 (refC (lastV [])) := ((ObjAt.new' hb17).keep k19).keep k22
  have oq1 : ObjAt w22 q1 (refC (lastV [])) := (ObjAt.new' hb19).keep k22
  let rr : Bool → Nat := fun b => if b then r1 else r0
  let mm : Bool → Nat := fun b => if b then m1 else m0
  let qq : Bool → Nat := fun b => if b then q1 else q0
  have P0 : PSt w w22 r13 r20 rr mm qq (fun _ => []) := by
    refine ⟨⟨((k5.trans k8).trans k11).trans kk, fun b => ?_, ((o13.keep k17).keep k19).keep k22, fun b => WfD.nil, ?_, fun b => ?_, by omega⟩, fun b => ?_, o20, ?_, fun b b' => ?_, by omega, fun b => ?_, by omega⟩
    · cases b
      · exact (s0.keep k11).keep kk
      · exact s1.keep kk
    · show m0 ≠ m1; omega
    · cases b
      · show w.heap.size ≤ r0 ∧ w.heap.size ≤ m0; omega
      · show w.heap.size ≤ r1 ∧ w.heap.size ≤ m1; omega
    · cases b
      · exact oq0
      · exact oq1
    · show q0 ≠ q1; omega
    · cases b <;> cases b' <;> (simp only [rr, qq, Bool.false_eq_true, if_false, if_true]; omega)
    · cases b
      · show w.heap.size ≤ q0; omega
      · show w.heap.size ≤ q1; omega
  clear_value rr mm qq
  refine ⟨fun i w2 => ∃ (k : Nat) (aa : Bool → List (Int × L3)), i = k ∧ k ≤ l.length ∧ PSt w w2 r13 r20 rr mm qq aa, fun i _ => ((l.length : Int) - i).toNat, ⟨0, _, rfl, by omega, P0⟩, ?_⟩
  rintro i w26 ⟨k, aa, rfl, hk, P26⟩
  intros
  refine BIf_dec (fun hlt => ?_) (fun hge => ?_)
  · have hkl : k < l.length := by omega
    obtain ⟨a, ha, hrow⟩ := (hl.keep P26.d.k).row k hkl
    generalize hact : l[k] = act at hrow
    obtain ⟨wh, cl, sq, ⟨cd, at'⟩, jn⟩ := act
    refine needSome_mk ha ⟨by omega, hlt, _, _, _, _, _, _, by rw [Int.toNat_natCast]; exact hrow, ?_⟩
    refine var_mk (cs := actC (wh, cl, sq, (cd, at'), jn)) rfl rfl (fun r131 w133 hr131 o131 k133 hs133 => ?_)
    have P133 := P26.keep k133
    refine ⟨fun i w2 => i = ixB wh ∧ w2 = w133, ⟨_, o131.cell 0 (by simp [actC]), BIf_mk (fun h => ⟨by rw [show wh = true from h]; rfl, rfl⟩) (fun h => ⟨by rw [show wh = false from h]; rfl, rfl⟩)⟩, ?_⟩
    rintro i136 w137 ⟨rfl, rfl⟩
    intros
    have hix : 0 ≤ ixB wh ∧ ixB wh < ((2 : Nat) : Int) := by unfold ixB; split <;> omega
    have kd : Keep w137 (World.drew w137) := Keep.drew (Ext.refl _ _)
    have Pd := P133.keep kd
    have o131d := o131.keep kd
    have ltd := Pd.d.lt
    have hqlt : ∀ b, qq b < (World.drew w137).heap.size := fun b => (Pd.q b).lt
    have lt26 := P26.d.lt
    have hq26 : ∀ b, qq b < w26.heap.size := fun b => (P26.q b).lt
    have ho26 := P26.o.lt
    have zw26 := P26.d.k.size
    have zw133 := k133.size
    have r131ne : ∀ b, r131 ≠ rr b ∧ r131 ≠ mm b ∧ r131 ≠ qq b := fun b => ⟨by have := (lt26.2 b).1; omega, by have := (lt26.2 b).2; omega, by have := hq26 b; omega⟩
    refine ⟨fun w2 => ∃ aa' : Bool → List (Int × L3), PSt w w2 r13 r20 rr mm qq aa', ⟨_, o131.cell 5 (by simp [actC]), BIf_mk (fun hj => ?_) (fun hj => ?_)⟩, ?_⟩
    · have e1 : (1 : Int) - ixB wh = ixB (!wh) := by cases wh <;> rfl
      rw [e1]
      have hix2 : 0 ≤ ixB (!wh) ∧ ixB (!wh) < ((2 : Nat) : Int) := by unfold ixB; split <;> omega
      refine ⟨hix.1, hix.2, _, ixB_cell' Pd.d.o wh, inR64 (by omega), hix2.1, hix2.2, _, ixB_cell' Pd.d.o (!wh), (Copy_spec22 (Pd.d.s (!wh))).mono ?_⟩
      rintro e w145 ⟨r', m', rfl, s', k145, hr', hm'⟩
      have P145 := Pd.keep k145
      refine ⟨_, rfl, ⟨_, ixB_cell' P145.d.o wh, rfl⟩, (Join_spec22 (P145.d.s wh) s' (by have := (ltd.2 wh).2; omega) (by have := (ltd.2 wh).2; omega) (by have := (Pd.d.wf (!wh)).len (Pd.d.s (!wh)).mp.nd; omega)).mono ?_⟩
      rintro e w149 ⟨rfl, al', g1, g2, g3⟩
      -- the other's model is taken apart, and joined
      have kd2 : Keep w149 (World.drew w149) := Keep.drew (Ext.refl _ _)
      have hne : ∀ b, qq b ≠ mm wh := fun b => objNeMap (P145.q b) (P145.d.s wh)
      have oq : ∀ b, ObjAt (World.drew w149) (qq b) (refC (lastV (aa b))) := fun b => ((P145.q b).ext g3 (fun hh => hne b hh)).keep kd2
      have or20 : ObjAt (World.drew w149) r20 [ptrR' (qq false), ptrR' (qq true)] := (P145.o.ext g3 (fun hh => objNeMap P145.o (P145.d.s wh) hh)).keep kd2
      refine ⟨rfl, hix.1, hix.2, _, ixB_cell' or20 wh, inR64 (by omega), hix2.1, hix2.2, _, ixB_cell' or20 (!wh), (refCopy_spec (oq (!wh))).mono ?_⟩
      rintro e w153 ⟨q', rfl, oq', k153, hq'⟩
      have hqw : qq wh < (World.drew w149).heap.size := (oq wh).lt
      refine ⟨_, rfl, ⟨_, ixB_cell' (or20.keep k153) wh, rfl⟩, (refJoin_spec ((oq wh).keep k153) oq' (by omega)).mono ?_⟩
      rintro e w157 ⟨rfl, g4, g5⟩
      refine ⟨rfl, _, P145.upd wh g1 g3 ((P145.d.wf wh).join (P145.d.wf (!wh)) g2) (kd2.trans k153) ?_ g5⟩
      have e2 : refC (joinK (lastV (aa wh)) (lastV (aa !wh)) 5) = refC (lastV al') := by
        refine refC_congr (fun c hc => ?_)
        rw [join_last (P145.d.wf wh) g2]
        unfold joinK
        by_cases hc1 : 1 ≤ (c : Int)
        · rw [if_pos ⟨hc1, by omega⟩]
        · rw [if_neg (by omega)]
          have h1 : lookL (aa wh) (c : Int) = none := lastV_out (P145.d.wf wh) (by omega)
          have h2 : lookL (aa !wh) (c : Int) = none := lastV_out (P145.d.wf (!wh)) (by omega)
          unfold joinF lastV
          rw [h1, h2]; rfl
      rw [← e2]; exact g4
    · have rowd : ∀ {w2 : World}, ObjAt w2 r131 (actC (wh, cl, sq, (cd, at'), jn)) → rowAt w2 (⟨r131, 3, none⟩ : Addr) 0 [.int .i64 cd, .int .i64 at'] := fun h => h.rowO 3 _ (fun j hj => by
        have : j < 2 := hj
        match j, this with
        | 0, _ => rfl
        | 1, _ => rfl)
      refine ⟨hix.1, hix.2, _, ixB_cell' Pd.d.o wh, _, o131d.cell 1 (by simp [actC]), _, o131d.cell 2 (by simp [actC]), cd, at', rowd o131d, hix.1, hix.2, _, ixB_cell' Pd.o wh, _, o131d.cell 1 (by simp [actC]), _, o131d.cell 2 (by simp [actC]), cd, at', rowd o131d, ?_⟩
      refine (Note_spec22 A (Pd.d.s wh) cl sq cd at' (hE.keep Pd.d.k)).mono ?_
      rintro e w169 ⟨rfl, g1, g2⟩
      have o169 := o131d.ext g2 (fun hh => (r131ne wh).2.1 hh)
      have or20 : ObjAt w169 r20 [ptrR' (qq false), ptrR' (qq true)] := Pd.o.ext g2 (fun hh => objNeMap Pd.o (Pd.d.s wh) hh)
      have k169 : Keep w w169 := Pd.d.k.ext g2 (fun j hj => by rw [show j = mm wh from hj]; exact (Pd.d.ge wh).2)
      refine ⟨_, rfl, ⟨_, _, rowd o169, rfl⟩, ⟨_, o169.cell 2 (by simp [actC]), rfl⟩, ⟨_, o169.cell 1 (by simp [actC]), rfl⟩, ⟨_, ixB_cell' or20 wh, rfl⟩, (Num22 A _ _ _ _ _ w169 (hEB.keep k169)).mono ?_⟩
      rintro e w177 ⟨rfl, k177⟩
      have o177 := o169.keep k177
      have oq : ObjAt w177 (qq wh) (refC (lastV (aa wh))) := ((Pd.q wh).ext g2 (fun hh => objNeMap (Pd.q wh) (Pd.d.s wh) hh)).keep k177
      refine ⟨_, rfl, ⟨_, _, rowd o177, rfl⟩, ⟨_, o177.cell 2 (by simp [actC]), rfl⟩, ⟨_, o177.cell 1 (by simp [actC]), rfl⟩, ⟨_, ixB_cell' (or20.keep k177) wh, rfl⟩, (refNote_spec (Pd.d.wf wh) oq cl sq cd at').mono ?_⟩
      rintro e w185 ⟨rfl, g4, g5⟩
      exact ⟨_, rfl, BIf_ndec (fun hh => (hh rfl).elim) (fun _ => ⟨_, Pd.upd wh g1 g2 ((Pd.d.wf wh).note _ _ _ _) k177 g4 g5⟩)⟩
    · rintro w187 ⟨aa', P187⟩
      intros
      refine ⟨hix.1, hix.2, _, ixB_cell' P187.d.o wh, (Ask_spec22 (P187.d.s wh) client seq).mono ?_⟩
      rintro e w233 ⟨rfl, k233⟩
      refine ⟨_, _, _, rfl, var_mk (cs := [_, _]) rfl rfl (fun r237 w239 hr237 o237 k239 hs239 => ?_)⟩
      have P239 := (P187.keep k233).keep k239
      refine ⟨hix.1, hix.2, _, ixB_cell' P239.o wh, (refAsk_spec (P239.d.wf wh) (P239.q wh) client seq).mono ?_⟩
      rintro e w242 ⟨rfl, k242⟩
      refine ⟨_, _, _, rfl, var_mk (cs := [_, _]) rfl rfl (fun r246 w248 hr246 o246 k248 hs248 => ?_)⟩
      have P248 := (P239.keep k242).keep k248
      refine ⟨_, _, ((o237.keep k242).keep k248).row, _, _, o246.row, ?_⟩
      have e1 : ∀ x y : Int, (!(decide (x = x) && (decide (y = y) && true))) = false := fun x y => by simp
      rw [e1]
      refine BIf_mk (fun hh => by cases hh) (fun _ => BIf_ndec (fun hh => (hh rfl).elim) (fun _ => ?_))
      have c0 : ∀ {w2 : World}, PSt w w2 r13 r20 rr mm qq aa' → w2.cell? ⟨r13, 0, none⟩ = some (ptrR' (rr false)) ∧ w2.cell? ⟨r20, 0, none⟩ = some (ptrR' (qq false)) ∧ w2.cell? ⟨r13, 1, none⟩ = some (ptrR' (rr true)) ∧ w2.cell? ⟨r20, 1, none⟩ = some (ptrR' (qq true)) :=
        fun h => ⟨h.d.o.cell 0 (by simp), h.o.cell 0 (by simp), h.d.o.cell 1 (by simp), h.o.cell 1 (by simp)⟩
      refine ⟨by omega, by omega, _, (c0 P248).1, by omega, by omega, _, (c0 P248).2.1, (same_spec22 (P248.d.wf false) (P248.d.s false) (P248.q false) (fun c hc => rfl)).mono ?_⟩
      rintro e w256 ⟨rfl, k256⟩
      have P256 := P248.keep k256
      refine ⟨_, rfl, BIf_mk (fun hh => by cases hh) (fun _ => ⟨by omega, by omega, _, (c0 P256).2.2.1, by omega, by omega, _, (c0 P256).2.2.2, (same_spec22 (P256.d.wf true) (P256.d.s true) (P256.q true) (fun c hc => rfl)).mono ?_⟩)⟩
      rintro e w261 ⟨rfl, k261⟩
      exact ⟨_, rfl, BIf_mk (fun hh => by cases hh) (fun _ => ⟨inR64 (by omega), ⟨k + 1, aa', rfl, hkl, P256.keep k261⟩, by dsimp only; omega⟩)⟩
  · refine ⟨by omega, by omega, _, P26.d.o.cell 0 (by simp), (Bytes_spec22 A (P26.d.s false) (P26.d.wf false) (hEB.keep P26.d.k)).mono ?_⟩
    rintro e w265 ⟨t, rfl, ht, _, k265⟩
    have kd : Keep w265 (World.drew w265) := Keep.drew (Ext.refl _ _)
    have Pd := (P26.keep k265).keep kd
    have htd := ht.keep kd
    refine ⟨t, _, rfl, fun w2 => Keep (World.drew w265) w2, ⟨trivial, BIf_mk (fun hh => by cases hh) (fun _ => ⟨_, htd.bytes, by omega, by omega, _, Pd.o.cell 0 (by simp), (refBytes22_spec (Pd.d.wf false) (Pd.q false)).mono ?_⟩)⟩, ?_⟩
    · rintro e w272 ⟨t2, rfl, ht2, k272⟩
      exact ⟨t2, rfl, ⟨_, (htd.keep k272).bytes, rfl⟩, _, ht2.bytes, BIf_ndec (fun hh => (hh rfl).elim) (fun _ => k272)⟩
    · intro w276 k276
      intros
      have P276 := Pd.keep k276
      refine (Read_spec22 A (P276.d.wf false) (htd.keep k276).bytes (hEB.keep P276.d.k) P276.d.k.size).mono ?_
      rintro e w290 ⟨ry, my, al', rfl, sy, hy, k290⟩
      have P290 := P276.keep k290
      refine ⟨_, _, rfl, trivial, BIf_mk (fun _ => BIf_mk (fun _ => ⟨by omega, by omega, _, P290.o.cell 0 (by simp), ?_⟩) (fun hh => by cases hh)) (fun hh => by cases hh)⟩
      have hwy : WfD al' := fun c x hx => P290.d.wf false c x (by rw [← hy]; exact hx)
      refine (same_spec22 hwy sy (P290.q false) (fun c hc => by unfold lastV; rw [hy])).mono ?_
      rintro e w295 ⟨rfl, k295⟩
      exact ⟨_, rfl, rfl, P290.d.k.trans k295⟩
theorem DedupPlays_fin (sl : Slc) (l : List Act22) (client seq : Int) (w : World) (hl : rowsR rdAct22 w sl l) (A : Nat → Addr) (hE0 : Errs A w) :
    Calls Tryd.prog fn_tidewaterlaw22_DedupPlays ⟨[sl.v, .int .i64 client, .int .i64 seq]⟩ w fun e w' => e = .returned (.bool true) ∧ Keep w w' := DedupPlays_walk A sl l client seq w (acts_of hl) hE0
end Go.D

