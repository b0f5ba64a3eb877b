/-
  WHAT IS PROVED: contracts of functions, and the plain law, for this proof. No further conditions.
-/
import Derived.Test.YtjlolhdndholdaaDoorRd
set_option linter.unusedVariables false
set_option linter.unusedSimpArgs false
namespace Go.D
open Go

theorem flat_get {α : Type} (f : α → List Value) (n : Nat) (hf : ∀ a, (f a).length = n) : ∀ (l : List α) (i j : Nat) (hi : i < l.length), j < n → (l.flatMap f)[i * n + j]? = (f l[i])[j]?
  | a :: l, 0, j, hi, hj => by
    rw [List.flatMap_cons, Nat.zero_mul, Nat.zero_add, List.getElem?_append_left (by rw [hf]; exact hj)]; rfl
  | a :: l, i + 1, j, hi, hj => by
    have e : (i + 1) * n + j = (f a).length + (i * n + j) := by rw [hf, Nat.add_mul]; omega
    rw [List.flatMap_cons, e, List.getElem?_append_right (by omega), Nat.add_sub_cancel_left, flat_get f n hf l i j (by simpa using hi) hj]
    rfl
theorem flat_len {α : Type} (f : α → List Value) (n : Nat) (hf : ∀ a, (f a).length = n) (l : List α) : (l.flatMap f).length = l.length * n := by
  induction l with
  | nil => simp
  | cons a l ih => rw [List.flatMap_cons, List.length_append, ih, hf, List.length_cons, Nat.add_mul]; omega
theorem flat_row {α : Type} (f : α → List Value) (n : Nat) (hf : ∀ a, (f a).length = n) {w : World} {s : Slc} {l : List α} (h0 : Own w s n (l.flatMap f)) {i : Nat} (hi : i < l.length) (hn : 0 < n) :
    ∃ a, s.p = some a ∧ rowAt w (a.add (i * n)) 0 (f l[i]) := by
  have hlen := flat_len f n hf l
  have h := h0.cells
  have hb : ∀ j, j < n → i * n + j < (l.flatMap f).length := fun j hj => by
    rw [hlen]
    have : (i + 1) * n ≤ l.length * n := Nat.mul_le_mul_right _ hi
    rw [Nat.add_mul] at this; omega
  obtain ⟨a, ha, _⟩ := cellsAt_get h (hb 0 hn)
  have hsp : a.spot = none := by
    obtain ⟨_, ⟨hp, _⟩ | ⟨b, pad, T, f, hp, _⟩⟩ := h0
    · rw [hp] at ha; cases ha
    · rw [hp] at ha; cases ha; rfl
  refine ⟨a, ha, rowAt_of fun j hj => ?_⟩
  rw [hf] at hj
  obtain ⟨a', ha', hc⟩ := cellsAt_get h (hb j hj)
  rw [ha] at ha'
  cases ha'
  have e := flat_get f n hf l i j hi hj
  rw [List.getElem?_eq_getElem (hb j hj), List.getElem?_eq_getElem (by rw [hf]; exact hj)] at e
  have e2 : (a.add (i * n)).add (0 + j) = a.add (i * n + j) := by
    rw [Nat.zero_add]; exact addr_add_add a (i * n) j hsp
  rw [e2, hc, Option.some.inj e]

/-- A part of integers. -/
theorem intsAt_sub {w : World} {s : Slc} {b : List Int} (h : intsAt w s b) {lo hi c : Nat} (h1 : lo ≤ hi) (h2 : hi ≤ b.length) (h3 : hi ≤ c) :
    intsAt w (Slc.sub s 1 lo hi c) ((b.take hi).drop lo) := by
  refine ⟨by simp [Slc.sub]; omega, ?_⟩
  by_cases he : lo = hi
  · left
    subst he
    simp
  · rcases h.2 with hb | ⟨a, ha, hc⟩
    · have : b = [] := by simpa using hb
      subst this
      left; simp
    · right
      refine ⟨a.add lo, ?_, fun i hi2 => ?_⟩
      · simp only [Slc.sub, ha, Nat.mul_one]
        rw [if_neg (by omega)]; rfl
      · have hlen : i < hi - lo := by simp at hi2; omega
        rw [Addr.add_add, hc (lo + i) (by simp; omega)]
        simp [List.getElem_drop, List.getElem_take]
theorem sub_own {s : Slc} {sz lo hi c k : Nat} (h : ownB (Slc.sub s sz lo hi c) k) : ownB s k := by
  obtain ⟨a, ha, rfl⟩ := h
  simp only [Slc.sub] at ha
  split at ha
  · exact ⟨a, ha, rfl⟩
  · obtain ⟨b, hb, rfl⟩ := Option.map_eq_some_iff.1 ha
    exact ⟨b, hb, (add_block b _).symm⟩
theorem intsAt_lt {w : World} {s : Slc} {l : List Int} (h : intsAt w s l) (hl : l ≠ []) : ∀ k, ownB s k → k < w.heap.size := by
  rintro k ⟨a, ha, rfl⟩
  obtain ⟨b, hb, hc⟩ := intsAt_cell h (i := 0) (by cases l <;> simp at hl ⊢)
  rw [ha] at hb
  cases hb
  have := World.block_lt_of_cell? w _ hc
  rwa [add_block] at this

end Go.D
