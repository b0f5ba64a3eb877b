/-
  WHAT IS PROVED: contracts of functions, and the plain law, for this proof. No further conditions.
-/
import Derived.Test.YtaagbjbgaockdaaDoorNet6
set_option linter.unusedVariables false
set_option linter.unusedSimpArgs false
namespace Go.D
open Go Go.Proofs

/-! ### the plain law: what waits -/
def msgOf (n : Nat) (x : Rmsg) : Msg := ((n : Int), x.1, x.2.1, x.2.2.1)
def waitL : Nat → List Rmsg → List Msg
  | _, [] => []
  | k, x :: l => if x.2.2.2 = true then waitL (k + 1) l else msgOf k x :: waitL (k + 1) l
theorem waitL_snoc : ∀ (l : List Rmsg) (k : Nat) (x : Rmsg), x.2.2.2 = false → waitL k (l ++ [x]) = waitL k l ++ [msgOf (k + l.length) x]
  | [], k, x, h => by simp [waitL, h]
  | y :: l, k, x, h => by
    have := waitL_snoc l (k + 1) x h
    have e : k + 1 + l.length = k + (l.length + 1) := by omega
    simp only [List.cons_append, waitL, this, List.length_cons, e]
    split <;> rfl
theorem waitL_mem : ∀ (l : List Rmsg) (k : Nat) (m : Msg), m ∈ waitL k l ↔ ∃ j, ∃ h : j < l.length, l[j].2.2.2 = false ∧ m = msgOf (k + j) l[j]
  | [], k, m => by simp [waitL]
  | y :: l, k, m => by
    have ih := waitL_mem l (k + 1) m
    have go : (∃ j, ∃ h : j < (y :: l).length, (y :: l)[j].2.2.2 = false ∧ m = msgOf (k + j) (y :: l)[j]) ↔ (y.2.2.2 = false ∧ m = msgOf k y) ∨ ∃ j, ∃ h : j < l.length, l[j].2.2.2 = false ∧ m = msgOf (k + 1 + j) l[j] := by
      constructor
      · rintro ⟨j, hj, h1, h2⟩
        cases j with
        | zero => exact .inl ⟨h1, h2⟩
        | succ j => exact .inr ⟨j, by simpa using hj, h1, by rw [show k + 1 + j = k + (j + 1) by omega]; exact h2⟩
      · rintro (⟨h1, h2⟩ | ⟨j, hj, h1, h2⟩)
        · exact ⟨0, by simp, h1, h2⟩
        · exact ⟨j + 1, by simpa using hj, h1, by rw [show k + (j + 1) = k + 1 + j by omega]; exact h2⟩
    rw [go, ← ih, waitL]
    by_cases h : y.2.2.2 = true
    · rw [if_pos h]; simp [h]
    · rw [if_neg h, List.mem_cons]; simp [h]
theorem waitL_ge (l : List Rmsg) (k : Nat) : ∀ m ∈ waitL k l, (k : Int) ≤ m.1 := by
  intro m hm
  obtain ⟨j, _, _, rfl⟩ := (waitL_mem l k m).1 hm
  simp only [msgOf]; omega
theorem waitL_sorted : ∀ (l : List Rmsg) (k : Nat), (waitL k l).Pairwise (fun a b => a.1 < b.1)
  | [], k => by simp [waitL]
  | y :: l, k => by
    have ih := waitL_sorted l (k + 1)
    rw [waitL]
    split
    · exact ih
    · refine List.pairwise_cons.2 ⟨fun m hm => ?_, ih⟩
      have := waitL_ge l (k + 1) m hm
      simp only [msgOf]; omega
theorem waitL_len : ∀ (l : List Rmsg) (k : Nat), (waitL k l).length ≤ l.length
  | [], k => by simp [waitL]
  | y :: l, k => by
    have := waitL_len l (k + 1)
    rw [waitL]
    split <;> simp <;> omega
theorem waitL_erase : ∀ (l : List Rmsg) (k i j : Nat) (hi : i < (waitL k l).length) (hj : j < l.length), (waitL k l)[i].1 = ((k + j : Nat) : Int) → waitL k (goneAt l j) = (waitL k l).eraseIdx i
  | [], k, i, j, hi, hj, h => by simp at hj
  | y :: l, k, i, 0, hi, hj, h => by
    rw [goneAt_eq _ _ hj]
    have e : waitL k ((y :: l).set 0 (gone (y :: l)[0])) = waitL (k + 1) l := by simp [waitL, gone]
    rw [e]
    by_cases hy : y.2.2.2 = true
    · exfalso
      simp only [waitL, if_pos hy] at h hi
      have := waitL_ge l (k + 1) _ (List.getElem_mem hi)
      rw [h] at this; omega
    · simp only [waitL, if_neg hy] at h hi ⊢
      cases i with
      | zero => rfl
      | succ i =>
        exfalso
        have hi2 : i < (waitL (k + 1) l).length := by simpa using hi
        have := waitL_ge l (k + 1) _ (List.getElem_mem hi2)
        simp only [List.getElem_cons_succ] at h
        rw [h] at this; omega
  | y :: l, k, i, j + 1, hi, hj, h => by
    have hj2 : j < l.length := by simpa using hj
    have e : goneAt (y :: l) (j + 1) = y :: goneAt l j := by rw [goneAt_eq _ _ hj, goneAt_eq _ _ hj2]; rfl
    rw [e]
    by_cases hy : y.2.2.2 = true
    · simp only [waitL, if_pos hy] at h hi ⊢
      exact waitL_erase l (k + 1) i j hi hj2 (by rw [h]; congr 1; omega)
    · simp only [waitL, if_neg hy] at h hi ⊢
      cases i with
      | zero => exfalso; simp only [List.getElem_cons_zero, msgOf] at h; omega
      | succ i =>
        rw [List.eraseIdx_cons_succ]
        congr 1
        exact waitL_erase l (k + 1) i j (by simpa using hi) hj2 (by simp only [List.getElem_cons_succ] at h; rw [h]; congr 1; omega)
theorem wait_at {all : List Rmsg} {i : Nat} (hi : i < (waitL 0 all).length) : ∃ j, ∃ h : j < all.length, all[j].2.2.2 = false ∧ (waitL 0 all)[i] = msgOf j all[j] := by
  obtain ⟨j, h, h1, h2⟩ := (waitL_mem all 0 _).1 (List.getElem_mem hi)
  exact ⟨j, h, h1, by rw [h2, Nat.zero_add]⟩
theorem wait_of {all : List Rmsg} {j : Nat} (hj : j < all.length) (h : all[j].2.2.2 = false) : ∃ i, ∃ hi : i < (waitL 0 all).length, (waitL 0 all)[i] = msgOf j all[j] := by
  have := (waitL_mem all 0 (msgOf j all[j])).2 ⟨j, hj, h, by rw [Nat.zero_add]⟩
  obtain ⟨i, hi, he⟩ := List.getElem_of_mem this
  exact ⟨i, hi, he⟩
/-- The first of what waits is the first of all that wait. -/
theorem first_same {all : List Rmsg} {P : Int → Int → Prop} {n m : Int}
    (h1 : (∃ k : Nat, ∃ hk : k < (waitL 0 all).length, n = (waitL 0 all)[k].1 ∧ P (waitL 0 all)[k].2.1 (waitL 0 all)[k].2.2.1 ∧ ∀ j (hj : j < k), ¬ P ((waitL 0 all)[j]'(by omega)).2.1 ((waitL 0 all)[j]'(by omega)).2.2.1) ∨
       (n = -1 ∧ ∀ j (hj : j < (waitL 0 all).length), ¬ P (waitL 0 all)[j].2.1 (waitL 0 all)[j].2.2.1))
    (h2 : FoundAt (fun x : Rmsg => x.2.2.2 = false ∧ P x.1 x.2.1) all m) : n = m := by
  rcases h1 with ⟨k, hk, rfl, hp, hno⟩ | ⟨rfl, hno⟩
  · obtain ⟨j, hj, hg, he⟩ := wait_at hk
    have hp' : P all[j].1 all[j].2.1 := by rw [he] at hp; exact hp
    rcases h2 with ⟨k', rfl, hk', hp2, hno2⟩ | ⟨rfl, hno2⟩
    · have hle : k' ≤ j := by
        rcases Nat.lt_or_ge j k' with h5 | h5
        · exact absurd ⟨hg, hp'⟩ (hno2 j h5)
        · exact h5
      obtain ⟨i', hi', he'⟩ := wait_of hk' hp2.1
      have hki : k ≤ i' := by
        rcases Nat.lt_or_ge i' k with h5 | h5
        · exact absurd (by rw [he']; exact hp2.2) (hno i' h5)
        · exact h5
      have hge : (waitL 0 all)[k].1 ≤ (waitL 0 all)[i'].1 := by
        rcases Nat.lt_or_eq_of_le hki with h5 | h5
        · have := List.pairwise_iff_getElem.1 (waitL_sorted all 0) k i' hk hi' h5
          omega
        · subst h5; exact Int.le_refl _
      rw [he, he'] at hge
      rw [he]
      simp only [msgOf] at hge ⊢
      omega
    · exact absurd ⟨hg, hp'⟩ (hno2 j hj)
  · rcases h2 with ⟨k', rfl, hk', hp2, hno2⟩ | ⟨rfl, hno2⟩
    · obtain ⟨i', hi', he'⟩ := wait_of hk' hp2.1
      exact absurd (by rw [he']; exact hp2.2) (hno i' hi')
    · rfl
theorem waits_none {all : List Rmsg} {n : Int} (h : ∀ j (hj : j < (waitL 0 all).length), (waitL 0 all)[j].1 ≠ n) : waitsR all n = false := by
  cases hw : waitsR all n with
  | false => rfl
  | true =>
    obtain ⟨k, rfl, hk, hg⟩ := waitsR_iff.1 hw
    obtain ⟨i, hi, he⟩ := wait_of hk hg
    exact absurd (by rw [he]; rfl) (h i hi)
theorem waits_some {all : List Rmsg} {n : Int} {i : Nat} (hi : i < (waitL 0 all).length) (h : (waitL 0 all)[i].1 = n) : ∃ j, ∃ hj : j < all.length, n = j ∧ all[j].2.2.2 = false ∧ (waitL 0 all)[i] = msgOf j all[j] ∧ waitL 0 (goneAt all j) = (waitL 0 all).eraseIdx i := by
  obtain ⟨j, hj, hg, he⟩ := wait_at hi
  refine ⟨j, hj, ?_, hg, he, waitL_erase all 0 i j hi hj (by rw [he, Nat.zero_add]; rfl)⟩
  rw [← h, he]; rfl
end Go.D
