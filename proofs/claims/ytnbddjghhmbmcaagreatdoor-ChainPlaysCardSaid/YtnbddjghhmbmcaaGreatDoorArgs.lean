/-
  WHAT IS PROVED: how arguments that were handed in are read. No further conditions.
-/
import Derived.Test.YtnbddjghhmbmcaaGreatDoorMem
import Derived.Deep.Slices
import Derived.ChangeArms
import Derived.ChangeSlices
set_option linter.unusedSimpArgs false
set_option linter.unusedVariables false
namespace Go.D
open Go Go.ChangeShapes Go.Deep
theorem Slc.Hi {a b : Slc} (h : a.v = b.v) : a = b := by
 cases a; cases b; simp only [Slc.v, Value.slice.injEq] at h; obtain ⟨h1, h2, h3⟩ := h; subst h1; subst h2; subst h3; rfl
section
variable {H : Type} {enc : TypeId × Value -> H} {P : Program} {w : World} {base : Nat} {spare : Nat -> Bool} {held : Bool}
theorem vf {α : Type} {p : Nat -> α -> Prop} : ∀ (m : Nat), (∀ i, i < m -> ∃ x, p i x) -> ∃ l : List α, l.length = m /\ ∀ i (h : i < l.length), p i l[i]
 | 0, _ => ⟨[], rfl, fun i h => by simp at h⟩
 | m + 1, hx => by
  obtain ⟨l, hl, h⟩ := vf m (fun i hi => hx i (by omega))
  obtain ⟨x, hxm⟩ := hx m (by omega)
  refine ⟨l ++ [x], by simp [hl], fun i hi => ?_⟩
  by_cases him : i < l.length
  ·rw [List.getElem_append_left him]; exact h i him
  ·have : i = m := by simp at hi; omega
   subst this
   rw [List.getElem_append_right (by omega)]
   simpa [hl] using hxm
end
theorem wf_i64 {n : Int} (h : (Lit.int .i64 n).wf = true) : -9223372036854775808 <= n /\ n <= 9223372036854775807 := by
 simp only [Lit.wf, Bool.and_eq_true, decide_eq_true_eq] at h
 exact h
end Go.D

