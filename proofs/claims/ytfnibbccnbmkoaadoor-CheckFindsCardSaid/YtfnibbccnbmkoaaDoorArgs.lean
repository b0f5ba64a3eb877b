/-
  WHAT IS PROVED: how arguments that were handed in are read. No further conditions.
-/
import Derived.Test.YtfnibbccnbmkoaaDoorMem
import Derived.Deep.Slices
import Derived.ChangeArms
import Derived.ChangeSlices
set_option linter.unusedSimpArgs false
set_option linter.unusedVariables false
namespace Go.D
open Go Go.ChangeShapes Go.Deep
def pZ (w : World) (s : Slc) (ps : List Slc) (bs : List (List UInt8)) : Prop :=
 s.l = ps.length /\ cS w s.p (ps.map Slc.v) /\ ps.length = bs.length /\ ∀ i (h : i < ps.length) (h' : i < bs.length), ar w ps[i] bs[i]
theorem Slc.rV {a b : Slc} (h : a.v = b.v) : a = b := by
 cases a; cases b; simp only [Slc.v, Value.slice.injEq] at h; obtain ⟨h1, h2, h3⟩ := h; subst h1; subst h2; subst h3; rfl
section
variable {H : Type} {enc : TypeId × Value -> H} {P : Program} {w : World} {base : Nat} {spare : Nat -> Bool} {held : Bool}
theorem nz {n : Int} (h : (Lit.int .u8 n).wf = true) : ∃ b : UInt8, n = (b.toNat : Int) := by
 simp only [Lit.wf, Bool.and_eq_true, decide_eq_true_eq] at h
 have h1 : (0 : Int) <= n := h.1
 have h2 : n <= 255 := h.2
 refine ⟨UInt8.ofNat n.toNat, ?_⟩
 have : n.toNat % 256 = n.toNat := Nat.mod_eq_of_lt (by omega)
 simp [UInt8.toNat_ofNat', this]
 omega
theorem gp {α : Type} {p : Nat -> α -> Prop} : ∀ (m : Nat), (∀ i, i < m -> ∃ x, p i x) -> ∃ l : List α, l.length = m /\ ∀ i (h : i < l.length), p i l[i]
 | 0, _ => ⟨[], rfl, fun i h => by simp at h⟩
 | m + 1, hx => by
  obtain ⟨l, hl, h⟩ := gp m (fun i hi => hx i (by omega))
  obtain ⟨x, hxm⟩ := hx m (by omega)
  refine ⟨l ++ [x], by simp [hl], fun i hi => ?_⟩
  by_cases him : i < l.length
  ·rw [List.getElem_append_left him]; exact h i him
  ·have : i = m := by simp at hi; omega
   subst this
   rw [List.getElem_append_right (by omega)]
   simpa [hl] using hxm
theorem nA {t e : TypeId} {fuel : Nat} {v : Value} {x : DataW H × List MemPlace} (ht : P.underlying t = some (.slice e)) (he : P.underlying e = some (.int .u8)) (hc : P.cellsOf e = 1)
  (h : DataW.trod enc P w base spare held fuel t [v] = some x) : ∃ (s : Slc) (b : List UInt8), v = s.v /\ ar w s b /\ s.l <= s.c /\ s.c <= maxLen := by
 rcases open_ints ht he hc h with ⟨hcs, _⟩ | ⟨a, l, c, zs, hcs, _, hl, hm, hz, _, hcell, hwz⟩
 ·simp only [List.cons.injEq, and_true] at hcs
  exact ⟨⟨none, 0, 0⟩, [], hcs, ⟨rfl, Or.inl rfl⟩, Nat.le_refl _, Nat.zero_le _⟩
 ·simp only [List.cons.injEq, and_true] at hcs
  have hzl : l <= zs.length := by rw [hz]; split <;> omega
  obtain ⟨b, hb, hbx⟩ := gp (α := UInt8) (p := fun i b => zs.getD i 0 = (b.toNat : Int)) l (fun i hi => by
   have hi' : i < zs.length := by omega
   have := hwz zs[i] (List.getElem_mem hi')
   obtain ⟨b, hb⟩ := nz this
   exact ⟨b, by rw [<- hb]; simp [List.getD, hi']⟩)
  refine ⟨⟨some a, l, c⟩, b, hcs, ⟨hb.symm, Or.inr ⟨a, rfl, fun i hi => ?_⟩⟩, hl, hm⟩
  have hi2 : i < b.length := by simpa using hi
  rw [hcell i (by omega), hbx i hi2]
  simp [ba]
end
end Go.D

