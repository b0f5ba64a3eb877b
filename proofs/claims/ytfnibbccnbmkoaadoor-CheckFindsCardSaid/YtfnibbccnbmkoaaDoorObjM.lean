/-
  WHAT IS PROVED: contracts of functions, and the plain law, for this proof. No further conditions.
-/
import Derived.Test.YtfnibbccnbmkoaaDoorSub
set_option linter.unusedSimpArgs false
set_option linter.unusedVariables false
namespace Go.D
open Go
def ab (w : World) (r : Nat) (c : List Value) : Prop := ∃ T f, w.heap[r]? = some (.cells ⟨c⟩ T f) /\ clear f c.length
theorem ab.cell {w : World} {r : Nat} {c : List Value} (h : ab w r c) (k : Nat) (hk : k < c.length) : w.cell? ⟨r, k, none⟩ = some c[k] := by
 obtain ⟨T, f, h, _⟩ := h
 rw [cell_of h, List.getElem?_eq_getElem hk]
theorem ab.set {w : World} {r : Nat} {c : List Value} (h : ab w r c) (k : Nat) (hk : k < c.length) (v : Value) :
  aw w ⟨r, k, none⟩ 1 /\ ab (w.setCell ⟨r, k, none⟩ v) r (c.set k v) /\ Ext (fun x => x = r) w (w.setCell ⟨r, k, none⟩ v) := by
 obtain ⟨T, f, h, hf⟩ := h
 exact ⟨fG h hf k 1 (by omega), ⟨T, f, heap_setCell h k v, by simpa using hf⟩, Ext.setCell (M := fun x => x = r) (a := ⟨r, k, none⟩) rfl v⟩
theorem ab.ext {M : Nat -> Prop} {w w' : World} {r : Nat} {c : List Value} (h : ab w r c) (he : Ext M w w') (hm : ¬ M r) : ab w' r c := by
 obtain ⟨T, f, h, hf⟩ := h
 exact ⟨T, f, he.heap h hm, hf⟩
theorem ab.ah {w w' : World} {r : Nat} {c : List Value} (h : ab w r c) (he : av w w') : ab w' r c := h.ext he (fun h => h)
theorem ab.lt {w : World} {r : Nat} {c : List Value} (h : ab w r c) : r < w.heap.size := by
 obtain ⟨T, f, h, _⟩ := h
 exact bH h
theorem p5 {w : World} {s : Slc} {sz : Nat} {vs : List Value} (h : Own w s sz vs) : ∀ k, aC s k -> k < w.heap.size := by
 rintro k ⟨a, ha, rfl⟩
 obtain ⟨_, ⟨hp, _⟩ | ⟨b, pad, T, f, hp, hb, _⟩⟩ := h
 ·rw [hp] at ha; cases ha
 ·rw [hp] at ha; cases ha
  exact (Array.getElem?_eq_some_iff.1 hb).1
def qR (M M' : Nat -> Prop) (w w' : World) : Prop := Ext M w w' /\ ∀ k, M' k -> M k \/ w.heap.size <= k
theorem qR.trans {M M1 M2 : Nat -> Prop} {a b c : World} (h1 : qR M M1 a b) (h2 : qR M1 M2 b c) : qR M M2 a c :=
 ⟨h1.1.trans h2.1 (fun _ h => h) (fun k h => h1.2 k h), fun k h => (h2.2 k h).elim (fun h => h1.2 k h) (fun h => .inr (Nat.le_trans h1.1.size h))⟩
end Go.D

