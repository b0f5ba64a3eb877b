/-
  WHAT IS PROVED: contracts of functions, and the plain law, for this proof. No further conditions.
-/
import Derived.Test.YtojcoegekkcojaaDoorMem
import Derived.Test.YtojcoegekkcojaaDoorRd
set_option linter.unusedVariables false
set_option linter.unusedSimpArgs false
namespace Go.D
open Go

theorem bytesAt_ltX {w : World} {s : Slc} {b : List UInt8} (h : bytesAt w s b) (hl : 0 < s.l) : ∀ k, ownB s k → k < w.heap.size := by
  rintro k ⟨a, ha, rfl⟩
  have hb : 0 < (b.map byteV).length := by rw [List.length_map, ← h.1]; exact hl
  obtain ⟨a', ha', hc⟩ := cellsAt_get h.2 hb
  rw [ha] at ha'
  cases ha'
  have := World.block_lt_of_cell? w _ hc
  rwa [add_block] at this
theorem bytesAt_stayX {M : Nat → Prop} {w w' : World} {s : Slc} {b : List UInt8} (h : bytesAt w s b) (he : Ext M w w') (hm : 0 < s.l → ∀ k, ownB s k → ¬ M k) : bytesAt w' s b := by
  rcases Nat.eq_zero_or_pos s.l with h0 | h0
  · have : b = [] := by have := h.1; rw [h0] at this; exact List.length_eq_zero_iff.1 this.symm
    subst this
    exact ⟨h.1, .inl rfl⟩
  · exact bytesAt_ext h he (hm h0)
theorem drew_heap (w : World) (k : Nat) : w.drew.heap[k]? = w.heap[k]? := rfl
theorem drew_size (w : World) : w.drew.heap.size = w.heap.size := rfl

abbrev ptrR' (r : Nat) : Value := .pointer (some ⟨r, 0, none⟩)
theorem rowAt_c {w : World} {a : Addr} {cs : List Value} (h : rowAt w a 0 cs) (j : Nat) (hj : j < cs.length) : w.cell? (a.add j) = some cs[j] := by
  have := rowAt_get h j hj
  rwa [Nat.zero_add] at this
end Go.D
