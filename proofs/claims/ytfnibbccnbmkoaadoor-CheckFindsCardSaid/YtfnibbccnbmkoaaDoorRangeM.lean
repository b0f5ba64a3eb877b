/-
  WHAT IS PROVED: contracts of functions, and the plain law, for this proof. No further conditions.
-/
import Derived.Test.YtfnibbccnbmkoaaDoorObjM
set_option linter.unusedSimpArgs false
set_option linter.unusedVariables false
namespace Go.D
open Go
theorem Ext.putObj (w : World) (r : Nat) (o : Obj) : Ext (fun k => k = r) w (w.putObj r o) :=
 ⟨rfl, rfl, rfl, by simp, fun k _ hm => World.putObj_heap_other hm⟩
theorem putObj_size (w : World) (r : Nat) (o : Obj) : (w.putObj r o).heap.size = w.heap.size := by simp
theorem eA {w : World} {r : Nat} {o o' : Obj} (h : w.heap[r]? = some o) : (w.putObj r o').heap[r]? = some o' := World.putObj_heap_same (bH h)
structure p9 (w w1 : World) (D lr : Nat) (rc : Rec) : Prop where
 dl : D < lr
 dw : w.heap.size <= D
 d : w1.heap[D]? = some (.deferred (some []))
 l : w1.heap[lr]? = some (.loop (rc .ready none))
 k : av w w1
 s : w1.heap.size = lr + 1
theorem mL {w w1 : World} {D lr : Nat} {rc : Rec} (hD : D = w.heap.size) (hl : lr = D + 1) (hw : w1 = (w.alloc (.deferred (some []))).alloc (.loop (rc .ready none))) : p9 w w1 D lr rc := by
 subst hw
 have hs : (w.alloc (.deferred (some []))).heap.size = lr := by simp; omega
 refine ⟨by omega, by omega, ?_, ?_, (Ext.alloc _ _ _).trans (Ext.alloc _ _ _) (fun _ h => h) (fun _ h => .inl h), ?_⟩
 ·have := il w (.deferred (some []))
  rw [hD]
  exact (Ext.alloc dN _ _).heap this (fun h => h)
 ·have := il (w.alloc (.deferred (some []))) (.loop (rc .ready none))
  rw [hs] at this; exact this
 ·have : ((w.alloc (.deferred (some []))).alloc (.loop (rc .ready none))).heap.size = (w.alloc (.deferred (some []))).heap.size + 1 := by simp
  rw [this, hs]
end Go.D

