/-
  WHAT IS PROVED: contracts of functions, and the plain law, for this proof. No further conditions.
-/
import Derived.Test.YtbeciidagekppaaDoorObjM
set_option linter.unusedSimpArgs false
set_option linter.unusedVariables false
namespace Go.D
open Go

/-! ### the two blocks of a range over a function -/
theorem Ext.putObj (w : World) (r : Nat) (o : Obj) : Ext (fun k => k = r) w (w.putObj r o) :=
  ⟨rfl, rfl, rfl, by simp, fun k _ hm => World.putObj_heap_other hm⟩
theorem putObj_size (w : World) (r : Nat) (o : Obj) : (w.putObj r o).heap.size = w.heap.size := by simp
theorem putObj_new {w : World} {r : Nat} {o o' : Obj} (h : w.heap[r]? = some o) : (w.putObj r o').heap[r]? = some o' := World.putObj_heap_same (lt_of_heap h)
theorem putObj_other {w : World} {r k : Nat} {o o' : Obj} (h : w.heap[k]? = some o) (hne : k ≠ r) : (w.putObj r o').heap[k]? = some o := by rw [World.putObj_heap_other hne]; exact h

structure NewRange (w w1 : World) (D lr : Nat) (rc : Rec) : Prop where
  dl : D < lr
  dw : w.heap.size ≤ D
  d : w1.heap[D]? = some (.deferred (some []))
  l : w1.heap[lr]? = some (.loop (rc .ready none))
  k : Keep w w1
  s : w1.heap.size = lr + 1
theorem newRange {w w1 : World} {D lr : Nat} {rc : Rec} (hD : D = w.heap.size) (hl : lr = D + 1) (hw : w1 = (w.alloc (.deferred (some []))).alloc (.loop (rc .ready none))) : NewRange w w1 D lr rc := by
  subst hw
  have hs : (w.alloc (.deferred (some []))).heap.size = lr := by simp; omega
  refine ⟨by omega, by omega, ?_, ?_, (Ext.alloc _ _ _).trans (Ext.alloc _ _ _) (fun _ h => h) (fun _ h => .inl h), ?_⟩
  · have := heap_new w (.deferred (some []))
    rw [hD]
    exact (Ext.alloc none0 _ _).heap this (fun h => h)
  · have := heap_new (w.alloc (.deferred (some []))) (.loop (rc .ready none))
    rw [hs] at this; exact this
  · have : ((w.alloc (.deferred (some []))).alloc (.loop (rc .ready none))).heap.size = (w.alloc (.deferred (some []))).heap.size + 1 := by simp
    rw [this, hs]
/-- A block of cells is none of the two. -/
theorem ObjAt.ne_loop {w : World} {r l : Nat} {c : List Value} {o : Loop} (h : ObjAt w r c) (hl : w.heap[l]? = some (.loop o)) : r ≠ l := by
  rintro rfl
  obtain ⟨T, f, h, _⟩ := h
  rw [h] at hl; cases hl
theorem ObjAt.ne_def {w : World} {r l : Nat} {c : List Value} {o : Option (List Deferred)} (h : ObjAt w r c) (hl : w.heap[l]? = some (.deferred o)) : r ≠ l := by
  rintro rfl
  obtain ⟨T, f, h, _⟩ := h
  rw [h] at hl; cases hl
/-- What lies below the two blocks stays. -/
theorem NewRange.stays {w w1 w2 : World} {D lr : Nat} {rc : Rec} (h : NewRange w w1 D lr rc) (he : Ext (fun k => D ≤ k) w1 w2) : Keep w w2 := h.k.ext he (fun k hk => Nat.le_trans h.dw hk)
end Go.D
