/-
  WHAT IS PROVED: contracts of functions, and the plain law, for this proof. No further conditions.
-/
import Derived.Test.YtppbbkmjjpggkaaGreatDoorArgs
import Derived.DataElems
set_option linter.unusedSimpArgs false
set_option linter.unusedVariables false
namespace Go.D
open Go
theorem bq {w : World} {s : Slc} {b : List UInt8} (h : ag w s b) {lo hi c : Nat} (h1 : lo <= hi) (h2 : hi <= b.length) (h3 : hi <= c) :
  ag w (Slc.sub s 1 lo hi c) ((b.take hi).drop lo) := by
 refine ⟨by simp [Slc.sub]; omega, ?_⟩
 by_cases he : lo = hi
 ·left
  subst he
  simp
 ·rcases h.2 with hb | ⟨a, ha, hc⟩
  ·have : b = [] := by simpa using hb
   subst this
   left; simp
  ·right
   refine ⟨a.add lo, ?_, fun i hi2 => ?_⟩
   ·simp only [Slc.sub, ha, Nat.mul_one]
    rw [if_neg (by omega)]; rfl
   ·have hlen : i < hi - lo := by simp at hi2; omega
    rw [Addr.add_add, hc (lo + i) (by simp; omega)]
    simp [List.getElem_drop, List.getElem_take]
theorem cI {w : World} {s : Slc} {b : List UInt8} (h : ag w s b) {i : Nat} (hi : i < b.length) : ∃ a, s.p = some a /\ w.cell? (a.add i) = some (aJ b[i]) := by
 obtain ⟨a, ha, hc⟩ := bm h.2 (i := i) (by simpa using hi)
 exact ⟨a, ha, by simpa using hc⟩
theorem yR {w : World} {s : Slc} {b : List UInt8} (h : ag w s b) : ag w.drew s b := aj h (Ext.drew _ _)
theorem lu {e : TypeId} {z : List Value} {w w0 : World} {s : Slc} {src : Src} {vs b : List UInt8} {K : Slc -> World -> Prop} (ho : Own w s 1 (vs.map aJ)) (hz : z.length = 1)
  (hfr : aF w0 s) (hk : ai w0 w)
  (hsrc : pT w 1 src (b.map aJ)) (hlen : s.l + src.n <= 2 ^ 30)
  (h : ∀ s' w', Own w' s' 1 ((vs ++ b).map aJ) -> ai w0 w' -> aF w0 s' -> Ext (au s) w w' -> (∀ k, au s' k -> au s k \/ w.heap.size <= k) -> K s' w') : aK 1 e z w s src K := by
 refine gQ ho (by omega) hz hsrc (lO b) hlen (fun s' w' h1 h2 h3 _ => h s' w' (by rw [List.map_append]; exact h1) (hk.ext h2 (fun k hk => hfr k hk)) (fun k hk2 => ?_) h2 h3)
 rcases h3 k hk2 with h4 | h4
 ·exact hfr k h4
 ·exact Nat.le_trans hk.size h4
end Go.D

