/-
  WHAT IS PROVED: contracts of functions, and the plain law, for this proof. No further conditions.
-/
import Derived.Test.YtfnibbccnbmkoaaDoorArgs
import Derived.DataElems
set_option linter.unusedSimpArgs false
set_option linter.unusedVariables false
namespace Go.D
open Go
theorem gq {w : World} {s : Slc} {b : List UInt8} (h : ar w s b) {lo hi c : Nat} (h1 : lo <= hi) (h2 : hi <= b.length) (h3 : hi <= c) :
  ar w (Slc.sub s 1 lo hi c) ((b.take hi).drop lo) := by
 refine ⟨by simp [Slc.sub]; omega, ?_⟩
 by_cases he : lo = hi
 ·left
  subst he
  simp
 ·rcases h.2 with hb | ⟨a, ha, hc⟩
  ·have : b = [] := by simpa using hb
   subst this
   left; simp
  ·right
   refine ⟨a.add lo, ?_, fun i hi2 => ?_⟩
   ·simp only [Slc.sub, ha, Nat.mul_one]
    rw [if_neg (by omega)]; rfl
   ·have hlen : i < hi - lo := by simp at hi2; omega
    rw [Addr.add_add, hc (lo + i) (by simp; omega)]
    simp [List.getElem_drop, List.getElem_take]
theorem im {w : World} {s : Slc} {b : List UInt8} (h : ar w s b) {i : Nat} (hi : i < b.length) : ∃ a, s.p = some a /\ w.cell? (a.add i) = some (ba b[i]) := by
 obtain ⟨a, ha, hc⟩ := dj h.2 (i := i) (by simpa using hi)
 exact ⟨a, ha, by simpa using hc⟩
end Go.D

