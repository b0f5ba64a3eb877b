/-
  WHAT IS PROVED: contracts of functions, and the plain law, for this proof. No further conditions.
-/
import Derived.Test.YtfnibbccnbmkoaaDoorObjM
set_option linter.unusedSimpArgs false
set_option linter.unusedVariables false
namespace Go.D
open Go
theorem nH (n : Nat) : bt n [Value.int .u8 0] = (List.replicate n (0 : UInt8)).map ba := by
 induction n with
 | zero => rfl
 | succ n ih =>
  have : bt (n + 1) [Value.int .u8 0] = [Value.int .u8 0] ++ bt n [Value.int .u8 0] := by simp [bt, List.replicate_succ]
  rw [this, ih, List.replicate_succ]
  rfl
theorem Own.rb {w : World} {r n : Nat} {T : TypeId} (h : w.heap[r]? = some (.cells ⟨bt n [Value.int .u8 0]⟩ T)) : Own w ⟨some ⟨r, 0, none⟩, n, n⟩ 1 ((List.replicate n (0 : UInt8)).map ba) := by
 rw [nH] at h
 exact Own.new h (.inl (by simp)) (by simp)
end Go.D

