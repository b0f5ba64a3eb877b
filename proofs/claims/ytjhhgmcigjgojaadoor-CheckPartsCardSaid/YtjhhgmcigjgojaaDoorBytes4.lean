/-
  WHAT IS PROVED: contracts of functions, and the plain law, for this proof. No further conditions.
-/
import Derived.Test.YtjhhgmcigjgojaaDoorMem
import Derived.Test.YtjhhgmcigjgojaaDoorRd
set_option linter.unusedVariables false
set_option linter.unusedSimpArgs false
namespace Go.D
open Go

theorem wrap8 (n : Nat) : Value.int .u8 (IntKind.wrap .u8 (n : Int)) = byteV (UInt8.ofNat n) := by
  have h : IntKind.wrap .u8 (n : Int) = ((n % 256 : Nat) : Int) := by
    simp [IntKind.wrap, IntKind.signed, IntKind.bits]
  rw [h, byteV, UInt8.toNat_ofNat']
theorem wrap8d (n d : Nat) : Value.int .u8 (IntKind.wrap .u8 ((n : Int) / (d : Int))) = byteV (UInt8.ofNat (n / d)) := wrap8 (n / d)

/-- Four bytes, the low one first. -/
def le4 (n : Nat) : List UInt8 := [UInt8.ofNat n, UInt8.ofNat (n / 256), UInt8.ofNat (n / 65536), UInt8.ofNat (n / 16777216)]
def le2 (n : Nat) : List UInt8 := [UInt8.ofNat n, UInt8.ofNat (n / 256)]
end Go.D
