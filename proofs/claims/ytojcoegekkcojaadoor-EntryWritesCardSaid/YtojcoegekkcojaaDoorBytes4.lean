/-
  WHAT IS PROVED: contracts of functions, and the plain law, for this proof. No further conditions.
-/
import Derived.Test.YtojcoegekkcojaaDoorMem
import Derived.Test.YtojcoegekkcojaaDoorRd
set_option linter.unusedVariables false
set_option linter.unusedSimpArgs false
namespace Go.D
open Go

theorem wrap8 (n : Nat) : Value.int .u8 (IntKind.wrap .u8 (n : Int)) = byteV (UInt8.ofNat n) := by
  have h : IntKind.wrap .u8 (n : Int) = ((n % 256 : Nat) : Int) := by
    simp [IntKind.wrap, IntKind.signed, IntKind.bits]
  rw [h, byteV, UInt8.toNat_ofNat']
theorem wrap8d (n d : Nat) : Value.int .u8 (IntKind.wrap .u8 ((n : Int) / (d : Int))) = byteV (UInt8.ofNat (n / d)) := wrap8 (n / d)

/-- Four bytes, the low one first. -/
def le4 (n : Nat) : List UInt8 := [UInt8.ofNat n, UInt8.ofNat (n / 256), UInt8.ofNat (n / 65536), UInt8.ofNat (n / 16777216)]
def le2 (n : Nat) : List UInt8 := [UInt8.ofNat n, UInt8.ofNat (n / 256)]
theorem bits_or (a b : Nat) : bitsI .or (a : Int) (b : Int) = ((a ||| b : Nat) : Int) := rfl

theorem or_disj (a b i : Nat) (ha : a < 2 ^ i) : a ||| b * 2 ^ i = a + b * 2 ^ i := by
  have := Nat.shiftLeft_add_eq_or_of_lt ha b
  rw [Nat.shiftLeft_eq] at this
  rw [Nat.or_comm, ← this, Nat.add_comm]
theorem drop_get {α : Type} {l : List α} {k : Nat} (h : k < l.length) : l.drop k = l[k] :: l.drop (k + 1) := List.drop_eq_getElem_cons h
end Go.D
