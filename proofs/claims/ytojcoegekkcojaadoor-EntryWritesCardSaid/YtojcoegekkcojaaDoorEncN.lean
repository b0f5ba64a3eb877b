/-
  WHAT IS PROVED: contracts of functions, and the plain law, for this proof. No further conditions.
-/
set_option linter.unusedVariables false
set_option linter.unusedSimpArgs false
namespace Go.D

/-- The bytes of a number. -/
def encN (n : Nat) : List UInt8 :=
  if h : n < 128 then [UInt8.ofNat n] else UInt8.ofNat (n % 128 + 128) :: encN (n / 128)
termination_by n
decreasing_by omega

theorem encN_len : ∀ (n j : Nat), n < 128 ^ (j + 1) → (encN n).length ≤ j + 1
  | n, 0, h => by rw [encN.eq_1, dif_pos (by simpa using h)]; simp
  | n, j + 1, h => by
    rw [encN.eq_1]
    split
    · simp
    · have := encN_len (n / 128) j (by rw [Nat.pow_succ] at h; omega)
      simp; omega
theorem encN_pos (n : Nat) : 0 < (encN n).length := by
  rw [encN.eq_1]; split <;> simp

theorem encN_lt {n : Nat} (h : n < 128) : encN n = [UInt8.ofNat n] := by rw [encN.eq_1, dif_pos h]
theorem encN_ge {n : Nat} (h : ¬ n < 128) : encN n = UInt8.ofNat (n % 128 + 128) :: encN (n / 128) := by rw [encN.eq_1, dif_neg h]

end Go.D
