/-
  WHAT IS PROVED: contracts of functions, and the plain law, for this proof. No further conditions.
-/
set_option linter.unusedSimpArgs false
set_option linter.unusedVariables false
namespace Go.D
def bitStep (s : Nat) : Nat := if s &&& 1 = 1 then (s / 2) ^^^ 3988292384 else s / 2
def iterB : Nat → Nat → Nat
  | 0, s => s
  | n + 1, s => bitStep (iterB n s)
def stepN (s : Nat) (c : UInt8) : Nat := iterB 8 (s ^^^ c.toNat)
def sumL (s : Nat) (b : List UInt8) : Nat := b.foldl stepN s
def crc (b : List UInt8) : Nat := 4294967295 ^^^ sumL 4294967295 b

theorem bitStep_lt {s : Nat} (h : s < 4294967296) : bitStep s < 4294967296 := by
  unfold bitStep
  split
  · exact Nat.xor_lt_two_pow (n := 32) (by omega) (by decide)
  · omega
theorem iterB_lt {s : Nat} (h : s < 4294967296) : ∀ n, iterB n s < 4294967296
  | 0 => h
  | n + 1 => bitStep_lt (iterB_lt h n)
theorem stepN_lt {s : Nat} (h : s < 4294967296) (c : UInt8) : stepN s c < 4294967296 :=
  iterB_lt (Nat.xor_lt_two_pow (n := 32) h (by have := c.toNat_lt; omega)) 8
theorem sumL_lt : ∀ (b : List UInt8) {s : Nat}, s < 4294967296 → sumL s b < 4294967296
  | [], _, h => h
  | c :: b, s, h => sumL_lt b (stepN_lt h c)
theorem crc_lt (b : List UInt8) : crc b < 4294967296 := Nat.xor_lt_two_pow (n := 32) (by decide) (sumL_lt b (by decide))
theorem sumL_append (s : Nat) (a b : List UInt8) : sumL s (a ++ b) = sumL (sumL s a) b := by simp [sumL]

/-! the reference: bit by bit -/
def refStep (r bit : Nat) : Nat := if r &&& 1 = bit then r / 2 else (r / 2) ^^^ 3988292384
def refRest (r c : Nat) : Nat → Nat
  | 0 => r
  | i + 1 => refStep (refRest r c i) ((c / 2 ^ i) &&& 1)

theorem and1 (n : Nat) : n &&& 1 = n % 2 := Nat.and_one_is_mod n
theorem xor_mod2 (a b : Nat) : (a ^^^ b) % 2 = (a % 2 + b % 2) % 2 := by
  have h := Nat.xor_mod_two_pow (a := a) (b := b) (n := 1)
  rw [Nat.pow_one] at h
  rw [h]
  rcases Nat.mod_two_eq_zero_or_one a with h1 | h1 <;> rcases Nat.mod_two_eq_zero_or_one b with h2 | h2 <;> simp [h1, h2]
theorem xor_div2 (a b : Nat) : (a ^^^ b) / 2 = a / 2 ^^^ b / 2 := by
  have := Nat.shiftRight_xor_distrib (a := a) (b := b) (i := 1)
  simpa [Nat.shiftRight_eq_div_pow] using this

theorem xor_lc (a b c : Nat) : a ^^^ (b ^^^ c) = b ^^^ (a ^^^ c) := by
  rw [← Nat.xor_assoc, Nat.xor_comm a b, Nat.xor_assoc]
theorem bit_ref (r c : Nat) : bitStep (r ^^^ c) = refStep r (c &&& 1) ^^^ (c / 2) := by
  unfold bitStep refStep
  rw [and1, and1, and1, xor_mod2, xor_div2]
  rcases Nat.mod_two_eq_zero_or_one r with h1 | h1 <;> rcases Nat.mod_two_eq_zero_or_one c with h2 | h2 <;> simp [h1, h2, Nat.xor_assoc, Nat.xor_comm, xor_lc]

theorem iter_ref (r c : Nat) : ∀ i, iterB i (r ^^^ c) = refRest r c i ^^^ (c / 2 ^ i)
  | 0 => by simp [iterB, refRest]
  | i + 1 => by
    rw [iterB, iter_ref r c i, bit_ref, refRest, Nat.div_div_eq_div_mul, ← Nat.pow_succ]

theorem step_ref (r : Nat) (c : UInt8) : refRest r c.toNat 8 = stepN r c := by
  unfold stepN
  rw [iter_ref]
  have : c.toNat / 2 ^ 8 = 0 := by have := c.toNat_lt; omega
  rw [this, Nat.xor_zero]
theorem refRest_lt {r c : Nat} (h : r < 4294967296) : ∀ i, refRest r c i < 4294967296
  | 0 => h
  | i + 1 => by
    have := refRest_lt (c := c) h i
    unfold refRest refStep
    split
    · omega
    · exact Nat.xor_lt_two_pow (n := 32) (by omega) (by decide)
end Go.D
