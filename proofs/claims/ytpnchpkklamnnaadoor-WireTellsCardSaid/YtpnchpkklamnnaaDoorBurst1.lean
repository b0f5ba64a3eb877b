/-
  WHAT IS PROVED: contracts of functions, and the plain law, for this proof. No further conditions.
-/
import Derived.Test.YtpnchpkklamnnaaDoorSumsOpens
set_option linter.unusedVariables false
set_option linter.unusedSimpArgs false
namespace Go.D
open Go Go.Proofs

theorem xor_ac4 (a b c d : Nat) : (a ^^^ b) ^^^ (c ^^^ d) = (a ^^^ c) ^^^ (b ^^^ d) := by
  rw [Nat.xor_assoc, Nat.xor_assoc, xor_lc b c d]
theorem bitStep_xor (a b : Nat) : bitStep (a ^^^ b) = bitStep a ^^^ bitStep b := by
  unfold bitStep
  rw [and1, and1, and1, xor_mod2, xor_div2]
  rcases Nat.mod_two_eq_zero_or_one a with h1 | h1 <;> rcases Nat.mod_two_eq_zero_or_one b with h2 | h2 <;> simp [h1, h2]
  · rw [Nat.xor_assoc]
  · rw [Nat.xor_assoc, Nat.xor_assoc, Nat.xor_comm 3988292384]
  · rw [xor_ac4, Nat.xor_self, Nat.xor_zero]
theorem iterB_xor (a b : Nat) : ∀ n, iterB n (a ^^^ b) = iterB n a ^^^ iterB n b
  | 0 => rfl
  | n + 1 => by rw [iterB, iterB_xor a b n, bitStep_xor]; rfl
theorem bitStep_ne {s : Nat} (h : s < 4294967296) (h0 : s ≠ 0) : bitStep s ≠ 0 := by
  unfold bitStep
  rw [and1]
  split
  · intro he
    have h2 : s / 2 = 3988292384 := by
      have := congrArg (fun x => x ^^^ 3988292384) he
      simp only [Nat.xor_assoc, Nat.xor_self, Nat.xor_zero, Nat.zero_xor] at this
      exact this
    omega
  · omega
theorem iterB_ne {s : Nat} (h : s < 4294967296) (h0 : s ≠ 0) : ∀ n, iterB n s ≠ 0
  | 0 => h0
  | n + 1 => bitStep_ne (iterB_lt h n) (iterB_ne h h0 n)
theorem iterB_add (a b s : Nat) : iterB (a + b) s = iterB a (iterB b s) := by
  induction a with
  | zero => simp [iterB]
  | succ a ih => rw [Nat.succ_add, iterB, ih, iterB]
theorem bitStep_even (m : Nat) : bitStep (2 * m) = m := by
  unfold bitStep
  rw [and1, if_neg (by omega)]; omega
theorem iterB_shift : ∀ (n m : Nat), iterB n (2 ^ n * m) = m
  | 0, m => by simp [iterB]
  | n + 1, m => by
    have : 2 ^ (n + 1) * m = 2 ^ n * (2 * m) := by rw [Nat.pow_succ, Nat.mul_assoc]
    rw [iterB, this, iterB_shift n, bitStep_even]
theorem iterB_8x (x r : Nat) : iterB 8 x ^^^ r = iterB 8 (x ^^^ 256 * r) := by
  rw [iterB_xor, show (256 : Nat) = 2 ^ 8 from rfl, iterB_shift]

/-- Two states that differ stay different. -/
theorem sumL_ne : ∀ (b : List UInt8) {s t : Nat}, s < 4294967296 → t < 4294967296 → s ≠ t → sumL s b ≠ sumL t b
  | [], s, t, _, _, h => h
  | c :: b, s, t, hs, ht, h => by
    refine sumL_ne b (stepN_lt hs c) (stepN_lt ht c) (fun he => ?_)
    unfold stepN at he
    have hx : iterB 8 (s ^^^ t) = 0 := by
      have e : s ^^^ t = (s ^^^ c.toNat) ^^^ (t ^^^ c.toNat) := by rw [xor_ac4, Nat.xor_self, Nat.xor_zero]
      rw [e, iterB_xor, he, Nat.xor_self]
    have hne : s ^^^ t ≠ 0 := fun h0 => h (by
      have := congrArg (fun x => x ^^^ t) h0
      simpa [Nat.xor_assoc, Nat.xor_self] using this)
    exact iterB_ne (Nat.xor_lt_two_pow (n := 32) hs ht) hne 8 hx

/-- Four bytes at once. -/
theorem sumL_four (s : Nat) (c0 c1 c2 c3 : UInt8) :
    sumL s [c0, c1, c2, c3] = iterB 32 (s ^^^ (c0.toNat ^^^ (256 * c1.toNat ^^^ (65536 * c2.toNat ^^^ 16777216 * c3.toNat)))) := by
  have e : sumL s [c0, c1, c2, c3] = iterB 8 (iterB 8 (iterB 8 (iterB 8 (s ^^^ c0.toNat) ^^^ c1.toNat) ^^^ c2.toNat) ^^^ c3.toNat) := rfl
  rw [e, iterB_8x (s ^^^ c0.toNat), iterB_8x (iterB 8 _), iterB_8x (s ^^^ c0.toNat ^^^ 256 * c1.toNat), iterB_8x (iterB 8 (iterB 8 _)), iterB_8x (iterB 8 _), iterB_8x (s ^^^ c0.toNat ^^^ 256 * c1.toNat ^^^ _)]
  rw [← iterB_add, ← iterB_add, ← iterB_add]
  congr 1
  have h1 : 256 * (256 * c2.toNat) = 65536 * c2.toNat := by omega
  have h2 : 256 * (256 * (256 * c3.toNat)) = 16777216 * c3.toNat := by omega
  rw [h1, h2]
  simp only [Nat.xor_assoc]

theorem xor_byte (c d : UInt8) : (c ^^^ d).toNat = c.toNat ^^^ d.toNat := UInt8.toNat_xor c d
theorem mul_xor (k a b : Nat) : 2 ^ k * (a ^^^ b) = 2 ^ k * a ^^^ 2 ^ k * b := by
  have := Nat.shiftLeft_xor_distrib (a := a) (b := b) (i := k)
  simpa [Nat.shiftLeft_eq, Nat.mul_comm] using this
theorem xor_disj (a b i : Nat) (ha : a < 2 ^ i) : a ^^^ 2 ^ i * b = a + 2 ^ i * b := by
  have h1 := or_disj a b i ha
  rw [Nat.mul_comm] at h1
  rw [← h1]
  apply Nat.eq_of_testBit_eq
  intro j
  rw [Nat.testBit_xor, Nat.testBit_or]
  by_cases hj : j < i
  · have : (2 ^ i * b).testBit j = false := by
      rw [Nat.mul_comm, Nat.testBit_mul_two_pow]; simp; intro h; omega
    simp [this]
  · have : a.testBit j = false := Nat.testBit_lt_two_pow (Nat.lt_of_lt_of_le ha (Nat.pow_le_pow_right (by omega) (by omega)))
    simp [this]

/-- Of a state, two runs of four bytes whose difference is y end with the difference of 32 steps on y. -/
theorem sumL_four_ne (s : Nat) (hs : s < 4294967296) (c0 c1 c2 c3 d0 d1 d2 d3 : UInt8) (hd : d0 ≠ 0 ∨ d1 ≠ 0 ∨ d2 ≠ 0 ∨ d3 ≠ 0) :
    sumL s [c0, c1, c2, c3] ≠ sumL s [c0 ^^^ d0, c1 ^^^ d1, c2 ^^^ d2, c3 ^^^ d3] := by
  intro he
  have hl : ∀ c0 c1 c2 c3 : UInt8, (c0.toNat ^^^ (256 * c1.toNat ^^^ (65536 * c2.toNat ^^^ 16777216 * c3.toNat))) = c0.toNat + 256 * c1.toNat + 65536 * c2.toNat + 16777216 * c3.toNat := by
    intro c0 c1 c2 c3
    have l0 := c0.toNat_lt; have l1 := c1.toNat_lt; have l2 := c2.toNat_lt; have l3 := c3.toNat_lt
    have e1 : 65536 * c2.toNat ^^^ 16777216 * c3.toNat = 65536 * (c2.toNat + 256 * c3.toNat) := by
      have := xor_disj c2.toNat c3.toNat 8 l2
      rw [show 16777216 * c3.toNat = 65536 * (2 ^ 8 * c3.toNat) by omega, show (65536 : Nat) = 2 ^ 16 from rfl, ← mul_xor, this]
    have e2 : 256 * c1.toNat ^^^ 65536 * (c2.toNat + 256 * c3.toNat) = 256 * (c1.toNat + 256 * (c2.toNat + 256 * c3.toNat)) := by
      have := xor_disj c1.toNat (c2.toNat + 256 * c3.toNat) 8 l1
      rw [show 65536 * (c2.toNat + 256 * c3.toNat) = 256 * (2 ^ 8 * (c2.toNat + 256 * c3.toNat)) by omega, show (256 : Nat) = 2 ^ 8 from rfl, ← mul_xor, this]
    rw [e1, e2, show (256 : Nat) = 2 ^ 8 from rfl, xor_disj _ _ 8 l0]
    omega
  rw [sumL_four, sumL_four] at he
  have h0 : iterB 32 ((s ^^^ (c0.toNat ^^^ (256 * c1.toNat ^^^ (65536 * c2.toNat ^^^ 16777216 * c3.toNat)))) ^^^ (s ^^^ ((c0 ^^^ d0).toNat ^^^ (256 * (c1 ^^^ d1).toNat ^^^ (65536 * (c2 ^^^ d2).toNat ^^^ 16777216 * (c3 ^^^ d3).toNat))))) = 0 := by
    rw [iterB_xor, he, Nat.xor_self]
  have e : (s ^^^ (c0.toNat ^^^ (256 * c1.toNat ^^^ (65536 * c2.toNat ^^^ 16777216 * c3.toNat)))) ^^^ (s ^^^ ((c0 ^^^ d0).toNat ^^^ (256 * (c1 ^^^ d1).toNat ^^^ (65536 * (c2 ^^^ d2).toNat ^^^ 16777216 * (c3 ^^^ d3).toNat)))) = d0.toNat ^^^ (256 * d1.toNat ^^^ (65536 * d2.toNat ^^^ 16777216 * d3.toNat)) := by
    rw [xor_byte, xor_byte, xor_byte, xor_byte, show (256 : Nat) = 2 ^ 8 from rfl, show (65536 : Nat) = 2 ^ 16 from rfl, show (16777216 : Nat) = 2 ^ 24 from rfl, mul_xor, mul_xor, mul_xor]
    apply Nat.eq_of_testBit_eq
    intro j
    simp only [Nat.testBit_xor]
    cases s.testBit j <;> cases c0.toNat.testBit j <;> cases (2 ^ 8 * c1.toNat).testBit j <;> cases (2 ^ 16 * c2.toNat).testBit j <;> cases (2 ^ 24 * c3.toNat).testBit j <;> simp
  rw [e, hl] at h0
  have l0 := d0.toNat_lt; have l1 := d1.toNat_lt; have l2 := d2.toNat_lt; have l3 := d3.toNat_lt
  refine iterB_ne (s := d0.toNat + 256 * d1.toNat + 65536 * d2.toNat + 16777216 * d3.toNat) (by omega) ?_ 32 h0
  have ne : ∀ d : UInt8, d ≠ 0 → d.toNat ≠ 0 := fun d hd h => hd (UInt8.toNat_inj.1 h)
  rcases hd with h | h | h | h <;> have := ne _ h <;> omega

theorem crc_four_ne (p q : List UInt8) (c0 c1 c2 c3 d0 d1 d2 d3 : UInt8) (hd : d0 ≠ 0 ∨ d1 ≠ 0 ∨ d2 ≠ 0 ∨ d3 ≠ 0) :
    crc (p ++ [c0, c1, c2, c3] ++ q) ≠ crc (p ++ [c0 ^^^ d0, c1 ^^^ d1, c2 ^^^ d2, c3 ^^^ d3] ++ q) := by
  intro he
  unfold crc at he
  have he : sumL 4294967295 (p ++ [c0, c1, c2, c3] ++ q) = sumL 4294967295 (p ++ [c0 ^^^ d0, c1 ^^^ d1, c2 ^^^ d2, c3 ^^^ d3] ++ q) := by
    have := congrArg (fun x => 4294967295 ^^^ x) he
    simpa [← Nat.xor_assoc, Nat.xor_self] using this
  rw [sumL_append, sumL_append, sumL_append, sumL_append] at he
  have hp := sumL_lt p (s := 4294967295) (by omega)
  exact sumL_ne q (sumL_lt _ hp) (sumL_lt _ hp) (sumL_four_ne _ hp c0 c1 c2 c3 d0 d1 d2 d3 hd) he
end Go.D
