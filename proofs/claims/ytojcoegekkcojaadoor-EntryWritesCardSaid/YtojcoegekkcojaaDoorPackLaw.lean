/-
  WHAT IS PROVED: contracts of functions, and the plain law, for this proof. No further conditions.
-/
import Derived.Test.YtojcoegekkcojaaDoorPackIn
set_option linter.unusedVariables false
set_option linter.unusedSimpArgs false
namespace Go.D
open Go Go.Proofs

theorem ofNat_toNat8 {n : Nat} (h : n < 256) : (UInt8.ofNat n).toNat = n := by
  simp [UInt8.toNat_ofNat', Nat.mod_eq_of_lt h]
theorem toNat_ofNat8 (c : UInt8) : UInt8.ofNat c.toNat = c := by simp

theorem pow7 (k : Nat) : 2 ^ (7 * (k + 1)) = 128 * 2 ^ (7 * k) := by rw [show 7 * (k + 1) = 7 + 7 * k by omega, Nat.pow_add]

/-- What is read is what was written. -/
theorem rawR_enc : ∀ (bs : List UInt8) (k m n : Nat) (rest : List UInt8), rawR k m bs = .ok (n, rest) →
    ∃ q, n = m + q * 2 ^ (7 * k) ∧ bs = encN q ++ rest ∧ (0 < k → 0 < q) ∧ n ≤ 4611686018427387903
  | [], k, m, n, rest, h => by simp [rawR] at h
  | c :: bs, k, m, n, rest, h => by
    rw [rawR] at h
    have hc := c.toNat_lt
    split at h
    · rename_i h1
      obtain ⟨q, h2, h3, h4, h5⟩ := rawR_enc bs (k + 1) _ n rest h
      refine ⟨c.toNat % 128 + 128 * q, ?_, ?_, fun _ => by have := h4 (by omega); omega, h5⟩
      · rw [h2, pow7, Nat.add_mul, Nat.add_assoc, ← Nat.mul_assoc, Nat.mul_comm q 128]
      · have hq := h4 (by omega)
        rw [encN_ge (by omega), h3]
        have e1 : (c.toNat % 128 + 128 * q) % 128 + 128 = c.toNat := by omega
        have e2 : (c.toNat % 128 + 128 * q) / 128 = q := by omega
        rw [e1, e2, toNat_ofNat8]; rfl
    · split at h
      · cases h
      · rename_i h1 h2
        simp only [Except.ok.injEq, Prod.mk.injEq] at h
        obtain ⟨rfl, rfl⟩ := h
        have h3 : c.toNat < 128 := by omega
        have e1 : c.toNat % 128 = c.toNat := by omega
        rw [e1] at h2 ⊢
        refine ⟨c.toNat, rfl, ?_, fun _ => by omega, by omega⟩
        rw [encN_lt h3, toNat_ofNat8]; rfl

/-- What was written is read. -/
theorem enc_rawR : ∀ (q k m : Nat) (rest : List UInt8), k ≤ 8 → (0 < k → 0 < q) → m + q * 2 ^ (7 * k) ≤ 4611686018427387903 →
    rawR k m (encN q ++ rest) = .ok (m + q * 2 ^ (7 * k), rest) := by
  intro q
  induction q using Nat.strongRecOn with
  | ind q ih =>
    intro k m rest hk hq hm
    by_cases h : q < 128
    · rw [encN_lt h]
      simp only [List.cons_append, List.nil_append, rawR, ofNat_toNat8 (show q < 256 by omega)]
      have e1 : q % 128 = q := by omega
      rw [e1, if_neg (by omega), if_neg (by omega)]
    · rw [encN_ge h]
      simp only [List.cons_append, rawR, ofNat_toNat8 (show q % 128 + 128 < 256 by omega)]
      have e1 : (q % 128 + 128) % 128 = q % 128 := by omega
      have hk8 : k < 8 := by
        rcases Nat.lt_or_ge k 8 with h | h
        · exact h
        · have hk8 : k = 8 := by omega
          subst hk8
          exfalso
          have e9 : (2 : Nat) ^ (7 * 8) = 72057594037927936 := by decide
          rw [e9] at hm
          have : 128 * 72057594037927936 ≤ q * 72057594037927936 := Nat.mul_le_mul_right _ (by omega)
          omega
      have e2 : m + q % 128 * 2 ^ (7 * k) + q / 128 * 2 ^ (7 * (k + 1)) = m + q * 2 ^ (7 * k) := by
        rw [pow7, Nat.add_assoc]
        congr 1
        rw [← Nat.mul_assoc, ← Nat.add_mul]
        congr 1
        omega
      rw [e1, if_pos ⟨by omega, hk8⟩, ih (q / 128) (by omega) (k + 1) _ rest (by omega) (fun _ => by omega) (by rw [e2]; exact hm), e2]

theorem enc_raw (n : Nat) (rest : List UInt8) (h : n ≤ 4611686018427387903) : rawR 0 0 (encN n ++ rest) = .ok (n, rest) := by
  have := enc_rawR n 0 0 rest (by omega) (fun h => by omega) (by simpa using h)
  simpa using this
theorem raw_enc {bs : List UInt8} {n : Nat} {rest : List UInt8} (h : rawR 0 0 bs = .ok (n, rest)) : bs = encN n ++ rest ∧ n ≤ 4611686018427387903 := by
  obtain ⟨q, h1, h2, _, h4⟩ := rawR_enc bs 0 0 n rest h
  have : n = q := by simpa using h1
  subst this
  exact ⟨h2, h4⟩
theorem rawR_err : ∀ (bs : List UInt8) (k m j : Nat), rawR k m bs = .error j → j = 1 ∨ j = 3
  | [], k, m, j, h => by simp [rawR] at h; exact .inl h.symm
  | c :: bs, k, m, j, h => by
    rw [rawR] at h
    split at h
    · exact rawR_err bs _ _ j h
    · split at h
      · simp at h; exact .inr h.symm
      · cases h
end Go.D
