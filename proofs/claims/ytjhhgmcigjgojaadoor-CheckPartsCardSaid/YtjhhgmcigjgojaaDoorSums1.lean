/-
  WHAT IS PROVED: contracts of functions, and the plain law, for this proof. No further conditions.
-/
import Derived.Test.YtjhhgmcigjgojaaDoorVCsums
import Derived.Test.YtjhhgmcigjgojaaDoorCrc
import Derived.Test.YtjhhgmcigjgojaaDoorArgs
set_option linter.unusedSimpArgs false
set_option linter.unusedVariables false
namespace Go.D
open Go Go.Proofs

theorem bits_and (a b : Nat) : bitsI .and (a : Int) (b : Int) = ((a &&& b : Nat) : Int) := rfl
theorem bits_and1 (a : Nat) : bitsI .and (a : Int) 1 = ((a &&& 1 : Nat) : Int) := rfl
theorem bits_xor (a b : Nat) : bitsI .xor (a : Int) (b : Int) = ((a ^^^ b : Nat) : Int) := rfl
theorem bits_or (a b : Nat) : bitsI .or (a : Int) (b : Int) = ((a ||| b : Nat) : Int) := rfl

theorem step_spec (s : Nat) (c : UInt8) (hs : s < 4294967296) (w : World) :
    Calls Tryd.prog fn_sums_step ⟨[.int .u32 (s : Int), .int .u8 (c.toNat : Int)]⟩ w fun e w' => e = .returned (.int .u32 (stepN s c : Int)) ∧ w' = w := by
  have hc := c.toNat_lt
  refine sums_step_ok _ _ ?_
  unfold sums_step
  refine ⟨inR32 (by omega), by omega, by omega, inR32 (by omega), inR32 (by omega), ?_⟩
  refine ⟨fun s' i w' => w' = w ∧ ∃ k : Nat, i = k ∧ k ≤ 8 ∧ s' = (iterB k (s ^^^ c.toNat) : Nat), fun _ i _ => (8 - i).toNat, ⟨rfl, 0, rfl, by omega, rfl⟩, ?_⟩
  rintro s' i w' ⟨rfl, k, rfl, hk, rfl⟩
  intros
  have hx : s ^^^ c.toNat < 4294967296 := Nat.xor_lt_two_pow (n := 32) hs (by omega)
  have hb := iterB_lt hx k
  refine BIf_dec (fun h => ?_) (fun h => ?_)
  · refine ⟨by omega, by omega, inR32 (by omega), inR32 (by omega), by omega, by omega, ?_⟩
    have e : bitStep (iterB k (s ^^^ c.toNat)) = iterB (k + 1) (s ^^^ c.toNat) := rfl
    refine BIf_dec (fun h1 => ?_) (fun h1 => ?_)
    · refine ⟨by omega, by omega, inR32 (by omega), inR32 (by omega), inR64 (by omega), ⟨rfl, k + 1, rfl, by omega, ?_⟩, by dsimp only; omega⟩
      have h2 : iterB k (s ^^^ c.toNat) &&& 1 = 1 := by have := bits_and1 (iterB k (s ^^^ c.toNat)); omega
      rw [← e, bitStep, if_pos h2]
      rfl
    · refine ⟨inR64 (by omega), ⟨rfl, k + 1, rfl, by omega, ?_⟩, by dsimp only; omega⟩
      have h2 : ¬ iterB k (s ^^^ c.toNat) &&& 1 = 1 := by have := bits_and1 (iterB k (s ^^^ c.toNat)); omega
      rw [← e, bitStep, if_neg h2]
      rfl
  · obtain rfl : k = 8 := by omega
    exact ⟨rfl, rfl⟩

theorem drop_get {α : Type} {l : List α} {k : Nat} (h : k < l.length) : l.drop k = l[k] :: l.drop (k + 1) := List.drop_eq_getElem_cons h

theorem Sum_spec (parts : Slc) (ps : List Slc) (bs : List (List UInt8)) (w : World) (h : rowsAt w parts ps bs) (hl : parts.l ≤ 2 ^ 40) (hll : ∀ i (h : i < ps.length), ps[i].l ≤ 2 ^ 40) :
    Calls Tryd.prog fn_sums_Sum ⟨[parts.v]⟩ w fun e w' => e = .returned (.int .u32 (crc bs.flatten : Int)) ∧ w' = w := by
  obtain ⟨h1, h2, h3, h4⟩ := h
  refine sums_Sum_ok _ ?_
  unfold sums_Sum
  refine ⟨fun s i w' => w' = w ∧ ∃ k t : Nat, i = k ∧ k ≤ ps.length ∧ s = t ∧ t < 4294967296 ∧ sumL t (bs.drop k).flatten = sumL 4294967295 bs.flatten, fun _ i _ => (ps.length - i).toNat,
    ⟨rfl, 0, 4294967295, rfl, by omega, rfl, by omega, rfl⟩, ?_⟩
  rintro s i w' ⟨rfl, k, t, rfl, hk, rfl, ht, hsum⟩
  intros
  refine BIf_dec (fun h => ?_) (fun h => ?_)
  · have hk' : k < ps.length := by omega
    refine needSome_cell h2 (i := k) (by simpa using hk') (fun a ha hc => ⟨by omega, h, ps[k], ?_, ?_⟩)
    · simpa using hc
    · have hb := h4 k hk' (by omega)
      have hlk := hll k hk'
      rw [drop_get (show k < bs.length by omega), List.flatten_cons, sumL_append] at hsum
      refine ⟨fun s2 j w2 => w2 = w' ∧ ∃ m u : Nat, j = m ∧ m ≤ bs[k].length ∧ s2 = u ∧ u < 4294967296 ∧ sumL u (bs[k].drop m) = sumL t bs[k], fun _ j _ => (bs[k].length - j).toNat,
        ⟨rfl, 0, t, rfl, by omega, rfl, ht, rfl⟩, ?_⟩
      rintro s2 j w2 ⟨rfl, m, u, rfl, hm, rfl, hu, hsum2⟩
      intros
      have hbl := hb.1
      refine BIf_dec (fun h5 => ?_) (fun h5 => ?_)
      · have hm' : m < bs[k].length := by omega
        refine needSome_cell hb.2 (i := m) (by simpa using hm') (fun a2 ha2 hc2 => ⟨by omega, h5, (bs[k][m].toNat : Int), ?_, ?_⟩)
        · simpa [byteV] using hc2
        · refine (step_spec u bs[k][m] hu w2).mono ?_
          rintro e w3 ⟨rfl, rfl⟩
          refine ⟨_, rfl, inR64 (by omega), ⟨rfl, m + 1, _, rfl, by omega, rfl, stepN_lt hu _, ?_⟩, by dsimp only; omega⟩
          rw [drop_get hm'] at hsum2
          exact hsum2
      · have hme : m = bs[k].length := by omega
        rw [hme, List.drop_length] at hsum2
        refine ⟨inR64 (by omega), ⟨rfl, k + 1, u, rfl, by omega, rfl, hu, ?_⟩, by dsimp only; omega⟩
        have hsum2' : u = sumL t bs[k] := hsum2
        rw [hsum2']
        exact hsum
  · obtain rfl : k = ps.length := by omega
    rw [h3] at hsum
    simp only [List.drop_length, List.flatten_nil] at hsum
    refine ⟨by omega, inR32 (by omega), ?_, rfl⟩
    have hsum' : t = sumL 4294967295 bs.flatten := hsum
    rw [hsum']
    rfl

theorem wrap_u64_nat (n : Nat) (h : n ≤ 100) : IntKind.wrap .u64 (n : Int) = n := wrap_inR (inRu64 (by omega))

theorem refSum_spec (b : Slc) (bs : List UInt8) (w : World) (h : bytesAt w b bs) (hl : b.l ≤ 2 ^ 40) :
    Calls Tryd.prog fn_tidewaterref01_Sum ⟨[b.v]⟩ w fun e w' => e = .returned (.int .u32 (crc bs : Int)) ∧ w' = w := by
  obtain ⟨h1, h2⟩ := h
  refine tidewaterref01_Sum_ok _ ?_
  unfold tidewaterref01_Sum
  refine ⟨fun s i w' => w' = w ∧ ∃ k t : Nat, i = k ∧ k ≤ bs.length ∧ s = t ∧ t < 4294967296 ∧ sumL t (bs.drop k) = sumL 4294967295 bs, fun _ i _ => (bs.length - i).toNat,
    ⟨rfl, 0, 4294967295, rfl, by omega, rfl, by omega, rfl⟩, ?_⟩
  rintro s i w' ⟨rfl, k, t, rfl, hk, rfl, ht, hsum⟩
  intros
  refine BIf_dec (fun h => ?_) (fun h => ?_)
  · have hk' : k < bs.length := by omega
    have hc8 := bs[k].toNat_lt
    refine needSome_cell h2 (i := k) (by simpa using hk') (fun a ha hc => ⟨by omega, h, (bs[k].toNat : Int), ?_, ?_⟩)
    · simpa [byteV] using hc
    · refine ⟨fun s2 j w2 => w2 = w' ∧ ∃ m : Nat, j = m ∧ m ≤ 8 ∧ s2 = (refRest t bs[k].toNat m : Nat), fun _ j _ => (8 - j).toNat, ⟨rfl, 0, rfl, by omega, rfl⟩, ?_⟩
      rintro s2 j w2 ⟨rfl, m, rfl, hm, rfl⟩
      intros
      have hr := refRest_lt (c := bs[k].toNat) ht m
      refine BIf_dec (fun h5 => ?_) (fun h5 => ?_)
      · rw [wrap_u64_nat m (by omega)]
        have e1 : min (Int.toNat (m : Int)) 32 = m := by omega
        rw [e1]
        have e2 : ((bs[k].toNat : Int) / ((2 ^ m : Nat) : Int)) = ((bs[k].toNat / 2 ^ m : Nat) : Int) := by simp
        rw [e2]
        have hd : bs[k].toNat / 2 ^ m ≤ bs[k].toNat := Nat.div_le_self _ _
        have e3 : refRest t bs[k].toNat (m + 1) = refStep (refRest t bs[k].toNat m) ((bs[k].toNat / 2 ^ m) &&& 1) := rfl
        have e4 := bits_and1 (refRest t bs[k].toNat m)
        have e5 := bits_and1 (bs[k].toNat / 2 ^ m)
        clear e2
        generalize bs[k].toNat / 2 ^ m = q at e3 e5 hd ⊢
        refine ⟨inR32 (by omega), by omega, by omega, by omega, by omega, inR32 (by omega), inR32 (by omega), by omega, by omega, inR32 (by omega), inR32 (by omega), ?_⟩
        refine BIf_ndec (fun h6 => ?_) (fun h6 => ?_)
        · refine ⟨by omega, by omega, by omega, by omega, inR32 (by omega), inR32 (by omega), inR64 (by omega), ⟨rfl, m + 1, rfl, by omega, ?_⟩, by dsimp only; omega⟩
          have h7 : ¬ (refRest t bs[k].toNat m &&& 1 = q &&& 1) := fun h8 => h6 (by omega)
          rw [e3, refStep, if_neg h7]
          rfl
        · refine ⟨by omega, by omega, inR64 (by omega), ⟨rfl, m + 1, rfl, by omega, ?_⟩, by dsimp only; omega⟩
          have h7 : refRest t bs[k].toNat m &&& 1 = q &&& 1 := by omega
          rw [e3, refStep, if_pos h7]
          rfl
      · obtain rfl : m = 8 := by omega
        refine ⟨inR64 (by omega), ⟨rfl, k + 1, _, rfl, by omega, rfl, hr, ?_⟩, by dsimp only; omega⟩
        rw [step_ref]
        rw [drop_get hk'] at hsum
        exact hsum
  · obtain rfl : k = bs.length := by omega
    simp only [List.drop_length] at hsum
    refine ⟨by omega, by omega, inR32 (by omega), inR32 (by omega), ?_, rfl⟩
    have hsum' : t = sumL 4294967295 bs := hsum
    have : (bitsI .xor (t : Int) (4294967295 : Int)) = (crc bs : Int) := by
      rw [hsum', crc, Nat.xor_comm]; rfl
    rw [this]
end Go.D
