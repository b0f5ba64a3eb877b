/-
  WHAT IS PROVED: contracts of functions, and the plain law, for this proof. No further conditions.
-/
import Derived.Test.YtpnchpkklamnnaaDoorBurst1
set_option linter.unusedVariables false
set_option linter.unusedSimpArgs false
namespace Go.D
open Go Go.Proofs

def burst (f : List UInt8) (i y : Nat) : Nat → List UInt8
  | 0 => f
  | k + 1 => (burst f i y k).set (i + k) ((burst f i y k).getD (i + k) 0 ^^^ UInt8.ofNat (y / 2 ^ (8 * k)))

theorem burst_length (f : List UInt8) (i y : Nat) : ∀ k, (burst f i y k).length = f.length
  | 0 => rfl
  | k + 1 => by rw [burst, List.length_set, burst_length f i y k]

theorem burst_append (p r : List UInt8) (y : Nat) : ∀ k, burst (p ++ r) p.length y k = p ++ burst r 0 y k
  | 0 => rfl
  | k + 1 => by
    rw [burst, burst, burst_append p r y k, List.set_append_right _ _ (by omega)]
    have e : p.length + k - p.length = 0 + k := by omega
    rw [e]
    congr 2
    simp [List.getD, List.getElem?_append_right]

def dy (y k : Nat) : UInt8 := UInt8.ofNat (y / 2 ^ (8 * k))
theorem burst_four (c0 c1 c2 c3 : UInt8) (q : List UInt8) (y : Nat) : burst (c0 :: c1 :: c2 :: c3 :: q) 0 y 4 = (c0 ^^^ dy y 0) :: (c1 ^^^ dy y 1) :: (c2 ^^^ dy y 2) :: (c3 ^^^ dy y 3) :: q := rfl

theorem dy_ne {y : Nat} (h : y < 4294967296) (h0 : y ≠ 0) : dy y 0 ≠ 0 ∨ dy y 1 ≠ 0 ∨ dy y 2 ≠ 0 ∨ dy y 3 ≠ 0 := by
  have key : ∀ k, dy y k = 0 → (y / 2 ^ (8 * k)) % 256 = 0 := fun k hk => by
    have := congrArg UInt8.toNat hk
    rw [dy, UInt8.toNat_ofNat'] at this
    exact this
  by_cases h1 : dy y 0 = 0
  · by_cases h2 : dy y 1 = 0
    · by_cases h3 : dy y 2 = 0
      · by_cases h4 : dy y 3 = 0
        · have := key 0 h1; have := key 1 h2; have := key 2 h3; have := key 3 h4
          simp at *
          omega
        · exact .inr (.inr (.inr h4))
      · exact .inr (.inr (.inl h3))
    · exact .inr (.inl h2)
  · exact .inl h1

theorem openR_hdr (n0 n1 t0 t1 t2 t3 : UInt8) (text : List UInt8) (hn : n0.toNat + 256 * n1.toNat = text.length) (hl : text.length ≤ 2048)
    (hne : crc ([n0, n1] ++ text) ≠ t0.toNat + 256 * t1.toNat + 65536 * t2.toNat + 16777216 * t3.toNat) :
    openR (n0 :: n1 :: t0 :: t1 :: t2 :: t3 :: text) = .error 4 := by
  have e1 : lenOf (n0 :: n1 :: t0 :: t1 :: t2 :: t3 :: text) = text.length := hn
  have e2 : toldOf (n0 :: n1 :: t0 :: t1 :: t2 :: t3 :: text) = t0.toNat + 256 * t1.toNat + 65536 * t2.toNat + 16777216 * t3.toNat := rfl
  have e3 : textOf (n0 :: n1 :: t0 :: t1 :: t2 :: t3 :: text) = text := by
    rw [textOf, e1, Nat.add_comm]
    show text.take text.length = text
    simp
  rw [openR, e1, e2, e3, if_neg (by simp), if_neg (by omega), if_neg (by simp; omega)]
  exact if_neg hne

theorem le4_val (n : Nat) (h : n < 4294967296) : ∃ t0 t1 t2 t3 : UInt8, le4 n = [t0, t1, t2, t3] ∧ n = t0.toNat + 256 * t1.toNat + 65536 * t2.toNat + 16777216 * t3.toNat := by
  refine ⟨_, _, _, _, rfl, ?_⟩
  rw [UInt8.toNat_ofNat', UInt8.toNat_ofNat', UInt8.toNat_ofNat', UInt8.toNat_ofNat']
  omega
theorem le2_val (n : Nat) (h : n < 65536) : ∃ t0 t1 : UInt8, le2 n = [t0, t1] ∧ n = t0.toNat + 256 * t1.toNat := by
  refine ⟨_, _, rfl, ?_⟩
  rw [UInt8.toNat_ofNat', UInt8.toNat_ofNat']
  omega

theorem openR_text (b : List UInt8) (j y : Nat) (hj : j + 4 ≤ b.length) (hl : b.length ≤ 2048) (hy : y < 4294967296) (hy0 : y ≠ 0) :
    openR (burst (frameB b) (6 + j) y 4) = .error 4 := by
  obtain ⟨n0, n1, hn, hnv⟩ := le2_val b.length (by omega)
  obtain ⟨t0, t1, t2, t3, ht, htv⟩ := le4_val (crc (le2 b.length ++ b)) (crc_lt _)
  have hb : b = b.take j ++ b.drop j := (List.take_append_drop j b).symm
  obtain ⟨c0, c1, c2, c3, q, hq⟩ : ∃ c0 c1 c2 c3 q, b.drop j = c0 :: c1 :: c2 :: c3 :: q := by
    have : 4 ≤ (b.drop j).length := by simp; omega
    match b.drop j, this with
    | c0 :: c1 :: c2 :: c3 :: q, _ => exact ⟨c0, c1, c2, c3, q, rfl⟩
  generalize hp : b.take j = p at hb
  have hpl : p.length = j := by rw [← hp, List.length_take]; omega
  rw [hq] at hb
  have e : frameB b = (n0 :: n1 :: t0 :: t1 :: t2 :: t3 :: p) ++ (c0 :: c1 :: c2 :: c3 :: q) := by
    rw [frameB, ht, hn]; rw [hb]; simp
  have e6 : 6 + j = (n0 :: n1 :: t0 :: t1 :: t2 :: t3 :: p).length := by simp [hpl]; omega
  rw [e, e6, burst_append, burst_four]
  have hlen : (p ++ (c0 ^^^ dy y 0) :: (c1 ^^^ dy y 1) :: (c2 ^^^ dy y 2) :: (c3 ^^^ dy y 3) :: q).length = b.length := by rw [hb]; simp
  refine openR_hdr n0 n1 t0 t1 t2 t3 (p ++ (c0 ^^^ dy y 0) :: (c1 ^^^ dy y 1) :: (c2 ^^^ dy y 2) :: (c3 ^^^ dy y 3) :: q) (by rw [hlen]; exact hnv.symm) (by omega) ?_
  rw [← htv, hn]
  intro he
  have := crc_four_ne ([n0, n1] ++ p) q c0 c1 c2 c3 _ _ _ _ (dy_ne hy hy0)
  refine this ?_
  have e1 : [n0, n1] ++ p ++ [c0, c1, c2, c3] ++ q = [n0, n1] ++ b := by rw [hb]; simp
  rw [e1, ← he]
  simp

theorem xor_self_eq {c d : UInt8} (h : c ^^^ d = c) : d = 0 := by
  have := congrArg (fun x => c ^^^ x) h
  simpa [← UInt8.xor_assoc] using this

theorem openR_sum (b : List UInt8) (y : Nat) (hl : b.length ≤ 2048) (hy : y < 4294967296) (hy0 : y ≠ 0) :
    openR (burst (frameB b) 2 y 4) = .error 4 := by
  obtain ⟨n0, n1, hn, hnv⟩ := le2_val b.length (by omega)
  obtain ⟨t0, t1, t2, t3, ht, htv⟩ := le4_val (crc (le2 b.length ++ b)) (crc_lt _)
  have e : frameB b = [n0, n1] ++ (t0 :: t1 :: t2 :: t3 :: b) := by rw [frameB, ht, hn]; simp
  have e2 : 2 = [n0, n1].length := rfl
  rw [e, e2, burst_append, burst_four]
  refine openR_hdr n0 n1 _ _ _ _ b hnv.symm hl ?_
  rw [← hn, htv]
  intro he
  have l0 := t0.toNat_lt; have l1 := t1.toNat_lt; have l2 := t2.toNat_lt; have l3 := t3.toNat_lt
  have m0 := (t0 ^^^ dy y 0).toNat_lt; have m1 := (t1 ^^^ dy y 1).toNat_lt; have m2 := (t2 ^^^ dy y 2).toNat_lt; have m3 := (t3 ^^^ dy y 3).toNat_lt
  have q0 : (t0 ^^^ dy y 0).toNat = t0.toNat := by omega
  have q1 : (t1 ^^^ dy y 1).toNat = t1.toNat := by omega
  have q2 : (t2 ^^^ dy y 2).toNat = t2.toNat := by omega
  have q3 : (t3 ^^^ dy y 3).toNat = t3.toNat := by omega
  have := dy_ne hy hy0
  rw [xor_self_eq (UInt8.toNat_inj.1 q0), xor_self_eq (UInt8.toNat_inj.1 q1), xor_self_eq (UInt8.toNat_inj.1 q2), xor_self_eq (UInt8.toNat_inj.1 q3)] at this
  simp at this

theorem Own.lt {w : World} {s : Slc} {sz : Nat} {vs : List Value} (h : Own w s sz vs) : ∀ k, ownB s k → k < w.heap.size := by
  rintro k ⟨a, ha, rfl⟩
  obtain ⟨_, ⟨hp, _⟩ | ⟨b, pad, T, f, hp, hb, _⟩⟩ := h
  · rw [hp] at ha; cases ha
  · rw [hp] at ha; cases ha
    exact (Array.getElem?_eq_some_iff.1 hb).1

theorem Own.setByte {w : World} {s : Slc} {b : List UInt8} {i : Nat} (h : Own w s 1 (b.map byteV)) (hi : i < b.length) (v : UInt8) :
    ∃ a, s.p = some a ∧ w.cell? (a.add i) = some (byteV b[i]) ∧ canW w (a.add i) 1 ∧ Own (w.setCell (a.add i) (byteV v)) s 1 ((b.set i v).map byteV) ∧ Ext (ownB s) w (w.setCell (a.add i) (byteV v)) := by
  obtain ⟨a, ha, hc⟩ := bytesAt_cell h.bytes hi
  obtain ⟨h1, ⟨hp, _⟩ | ⟨k, pad, T, f, hp, hb, h2, h3⟩⟩ := h
  · rw [hp] at ha; cases ha
  · rw [hp] at ha
    obtain rfl := Option.some.inj ha
    refine ⟨_, hp, hc, ?_, ⟨by simpa using h1, .inr ⟨k, pad, T, f, hp, ?_, by simpa using h2, by simpa using h3⟩⟩, ?_⟩
    · rw [add_lit, Nat.zero_add]
      exact canW_of hb h3 _ _ (by simp; omega)
    · rw [add_lit, Nat.zero_add, heap_setCell hb, List.set_append_left _ _ (by simpa using hi), ← List.map_set]
    · refine Ext.setCell ?_ _
      rw [add_lit]
      exact ⟨_, hp, rfl⟩
end Go.D
