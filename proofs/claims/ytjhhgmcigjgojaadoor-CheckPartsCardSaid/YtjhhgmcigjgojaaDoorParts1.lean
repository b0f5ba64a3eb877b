/-
  WHAT IS PROVED: contracts of functions, and the plain law, for this proof. No further conditions.
-/
import Derived.Test.YtjhhgmcigjgojaaDoorVCparts
import Derived.Test.YtjhhgmcigjgojaaDoorSums1
import Derived.Test.YtjhhgmcigjgojaaDoorBytes4
import Derived.Test.YtjhhgmcigjgojaaDoorBytesX
import Derived.Test.YtjhhgmcigjgojaaDoorKeptB
import Derived.Test.YtjhhgmcigjgojaaDoorRowsM
import Derived.Test.YtjhhgmcigjgojaaDoorRangeM
import Derived.Test.YtjhhgmcigjgojaaDoorCopyM
import Derived.Test.YtjhhgmcigjgojaaDoorSub
set_option linter.unusedVariables false
set_option linter.unusedSimpArgs false
namespace Go.D
open Go Go.Proofs

/-! ### a text with its sum ahead -/
def summedB (b : List UInt8) : List UInt8 := le4 (crc b) ++ b
theorem rowsAt_1 {w : World} {r : Nat} {T : TypeId} {f : Nat × Nat} {s : Slc} {b : List UInt8} (h : w.heap[r]? = some (.cells ⟨[s.v]⟩ T f)) (hb : bytesAt w s b) :
    rowsAt w ⟨some ⟨r, 0, none⟩, 1, 1⟩ [s] [b] := by
  refine ⟨rfl, .inr ⟨_, rfl, fun i hi => ?_⟩, rfl, fun i hi _ => ?_⟩
  · have hi : i < 1 := by simpa using hi
    rw [add_lit, cell_of h, Nat.zero_add]
    match i, hi with
    | 0, _ => rfl
  · have hi : i < 1 := by simpa using hi
    match i, hi with
    | 0, _ => exact hb
theorem summed_spec (s : Slc) (b : List UInt8) (w : World) (hb : bytesAt w s b) (hl : b.length ≤ 2 ^ 20) :
    Calls Tryd.prog fn_check_summed ⟨[s.v]⟩ w fun e w' => ∃ t : Slc, e = .returned t.v ∧ Own w' t 1 ((summedB b).map byteV) ∧ Fresh w t ∧ Keep w w' := by
  have hsl := hb.1
  refine check_summed_ok _ ?_
  unfold check_summed
  refine newS_mk (fun r2 w3 hr2 hb2 k2 hs2 => ?_)
  have hb3 := bytesAt_keep hb k2
  refine (Sum_spec _ _ _ _ (rowsAt_1 hb2 hb3) (by simp) (fun i h => by
    have hi : i < 1 := by simpa using h
    match i, hi with
    | 0, _ => show s.l ≤ _; omega)).mono ?_
  rintro e w5 ⟨rfl, rfl⟩
  have hfl : [b].flatten = b := by simp
  rw [hfl]
  refine ⟨_, rfl, by omega, by omega, by omega, by omega, by omega, by omega, newS_mk (fun r7 w8 hr7 hb7 k7 hs7 => ?_)⟩
  rw [wrap8, show (256 : Int) = ((256 : Nat) : Int) from rfl, show (65536 : Int) = ((65536 : Nat) : Int) from rfl, show (16777216 : Int) = ((16777216 : Nat) : Int) from rfl, wrap8d, wrap8d, wrap8d] at hb7
  have ho : Own w8 ⟨some ⟨r7, 0, none⟩, 4, 4⟩ 1 ((le4 (crc b)).map byteV) := Own.new (sz := 1) (n := 4) hb7 (.inl (by simp)) rfl
  have z2 := k2.size
  refine append_bytes (w0 := w) ho rfl (Fresh.at (by omega)) (k2.trans k7) (srcAt_bytes (bytesAt_keep hb3 k7)) (by simp only [Src.n]; omega) (fun s9 w10 g1 g2 g3 g4 => ⟨s9, rfl, g1, g3, g2⟩)
theorem refSummed_spec (s : Slc) (b : List UInt8) (w : World) (hb : bytesAt w s b) (hl : b.length ≤ 2 ^ 20) :
    Calls Tryd.prog fn_tidewaterref24_summed ⟨[s.v]⟩ w fun e w' => ∃ t : Slc, e = .returned t.v ∧ Own w' t 1 ((summedB b).map byteV) ∧ Fresh w t ∧ Keep w w' := by
  have hsl := hb.1
  refine tidewaterref24_summed_ok _ ?_
  unfold tidewaterref24_summed
  refine (refSum_spec s b w hb (by omega)).mono ?_
  rintro e w5 ⟨rfl, rfl⟩
  refine ⟨_, rfl, by omega, by omega, by omega, by omega, by omega, by omega, newS_mk (fun r7 w8 hr7 hb7 k7 hs7 => ?_)⟩
  rw [wrap8, show (256 : Int) = ((256 : Nat) : Int) from rfl, show (65536 : Int) = ((65536 : Nat) : Int) from rfl, show (16777216 : Int) = ((16777216 : Nat) : Int) from rfl, wrap8d, wrap8d, wrap8d] at hb7
  have ho : Own w8 ⟨some ⟨r7, 0, none⟩, 4, 4⟩ 1 ((le4 (crc b)).map byteV) := Own.new (sz := 1) (n := 4) hb7 (.inl (by simp)) rfl
  refine append_bytes (w0 := w5) ho rfl (Fresh.at (by omega)) k7 (srcAt_bytes (bytesAt_keep hb k7)) (by simp only [Src.n]; omega) (fun s9 w10 g1 g2 g3 g4 => ⟨s9, rfl, g1, g3, g2⟩)
theorem summed_len (b : List UInt8) : (summedB b).length = 4 + b.length := by unfold summedB; rw [List.length_append]; simp [le4]

/-! ### slices.Chunk -/
theorem Chunk_spec (s : Slc) (n : Int) (hn : 1 ≤ n) (w : World) :
    Calls Tryd.prog fn_slices_Chunk_byte ⟨[s.v, .int .i64 n]⟩ w fun e w' => ∃ b1 b2, e = .returned (.func (.func fn_slices_Chunk_byte_1) ⟨[]⟩ ⟨[ptrR' b1, ptrR' b2]⟩) ∧ ObjAt w' b1 [s.v] ∧ ObjAt w' b2 [.int .i64 n] ∧ Keep w w' ∧ w.heap.size ≤ b1 ∧ w.heap.size ≤ b2 := by
  refine slices_Chunk_byte_ok _ _ ?_
  unfold slices_Chunk_byte
  refine newS_mk (fun r w1 hr hb hk hs => newS_mk (fun r2 w2 hr2 hb2 hk2 hs2 => ?_))
  have o2 := ObjAt.new' hb2
  have z1 := hk.size
  refine ⟨_, o2.cell 0 (by simp), BIf_dec (fun h => by omega) (fun h => ⟨r, r2, rfl, (ObjAt.new' hb).keep hk2, o2, hk.trans hk2, by omega, by omega⟩)⟩

def chunkB (B : List UInt8) (n k : Nat) : List UInt8 := (B.drop (k * n)).take n
theorem Chunk_1_spec (s : Slc) (B : List UInt8) (n lr b1 b2 : Nat) (J : Nat → World → Prop) (hn : 0 < n) (hnl : n ≤ 2 ^ 20) (hl : B.length ≤ 2 ^ 30) (hsc : s.l ≤ s.c)
    (hJ : ∀ k w, J k w → w.cell? ⟨b1, 0, none⟩ = some s.v ∧ w.cell? ⟨b2, 0, none⟩ = some (.int .i64 (n : Int)) ∧ bytesAt w s B)
    (hd : ∀ k w, J k w → J k w.drew)
    (hstep : ∀ k (hk : k * n < B.length) (w : World) (sd : Slc), J k w → bytesAt w sd (chunkB B n k) →
      YieldC Tryd.prog lr ⟨[sd.v]⟩ w fun e w' => e = .returned (.bool true) ∧ J (k + 1) w')
    (w : World) (h0 : J 0 w) :
    Calls Tryd.prog fn_slices_Chunk_byte_1 ⟨[.func (.yield lr) ⟨[]⟩ ⟨[]⟩, ptrR' b1, ptrR' b2]⟩ w fun e w' => e = .returned (.tuple #[]) ∧ ∃ k, B.length ≤ k * n ∧ (k = 0 ∨ (k - 1) * n < B.length) ∧ J k w' := by
  refine slices_Chunk_byte_1_ok _ _ _ ?_
  unfold slices_Chunk_byte_1
  refine ⟨fun i w2 => ∃ k : Nat, i = ((k * n : Nat) : Int) ∧ (k = 0 ∨ (k - 1) * n < B.length) ∧ J k w2, fun i _ => ((B.length : Int) - i).toNat, ⟨0, by simp, .inl rfl, h0⟩, ?_⟩
  rintro i w7 ⟨k, rfl, hk, h7⟩
  intros
  obtain ⟨hc1, hc2, hB⟩ := hJ _ _ h7
  have hsl := hB.1
  have h7d := hd _ _ h7
  obtain ⟨hd1, hd2, hBd⟩ := hJ _ _ h7d
  refine needSome_mk rfl ⟨s, hc1, BIf_dec (fun h1 => ?_) (fun h1 => ⟨rfl, k, by omega, hk, h7⟩)⟩
  have hkl : k * n < B.length := by omega
  have hknn : (k + 1) * n = k * n + n := by rw [Nat.add_mul, Nat.one_mul]
  have hsubl : (Slc.sub s 1 (Int.toNat ((k * n : Nat) : Int)) s.l s.c).l = s.l - k * n := by simp only [Slc.sub]; omega
  obtain ⟨m, hm⟩ : ∃ m : Nat, (m : Int) = if ((s.l - k * n : Nat) : Int) < (n : Int) then ((s.l - k * n : Nat) : Int) else (n : Int) := by split; exact ⟨_, rfl⟩; exact ⟨_, rfl⟩
  have hmn : m = min n (B.length - k * n) := by split at hm <;> omega
  refine needSome_mk rfl ⟨_, hd2, needSome_mk rfl ⟨s, hd1, by omega, by omega, by omega, by omega, needSome_mk rfl ⟨s, hd1, ?_⟩⟩⟩
  rw [hsubl, ← hm]
  refine ⟨inR64 (by omega), inR64 (by omega), by omega, by omega, by omega, by omega, ?_⟩
  have e1 : Int.toNat ((k * n : Nat) : Int) = k * n := by omega
  have e2 : Int.toNat (((k * n : Nat) : Int) + (m : Int)) = k * n + m := by omega
  rw [e1, e2]
  have hsd : bytesAt w7.drew (Slc.sub s 1 (k * n) (k * n + m) (k * n + m)) (chunkB B n k) := by
    have := bytesAt_sub hBd (lo := k * n) (hi := k * n + m) (c := k * n + m) (by omega) (by omega) (by omega)
    have e3 : chunkB B n k = (B.take (k * n + m)).drop (k * n) := by
      unfold chunkB
      rw [List.drop_take, show k * n + m - k * n = m by omega]
      by_cases hmm : m = n
      · rw [hmm]
      · rw [List.take_of_length_le (by simp; omega), List.take_of_length_le (by simp; omega)]
    rw [e3]; exact this
  refine (hstep k hkl _ _ h7d hsd).mono ?_
  rintro e w45 ⟨rfl, h45⟩
  obtain ⟨hf1, hf2, _⟩ := hJ _ _ h45
  refine ⟨true, rfl, BIf_mk (fun h => by cases h) (fun _ => needSome_mk rfl ⟨_, hf2, inR64 (by omega), ⟨k + 1, by omega, .inr (by rw [Nat.add_sub_cancel]; exact hkl), h45⟩, by first | (dsimp only; omega) | omega⟩)⟩
end Go.D
