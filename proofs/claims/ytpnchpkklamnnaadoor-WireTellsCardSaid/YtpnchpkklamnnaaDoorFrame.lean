/-
  WHAT IS PROVED: contracts of functions, and the plain law, for this proof. No further conditions.
-/
import Derived.Test.YtpnchpkklamnnaaDoorSums2
set_option linter.unusedVariables false
set_option linter.unusedSimpArgs false
namespace Go.D
open Go Go.Proofs

theorem wrap8 (n : Nat) : Value.int .u8 (IntKind.wrap .u8 (n : Int)) = byteV (UInt8.ofNat n) := by
  have h : IntKind.wrap .u8 (n : Int) = ((n % 256 : Nat) : Int) := by
    simp [IntKind.wrap, IntKind.signed, IntKind.bits]
  rw [h, byteV, UInt8.toNat_ofNat']
theorem wrap8d (n d : Nat) : Value.int .u8 (IntKind.wrap .u8 ((n : Int) / (d : Int))) = byteV (UInt8.ofNat (n / d)) := wrap8 (n / d)

/-- Four bytes, the low one first. -/
def le4 (n : Nat) : List UInt8 := [UInt8.ofNat n, UInt8.ofNat (n / 256), UInt8.ofNat (n / 65536), UInt8.ofNat (n / 16777216)]
def le2 (n : Nat) : List UInt8 := [UInt8.ofNat n, UInt8.ofNat (n / 256)]
def frameB (b : List UInt8) : List UInt8 := le2 b.length ++ le4 (crc (le2 b.length ++ b)) ++ b

theorem rowsAt_two {w : World} {r : Nat} {T : TypeId} {f : Nat × Nat} {s1 s2 : Slc} {b1 b2 : List UInt8} (h : w.heap[r]? = some (.cells ⟨[s1.v, s2.v]⟩ T f)) (h1 : bytesAt w s1 b1) (h2 : bytesAt w s2 b2) :
    rowsAt w ⟨some ⟨r, 0, none⟩, 2, 2⟩ [s1, s2] [b1, b2] := by
  refine ⟨rfl, .inr ⟨_, rfl, fun i hi => ?_⟩, rfl, fun i hi _ => ?_⟩
  · have hi : i < 2 := by simpa using hi
    rw [add_lit, cell_of h, Nat.zero_add]
    match i, hi with
    | 0, _ => rfl
    | 1, _ => rfl
  · have hi : i < 2 := by simpa using hi
    match i, hi with
    | 0, _ => exact h1
    | 1, _ => exact h2

theorem Frame_spec (s : Slc) (b : List UInt8) (w : World) (hb : bytesAt w s b) (hl : b.length ≤ 2048) :
    Calls Tryd.prog fn_sums_Frame ⟨[s.v]⟩ w fun e w' => ∃ f : Slc, e = .returned (.tuple ⟨[f.v, .nilIface]⟩) ∧ Own w' f 1 ((frameB b).map byteV) ∧ Fresh w f ∧ Keep w w' := by
  have hsl := hb.1
  refine sums_Frame_ok _ ?_
  unfold sums_Frame
  refine BIf_dec (fun h => by omega) (fun h => ?_)
  refine ⟨by omega, by omega, newS_mk (fun r3 w4 hr3 hb3 hk3 hs3 => newS_mk (fun r5 w6 hr5 hb5 hk5 hs5 => ?_))⟩
  rw [hsl, wrap8, show (256 : Int) = ((256 : Nat) : Int) from rfl, wrap8d] at hb3
  have ho3 : Own w4 ⟨some ⟨r3, 0, none⟩, 2, 2⟩ 1 ((le2 b.length).map byteV) := Own.new (sz := 1) hb3 (Or.inl (by simp)) rfl
  have hk6 := hk3.trans hk5
  refine (Sum_spec _ _ _ _ (rowsAt_two hb5 (ho3.keep hk5).bytes (bytesAt_keep hb hk6)) (by simp) (fun i h => by
    have h : i < 2 := by simpa using h
    match i, h with
    | 0, _ => simp
    | 1, _ => show s.l ≤ _; omega)).mono ?_
  rintro e w7 ⟨rfl, rfl⟩
  have hcrc : ([le2 b.length, b] : List (List UInt8)).flatten = le2 b.length ++ b := by simp
  rw [hcrc]
  refine ⟨_, rfl, by omega, by omega, by omega, by omega, by omega, by omega, newS_mk (fun r10 w11 hr10 hb10 hk10 hs10 => ?_)⟩
  rw [wrap8, show (256 : Int) = ((256 : Nat) : Int) from rfl, wrap8d, show (65536 : Int) = ((65536 : Nat) : Int) from rfl, wrap8d, show (16777216 : Int) = ((16777216 : Nat) : Int) from rfl, wrap8d] at hb10
  have ho10 : Own w11 ⟨some ⟨r10, 0, none⟩, 4, 4⟩ 1 ((le4 (crc (le2 b.length ++ b))).map byteV) := Own.new (sz := 1) hb10 (Or.inl (by simp)) rfl
  have hk11 := hk6.trans hk10
  have hf3 : Fresh w ⟨some ⟨r3, 0, none⟩, 2, 2⟩ := Fresh.at (by omega)
  refine append_bytes ((ho3.keep hk5).keep hk10) rfl hf3 hk11 (srcAt_bytes ho10.bytes) (by simp [Src.n]) (fun s12 w13 h1 h2 h3 h4 => ?_)
  have e1 := h1.1
  refine append_bytes h1 rfl h3 h2 (srcAt_bytes (bytesAt_keep hb h2)) (by simp [Src.n, le2, le4] at e1 ⊢; omega) (fun s14 w15 h5 h6 h7 h8 => ?_)
  exact ⟨s14, rfl, h5, h7, h6⟩

theorem frameB_length (b : List UInt8) : (frameB b).length = b.length + 6 := by
  simp [frameB, le2, le4]
end Go.D
