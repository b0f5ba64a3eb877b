/-
  WHAT IS PROVED: contracts of functions, and the plain law, for this proof. No further conditions.
-/
import Derived.Test.YtpnchpkklamnnaaDoorFrame
import Derived.Test.YtpnchpkklamnnaaDoorNum
import Derived.Test.YtpnchpkklamnnaaDoorSub
set_option linter.unusedVariables false
set_option linter.unusedSimpArgs false
namespace Go.D
open Go Go.Proofs

theorem or_disj (a b i : Nat) (ha : a < 2 ^ i) : a ||| b * 2 ^ i = a + b * 2 ^ i := by
  have := Nat.shiftLeft_add_eq_or_of_lt ha b
  rw [Nat.shiftLeft_eq] at this
  rw [Nat.or_comm, ← this, Nat.add_comm]
theorem or2 (a b : Nat) (ha : a < 256) : bitsI .or (a : Int) ((b : Int) * 256) = ((a + 256 * b : Nat) : Int) := by
  have h := or_disj a b 8 ha
  have : ((b : Int) * 256) = ((b * 2 ^ 8 : Nat) : Int) := by omega
  rw [this, bits_or, h]; omega
theorem wrap32 (n : Int) (h : 0 ≤ n ∧ n < 4294967296) : IntKind.wrap .u32 n = n := by
  simp [IntKind.wrap, IntKind.signed, IntKind.bits]
  omega
theorem or4a (a b : Nat) (ha : a < 256) (hb : b < 256) : bitsI .or (a : Int) (IntKind.wrap .u32 ((b : Int) * 256)) = ((a + 256 * b : Nat) : Int) := by
  rw [wrap32 _ (by omega)]; exact or2 a b ha
theorem or4b (a b : Nat) (ha : a < 65536) (hb : b < 256) : bitsI .or (a : Int) (IntKind.wrap .u32 ((b : Int) * 65536)) = ((a + 65536 * b : Nat) : Int) := by
  rw [wrap32 _ (by omega)]
  have h := or_disj a b 16 ha
  have : ((b : Int) * 65536) = ((b * 2 ^ 16 : Nat) : Int) := by omega
  rw [this, bits_or, h]; omega
theorem or4c (a b : Nat) (ha : a < 16777216) (hb : b < 256) : bitsI .or (a : Int) (IntKind.wrap .u32 ((b : Int) * 16777216)) = ((a + 16777216 * b : Nat) : Int) := by
  rw [wrap32 _ (by omega)]
  have h := or_disj a b 24 ha
  have : ((b : Int) * 16777216) = ((b * 2 ^ 24 : Nat) : Int) := by omega
  rw [this, bits_or, h]; omega

def at8 (b : List UInt8) (i : Nat) : Nat := (b.getD i 0).toNat
theorem at8_lt (b : List UInt8) (i : Nat) : at8 b i < 256 := (b.getD i 0).toNat_lt
theorem at8_cell {w : World} {s : Slc} {b : List UInt8} (h : bytesAt w s b) {i : Nat} (hi : i < b.length) {a : Addr} (ha : s.p = some a) : w.cell? (a.add i) = some (.int .u8 (at8 b i : Int)) := by
  obtain ⟨a', ha', hc⟩ := bytesAt_cell h hi
  rw [ha] at ha'
  obtain rfl := Option.some.inj ha'
  rw [hc, byteV, at8]
  simp [List.getD, hi]

def lenOf (b : List UInt8) : Nat := at8 b 0 + 256 * at8 b 1
def toldOf (b : List UInt8) : Nat := at8 b 2 + 256 * at8 b 3 + 65536 * at8 b 4 + 16777216 * at8 b 5
def textOf (b : List UInt8) : List UInt8 := (b.take (6 + lenOf b)).drop 6

/-- What all bytes are opened to: the error's place on the list, or the text and what is behind. -/
def openR (b : List UInt8) : Except Nat (List UInt8 × List UInt8) :=
  if b.length < 6 then .error 1 else if 2048 < lenOf b then .error 2 else if b.length < 6 + lenOf b then .error 1 else
    if crc (b.take 2 ++ textOf b) = toldOf b then .ok (textOf b, b.drop (6 + lenOf b)) else .error 4

theorem Clone_own (s : Slc) (b : List UInt8) (w : World) (hb : bytesAt w s b) (hl : s.l ≤ 2 ^ 30) :
    Calls Tryd.prog fn_slices_Clone_byte ⟨[s.v]⟩ w fun e w' => ∃ t : Slc, e = .returned t.v ∧ Own w' t 1 (b.map byteV) ∧ Fresh w t ∧ Keep w w' := by
  refine slices_Clone_byte_ok _ ?_
  unfold slices_Clone_byte
  refine BIf_mk (fun h => ?_) (fun h => ?_)
  · have hp : s.p = none := by simpa using h
    have hb0 : b = [] := by
      rcases hb.2 with h0 | ⟨a, ha, _⟩
      · simpa using h0
      · rw [hp] at ha; cases ha
    subst hb0
    exact ⟨_, rfl, Own.nil _ _, Fresh.nil _ _ _, Ext.refl _ _⟩
  · refine newS_mk (fun r w1 hr hb1 hk hs => ?_)
    refine append_bytes (vs := []) (w0 := w) (Own.new (sz := 1) (n := 0) hb1 (.inl (by simp)) rfl) rfl (Fresh.at (by omega)) hk (srcAt_bytes (bytesAt_keep hb hk)) (by simp only [Src.n]; omega) (fun s' w' h1 h2 h3 h4 => ?_)
    exact ⟨s', rfl, by simpa using h1, h3, h2⟩
theorem Clone_spec (s : Slc) (b : List UInt8) (w : World) (hb : bytesAt w s b) (hl : s.l ≤ 2 ^ 30) :
    Calls Tryd.prog fn_slices_Clone_byte ⟨[s.v]⟩ w fun e w' => ∃ t : Slc, e = .returned t.v ∧ bytesAt w' t b ∧ Fresh w t ∧ Keep w w' := by
  refine (Clone_own s b w hb hl).mono ?_
  rintro e w' ⟨t, rfl, h1, h2, h3⟩
  exact ⟨t, rfl, h1.bytes, h2, h3⟩

/-- How an opening's answer reads. -/
def OpenRes (A : Nat → Addr) (w w' : World) (s t : Slc) (ev : Value) : Except Nat (List UInt8 × List UInt8) → Prop
  | .error k => s = ⟨none, 0, 0⟩ ∧ t = ⟨none, 0, 0⟩ ∧ ev = errV A (errG.getD k 0)
  | .ok (x, y) => bytesAt w' s x ∧ bytesAt w' t y ∧ Fresh w s ∧ Fresh w t ∧ ev = .nilIface

theorem take2 {b : List UInt8} : (b.take 2).drop 0 = b.take 2 := rfl

theorem Open_spec (A : Nat → Addr) (s : Slc) (b : List UInt8) (w : World) (hb : bytesAt w s b) (hl : s.l ≤ 2 ^ 30) (hc : s.l ≤ s.c) (hE : ErrsOn tyErr [gl_ErrShort, gl_ErrLong, gl_ErrSum] A w) :
    Calls Tryd.prog fn_sums_Open ⟨[s.v]⟩ w fun e w' => ∃ (x y : Slc) (ev : Value), e = .returned (.tuple ⟨[x.v, y.v, ev]⟩) ∧ OpenRes A w w' x y ev (openR b) ∧ Keep w w' := by
  have hsl := hb.1
  refine sums_Open_ok _ ?_
  unfold sums_Open
  refine BIf_dec (fun h => ?_) (fun h => ?_)
  · refine ⟨_, (hE.1 gl_ErrShort (by simp)).1, _, _, _, rfl, ?_, Ext.drew _ _⟩
    rw [openR, if_pos (by omega)]
    exact ⟨rfl, rfl, rfl⟩
  obtain ⟨a, ha, _⟩ := bytesAt_cell hb (i := 0) (by omega)
  have cell : ∀ i, i < b.length → w.cell? (a.add i) = some (.int .u8 (at8 b i : Int)) := fun i hi => at8_cell hb hi ha
  have lt := at8_lt b
  have l0 := lt 0; have l1 := lt 1; have l2 := lt 2; have l3 := lt 3; have l4 := lt 4; have l5 := lt 5
  refine needSome_mk ha ⟨by omega, by omega, _, cell 0 (by omega), inR64 (by omega), needSome_mk ha ⟨by omega, by omega, _, cell 1 (by omega), inR64 (by omega), by omega, inR64 (by omega), by omega, by omega, inR64 (by omega), inR64 (by omega), ?_⟩⟩
  rw [or2 _ _ l0]
  have hlen : at8 b 0 + 256 * at8 b 1 = lenOf b := rfl
  rw [hlen]
  have hll : lenOf b < 65536 := by omega
  refine BIf_dec (fun h2 => ?_) (fun h2 => ?_)
  · refine ⟨_, (hE.1 gl_ErrLong (by simp)).1, _, _, _, rfl, ?_, Keep.drew (Ext.drew _ _)⟩
    rw [openR, if_neg (by omega), if_pos (by omega)]
    exact ⟨rfl, rfl, rfl⟩
  refine ⟨inR64 (by omega), BIf_dec (fun h3 => ?_) (fun h3 => ?_)⟩
  · refine ⟨_, (hE.1 gl_ErrShort (by simp)).1, _, _, _, rfl, ?_, Keep.drew (Ext.drew _ _)⟩
    rw [openR, if_neg (by omega), if_neg (by omega), if_pos (by omega)]
    exact ⟨rfl, rfl, rfl⟩
  have hw32 : ∀ x : Nat, x < 256 → ∀ k : Int, k ≤ 16777216 → 0 ≤ k → IntKind.wrap .u32 ((x : Int) * k) = (x : Int) * k := fun x hx k hk hk0 => by
    have h1 : (x : Int) * k ≤ 255 * 16777216 := Int.le_trans (Int.mul_le_mul_of_nonneg_right (by omega : (x : Int) ≤ 255) hk0) (by omega)
    have h0 : 0 ≤ (x : Int) * k := Int.mul_nonneg (by omega) hk0
    exact wrap32 _ (by omega)
  refine needSome_mk ha ⟨by omega, by omega, _, cell 2 (by omega), inR32 (by omega), needSome_mk ha ⟨by omega, by omega, _, cell 3 (by omega), inR32 (by omega), by omega, by omega, by rw [hw32 _ l3 _ (by omega) (by omega)]; omega, inR32 (by omega), by rw [hw32 _ l3 _ (by omega) (by omega)]; exact inR32 (by omega), ?_⟩⟩
  rw [or4a _ _ l2 l3]
  refine needSome_mk ha ⟨by omega, by omega, _, cell 4 (by omega), inR32 (by omega), by omega, by omega, by rw [hw32 _ l4 _ (by omega) (by omega)]; omega, inR32 (by omega), by rw [hw32 _ l4 _ (by omega) (by omega)]; exact inR32 (by omega), ?_⟩
  rw [or4b _ _ (by omega) l4]
  refine needSome_mk ha ⟨by omega, by omega, _, cell 5 (by omega), inR32 (by omega), by omega, by omega, by rw [hw32 _ l5 _ (by omega) (by omega)]; omega, inR32 (by omega), by rw [hw32 _ l5 _ (by omega) (by omega)]; exact inR32 (by omega), ?_⟩
  rw [or4c _ _ (by omega) l5]
  have htold : at8 b 2 + 256 * at8 b 3 + 65536 * at8 b 4 + 16777216 * at8 b 5 = toldOf b := rfl
  rw [htold]
  have e6 : Int.toNat ((6 : Int) + (lenOf b : Int)) = 6 + lenOf b := by omega
  rw [e6]
  refine ⟨inR64 (by omega), by omega, by omega, by omega, by omega, by omega, by omega, by omega, by omega, newS_mk (fun r w1 hr hb1 hk hs => ?_)⟩
  have hk1 : Keep w w1 := Keep.trans (Keep.drew (Ext.drew _ _)) hk
  have hbt : bytesAt w (Slc.sub s 1 6 (6 + lenOf b) s.c) (textOf b) := bytesAt_sub hb (by omega) (by omega) (by omega)
  have hbh : bytesAt w (Slc.sub s 1 0 2 s.c) (b.take 2) := by
    have := bytesAt_sub hb (lo := 0) (hi := 2) (c := s.c) (by omega) (by omega) (by omega)
    simpa using this
  refine (Sum_spec _ _ _ _ (rowsAt_two hb1 (bytesAt_keep hbh hk1) (bytesAt_keep hbt hk1)) (by simp) (fun i h => by
    have h : i < 2 := by simpa using h
    match i, h with
    | 0, _ => simp [Slc.sub]
    | 1, _ => simp [Slc.sub]; omega)).mono ?_
  rintro e w2 ⟨rfl, rfl⟩
  have hcrc : ([b.take 2, textOf b] : List (List UInt8)).flatten = b.take 2 ++ textOf b := by simp
  rw [hcrc]
  refine ⟨_, rfl, BIf_ndec (fun h4 => ?_) (fun h4 => ?_)⟩
  · refine ⟨_, ((hE.keep (hk1.drew)).1 gl_ErrSum (by simp)).1, _, _, _, rfl, ?_, hk1.drew⟩
    rw [openR, if_neg (by omega), if_neg (by omega), if_neg (by omega), if_neg (by omega)]
    exact ⟨rfl, rfl, rfl⟩
  · refine ⟨inR64 (by omega), by omega, by omega, by omega, by omega, ?_⟩
    refine (Clone_spec _ _ _ (bytesAt_keep hbt hk1.drew) (by simp [Slc.sub]; omega)).mono ?_
    rintro e w3 ⟨x, rfl, hx, hfx, hk3⟩
    refine ⟨x, rfl, ?_⟩
    have hbr : bytesAt w (Slc.sub s 1 (6 + lenOf b) s.l s.c) (b.drop (6 + lenOf b)) := by
      have := bytesAt_sub hb (lo := 6 + lenOf b) (hi := s.l) (c := s.c) (by omega) (by omega) (by omega)
      rw [hsl, List.take_length] at this
      rw [hsl]; exact this
    have hk13 := hk1.drew.trans hk3
    refine (Clone_spec _ _ _ (bytesAt_keep hbr hk13) (by simp [Slc.sub]; omega)).mono ?_
    rintro e w4 ⟨y, rfl, hy, hfy, hk4⟩
    refine ⟨y, rfl, x, y, _, rfl, ?_, hk13.trans hk4⟩
    rw [openR, if_neg (by omega), if_neg (by omega), if_neg (by omega), if_pos (by omega)]
    exact ⟨bytesAt_keep hx hk4, hy, hfx.mono hk1.drew.size, hfy.mono hk13.size, rfl⟩
end Go.D
