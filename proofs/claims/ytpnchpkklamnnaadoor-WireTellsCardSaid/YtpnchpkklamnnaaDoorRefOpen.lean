/-
  WHAT IS PROVED: contracts of functions, and the plain law, for this proof. No further conditions.
-/
import Derived.Test.YtpnchpkklamnnaaDoorOpen
set_option linter.unusedVariables false
set_option linter.unusedSimpArgs false
namespace Go.D
open Go Go.Proofs

theorem ofNat_mod (n : Nat) : UInt8.ofNat (n % 256) = UInt8.ofNat n := by
  apply UInt8.toNat_inj.1
  rw [UInt8.toNat_ofNat', UInt8.toNat_ofNat']
  simp
theorem ofNat_eq {n : Nat} {x : UInt8} (h : n % 256 = x.toNat) : UInt8.ofNat n = x := by
  apply UInt8.toNat_inj.1
  rw [UInt8.toNat_ofNat']
  exact h

theorem refFrame_spec (s : Slc) (b : List UInt8) (w : World) (hb : bytesAt w s b) (hl : s.l ≤ 2 ^ 20) :
    Calls Tryd.prog fn_tidewaterref01_Frame ⟨[s.v]⟩ w fun e w' => ∃ f : Slc, e = .returned f.v ∧ Own w' f 1 ((frameB b).map byteV) ∧ Fresh w f ∧ Keep w w' := by
  have hsl := hb.1
  refine tidewaterref01_Frame_ok _ ?_
  unfold tidewaterref01_Frame
  refine ⟨by omega, by omega, by omega, by omega, inR64 (by omega), newS_mk (fun r2 w3 hr2 hb2 hk2 hs2 => newS_mk (fun r4 w5 hr4 hb4 hk4 hs4 => ?_))⟩
  have em : ((s.l : Nat) : Int) % (256 : Int) = ((b.length % 256 : Nat) : Int) := by rw [hsl]; omega
  rw [em, wrap8, ofNat_mod, hsl, show (256 : Int) = ((256 : Nat) : Int) from rfl, wrap8d] at hb2
  have ho2 : Own w3 ⟨some ⟨r2, 0, none⟩, 2, 2⟩ 1 ((le2 b.length).map byteV) := Own.new (sz := 1) hb2 (Or.inl (by simp)) rfl
  refine append_bytes (vs := []) (w0 := w3) (Own.new (sz := 1) (n := 0) hb4 (.inl (by simp)) rfl) rfl (Fresh.at (by omega)) hk4 (srcAt_bytes (ho2.keep hk4).bytes) (by simp [Src.n]) (fun s6 w7 h1 h2 h3 h4 => ?_)
  have e1 := h1.1
  have l1 : s6.l = 2 := by simpa [le2] using e1
  refine append_bytes h1 rfl h3 h2 (srcAt_bytes (bytesAt_keep hb (hk2.trans h2))) (by simp only [Src.n]; omega) (fun s8 w9 h5 h6 h7 h8 => ?_)
  have e2 := h5.1
  have l2 : s8.l = 2 + b.length := by simp [le2] at e2; omega
  refine (refSum_spec s8 _ w9 h5.bytes (by omega)).mono ?_
  rintro e w10 ⟨rfl, rfl⟩
  have ecrc : [] ++ le2 b.length ++ b = le2 b.length ++ b := rfl
  rw [ecrc]
  refine ⟨_, rfl, by omega, by omega, by omega, by omega, by omega, by omega, newS_mk (fun r13 w14 hr13 hb13 hk13 hs13 => ?_)⟩
  rw [wrap8, show (256 : Int) = ((256 : Nat) : Int) from rfl, wrap8d, show (65536 : Int) = ((65536 : Nat) : Int) from rfl, wrap8d, show (16777216 : Int) = ((16777216 : Nat) : Int) from rfl, wrap8d] at hb13
  have ho13 : Own w14 ⟨some ⟨r13, 0, none⟩, 4, 4⟩ 1 ((le4 (crc (le2 b.length ++ b))).map byteV) := Own.new (sz := 1) hb13 (Or.inl (by simp)) rfl
  have hk14 := h6.trans hk13
  refine append_bytes (w0 := w) (ho2.keep hk14) rfl (Fresh.at (by omega)) (hk2.trans hk14) (srcAt_bytes ho13.bytes) (by simp [Src.n]) (fun s15 w16 g1 g2 g3 g4 => ?_)
  have e3 := g1.1
  have l3 : s15.l = 6 := by simpa [le2, le4] using e3
  refine append_bytes g1 rfl g3 g2 (srcAt_bytes (bytesAt_keep hb g2)) (by simp only [Src.n]; omega) (fun s17 w18 g5 g6 g7 g8 => ?_)
  exact ⟨s17, rfl, g5, g7, g6⟩

theorem frame_iff (b : List UInt8) (h6 : 6 + lenOf b ≤ b.length) : frameB (textOf b) = b.take (6 + lenOf b) ↔ crc (b.take 2 ++ textOf b) = toldOf b := by
  obtain ⟨b0, b1, b2, b3, b4, b5, r, rfl⟩ : ∃ b0 b1 b2 b3 b4 b5 r, b = b0 :: b1 :: b2 :: b3 :: b4 :: b5 :: r := by
    match b, h6 with
    | b0 :: b1 :: b2 :: b3 :: b4 :: b5 :: r, _ => exact ⟨b0, b1, b2, b3, b4, b5, r, rfl⟩
    | [], h => simp at h
    | [_], h => simp at h; omega
    | [_, _], h => simp at h; omega
    | [_, _, _], h => simp at h; omega
    | [_, _, _, _], h => simp at h; omega
    | [_, _, _, _, _], h => simp at h; omega
  have hn : lenOf (b0 :: b1 :: b2 :: b3 :: b4 :: b5 :: r) = b0.toNat + 256 * b1.toNat := rfl
  have ht : toldOf (b0 :: b1 :: b2 :: b3 :: b4 :: b5 :: r) = b2.toNat + 256 * b3.toNat + 65536 * b4.toNat + 16777216 * b5.toNat := rfl
  have htx : textOf (b0 :: b1 :: b2 :: b3 :: b4 :: b5 :: r) = r.take (b0.toNat + 256 * b1.toNat) := by
    rw [textOf, hn, Nat.add_comm 6]; rfl
  have h2 : (b0 :: b1 :: b2 :: b3 :: b4 :: b5 :: r).take 2 = [b0, b1] := rfl
  have h6' : (b0 :: b1 :: b2 :: b3 :: b4 :: b5 :: r).take (6 + (b0.toNat + 256 * b1.toNat)) = [b0, b1] ++ [b2, b3, b4, b5] ++ r.take (b0.toNat + 256 * b1.toNat) := by
    rw [Nat.add_comm 6]; rfl
  rw [hn] at h6 ⊢
  rw [ht, htx, h2, h6', frameB]
  have hl : (r.take (b0.toNat + 256 * b1.toNat)).length = b0.toNat + 256 * b1.toNat := by
    rw [List.length_take]
    simp only [List.length_cons] at h6
    omega
  have l0 := b0.toNat_lt; have l1 := b1.toNat_lt; have l2 := b2.toNat_lt; have l3 := b3.toNat_lt; have l4 := b4.toNat_lt; have l5 := b5.toNat_lt
  have hle : le2 (r.take (b0.toNat + 256 * b1.toNat)).length = [b0, b1] := by
    rw [hl, le2, ofNat_eq (x := b0) (by omega), ofNat_eq (x := b1) (by omega)]
  rw [hle, List.append_left_inj, List.append_right_inj]
  have hc := crc_lt ([b0, b1] ++ r.take (b0.toNat + 256 * b1.toNat))
  generalize crc ([b0, b1] ++ r.take (b0.toNat + 256 * b1.toNat)) = c at hc ⊢
  constructor
  · intro h
    simp only [le4, List.cons.injEq, and_true] at h
    obtain ⟨e2, e3, e4, e5⟩ := h
    have e2 := congrArg UInt8.toNat e2
    have e3 := congrArg UInt8.toNat e3
    have e4 := congrArg UInt8.toNat e4
    have e5 := congrArg UInt8.toNat e5
    rw [UInt8.toNat_ofNat'] at e2 e3 e4 e5
    omega
  · intro h
    rw [le4, ofNat_eq (x := b2) (by omega), ofNat_eq (x := b3) (by omega), ofNat_eq (x := b4) (by omega), ofNat_eq (x := b5) (by omega)]

def codeR : Except Nat (List UInt8 × List UInt8) → Int
  | .error k => ((k + 1 : Nat) : Int)
  | .ok _ => 0
def RefRes (w w' : World) (s t : Slc) : Except Nat (List UInt8 × List UInt8) → Prop
  | .error k => s = ⟨none, 0, 0⟩ ∧ t = ⟨none, 0, 0⟩
  | .ok (x, y) => bytesAt w' s x ∧ bytesAt w' t y ∧ Fresh w s ∧ Fresh w t

theorem refOpen_spec (s : Slc) (b : List UInt8) (w : World) (hb : bytesAt w s b) (hl : s.l ≤ 2 ^ 20) (hc : s.l ≤ s.c) :
    Calls Tryd.prog fn_tidewaterref01_Open ⟨[s.v]⟩ w fun e w' => ∃ (x y : Slc), e = .returned (.tuple ⟨[x.v, y.v, .int .i64 (codeR (openR b))]⟩) ∧ RefRes w w' x y (openR b) ∧ Keep w w' := by
  have hsl := hb.1
  refine tidewaterref01_Open_ok _ ?_
  unfold tidewaterref01_Open
  refine BIf_dec (fun h => ?_) (fun h => ?_)
  · rw [openR, if_pos (by omega)]
    exact ⟨_, _, rfl, ⟨rfl, rfl⟩, Ext.refl _ _⟩
  obtain ⟨a, ha, _⟩ := bytesAt_cell hb (i := 0) (by omega)
  have cell : ∀ i, i < b.length → w.cell? (a.add i) = some (.int .u8 (at8 b i : Int)) := fun i hi => at8_cell hb hi ha
  have lt := at8_lt b
  have l0 := lt 0; have l1 := lt 1
  refine needSome_mk ha ⟨by omega, by omega, _, cell 0 (by omega), inR64 (by omega), needSome_mk ha ⟨by omega, by omega, _, cell 1 (by omega), inR64 (by omega), inR64 (by omega), inR64 (by omega), ?_⟩⟩
  have hlen : (at8 b 0 : Int) + 256 * (at8 b 1 : Int) = (lenOf b : Int) := by rw [lenOf]; omega
  rw [hlen]
  have hll : lenOf b < 65536 := by rw [lenOf]; omega
  refine BIf_dec (fun h2 => ?_) (fun h2 => ⟨inR64 (by omega), BIf_dec (fun h3 => ?_) (fun h3 => ?_)⟩)
  · rw [openR, if_neg (by omega), if_pos (by omega)]
    exact ⟨_, _, rfl, ⟨rfl, rfl⟩, Ext.drew _ _⟩
  · rw [openR, if_neg (by omega), if_neg (by omega), if_pos (by omega)]
    exact ⟨_, _, rfl, ⟨rfl, rfl⟩, Ext.drew _ _⟩
  have e6 : Int.toNat ((6 : Int) + (lenOf b : Int)) = 6 + lenOf b := by omega
  rw [e6]
  have hd2 : Keep w w.drew.drew := Keep.drew (Ext.drew _ _)
  have hbt : bytesAt w (Slc.sub s 1 6 (6 + lenOf b) s.c) (textOf b) := bytesAt_sub hb (by omega) (by omega) (by omega)
  have hbf : bytesAt w (Slc.sub s 1 0 (6 + lenOf b) s.c) (b.take (6 + lenOf b)) := by
    have := bytesAt_sub hb (lo := 0) (hi := 6 + lenOf b) (c := s.c) (by omega) (by omega) (by omega)
    simpa using this
  have hbr : bytesAt w (Slc.sub s 1 (6 + lenOf b) s.l s.c) (b.drop (6 + lenOf b)) := by
    have := bytesAt_sub hb (lo := 6 + lenOf b) (hi := s.l) (c := s.c) (by omega) (by omega) (by omega)
    rw [hsl, List.take_length] at this
    rw [hsl]; exact this
  refine ⟨inR64 (by omega), by omega, by omega, by omega, by omega, inR64 (by omega), by omega, by omega, by omega, by omega, _, bytesAt_keep hbf hd2, ?_⟩
  refine (refFrame_spec _ _ _ (bytesAt_keep hbt hd2) (by simp [Slc.sub]; omega)).mono ?_
  rintro e w3 ⟨f, rfl, hf, hff, hk3⟩
  have hk := hd2.trans hk3
  refine ⟨f, rfl, ⟨_, bytesAt_keep hbf hk, rfl⟩, _, hf.bytes, ?_⟩
  have hiff := frame_iff b (by omega)
  refine BIf_ndec (fun h4 => ?_) (fun h4 => ?_)
  · rw [openR, if_neg (by omega), if_neg (by omega), if_neg (by omega), if_neg (fun h => h4 (hiff.2 h))]
    exact ⟨_, _, rfl, ⟨rfl, rfl⟩, hk⟩
  · rw [openR, if_neg (by omega), if_neg (by omega), if_neg (by omega), if_pos (hiff.1 h4)]
    have hkd : Keep w w3.drew := hk.drew
    have ltx : (Slc.sub s 1 6 (6 + lenOf b) s.c).l ≤ 2 ^ 20 := by simp [Slc.sub]; omega
    have lrx : (Slc.sub s 1 (6 + lenOf b) s.l s.c).l ≤ 2 ^ 20 := by simp [Slc.sub]; omega
    refine ⟨inR64 (by omega), by omega, by omega, by omega, by omega, inR64 (by omega), by omega, by omega, by omega, by omega, ⟨?_, ?_⟩⟩
    · refine newS_mk (fun r16 w17 hr16 hb16 hk16 hs16 => ⟨?_, ?_⟩)
      · refine append_bytes (vs := []) (w0 := w) (Own.new (sz := 1) (n := 0) hb16 (.inl (by simp)) rfl) rfl (Fresh.at (by have := hkd.size; omega)) (hkd.trans hk16) (srcAt_bytes (bytesAt_keep hbt (hkd.trans hk16))) (by simp only [Src.n]; omega) (fun s18 w19 h1 h2 h3 h4 => ?_)
        refine newS_mk (fun r20 w21 hr20 hb20 hk20 hs20 => ?_)
        refine append_bytes (vs := []) (w0 := w19) (Own.new (sz := 1) (n := 0) hb20 (.inl (by simp)) rfl) rfl (Fresh.at (by omega)) hk20 (srcAt_bytes (bytesAt_keep hbr (h2.trans hk20))) (by simp only [Src.n]; omega) (fun s22 w23 h5 h6 h7 h8 => ?_)
        exact ⟨_, _, rfl, ⟨(h1.keep h6).bytes, h5.bytes, h3, h7.mono h2.size⟩, h2.trans h6⟩
      · refine newS_mk (fun r24 w25 hr24 hb24 hk24 hs24 => ?_)
        have ho16 : Own w17 ⟨some ⟨r16, 0, none⟩, 0, 0⟩ 1 (([] : List UInt8).map byteV) := Own.new (sz := 1) (n := 0) hb16 (.inl (by simp)) rfl
        have ho24 : Own w25 ⟨some ⟨r24, 0, none⟩, 0, 0⟩ 1 (([] : List UInt8).map byteV) := Own.new (sz := 1) (n := 0) hb24 (.inl (by simp)) rfl
        have hk25 := (hkd.trans hk16).trans hk24
        have hs0 := hkd.size
        have hs1 := hk16.size
        refine append_bytes2 (vs := []) (w0 := w) (ho16.keep hk24) rfl (Fresh.at (by omega)) hk25 (srcAt_bytes (bytesAt_keep hbt hk25)) (by simp only [Src.n]; omega) (fun s26 w27 h1 h2 h3 h4 h4' => ?_)
        have ho24' := ho24.ext h4 (by
          rintro k ⟨x, hx, rfl⟩ ⟨y, hy, hxy⟩
          cases hx; cases hy
          simp only at hxy
          omega)
        refine append_bytes2 (vs := []) (w0 := w) ho24' rfl (Fresh.at (by omega)) h2 (srcAt_bytes (bytesAt_keep hbr h2)) (by simp only [Src.n]; omega) (fun s28 w29 h5 h6 h7 h8 h8' => ?_)
        refine ⟨_, _, rfl, ⟨(h1.ext h8 ?_).bytes, h5.bytes, h3, h7⟩, h6⟩
        rintro k hk1 ⟨y, hy, rfl⟩
        cases hy
        have h9 := h4' _ hk1
        rcases h9 with ⟨z, hz, hzz⟩ | h9
        · cases hz; simp only at hzz; omega
        · have := (Array.getElem?_eq_some_iff.1 hb24).1
          simp only at h9
          omega
    · refine newS_mk (fun r30 w31 hr30 hb30 hk30 hs30 => newS_mk (fun r32 w33 hr32 hb32 hk32 hs32 => ?_))
      have ho30 : Own w31 ⟨some ⟨r30, 0, none⟩, 0, 0⟩ 1 (([] : List UInt8).map byteV) := Own.new (sz := 1) (n := 0) hb30 (.inl (by simp)) rfl
      refine append_bytes (vs := []) (w0 := w31) (Own.new (sz := 1) (n := 0) hb32 (.inl (by simp)) rfl) rfl (Fresh.at (by omega)) hk32 (srcAt_bytes (bytesAt_keep hbt ((hkd.trans hk30).trans hk32))) (by simp only [Src.n]; omega) (fun s34 w35 h1 h2 h3 h4 => ?_)
      have hs0 := hkd.size
      refine append_bytes2 (vs := []) (w0 := w) (ho30.keep h2) rfl (Fresh.at (by omega)) ((hkd.trans hk30).trans h2) (srcAt_bytes (bytesAt_keep hbr ((hkd.trans hk30).trans h2))) (by simp only [Src.n]; omega) (fun s36 w37 h5 h6 h7 h8 h8' => ?_)
      refine ⟨_, _, rfl, ⟨(h1.ext h8 ?_).bytes, h5.bytes, h3.mono (by omega), h7⟩, h6⟩
      rintro k hk1 ⟨y, hy, rfl⟩
      cases hy
      have := h3 _ hk1
      simp only at this
      omega
end Go.D
