/-
  WHAT IS PROVED: contracts of functions, and the plain law, for this proof. No further conditions.
-/
import Derived.Test.YtpnchpkklamnnaaDoorBurst2
set_option linter.unusedVariables false
set_option linter.unusedSimpArgs false
namespace Go.D
open Go Go.Proofs

theorem wrap64u_idx (at2 : Int) (l : Nat) (hl : 4 ≤ l) (hl2 : l ≤ 1000) :
    ∃ r : Nat, r + 4 ≤ l ∧ IntKind.wrap .i64 ((IntKind.wrap .u64 at2) % (IntKind.wrap .u64 ((l : Int) - 3))) = (r : Int) ∧ 0 ≤ IntKind.wrap .u64 at2 ∧ 0 < IntKind.wrap .u64 ((l : Int) - 3) := by
  have hm : IntKind.wrap .u64 ((l : Int) - 3) = (l : Int) - 3 := by
    simp [IntKind.wrap, IntKind.signed, IntKind.bits]; omega
  have hu : 0 ≤ IntKind.wrap .u64 at2 := by
    simp [IntKind.wrap, IntKind.signed, IntKind.bits]; omega
  rw [hm]
  generalize IntKind.wrap .u64 at2 = u at hu
  have h1 : 0 ≤ u % ((l : Int) - 3) := Int.emod_nonneg _ (by omega)
  have h2 : u % ((l : Int) - 3) < (l : Int) - 3 := Int.emod_lt_of_pos _ (by omega)
  refine ⟨(u % ((l : Int) - 3)).toNat, by omega, ?_, hu, by omega⟩
  generalize u % ((l : Int) - 3) = v at h1 h2
  simp [IntKind.wrap, IntKind.signed, IntKind.bits]
  omega

theorem xor8 (c : UInt8) (y k : Nat) : (Value.int .u8 (bitsI .xor (c.toNat : Int) (IntKind.wrap .u8 ((y : Int) / ((2 ^ (8 * k) : Nat) : Int))))) = byteV (c ^^^ UInt8.ofNat (y / 2 ^ (8 * k))) := by
  have h := wrap8d y (2 ^ (8 * k))
  simp only [byteV, Value.int.injEq, true_and] at h
  rw [h, bits_xor, byteV, UInt8.toNat_xor]

theorem wrap8_range (n : Int) : 0 ≤ IntKind.wrap .u8 n ∧ IntKind.wrap .u8 n ≤ 255 := by
  simp [IntKind.wrap, IntKind.signed, IntKind.bits]; omega

theorem SumsBurst_walk (s : Slc) (b : List UInt8) (at2 by3 : Int) (w : World) (hb : bytesAt w s b) (hat : -9223372036854775808 ≤ at2 ∧ at2 ≤ 9223372036854775807) (hby : 0 ≤ by3 ∧ by3 ≤ 4294967295) (A : Nat → Addr) (hE : Errs A w) :
    Calls Tryd.prog fn_tidewaterlaw01_SumsBurst ⟨[s.v, .int .i64 at2, .int .u32 by3]⟩ w fun e w' => e = .returned (.bool true) ∧ Keep w w' := by
  have hsl := hb.1
  refine tidewaterlaw01_SumsBurst_ok _ _ _ ?_
  unfold tidewaterlaw01_SumsBurst
  refine (alive01_spec w).mono ?_
  rintro e w5 ⟨rfl, hk5⟩
  refine ⟨_, rfl, BIf_mk (fun h => by cases h) (fun _ => ?_)⟩
  refine ⟨fun w2 => w2 = w5 ∧ 4 ≤ b.length ∧ b.length ≤ 1000 ∧ by3 ≠ 0, BIf_dec (fun h => ⟨rfl, hk5⟩) (fun h => BIf_dec (fun h2 => ⟨rfl, hk5⟩) (fun h2 => BIf_dec (fun h3 => ⟨rfl, hk5⟩) (fun h3 => ⟨rfl, by omega, by omega, h3⟩))), ?_⟩
  rintro w8 ⟨rfl, hb4, hb1, hby0⟩
  intros
  obtain ⟨y, rfl⟩ : ∃ y : Nat, by3 = (y : Int) := ⟨by3.toNat, by omega⟩
  refine (Frame_spec s b w8 (bytesAt_keep hb hk5) (by omega)).mono ?_
  rintro e w23 ⟨f, rfl, hf, hff, hk23⟩
  have k23 := hk5.trans hk23
  have fl : f.l = b.length + 6 := by have := hf.bytes.1; rw [frameB_length] at this; exact this
  refine ⟨f, .nilIface, rfl, trivial, BIf_mk (fun h => by cases h) (fun _ => ?_)⟩
  obtain ⟨r, hr, hr1, hr2, hr3⟩ := wrap64u_idx at2 s.l (by omega) (by omega)
  rw [hr1]
  refine ⟨inR64 (by omega), hr2, hr3, inR64 (by omega), newS_mk (fun r26 w27 hr26 hb26 hk27 hs27 => ?_)⟩
  have k27 := k23.trans hk27
  refine append_bytes (vs := []) (w0 := w23) (Own.new (sz := 1) (n := 0) hb26 (.inl (by simp)) rfl) rfl (Fresh.at (by omega)) hk27 (srcAt_bytes (hf.keep hk27).bytes) (by simp only [Src.n]; omega) (fun s28 w29 h1 h2 h3 h4 => ?_)
  refine newS_mk (fun r30 w31 hr30 hb30 hk31 hs31 => ?_)
  refine append_bytes (vs := []) (w0 := w29) (Own.new (sz := 1) (n := 0) hb30 (.inl (by simp)) rfl) rfl (Fresh.at (by omega)) hk31 (srcAt_bytes ((hf.keep h2).keep hk31).bytes) (by simp only [Src.n]; omega) (fun s32 w33 g1 g2 g3 g4 => ?_)
  have dis : ∀ k, ownB s28 k → ¬ ownB s32 k := fun k hk hk2 => by
    have := h1.lt k hk
    have := g3 k hk2
    omega
  have k33 := k23.trans (h2.trans g2)
  have fr28 : Fresh w s28 := h3.mono (by have := k23.size; omega)
  have fr32 : Fresh w s32 := g3.mono (by have := (k23.trans h2).size; omega)
  have flen : (frameB b).length = b.length + 6 := frameB_length b
  refine ⟨fun i w2 => ∃ k : Nat, i = k ∧ k ≤ 4 ∧ Own w2 s28 1 ((burst (frameB b) (6 + r) y k).map byteV) ∧ Own w2 s32 1 ((burst (frameB b) 2 y k).map byteV) ∧ Keep w w2,
    fun i _ => (4 - i).toNat, ⟨0, rfl, by omega, (by simpa [burst] using h1.keep g2), (by simpa [burst] using g1), k33⟩, ?_⟩
  rintro i w37 ⟨k, rfl, hk4, o28, o32, k37⟩
  intros
  have l28 : s28.l = b.length + 6 := by have := o28.bytes.1; rw [burst_length, flen] at this; exact this
  have l32 : s32.l = b.length + 6 := by have := o32.bytes.1; rw [burst_length, flen] at this; exact this
  refine BIf_dec (fun hlt => ?_) (fun hge => ?_)
  · have hmin : min (Int.toNat ((8 : Int) * (k : Int))) 32 = 8 * k := by omega
    rw [hmin]
    have wr := wrap8_range ((y : Int) / ((2 ^ (8 * k) : Nat) : Int))
    have o28d := o28.keep (Ext.drew _ w37)
    obtain ⟨a, ha, hc, hcan, hset, hext⟩ := o28d.setByte (i := 6 + r + k) (by rw [burst_length, flen]; omega) ((burst (frameB b) (6 + r) y k)[6 + r + k]'(by rw [burst_length, flen]; omega) ^^^ UInt8.ofNat (y / 2 ^ (8 * k)))
    have ei : (Int.toNat ((6 : Int) + (r : Int) + (k : Int))) * 1 = 6 + r + k := by omega
    have clt := ((burst (frameB b) (6 + r) y k)[6 + r + k]'(by rw [burst_length, flen]; omega)).toNat_lt
    rw [ei]
    refine ⟨inR64 (by omega), needSome_mk ha ⟨by omega, by omega, _, hc, inR64 (by omega), by omega, by omega, by omega, wr.1, inR8 (by omega), inR8 wr, needSome_mk ha ⟨by omega, by omega, hcan, ?_⟩⟩⟩
    rintro w70 rfl
    rw [xor8]
    generalize hw70 : World.setCell w37.drew (a.add (6 + r + k)) (byteV ((burst (frameB b) (6 + r) y k)[6 + r + k]'(by rw [burst_length, flen]; omega) ^^^ UInt8.ofNat (y / 2 ^ (8 * k)))) = w70 at hset hext
    have o32d : Own w70.drew s32 1 ((burst (frameB b) 2 y k).map byteV) := ((o32.keep (Ext.drew _ w37)).ext hext (fun k hk hk2 => dis k hk2 hk)).keep (Ext.drew _ _)
    obtain ⟨a2, ha2, hc2, hcan2, hset2, hext2⟩ := o32d.setByte (i := 2 + k) (by rw [burst_length, flen]; omega) ((burst (frameB b) 2 y k)[2 + k]'(by rw [burst_length, flen]; omega) ^^^ UInt8.ofNat (y / 2 ^ (8 * k)))
    have ei2 : (Int.toNat ((2 : Int) + (k : Int))) * 1 = 2 + k := by omega
    have clt2 := ((burst (frameB b) 2 y k)[2 + k]'(by rw [burst_length, flen]; omega)).toNat_lt
    rw [ei2]
    refine ⟨inR64 (by omega), needSome_mk ha2 ⟨by omega, by omega, _, hc2, inR64 (by omega), by omega, by omega, by omega, wr.1, inR8 (by omega), inR8 wr, needSome_mk ha2 ⟨by omega, by omega, hcan2, ?_⟩⟩⟩
    rintro w74 rfl
    rw [xor8]
    refine ⟨inR64 (by omega), ⟨k + 1, rfl, by omega, ?_, ?_, ?_⟩, by dsimp only; omega⟩
    · have := (hset.keep (Ext.drew _ _)).ext hext2 (fun k hk hk2 => dis k hk hk2)
      rw [burst]
      have eg : (burst (frameB b) (6 + r) y k).getD (6 + r + k) 0 = (burst (frameB b) (6 + r) y k)[6 + r + k]'(by rw [burst_length, flen]; omega) := by
        simp [List.getD, burst_length, flen, show 6 + r + k < b.length + 6 by omega]
      rw [eg]
      exact this
    · rw [burst]
      have eg : (burst (frameB b) 2 y k).getD (2 + k) 0 = (burst (frameB b) 2 y k)[2 + k]'(by rw [burst_length, flen]; omega) := by
        simp [List.getD, burst_length, flen, show 2 + k < b.length + 6 by omega]
      rw [eg]
      exact hset2
    · exact (((k37.drew).ext hext (fun k hk => fr28 k hk)).drew).ext hext2 (fun k hk => fr32 k hk)
  · obtain rfl : k = 4 := by omega
    refine (Open_spec A s28 _ w37 o28.bytes (by omega) o28.cap (errs3 (hE.keep k37))).mono ?_
    rw [openR_text b r y (by omega) (by omega) (by omega) (by omega)]
    rintro e w76 ⟨_, _, _, rfl, ⟨rfl, rfl, rfl⟩, hk76⟩
    have k76 := k37.trans hk76
    refine ⟨_, _, _, rfl, ?_⟩
    have o32' := o32.keep hk76
    refine (Open_spec A s32 _ w76 o32'.bytes (by omega) o32'.cap (errs3 (hE.keep k76))).mono ?_
    rw [openR_sum b y (by omega) (by omega) (by omega)]
    rintro e w81 ⟨_, _, _, rfl, ⟨rfl, rfl, rfl⟩, hk81⟩
    have k81 := k76.trans hk81
    refine ⟨_, _, _, rfl, BIf_dec (fun _ => BIf_dec (fun _ => ?_) (fun h => absurd rfl h)) (fun h => absurd rfl h)⟩
    refine (Num_spec A 4 (by omega) w81 (hE.keep k81)).mono ?_
    rintro e w86 ⟨rfl, hk86⟩
    have k86 := k81.trans hk86
    refine ⟨_, rfl, BIf_dec (fun _ => ?_) (fun h => absurd rfl h)⟩
    refine (Num_spec A 4 (by omega) w86 (hE.keep k86)).mono ?_
    rintro e w89 ⟨rfl, hk89⟩
    exact ⟨_, rfl, rfl, k86.trans hk89⟩
end Go.D
