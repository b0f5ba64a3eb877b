/-
  WHAT IS PROVED: contracts of functions, and the plain law, for this proof. No further conditions.
-/
import Derived.Test.YtjhhgmcigjgojaaDoorParts3
import Derived.Test.YtjhhgmcigjgojaaDoorVClaw24
set_option linter.unusedVariables false
set_option linter.unusedSimpArgs false
set_option maxRecDepth 8000
namespace Go.D
open Go Go.Proofs

theorem parts_ok {sh up : Int} {b : List UInt8} (h : partsOk sh up = true) (hn : partsN b ≤ 64) : partsP sh up b = .ok (ptsL (summedB b) (partsN b) (partsN b) (partsN b)) := by
  unfold partsP; rw [if_neg (by rw [h]; simp), if_neg (by omega)]
theorem alive24_spec (A : Nat → Addr) (w : World) (hE0 : Errs A w) : Calls Tryd.prog fn_tidewaterlaw24_alive ⟨[]⟩ w fun e w' => e = .returned (.bool true) ∧ Keep w w' := by
  have hE := hE0.b
  have hG := hE.g.sub (H := ckG) (by decide)
  refine tidewaterlaw24_alive_ok ?_
  unfold tidewaterlaw24_alive
  refine ⟨by omega, by omega, by omega, newS_mk (fun r1 w2 hr1 hb1 k1 hs1 => ?_)⟩
  have o1 := Own.zeros hb1
  refine (Parts_spec A 1 0 _ _ w2 o1.bytes (by simp) (hG.keep k1)).mono ?_
  rintro x w4 ⟨k4, hres⟩
  rw [parts_ok rfl (by simp [partsN])] at hres
  obtain ⟨t1, css1, rfl, hR1⟩ := hres
  refine ⟨t1, _, rfl, by omega, by omega, by omega, newS_mk (fun r7 w8 hr7 hb7 k7 hs7 => ?_)⟩
  have k48 := (k1.trans k4).trans k7
  have o7 := Own.zeros hb7
  refine (Parts_spec A 1 0 _ _ w8 o7.bytes (by simp) (hG.keep k48)).mono ?_
  rintro x w10 ⟨k10, hres⟩
  rw [parts_ok rfl (by simp [partsN])] at hres
  obtain ⟨t2, css2, rfl, hR2⟩ := hres
  have hl1 := hR1.sl
  have hl2 := hR2.sl
  rw [ptsL_len] at hl1 hl2
  have hn1 : partsN (List.replicate 252 0) = 1 := by simp [partsN]
  have hn2 : partsN (List.replicate 253 0) = 2 := by simp [partsN]
  have hc2 : 1 < css2.length := by rw [hR2.len, ptsL_len, hn2]; omega
  obtain ⟨a, ha, _, hrow⟩ := hR2.get hc2
  obtain ⟨sd, hcs, hbd, _⟩ := hR2.row 1 hc2 (by rw [ptsL_len, hn2]; omega)
  rw [hcs] at hrow
  have hsd := hbd.1
  rw [ptsL_get] at hsd
  have hch : (chunkB (summedB (List.replicate 253 0)) 256 1).length = 1 := by
    unfold chunkB
    rw [List.length_take, List.length_drop, summed_len, List.length_replicate]; rfl
  rw [hch] at hsd
  refine ⟨t2, _, rfl, trivial, BIf_mk (fun _ => ⟨trivial, BIf_mk (fun _ => BIf_dec (fun _ => BIf_dec (fun _ => ?_) (fun h => absurd (by omega) h)) (fun h => absurd (by omega) h)) (fun h => by cases h)⟩) (fun h => by cases h)⟩
  refine needSome_mk ha ⟨by omega, by omega, sd, rowAt_c hrow 11 (by simp [ptC]), ?_, k48.trans k10⟩
  rw [decide_eq_true (by omega)]

theorem CheckParts_walk (sh up : Int) (s : Slc) (b : List UInt8) (w : World) (hb : bytesAt w s b) (hsc : s.l ≤ s.c) (A : Nat → Addr) (hE0 : Errs A w) :
    Calls Tryd.prog fn_tidewaterlaw24_CheckParts ⟨[.int .i64 sh, .int .i64 up, s.v]⟩ w fun e w' => e = .returned (.bool true) ∧ Keep w w' := by
  have hE := hE0.b
  have hG := hE.g.sub (H := ckG) (by decide)
  have hsl := hb.1
  refine tidewaterlaw24_CheckParts_ok _ _ _ ?_
  unfold tidewaterlaw24_CheckParts
  refine (alive24_spec A w hE0).mono ?_
  rintro e w5 ⟨rfl, k5⟩
  refine ⟨_, rfl, BIf_mk (fun h => by cases h) (fun _ => BIf_dec (fun _ => ⟨rfl, k5⟩) (fun hlen => ?_))⟩
  refine (Bytes_spec s b w5 (bytesAt_keep hb k5) (by omega)).mono ?_
  rintro e w8 ⟨s9, rfl, hM, hf9, k8⟩
  have k58 := k5.trans k8
  refine ⟨s9, rfl, ?_⟩
  refine (Parts_spec A sh up s9 b w8 hM.bytes (by omega) (hG.keep k58)).mono ?_
  rintro x w11 ⟨k11, hres⟩
  have k511 := k58.trans k11
  obtain ⟨s12, e13, L, css1, rfl, hR1, hmatch⟩ : ∃ (s12 : Slc) (e13 : Value) (L : List Pt) (css1 : List (List Value)), x = .returned (.tuple ⟨[s12.v, e13]⟩) ∧ Rows (PtR sh up) w11 s12 L css1 ∧
      ((partsP sh up b = .ok L ∧ e13 = .nilIface) ∨ ∃ k, partsP sh up b = .error k ∧ e13 = errO A (some k) ∧ L = [] ∧ k < 19) := by
    cases hp : partsP sh up b with
    | ok L =>
      rw [hp] at hres
      obtain ⟨t, css, rfl, hR⟩ := hres
      exact ⟨t, _, L, css, rfl, hR, .inl ⟨rfl, rfl⟩⟩
    | error k =>
      rw [hp] at hres
      refine ⟨_, _, [], [], hres, Rows.nil _ _, .inr ⟨k, rfl, rfl, rfl, ?_⟩⟩
      unfold partsP at hp
      split at hp
      · cases hp; omega
      · split at hp
        · cases hp; omega
        · cases hp
  refine ⟨s12, e13, rfl, ?_⟩
  refine (refParts_spec sh up s b w11 (bytesAt_keep hb k511) (by omega)).mono ?_
  rintro x w15 ⟨k15, hres2⟩
  have k515 := k511.trans k15
  obtain ⟨s16, n17, css2, rfl, hR2, hnum⟩ : ∃ (s16 : Slc) (n17 : Int) (css2 : List (List Value)), x = .returned (.tuple ⟨[s16.v, .int .i64 n17]⟩) ∧ Rows (PtR sh up) w15 s16 L css2 ∧
      Calls Tryd.prog fn_tidewaternum_Num ⟨[e13]⟩ w15 fun e w' => e = .returned (.int .i64 n17) ∧ Keep w15 w' := by
    rcases hmatch with ⟨hp, rfl⟩ | ⟨k, hp, rfl, rfl, hk⟩
    · rw [hp] at hres2
      obtain ⟨t, css, rfl, hR⟩ := hres2
      refine ⟨t, 0, css, rfl, hR, (Num_nil w15).mono ?_⟩
      rintro e w' ⟨rfl, rfl⟩
      exact ⟨rfl, Ext.refl _ _⟩
    · rw [hp] at hres2
      exact ⟨_, _, [], hres2, Rows.nil _ _, Num_spec A k hk w15 (hE.keep k515).1⟩
  refine ⟨s16, n17, rfl, fun w2 => Keep w w2 ∧ Keep w15 w2, ?_, ?_⟩
  · refine hnum.mono ?_
    rintro e w20 ⟨rfl, k20⟩
    have hl1 := hR1.sl
    have hl2 := hR2.sl
    refine ⟨_, rfl, BIf_ndec (fun h => absurd rfl h) (fun _ => BIf_ndec (fun h => absurd (by omega) h) (fun _ => ?_))⟩
    have k820 := (k11.trans k15).trans k20
    refine (Kept_spec s9 s b w20 (hM.keep k820) (bytesAt_keep hb (k515.trans k20)) (by omega)).mono ?_
    rintro e w23 ⟨rfl, k23⟩
    exact ⟨_, rfl, BIf_mk (fun h => by cases h) (fun _ => ⟨(k515.trans k20).trans k23, k20.trans k23⟩)⟩
  · rintro w25 ⟨k25, k1525⟩
    intros
    refine ⟨fun i w2 => ∃ k : Nat, i = k ∧ k ≤ L.length ∧ Keep w15 w2, fun i _ => ((L.length : Int) - i).toNat, ⟨0, rfl, by omega, k1525⟩, ?_⟩
    rintro i w47 ⟨k, rfl, hk, k47⟩
    intros
    have hl1 := hR1.sl
    have hl2 := hR2.sl
    refine BIf_dec (fun h1 => ?_) (fun h1 => ⟨rfl, k515.trans k47⟩)
    have hkl : k < L.length := by omega
    rcases hmatch with ⟨hp, _⟩ | ⟨_, _, _, rfl, _⟩
    · have kd := k47.drew
      have hR1d := (hR1.keep k15).keep kd
      have hR2d := hR2.keep kd
      have hc1 : k < css1.length := by rw [hR1.len]; exact hkl
      have hc2 : k < css2.length := by rw [hR2.len]; exact hkl
      obtain ⟨a1, ha1, _, hrow1⟩ := hR1d.get hc1
      obtain ⟨a2, ha2, _, hrow2⟩ := hR2d.get hc2
      obtain ⟨sd1, hcs1, hbd1, _⟩ := hR1d.row k hc1 hkl
      obtain ⟨sd2, hcs2, hbd2, _⟩ := hR2d.row k hc2 hkl
      rw [hcs1] at hrow1
      rw [hcs2] at hrow2
      -- what stands there
      have hpn : partsOk sh up = true ∧ partsN b ≤ 64 ∧ L = ptsL (summedB b) (partsN b) (partsN b) (partsN b) := by
        unfold partsP at hp
        split at hp
        · cases hp
        · rename_i h2
          split at hp
          · cases hp
          · rename_i h3
            exact ⟨by simpa using h2, by omega, (Except.ok.inj hp).symm⟩
      obtain ⟨hok, hn64, rfl⟩ := hpn
      have hok2 := of_decide_eq_true (show decide (0 ≤ sh ∧ sh ≤ 12 ∧ 0 ≤ up ∧ up ≤ 4096) = true from hok)
      have hkn : k < partsN b := by rw [ptsL_len] at hkl; exact hkl
      rw [ptsL_get] at hbd1 hbd2 hrow1 hrow2
      simp only [if_pos hkn] at hbd1 hbd2 hrow1 hrow2
      have hPt : PtOk sh up (k : Int) (partsN b : Int) (chunkB (summedB b) 256 k) := ⟨⟨hok2.1, hok2.2.1⟩, ⟨hok2.2.2.1, hok2.2.2.2⟩, ⟨by omega, by omega⟩, ⟨by omega, by omega⟩, by unfold chunkB; simp; omega⟩
      refine needSome_mk ha1 ⟨by omega, h1, _, _, _, _, _, _, _, _, _, _, _, _, by rw [show Int.toNat (k : Int) * 12 = k * 12 by omega]; exact hrow1, needSome_mk ha2 ⟨by omega, by omega, _, _, _, _, _, _, _, _, _, _, _, _, by rw [show Int.toNat (k : Int) * 12 = k * 12 by omega]; exact hrow2, ?_⟩⟩
      refine (Same5_spec sh up (k : Int) (partsN b : Int) sd1 sd2 _ _ hPt hbd1 hbd2).mono ?_
      rintro e w90 ⟨rfl, k90⟩
      exact ⟨_, rfl, BIf_mk (fun h => by cases h) (fun _ => ⟨inR64 (by omega), ⟨k + 1, rfl, hkl, kd.trans k90⟩, by first | (dsimp only; omega) | omega⟩)⟩
    · simp at hkl
end Go.D
