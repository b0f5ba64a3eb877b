/-
  WHAT IS PROVED: contracts of functions, and the plain law, for this proof. No further conditions.
-/
import Derived.Test.YtlahdjoonioegaaDoorDisk5
import Derived.Test.YtlahdjoonioegaaDoorKeptB
set_option linter.unusedVariables false
set_option linter.unusedSimpArgs false
namespace Go.D
open Go Go.Proofs

theorem wrapU {n : Int} (h : 0 ≤ n ∧ n ≤ 18446744073709551615) : IntKind.wrap .u64 n = n := wrap_inR (inRu64 h)
theorem wrapU_nn (n : Int) : 0 ≤ IntKind.wrap .u64 n := by
  simp [IntKind.wrap, IntKind.signed, IntKind.bits]; omega

theorem DiskFrom_walk (s : Slc) (img : List UInt8) (at_ : Int) (w : World) (hb : bytesAt w s img) (hc : s.l ≤ s.c) (A : Nat → Addr) (hE0 : Errs A w) :
    Calls Tryd.prog fn_tidewaterlaw07_DiskFrom ⟨[s.v, .int .i64 at_]⟩ w fun e w' => e = .returned (.bool true) ∧ Keep w w' := by
  have hE := hE0.b
  have hsl := hb.1
  refine tidewaterlaw07_DiskFrom_ok _ _ ?_
  unfold tidewaterlaw07_DiskFrom
  refine (alive07_spec A w hE0).mono ?_
  rintro e w4 ⟨rfl, k4⟩
  refine ⟨_, rfl, BIf_mk (fun h => by cases h) (fun _ => BIf_dec (fun _ => ⟨rfl, k4⟩) (fun h1 => ?_))⟩
  refine (Bytes_spec s img w4 (bytesAt_keep hb k4) (by omega)).mono ?_
  rintro e w7 ⟨t, rfl, ht, hf, k7⟩
  refine ⟨_, rfl, ?_⟩
  have k47 := k4.trans k7
  refine (From_spec A t img w7 ht.bytes (by rw [ht.bytes.1]; omega) (hE.keep k47).1).mono ?_
  rintro e w10 ⟨k10, h10⟩
  have kk := k47.trans k10
  by_cases hbad : img.length = 0 ∨ img.length % 64 ≠ 0
  · rw [if_pos (by rcases hbad with h | h; exact .inl h; exact .inr (.inl h))] at h10
    subst h10
    refine ⟨_, _, rfl, fun _ => False, ?_, fun _ h => h.elim⟩
    have fin : Calls Tryd.prog fn_tidewaternum_Num ⟨[errO A (some 3)]⟩ w10 fun e14 w15 => ∃ n16 : Int, e14 = .returned (Value.int .i64 n16) ∧ (Ending.returned (Value.bool (decide (n16 = (4 : Int)))) = .returned (.bool true) ∧ Keep w w15) := by
      refine (Num_spec A 3 (by omega) w10 (hE.keep kk).1).mono ?_
      rintro e w15 ⟨rfl, k15⟩
      exact ⟨_, rfl, rfl, kk.trans k15⟩
    refine BIf_dec (fun h2 => BIf_mk (fun _ => fin) (fun h => by cases h)) (fun h2 => ⟨by omega, by omega, BIf_ndec (fun h3 => BIf_mk (fun _ => fin) (fun h => by cases h)) (fun h3 => ?_)⟩)
    exfalso; omega
  · have hg : ¬ (img.length = 0 ∨ img.length % 64 ≠ 0 ∨ 262144 < img.length) := by omega
    rw [if_neg hg] at h10
    obtain ⟨r, q, rfl, hd, hB⟩ := h10
    refine ⟨_, _, rfl, fun w' => w' = w10, BIf_dec (fun h2 => by omega) (fun h2 => ⟨by omega, by omega, BIf_ndec (fun h3 => by omega) (fun h3 => rfl)⟩), ?_⟩
    rintro w20 rfl
    intros
    have hbd : bytesAt w20.drew s img := bytesAt_keep hb kk.drew
    have hdd := hd.keep (Ext.drew none0 _)
    refine ⟨fun w' => Keep w20 w', ⟨trivial, BIf_mk (fun h => by cases h) (fun _ => BIf_mk (fun h => by cases h) (fun _ => ⟨img, hbd, ?_⟩))⟩, ?_⟩
    · refine (Image_spec hdd).mono ?_
      rintro e w41 ⟨ti, rfl, hti, hfi, k41⟩
      refine ⟨_, rfl, ⟨img, bytesAt_keep hbd k41, rfl⟩, _, hti.bytes, BIf_ndec (fun hne => absurd rfl hne) (fun _ => ?_)⟩
      refine (Kept_spec t s img w41 (ht.keep ((k10.trans (Ext.drew none0 _)).trans k41)) (bytesAt_keep hbd k41) (by omega)).mono ?_
      rintro e w46 ⟨rfl, k46⟩
      exact ⟨_, rfl, BIf_mk (fun h => by cases h) (fun _ => (Keep.trans (Ext.drew none0 _) k41).trans k46)⟩
    · intro w48 k48
      intros
      have hd48 := hd.keep k48
      have hn1 : 1 ≤ img.length / 64 := by omega
      have hw2 : IntKind.wrap .u64 (((s.l : Nat) : Int) / 64) = ((img.length / 64 : Nat) : Int) := by
        rw [wrapU (by omega)]; omega
      have hu := wrapU_nn at_
      generalize IntKind.wrap .u64 at_ = u at hu
      rw [hw2]
      refine ⟨by omega, by omega, inR64 (by omega), hu, by omega, ?_⟩
      have hm0 : 0 ≤ u % ((img.length / 64 : Nat) : Int) := Int.emod_nonneg _ (by omega)
      have hm1 : u % ((img.length / 64 : Nat) : Int) < ((img.length / 64 : Nat) : Int) := Int.emod_lt_of_pos _ (by omega)
      generalize u % ((img.length / 64 : Nat) : Int) = m at hm0 hm1
      have hwm : IntKind.wrap .i64 m = m := wrap_inR (inR64 (by omega))
      rw [hwm]
      refine (Read_spec7 A hd48 m (hE.keep (kk.trans k48)) (by simp)).mono ?_
      rintro e w71 ⟨k71, h71⟩
      have hin : hasD ⟨img, [], false, 0⟩ m = true := by
        show decide (0 ≤ m ∧ m < ((img.length / 64 : Nat) : Int)) = true
        exact decide_eq_true ⟨hm0, hm1⟩
      rw [if_neg (by rw [hin]; simp)] at h71
      obtain ⟨t2, rfl, ht2, hf2⟩ := h71
      have k71' := (kk.trans k48).trans k71
      have hrd : readD ⟨img, [], false, 0⟩ m = (img.take (64 * m + 64).toNat).drop (64 * m).toNat := by
        simp only [readD, lastW, Option.getD_none, secD]
        rw [List.drop_take]
        have e1 : (64 * m).toNat = m.toNat * 64 := by omega
        have e2 : (64 * m + 64).toNat = m.toNat * 64 + 64 := by omega
        rw [e1, e2]
        congr 1
        omega
      rw [hrd] at ht2
      have hbs : bytesAt w71.drew s img := bytesAt_keep hb k71'.drew
      have hsub := bytesAt_sub hbs (lo := (64 * m).toNat) (hi := (64 * m + 64).toNat) (c := s.c) (by omega) (by omega) (by omega)
      refine ⟨_, _, rfl, trivial, BIf_mk (fun _ => ?_) (fun h => by cases h)⟩
      refine ⟨_, (ht2.keep (Ext.drew none0 _)).bytes, ?_⟩
      refine ⟨inR64 (by omega), inR64 (by omega), inR64 (by omega), by omega, by omega, by omega, by omega, _, hsub, BIf_dec (fun _ => ?_) (fun hne => absurd rfl hne)⟩
      have hd71 := (hd48.keep k71).keep (Ext.drew none0 _)
      refine (Pending_spec hd71).mono ?_
      rintro e w78 ⟨rfl, rfl⟩
      refine ⟨_, rfl, BIf_dec (fun _ => ?_) (fun hne => absurd rfl hne)⟩
      refine ⟨by omega, by omega, inR64 (by omega), ?_⟩
      refine (Len_spec7 hd71).mono ?_
      rintro e w81 ⟨rfl, rfl⟩
      refine ⟨_, rfl, ?_, k71'.drew⟩
      have : (((DevS.mk img [] false 0).n : Nat) : Int) = ((s.l : Nat) : Int) / 64 := by
        show ((img.length / 64 : Nat) : Int) = _
        omega
      rw [this]
      simp
end Go.D
