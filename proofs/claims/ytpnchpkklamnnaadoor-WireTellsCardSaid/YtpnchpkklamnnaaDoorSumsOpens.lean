/-
  WHAT IS PROVED: contracts of functions, and the plain law, for this proof. No further conditions.
-/
import Derived.Test.YtpnchpkklamnnaaDoorKept
import Derived.Test.YtpnchpkklamnnaaDoorVCopens
set_option linter.unusedVariables false
set_option linter.unusedSimpArgs false
namespace Go.D
open Go Go.Proofs

theorem openR_err {b : List UInt8} {k : Nat} (h : openR b = .error k) : k < 19 := by
  unfold openR at h
  split at h
  · cases h; omega
  · split at h
    · cases h; omega
    · split at h
      · cases h; omega
      · split at h
        · cases h
        · cases h; omega

theorem nil_bytes (w : World) : bytesAt w ⟨none, 0, 0⟩ [] := ⟨rfl, .inl rfl⟩

theorem errs3 {A : Nat → Addr} {w : World} (h : Errs A w) : ErrsOn tyErr [gl_ErrShort, gl_ErrLong, gl_ErrSum] A w := h.sub (by decide)

/-- Num of what Open answered. -/
theorem Num_open (A : Nat → Addr) (w0 w1 w : World) (s t : Slc) (ev : Value) (b : List UInt8) (h : OpenRes A w0 w1 s t ev (openR b)) (hE : Errs A w) :
    Calls Tryd.prog fn_tidewaternum_Num ⟨[ev]⟩ w fun e w' => e = .returned (.int .i64 (codeR (openR b))) ∧ Keep w w' := by
  cases hr : openR b with
  | error k =>
    rw [hr] at h
    obtain ⟨_, _, rfl⟩ := h
    exact Num_spec A k (openR_err hr) w hE
  | ok xy =>
    rw [hr] at h
    obtain ⟨_, _, _, _, rfl⟩ := h
    refine (Num_nil w).mono ?_
    rintro e w' ⟨rfl, rfl⟩
    exact ⟨rfl, Ext.refl _ _⟩

theorem SumsOpens_walk (s : Slc) (b : List UInt8) (w : World) (hb : bytesAt w s b) (hc : s.l ≤ s.c) (A : Nat → Addr) (hE : Errs A w) :
    Calls Tryd.prog fn_tidewaterlaw01_SumsOpens ⟨[s.v]⟩ w fun e w' => e = .returned (.bool true) ∧ Keep w w' := by
  have hsl := hb.1
  refine tidewaterlaw01_SumsOpens_ok _ ?_
  unfold tidewaterlaw01_SumsOpens
  refine (alive01_spec w).mono ?_
  rintro e w3 ⟨rfl, hk3⟩
  refine ⟨_, rfl, BIf_mk (fun h => by cases h) (fun _ => BIf_dec (fun h => ⟨rfl, hk3⟩) (fun h => ?_))⟩
  refine (Bytes_spec s b w3 (bytesAt_keep hb hk3) (by omega)).mono ?_
  rintro e w6 ⟨s7, rfl, hm, hf7, hk6⟩
  refine ⟨s7, rfl, ?_⟩
  have hk6' := hk3.trans hk6
  refine (Open_spec A s7 b w6 hm.bytes (by rw [hm.bytes.1]; omega) hm.cap (errs3 (hE.keep hk6'))).mono ?_
  rintro e w9 ⟨s10, s11, ev, rfl, hr, hk9⟩
  refine ⟨s10, s11, ev, rfl, ?_⟩
  have hk9' := hk6'.trans hk9
  refine (refOpen_spec s b w9 (bytesAt_keep hb hk9') (by omega) hc).mono ?_
  rintro e w14 ⟨s15, s16, rfl, hr2, hk14⟩
  have hk14' := hk9'.trans hk14
  refine ⟨s15, s16, _, rfl, ?_⟩
  obtain ⟨x, y, hx, hy, hx2, hy2⟩ : ∃ x y : List UInt8, bytesAt w14 s10 x ∧ bytesAt w14 s11 y ∧ bytesAt w14 s15 x ∧ bytesAt w14 s16 y := by
    cases hr0 : openR b with
    | error k =>
      rw [hr0] at hr hr2
      obtain ⟨rfl, rfl, _⟩ := hr
      obtain ⟨rfl, rfl⟩ := hr2
      exact ⟨[], [], nil_bytes _, nil_bytes _, nil_bytes _, nil_bytes _⟩
    | ok xy =>
      rw [hr0] at hr hr2
      exact ⟨xy.1, xy.2, bytesAt_keep hr.1 hk14, bytesAt_keep hr.2.1 hk14, hr2.1, hr2.2.1⟩
  refine ⟨x, hx, x, hx2, BIf_dec (fun _ => ⟨y, hy, y, hy2, BIf_dec (fun _ => ?_) (fun h => absurd rfl h)⟩) (fun h => absurd rfl h)⟩
  refine (Num_open A w6 w9 w14 s10 s11 ev b hr (hE.keep hk14')).mono ?_
  rintro e w23 ⟨rfl, hk23⟩
  refine ⟨_, rfl, BIf_dec (fun _ => ?_) (fun h => absurd rfl h)⟩
  have hk23' := hk14'.trans hk23
  refine (Kept_spec s7 s b w23 (hm.keep ((hk9.trans hk14).trans hk23)) (bytesAt_keep hb hk23') (by omega)).mono ?_
  rintro e w26 ⟨rfl, hk26⟩
  exact ⟨_, rfl, rfl, hk23'.trans hk26⟩

theorem openR_frame (b r : List UInt8) (hl : b.length ≤ 2048) : openR (frameB b ++ r) = .ok (b, r) := by
  obtain ⟨b0, b1, h01⟩ : ∃ b0 b1, le2 b.length = [b0, b1] := ⟨_, _, rfl⟩
  obtain ⟨c0, c1, c2, c3, hc⟩ : ∃ c0 c1 c2 c3, le4 (crc (le2 b.length ++ b)) = [c0, c1, c2, c3] := ⟨_, _, _, _, rfl⟩
  have e : frameB b ++ r = b0 :: b1 :: c0 :: c1 :: c2 :: c3 :: (b ++ r) := by
    rw [frameB, hc, h01]; simp
  have hlen : lenOf (frameB b ++ r) = b.length := by
    rw [e]
    have h0 := congrArg (fun l => l.map UInt8.toNat) h01
    simp only [le2, List.map_cons, List.map_nil, UInt8.toNat_ofNat', List.cons.injEq, and_true] at h0
    show b0.toNat + 256 * b1.toNat = b.length
    omega
  have htext : textOf (frameB b ++ r) = b := by
    rw [textOf, hlen, e, Nat.add_comm 6]
    show (b ++ r).take b.length = b
    simp
  have htake : (frameB b ++ r).take (6 + b.length) = frameB b := by
    rw [Nat.add_comm, ← frameB_length]; simp
  have hiff := frame_iff (frameB b ++ r) (by rw [hlen]; simp [frameB_length]; omega)
  rw [hlen, htext, htake] at hiff
  have hcrc := hiff.1 rfl
  rw [openR, hlen, htext, if_neg (by simp [frameB_length]; omega), if_neg (by omega), if_neg (by simp [frameB_length]; omega), if_pos hcrc]
  congr 2
  rw [Nat.add_comm, ← frameB_length]; simp

theorem Frame_long (A : Nat → Addr) (s : Slc) (b : List UInt8) (w : World) (hb : bytesAt w s b) (hl : 2048 < b.length) (hE : ErrsOn tyErr [gl_ErrShort, gl_ErrLong, gl_ErrSum] A w) :
    Calls Tryd.prog fn_sums_Frame ⟨[s.v]⟩ w fun e w' => e = .returned (.tuple ⟨[(⟨none, 0, 0⟩ : Slc).v, errV A gl_ErrLong]⟩) ∧ Keep w w' := by
  have hsl := hb.1
  refine sums_Frame_ok _ ?_
  unfold sums_Frame
  refine BIf_dec (fun h => ⟨_, (hE.1 gl_ErrLong (by simp)).1, rfl, Ext.drew _ _⟩) (fun h => by omega)

theorem SumsFrames_walk (s t : Slc) (b r : List UInt8) (w : World) (hb : bytesAt w s b) (hr : bytesAt w t r) (hc : s.l ≤ s.c) (A : Nat → Addr) (hE : Errs A w) :
    Calls Tryd.prog fn_tidewaterlaw01_SumsFrames ⟨[s.v, t.v]⟩ w fun e w' => e = .returned (.bool true) ∧ Keep w w' := by
  have hsl := hb.1
  have htl := hr.1
  refine tidewaterlaw01_SumsFrames_ok _ _ ?_
  unfold tidewaterlaw01_SumsFrames
  refine (alive01_spec w).mono ?_
  rintro e w4 ⟨rfl, hk4⟩
  refine ⟨_, rfl, BIf_mk (fun h => by cases h) (fun _ => ?_)⟩
  refine ⟨fun w2 => w2 = w4 ∧ b.length ≤ 3000 ∧ r.length ≤ 300, BIf_dec (fun h => ⟨rfl, hk4⟩) (fun h => BIf_dec (fun h2 => ⟨rfl, hk4⟩) (fun h2 => ⟨rfl, by omega, by omega⟩)), ?_⟩
  rintro w7 ⟨rfl, hb3, hr3⟩
  intros
  refine (Bytes_spec s b w7 (bytesAt_keep hb hk4) (by omega)).mono ?_
  rintro e w18 ⟨s19, rfl, hm, hf19, hk18⟩
  have k18 := hk4.trans hk18
  refine ⟨s19, rfl, ?_⟩
  have hml := hm.bytes.1
  by_cases hlong : 2048 < b.length
  · refine (Frame_long A s19 b w18 hm.bytes hlong (errs3 (hE.keep k18))).mono ?_
    rintro e w21 ⟨rfl, hk21⟩
    have k21 := k18.trans hk21
    refine ⟨_, _, rfl, ?_⟩
    refine (Kept_spec s19 s b w21 (hm.keep hk21) (bytesAt_keep hb k21) (by omega)).mono ?_
    rintro e w25 ⟨rfl, hk25⟩
    have k25 := k21.trans hk25
    refine ⟨_, rfl, BIf_mk (fun h => by cases h) (fun _ => BIf_dec (fun _ => BIf_dec (fun _ => ?_) (fun h => absurd rfl h)) (fun h => by omega))⟩
    refine (Num_spec A 2 (by omega) w25 (hE.keep k25)).mono ?_
    rintro e w28 ⟨rfl, hk28⟩
    refine ⟨_, rfl, BIf_dec (fun _ => ?_) (fun h => absurd rfl h)⟩
    refine (Size_spec _ (by omega) w28).mono ?_
    rintro e w31 ⟨rfl, rfl⟩
    refine ⟨_, rfl, ?_, k25.trans hk28⟩
    rw [if_pos (.inr (by omega))]; rfl
  · refine (Frame_spec s19 b w18 hm.bytes (by omega)).mono ?_
    rintro e w21 ⟨f, rfl, hf, hff, hk21⟩
    have k21 := k18.trans hk21
    refine ⟨f, .nilIface, rfl, ?_⟩
    refine (Kept_spec s19 s b w21 (hm.keep hk21) (bytesAt_keep hb k21) (by omega)).mono ?_
    rintro e w25 ⟨rfl, hk25⟩
    have k25 := k21.trans hk25
    have hf25 := hf.keep hk25
    have fl : f.l = b.length + 6 := by have := hf.bytes.1; rw [frameB_length] at this; exact this
    refine ⟨_, rfl, BIf_mk (fun h => by cases h) (fun _ => BIf_dec (fun h => by omega) (fun _ => ?_))⟩
    refine newS_mk (fun r33 w34 hr33 hb33 hk34 hs34 => ?_)
    refine append_bytes (vs := []) (w0 := w25) (Own.new (sz := 1) (n := 0) hb33 (.inl (by simp)) rfl) rfl (Fresh.at (by omega)) hk34 (srcAt_bytes (hf25.keep hk34).bytes) (by simp only [Src.n]; omega) (fun s35 w36 h1 h2 h3 h4 => ?_)
    have e1 := h1.1
    have l1 : s35.l = b.length + 6 := by simpa [frameB_length] using e1
    refine append_bytes h1 rfl h3 h2 (srcAt_bytes (bytesAt_keep hr (k25.trans h2))) (by simp only [Src.n]; omega) (fun s37 w38 h5 h6 h7 h8 => ?_)
    have k38 := k25.trans h6
    have h5' : bytesAt w38 s37 (frameB b ++ r) := by simpa using h5.bytes
    have l2 : s37.l = b.length + 6 + r.length := by have := h5'.1; simpa [frameB_length] using this
    refine (Open_spec A s37 (frameB b ++ r) w38 h5' (by omega) h5.cap (errs3 (hE.keep k38))).mono ?_
    rw [openR_frame b r (by omega)]
    rintro e w40 ⟨s41, s42, ev, rfl, ⟨hx, hy, _, _, rfl⟩, hk40⟩
    have k40 := k38.trans hk40
    have f40 : bytesAt w40.drew f (frameB b) := bytesAt_drew ((hf25.keep (h6.trans hk40)).bytes)
    refine ⟨s41, s42, .nilIface, rfl, trivial, BIf_mk (fun _ => ?_) (fun h => by cases h)⟩
    refine ⟨_, f40, ?_⟩
    refine (refFrame_spec s b w40.drew (bytesAt_drew (bytesAt_keep hb k40)) (by omega)).mono ?_
    rintro e w46 ⟨g, rfl, hg, _, hk46⟩
    refine ⟨g, rfl, ⟨_, bytesAt_keep f40 hk46, rfl⟩, _, hg.bytes, BIf_dec (fun _ => ?_) (fun h => absurd rfl h)⟩
    have hd46 : Keep w40 w46 := Keep.trans (Ext.drew _ _) hk46
    have k46 := k40.trans hd46
    refine (Size_spec _ (by omega) w46).mono ?_
    rintro e w51 ⟨rfl, rfl⟩
    rw [if_neg (by omega)]
    refine ⟨_, rfl, BIf_dec (fun _ => ?_) (fun h => absurd (by omega) h)⟩
    refine ⟨trivial, BIf_mk (fun _ => ?_) (fun h => by cases h)⟩
    refine ⟨_, bytesAt_keep hx hd46, _, bytesAt_keep hb k46, BIf_dec (fun _ => ?_) (fun h => absurd rfl h)⟩
    exact ⟨_, bytesAt_keep hy hd46, _, bytesAt_keep hr k46, by simp, k46⟩
end Go.D
