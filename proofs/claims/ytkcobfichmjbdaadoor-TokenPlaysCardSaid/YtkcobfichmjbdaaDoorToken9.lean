/-
  WHAT IS PROVED: contracts of functions, and the plain law, for this proof. No further conditions.
-/
import Derived.Test.YtkcobfichmjbdaaDoorToken8
set_option linter.unusedVariables false
set_option linter.unusedSimpArgs false
namespace Go.D
open Go Go.Proofs

theorem Next_bad (A : Nat → Addr) (r : Nat) (F : Nat → Prop) (e n ep : Int) (sl : Nat → Slc) (L : Nat → List Int) (w : World) (h : SeqAt 4 w r F e n sl L) (hep : ep ≠ e) (hE : Errs A w) :
    Calls Tryd.prog fn_token_Sequencer_Next ⟨[.pointer (some ⟨r, 0, none⟩), .int .i64 ep]⟩ w fun y w' => y = .returned (.tuple ⟨[.int .i64 0, errV A (errG.getD 7 0)]⟩) ∧ Keep w w' := by
  refine token_Sequencer_Next_ok _ _ ?_
  unfold token_Sequencer_Next
  exact needSome_mk rfl ⟨e, h.c0, BIf_ndec (fun hh => ⟨_, Errs.at (hE.keep (Ext.drew _ w)) 7 (by omega), rfl, Ext.drew _ _⟩) (fun hh => absurd hh hep)⟩
theorem Newest_bad (A : Nat → Addr) (r : Nat) (F : Nat → Prop) (e n ep x : Int) (sl : Nat → Slc) (L : Nat → List Int) (w : World) (h : SeqAt 4 w r F e n sl L) (hep : ep ≠ e) (hE : Errs A w) :
    Calls Tryd.prog fn_token_Sequencer_Newest ⟨[.pointer (some ⟨r, 0, none⟩), .int .i64 ep, .int .i64 x]⟩ w fun y w' => y = .returned (.tuple ⟨[(Slc.v ⟨none, 0, 0⟩), errV A (errG.getD 7 0)]⟩) ∧ Keep w w' := by
  refine token_Sequencer_Newest_ok _ _ _ ?_
  unfold token_Sequencer_Newest
  exact needSome_mk rfl ⟨e, h.c0, BIf_ndec (fun hh => ⟨_, Errs.at (hE.keep (Ext.drew _ w)) 7 (by omega), rfl, Ext.drew _ _⟩) (fun hh => absurd hh hep)⟩
theorem Newest_out (A : Nat → Addr) (r : Nat) (F : Nat → Prop) (e n x : Int) (sl : Nat → Slc) (L : Nat → List Int) (w : World) (h : SeqAt 4 w r F e n sl L) (hx : ¬ (0 ≤ x ∧ x ≤ 12)) (hE : Errs A w) :
    Calls Tryd.prog fn_token_Sequencer_Newest ⟨[.pointer (some ⟨r, 0, none⟩), .int .i64 e, .int .i64 x]⟩ w fun y w' => y = .returned (.tuple ⟨[(Slc.v ⟨none, 0, 0⟩), errV A (errG.getD 0 0)]⟩) ∧ Keep w w' := by
  refine token_Sequencer_Newest_ok _ _ _ ?_
  unfold token_Sequencer_Newest
  refine needSome_mk rfl ⟨e, h.c0, BIf_ndec (fun hh => absurd rfl hh) (fun _ => ?_)⟩
  refine (stream_spec x w).mono ?_
  rintro y w8 ⟨rfl, rfl⟩
  exact ⟨_, rfl, BIf_ndec (fun hh => ⟨_, Errs.at (hE.keep (Ext.drew _ w8)) 0 (by omega), rfl, Ext.drew _ _⟩) (fun hh => absurd hh hx)⟩
theorem Epoch_spec (r : Nat) (F : Nat → Prop) (e n : Int) (sl : Nat → Slc) (L : Nat → List Int) (w : World) (h : SeqAt 4 w r F e n sl L) :
    Calls Tryd.prog fn_token_Sequencer_Epoch ⟨[.pointer (some ⟨r, 0, none⟩)]⟩ w fun y w' => y = .returned (.int .i64 e) ∧ w' = w := by
  refine token_Sequencer_Epoch_ok _ ?_
  exact needSome_mk rfl ⟨e, h.c0, rfl, rfl⟩

theorem xor_one (e : Nat) : bitsI .xor (e : Int) 1 = ((e ^^^ 1 : Nat) : Int) := rfl
theorem xor_ne (e : Nat) : e ^^^ 1 ≠ e := by
  intro h
  have := congrArg (fun x => e ^^^ x) h
  simp only [← Nat.xor_assoc, Nat.xor_self, Nat.zero_xor] at this
  omega

theorem same_spec (A : Nat → Addr) (r rr : Nat) (F FF : Nat → Prop) (e n : Int) (sl ssl : Nat → Slc) (L LL : Nat → List Int) (w : World) (h : SeqAt 4 w r F e n sl L) (hr : SeqAt 100 w rr FF e n ssl LL) (hL : ∀ x, x < 13 → L x = (LL x).take 4) (he : 0 ≤ e ∧ e ≤ 2 ^ 40) (hE : Errs A w) :
    Calls Tryd.prog fn_tidewaterlaw13_same ⟨[.pointer (some ⟨r, 0, none⟩), .pointer (some ⟨rr, 0, none⟩)]⟩ w fun y w' => y = .returned (.bool true) ∧ Keep w w' := by
  obtain ⟨ee, rfl⟩ : ∃ ee : Nat, e = (ee : Int) := ⟨e.toNat, by omega⟩
  refine tidewaterlaw13_same_ok _ _ ?_
  unfold tidewaterlaw13_same
  have hx1 : bitsI .xor (ee : Int) 1 ≠ (ee : Int) := by
    rw [xor_one]; intro hh; exact xor_ne ee (by omega)
  refine needSome_mk rfl ⟨_, hr.c0, (Next_spec r F _ n sl L w h).mono ?_⟩
  rintro y w6 ⟨rfl, rfl⟩
  refine ⟨_, _, rfl, needSome_mk rfl ⟨_, hr.c0, by omega, by omega, inR64 (by omega), inR64 (by omega), ?_⟩⟩
  refine (Next_bad A r F _ n _ sl L w6 h hx1 hE).mono ?_
  rintro y w12 ⟨rfl, k12⟩
  have kd := k12.drew
  refine ⟨_, _, rfl, fun w2 => Keep w6 w2, ?_, ?_⟩
  · refine needSome_mk rfl ⟨n, by rw [add_lit]; exact (hr.keep kd).c1, BIf_ndec (fun hh => absurd rfl hh) (fun _ => ⟨trivial, BIf_mk (fun hh => by cases hh) (fun _ => needSome_mk rfl ⟨_, (hr.keep kd).c0, ?_⟩)⟩)⟩
    refine (Epoch_spec r F _ n sl L _ (h.keep kd)).mono ?_
    rintro y w21 ⟨rfl, rfl⟩
    refine ⟨_, rfl, ⟨_, (hr.keep kd).c0, rfl⟩, BIf_ndec (fun hh => absurd rfl hh) (fun _ => ?_)⟩
    refine (Num_spec A 7 (by omega) _ (hE.keep kd)).mono ?_
    rintro y w25 ⟨rfl, k25'⟩
    have k25 := kd.trans k25'
    refine ⟨_, rfl, BIf_ndec (fun hh => absurd rfl hh) (fun _ => ?_)⟩
    refine (Backs_spec r F _ n sl L w25 (h.keep k25)).mono ?_
    rintro y w28 ⟨o1, G1, rfl, b1, k28', _, _⟩
    refine ⟨o1, rfl, (refBacks_spec rr FF _ n ssl LL w28 (hr.keep (k25.trans k28'))).mono ?_⟩
    rintro y w31 ⟨o2, G2, rfl, b2, k31', _, _⟩
    have eb : backsL L 13 = backsL (fun x => (LL x).take 4) 13 := by
      have : ∀ k, k ≤ 13 → backsL L k = backsL (fun x => (LL x).take 4) k := by
        intro k
        induction k with
        | zero => intro _; rfl
        | succ k ih => intro hk; rw [backsL_succ, backsL_succ, ih (by omega), hL k (by omega)]
      exact this 13 (Nat.le_refl _)
    rw [eb] at b1
    refine ⟨o2, rfl, (SameBacks_spec o1 o2 _ G1 G2 w31 (b1.keep k31') b2 (by have := backsL_len (fun x => (LL x).take 4) 13; omega) (fun b hb => ?_)).mono ?_⟩
    · rw [backsL] at hb
      obtain ⟨x, hx, rfl⟩ := List.mem_map.1 hb
      simp; omega
    rintro y w34 ⟨rfl, k34⟩
    exact ⟨_, rfl, BIf_mk (fun hh => by cases hh) (fun _ => k25.trans (k28'.trans (k31'.trans k34)))⟩
  · rintro w36 k36
    intros
    refine ⟨fun i w2 => ∃ k : Nat, i = k ∧ k ≤ 13 ∧ Keep w6 w2, fun i _ => (13 - i).toNat, ⟨0, rfl, by omega, k36⟩, ?_⟩
    rintro i w73 ⟨k, rfl, hk, kp⟩
    intros
    have h73 := h.keep kp
    have hr73 := hr.keep kp
    refine BIf_dec (fun hlt => ?_) (fun hlt => ?_)
    · have hk13 : k < 13 := by omega
      refine needSome_mk rfl ⟨_, hr73.c0, (Newest_spec r F _ n sl L k hk13 w73 h73).mono ?_⟩
      rintro y w104 ⟨t, rfl, ht, _, _, k104⟩
      refine ⟨_, _, rfl, trivial, BIf_mk (fun hh => by cases hh) (fun _ => ?_)⟩
      refine (refNewest_spec rr FF _ n ssl LL k hk13 w104 (hr73.keep k104)).mono ?_
      rintro y w108 ⟨t2, rfl, ht2, k108⟩
      rw [← hL k hk13] at ht2
      refine ⟨_, rfl, (SameInts_spec _ _ _ _ w108 (intsAt_keep ht k108) ht2 (by have := (h.s k hk13).2.2.1; omega)).mono ?_⟩
      rintro y w111 ⟨rfl, k111⟩
      exact ⟨_, rfl, BIf_mk (fun hh => by simp at hh) (fun _ => ⟨inR64 (by omega), ⟨k + 1, rfl, by omega, kp.trans (k104.trans (k108.trans k111))⟩, by dsimp only; omega⟩)⟩
    · refine needSome_mk rfl ⟨_, hr73.c0, (Newest_out A r F _ n 13 sl L w73 h73 (by omega) (hE.keep kp)).mono ?_⟩
      rintro y w116 ⟨rfl, k116⟩
      refine ⟨_, _, rfl, needSome_mk rfl ⟨_, (hr73.keep k116).c0, (Newest_out A r F _ n (-1) sl L w116 (h73.keep k116) (by omega) (hE.keep (kp.trans k116))).mono ?_⟩⟩
      rintro y w122 ⟨rfl, k122'⟩
      have k122 := kp.trans (k116.trans k122')
      refine ⟨_, _, rfl, needSome_mk rfl ⟨_, (hr.keep k122).c0, by omega, by omega, inR64 (by omega), inR64 (by omega), (Newest_bad A r F _ n _ 0 sl L w122 (h.keep k122) hx1 (hE.keep k122)).mono ?_⟩⟩
      rintro y w128 ⟨rfl, k128'⟩
      have k128 := k122.trans k128'
      refine ⟨_, _, rfl, (Num_spec A 0 (by omega) w128 (hE.keep k128)).mono ?_⟩
      rintro y w132 ⟨rfl, k132'⟩
      have k132 := k128.trans k132'
      refine ⟨_, rfl, BIf_dec (fun _ => ?_) (fun hh => absurd rfl hh)⟩
      refine (Num_spec A 0 (by omega) w132 (hE.keep k132)).mono ?_
      rintro y w135 ⟨rfl, k135'⟩
      have k135 := k132.trans k135'
      refine ⟨_, rfl, BIf_dec (fun _ => ?_) (fun hh => absurd rfl hh)⟩
      refine (Num_spec A 7 (by omega) w135 (hE.keep k135)).mono ?_
      rintro y w138 ⟨rfl, k138⟩
      exact ⟨_, rfl, rfl, k135.trans k138⟩

theorem long13_spec (x1 x2 : Int) (s3 s4 : Slc) (xs ys : List (Int × (Slc × List Int))) (w : World) (hx : rowsR rdBack w s3 xs) (hy : rowsR rdBack w s4 ys) :
    Calls Tryd.prog fn_tidewaterlaw13_long ⟨[.agg ⟨[.int .i64 x1, .int .i64 x2, s3.v]⟩, s4.v]⟩ w fun y w' => ∃ b : Bool, y = .returned (.bool b) ∧ Keep w w' ∧ (b = false → xs.length ≤ 20 ∧ ys.length ≤ 60 ∧ (∀ x ∈ xs, x.2.2.length ≤ 20) ∧ ∀ y ∈ ys, y.2.2.length ≤ 10) := by
  have h3 := hx.1
  have h4 := hy.1
  refine tidewaterlaw13_long_ok _ _ _ _ ?_
  unfold tidewaterlaw13_long
  refine newS_mk (fun r5 w6 hr5 hb5 k6 hs6 => ?_)
  have o6 := ObjAt.new' hb5
  refine ⟨fun w2 => w2 = w6 ∧ xs.length ≤ 20 ∧ ys.length ≤ 60, ⟨s3, o6.cell 2 (by simp), BIf_dec (fun _ => ⟨true, rfl, k6, by simp⟩) (fun h1 => BIf_dec (fun _ => ⟨true, rfl, k6, by simp⟩) (fun h2 => ⟨rfl, by omega, by omega⟩))⟩, ?_⟩
  rintro w9 ⟨rfl, hl1, hl2⟩
  intros
  refine ⟨s3, o6.cell 2 (by simp), fun i w2 => ∃ k : Nat, i = k ∧ k ≤ xs.length ∧ Keep w w2 ∧ ∀ x ∈ xs.take k, x.2.2.length ≤ 20, fun i _ => ((xs.length : Int) - i).toNat, ⟨0, rfl, by omega, k6, by simp⟩, ?_⟩
  rintro i w24 ⟨k, rfl, hk, kp, hok⟩
  intros
  refine BIf_dec (fun hlt => ?_) (fun hlt => ?_)
  · have hkx : k < xs.length := by omega
    obtain ⟨a, ha, hrow, hint, _, _⟩ := rdBack_get (rowsR_keep hx kp) hkx
    have htk : xs.take (k + 1) = xs.take k ++ [xs[k]] := List.take_succ_eq_append_getElem hkx
    refine needSome_mk ha ⟨by omega, hlt, _, _, by rw [show Int.toNat (k : Int) * 2 = k * 2 by omega]; exact hrow, ?_⟩
    generalize xs[k] = x at hrow hint htk ⊢
    refine var_mk rfl rfl (fun r38 w40 hr38 o40 k40 hs40 => ⟨_, o40.cell 1 (by simp), BIf_dec (fun _ => ⟨true, rfl, kp.trans k40, by simp⟩) (fun h1 => ?_)⟩)
    have hil := hint.1
    refine ⟨inR64 (by omega), ⟨k + 1, rfl, hkx, kp.trans k40, ?_⟩, by dsimp only; omega⟩
    rw [htk]
    intro y hy
    rcases List.mem_append.1 hy with hy | hy
    · exact hok y hy
    · rw [List.mem_singleton.1 hy]; omega
  · have : k = xs.length := by omega
    subst this
    rw [List.take_length] at hok
    refine ⟨fun i w2 => ∃ k : Nat, i = k ∧ k ≤ ys.length ∧ Keep w w2 ∧ ∀ x ∈ ys.take k, x.2.2.length ≤ 10, fun i _ => ((ys.length : Int) - i).toNat, ⟨0, rfl, by omega, kp, by simp⟩, ?_⟩
    rintro i w45 ⟨k, rfl, hk, kq, hok2⟩
    intros
    refine BIf_dec (fun hlt => ?_) (fun hlt => ?_)
    · have hkx : k < ys.length := by omega
      obtain ⟨a, ha, hrow, hint, _, _⟩ := rdBack_get (rowsR_keep hy kq) hkx
      have htk : ys.take (k + 1) = ys.take k ++ [ys[k]] := List.take_succ_eq_append_getElem hkx
      refine needSome_mk ha ⟨by omega, hlt, _, _, by rw [show Int.toNat (k : Int) * 2 = k * 2 by omega]; exact hrow, ?_⟩
      generalize ys[k] = x at hrow hint htk ⊢
      refine var_mk rfl rfl (fun r38 w40 hr38 o40 k40 hs40 => ⟨_, o40.cell 1 (by simp), BIf_dec (fun _ => ⟨true, rfl, kq.trans k40, by simp⟩) (fun h1 => ?_)⟩)
      have hil := hint.1
      refine ⟨inR64 (by omega), ⟨k + 1, rfl, hkx, kq.trans k40, ?_⟩, by dsimp only; omega⟩
      rw [htk]
      intro y hy
      rcases List.mem_append.1 hy with hy | hy
      · exact hok2 y hy
      · rw [List.mem_singleton.1 hy]; omega
    · have : k = ys.length := by omega
      subst this
      rw [List.take_length] at hok2
      exact ⟨false, rfl, kq, fun _ => ⟨hl1, hl2, hok, hok2⟩⟩
end Go.D
