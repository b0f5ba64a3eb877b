/-
  WHAT IS PROVED: contracts of functions, and the plain law, for this proof. No further conditions.
-/
import Derived.Test.YtaagbjbgaockdaaDoorNet7
set_option linter.unusedVariables false
set_option linter.unusedSimpArgs false
namespace Go.D
open Go Go.Proofs

theorem own1 {r l c k : Nat} (h : ownB ⟨some ⟨r, 0, none⟩, l, c⟩ k) : k = r := by obtain ⟨a, ha, rfl⟩ := h; cases ha; rfl

theorem alive32_spec (A : Nat → Addr) (w : World) (hE0 : Errs A w) : Calls Tryd.prog fn_tidewaterlaw32_alive ⟨[]⟩ w fun e w' => e = .returned (.bool true) ∧ Keep w w' := by
  refine tidewaterlaw32_alive_ok ?_
  unfold tidewaterlaw32_alive
  refine (New_spec A _ 2 w (Errs.b hE0)).mono ?_
  rintro e w2 (⟨hh, _⟩ | ⟨_, _, r, q, rfl, hN, k2, hM, hF⟩)
  · omega
  refine ⟨_, _, rfl, fun w' => w' = w2, ⟨trivial, BIf_mk (fun h => by cases h) (fun _ => BIf_mk (fun h => by cases h) (fun _ => rfl))⟩, ?_⟩
  rintro w6 rfl
  intros
  refine (Set_spec hN 1 false).mono ?_
  rintro e w15 ⟨rfl, q15, hN15, hT15⟩
  have z2 := k2.size
  have z15 := hT15.1.1.size
  have hM15 : ∀ k, NetM r q15 k → w.heap.size ≤ k := fun k hk => (hT15.1.2 k hk).elim (hM k) (fun h => by omega)
  have k15 : Keep w w15 := k2.ext hT15.1.1 hM
  refine ⟨rfl, newS_mk (fun r16 w17 hr16 hb16 k17 hs17 => ?_)⟩
  rintro w19 rfl
  obtain ⟨hb19, e19⟩ := markW_heap hb16
  have k19' : Keep w15 (markW w17 r16) := k17.step (by omega) e19
  have hby : bytesAt (markW w17 r16) ⟨some ⟨r16, 0, none⟩, 1, 1⟩ [97] := Own.bytes (b := [97]) (Own.new (sz := 1) (n := 1) hb19 (clear_mark 1) rfl)
  generalize markW w17 r16 = w19 at *
  have k19 := k15.trans k19'
  have hN19 := hN15.keep k19'
  refine (Send_spec A _ hN19 0 1 _ [97] hby (by simp) (by omega) (Errs.b (hE0.keep k19))).mono ?_
  intro e w21 hm
  have hR : sendE (setUp (upN (2 : Int).toNat) 1 false) 0 1 [97] = none := by decide
  rw [hR] at hm
  obtain ⟨rfl, q21, hN21, hT21⟩ := hm
  have k21 : Keep w w21 := k19.ext hT21.1.1 hM15
  have z19 := k19'.size
  have z21 := hT21.1.1.size
  have hM21 : ∀ k, NetM r q21 k → w.heap.size ≤ k := fun k hk => (hT21.1.2 k hk).elim (hM15 k) (fun h => by omega)
  refine ⟨_, _, rfl, ?_⟩
  refine (Deliver_spec A _ hN21 0 (by simp) (Errs.b (hE0.keep k21)) (Nat.le_refl _)).mono ?_
  rintro e w25 (⟨hn, _⟩ | ⟨i, hi, hin, hrf, rfl, k25'⟩ | ⟨i, hi, hin, hrf, _⟩)
  · exact absurd rfl (hn 0 (by simp))
  · have k25 := k21.trans k25'
    refine ⟨0, 0, 0, ⟨none, 0, 0⟩, _, rfl, var_mk (cs := msgC 0 0 0 ⟨none, 0, 0⟩) rfl rfl (fun r31 w33 hr31 o33 k33' hs33 => ?_)⟩
    have k33 := k25.trans k33'
    refine ⟨trivial, BIf_mk (fun _ => ?_) (fun hh => by cases hh)⟩
    refine BIf_dec (fun _ => ?_) (fun hh => absurd rfl hh)
    refine (Num_spec A 11 (by omega) w33 (hE0.keep k33)).mono ?_
    rintro e w35 ⟨rfl, k35'⟩
    have k35 := k33.trans k35'
    refine ⟨12, rfl, BIf_dec (fun _ => ?_) (fun hh => absurd rfl hh)⟩
    refine (Waiting_spec (hN21.keep ((k25'.trans k33').trans k35')) (by simp)).mono ?_
    rintro e w38 ⟨t, css, rfl, hRw, k38⟩
    have hl := hRw.sl
    refine ⟨t, rfl, ?_, k35.trans k38⟩
    rw [hl]
    rfl
  · exfalso
    have e0 : ([] ++ [((0 : Int), (0 : Int), (1 : Int), [(97 : UInt8)])] : List Msg)[i] = ((0 : Int), (0 : Int), (1 : Int), [(97 : UInt8)]) := by
      have : i = 0 := by simp at hi; omega
      subst this; rfl
    rw [e0] at hrf
    revert hrf
    decide

abbrev rdAct : Rd (Int × Int × Int × (Slc × List UInt8) × (Slc × List Int)) := Rd.pair (Rd.int .i64) (Rd.pair (Rd.int .i64) (Rd.pair (Rd.int .i64) (Rd.pair Rd.bytes Rd.ints)))
abbrev ActT := Int × Int × Int × (Slc × List UInt8) × (Slc × List Int)
def actC (x : ActT) : List Value := [.int .i64 x.1, .int .i64 x.2.1, .int .i64 x.2.2.1, x.2.2.2.1.1.v, x.2.2.2.2.1.v]
theorem rdAct_get {w : World} {s : Slc} {xs : List ActT} (h : rowsR rdAct w s xs) {i : Nat} (hi : i < xs.length) :
    ∃ a, s.p = some a ∧ rowAt w (Addr.add a (i * 5)) 0 (actC xs[i]) ∧ bytesAt w xs[i].2.2.2.1.1 xs[i].2.2.2.1.2 ∧ intsAt w xs[i].2.2.2.2.1 xs[i].2.2.2.2.2 := by
  obtain ⟨a, cs, ha, hc, hrow⟩ := h.2.2.2 i hi
  obtain ⟨_, _, rfl, ⟨rfl, _⟩, _, _, rfl, ⟨rfl, _⟩, _, _, rfl, ⟨rfl, _⟩, _, _, rfl, ⟨rfl, hb, _⟩, ⟨rfl, hs, _⟩⟩ := hc
  exact ⟨a, ha, hrow, hb, hs⟩

theorem long32_spec (s : Slc) (xs : List ActT) (w : World) (h : rowsR rdAct w s xs) :
    Calls Tryd.prog fn_tidewaterlaw32_long ⟨[s.v]⟩ w fun e w' => ∃ b, e = .returned (.bool b) ∧ Keep w w' ∧ (b = false → xs.length ≤ 80 ∧ ∀ x ∈ xs, x.2.2.2.1.2.length ≤ 5000 ∧ x.2.2.2.2.2.length ≤ 30) := by
  have hl := h.1
  refine tidewaterlaw32_long_ok _ ?_
  unfold tidewaterlaw32_long
  refine BIf_dec (fun h1 => ⟨true, rfl, Ext.refl _ _, fun hh => by cases hh⟩) (fun h1 => ?_)
  refine ⟨fun i w2 => ∃ k : Nat, i = k ∧ k ≤ xs.length ∧ Keep w w2 ∧ ∀ x ∈ xs.take k, x.2.2.2.1.2.length ≤ 5000 ∧ x.2.2.2.2.2.length ≤ 30, fun i _ => ((xs.length : Int) - i).toNat, ⟨0, rfl, by omega, Ext.refl _ _, by simp⟩, ?_⟩
  rintro i w2 ⟨k, rfl, hk, k2, hx⟩
  intros
  refine BIf_dec (fun h2 => ?_) (fun h2 => ⟨false, rfl, k2, fun _ => ⟨by omega, by rw [List.take_of_length_le (by omega)] at hx; exact hx⟩⟩)
  have hkl : k < xs.length := by omega
  obtain ⟨a, ha, hrow, hb, hs⟩ := rdAct_get (rowsR_keep h k2) hkl
  have hbl := hb.1
  have hsl := hs.1
  refine needSome_mk ha ⟨by omega, h2, _, _, _, _, _, by rw [show Int.toNat (k : Int) * 5 = k * 5 by omega]; exact hrow, ?_⟩
  refine var_mk (cs := actC xs[k]) rfl rfl (fun r28 w30 hr28 o30 k30 hs30 => ?_)
  have k3 := k2.trans k30
  refine ⟨_, o30.cell 3 (by simp [actC]), BIf_dec (fun h3 => ⟨true, rfl, k3, fun hh => by cases hh⟩) (fun h3 => ?_)⟩
  refine ⟨_, o30.cell 4 (by simp [actC]), BIf_dec (fun h4 => ⟨true, rfl, k3, fun hh => by cases hh⟩) (fun h4 => ?_)⟩
  refine ⟨inR64 (by omega), ⟨k + 1, rfl, hkl, k3, fun x hx' => ?_⟩, by dsimp only; omega⟩
  have e5 : xs.take (k + 1) = xs.take k ++ [xs[k]] := by rw [List.take_add_one, List.getElem?_eq_getElem hkl]; rfl
  rw [e5, List.mem_append, List.mem_singleton] at hx'
  rcases hx' with h6 | rfl
  · exact hx x h6
  · exact ⟨by omega, by omega⟩

theorem waitL_append : ∀ (a b : List Rmsg) (k : Nat), waitL k (a ++ b) = waitL k a ++ waitL (k + a.length) b
  | [], b, k => by simp [waitL]
  | y :: a, b, k => by
    have := waitL_append a b (k + 1)
    have e : k + 1 + a.length = k + (a.length + 1) := by omega
    simp only [List.cons_append, waitL, this, List.length_cons, e]
    split <;> rfl
theorem wait_next {all : List Rmsg} {j : Nat} (hj : j < all.length) : waitL 0 (all.take (j + 1)) = waitL 0 (all.take j) ++ (if all[j].2.2.2 = true then [] else [msgOf j all[j]]) := by
  have e5 : all.take (j + 1) = all.take j ++ [all[j]] := by rw [List.take_add_one, List.getElem?_eq_getElem hj]; rfl
  rw [e5, waitL_append]
  congr 1
  rw [show 0 + (all.take j).length = j by rw [List.length_take]; omega]
  simp only [waitL]
theorem wait_get {all : List Rmsg} {j : Nat} (hj : j < all.length) (hg : all[j].2.2.2 = false) : ∃ h : (waitL 0 (all.take j)).length < (waitL 0 all).length, (waitL 0 all)[(waitL 0 (all.take j)).length] = msgOf j all[j] := by
  have e : waitL 0 all = waitL 0 (all.take (j + 1)) ++ waitL (0 + (all.take (j + 1)).length) (all.drop (j + 1)) := by
    conv => lhs; rw [← List.take_append_drop (j + 1) all]
    exact waitL_append _ _ _
  rw [wait_next hj, if_neg (by rw [hg]; decide)] at e
  have h : (waitL 0 (all.take j)).length < (waitL 0 all).length := by rw [e]; simp
  refine ⟨h, ?_⟩
  have : (waitL 0 all)[(waitL 0 (all.take j)).length]? = some (msgOf j all[j]) := by rw [e]; simp
  rw [List.getElem?_eq_getElem h] at this
  exact Option.some.inj this

variable {w0 w : World} {r rr : Nat} {ns : List (Bool × Bool)} {all : List Rmsg}
theorem same32_spec (h : St w0 w r rr ns all) (n : Int) (hn : 0 ≤ n ∧ n ≤ 100) (hlen : all.length < 4096) :
    Calls Tryd.prog fn_tidewaterlaw32_same ⟨[ptrR r, ptrR rr, .int .i64 n]⟩ w fun e w' => e = .returned (.bool true) ∧ Keep w w' := by
  obtain ⟨q, p, h⟩ := h
  have hwl := waitL_len all 0
  refine tidewaterlaw32_same_ok _ _ _ ?_
  unfold tidewaterlaw32_same
  refine (Waiting_spec h.net (by omega)).mono ?_
  rintro e w5 ⟨t, css, rfl, hR, k5⟩
  have B5 := h.keep k5
  have hrl := B5.ref.a.sl
  have htl := hR.sl
  refine ⟨t, rfl, needSome_mk rfl ⟨_, B5.ref.c2, fun k i w2 => ∃ j : Nat, i = j ∧ j ≤ all.length ∧ k = ((waitL 0 (all.take j)).length : Nat) ∧ Keep w5 w2, fun _ i _ => ((all.length : Int) - i).toNat, ⟨0, rfl, by omega, rfl, Ext.refl _ _⟩, ?_⟩⟩
  rintro k i w13 ⟨j, rfl, hj, rfl, k13⟩
  intros
  have B13 := B5.keep k13
  refine BIf_dec (fun h1 => ?_) (fun h1 => ?_)
  · have hjl : j < all.length := by omega
    obtain ⟨a, s, ha, _, _, _, hrow, hb⟩ := B13.ref.msg hjl
    refine needSome_mk ha ⟨by omega, h1, _, _, s, _, by rw [show Int.toNat (j : Int) * 4 = j * 4 by omega]; exact hrow, ?_⟩
    refine var_mk (cs := rmC all[j].1 all[j].2.1 s all[j].2.2.2) rfl rfl (fun r76 w78 hr76 o78 k78 hs78 => ?_)
    have k2 := k13.trans k78
    refine ⟨_, o78.cell 3 (by simp [rmC]), BIf_mk (fun hg => ?_) (fun hg => ?_)⟩
    · refine ⟨inR64 (by omega), ⟨j + 1, rfl, hjl, ?_, k2⟩, by dsimp only; omega⟩
      rw [wait_next hjl, if_pos hg, List.append_nil]
    · obtain ⟨hkl, hke⟩ := wait_get hjl hg
      have kd := k2.drew
      have hR2 := hR.keep kd
      have od := o78.keep (Ext.drew _ w78)
      have hkc : (waitL 0 (all.take j)).length < css.length := by rw [hR.len]; exact hkl
      obtain ⟨ap, hap, _, hrow2⟩ := hR2.get hkc
      obtain ⟨sm, hcs, hbm, _⟩ := hR2.row _ hkc hkl
      rw [hcs, hke] at hrow2
      rw [hke] at hbm
      have ek : Int.toNat (((waitL 0 (all.take j)).length : Nat) : Int) * 4 = (waitL 0 (all.take j)).length * 4 := by omega
      have c0 := hrow2.1
      rw [addr0] at c0
      refine BIf_dec (fun hh => by omega) (fun _ => needSome_mk hap ⟨by omega, by omega, _, by rw [ek]; exact c0, BIf_ndec (fun hh => absurd rfl hh) (fun _ => ?_)⟩)
      refine needSome_mk hap ⟨by omega, by omega, _, by rw [ek]; exact hrow2.2.1, _, od.cell 0 (by simp [rmC]), BIf_ndec (fun hh => absurd rfl hh) (fun _ => ?_)⟩
      refine needSome_mk hap ⟨by omega, by omega, _, by rw [ek]; exact hrow2.2.2.1, _, od.cell 1 (by simp [rmC]), BIf_ndec (fun hh => absurd rfl hh) (fun _ => ?_)⟩
      refine needSome_mk hap ⟨by omega, by omega, sm, by rw [ek]; exact hrow2.2.2.2.1, _, hbm, s, od.cell 2 (by simp [rmC]), all[j].2.2.1, bytesAt_keep (bytesAt_keep hb k78) (Ext.drew _ _), BIf_ndec (fun hh => absurd rfl hh) (fun _ => ?_)⟩
      refine ⟨inR64 (by omega), inR64 (by omega), ⟨j + 1, rfl, hjl, ?_, kd⟩, by dsimp only; omega⟩
      rw [wait_next hjl, if_neg (by rw [hg]; decide)]
      simp
  · obtain rfl : j = all.length := by omega
    refine ⟨fun i w2 => -1 ≤ i ∧ i ≤ n + 1 ∧ Keep w5 w2, fun i _ => (n + 1 - i).toNat, ⟨by omega, by omega, k13⟩, ?_⟩
    rintro i w96 ⟨hi1, hi2, k96⟩
    intros
    refine BIf_dec (fun h2 => ?_) (fun h2 => ?_)
    · have B96 := B5.keep k96
      refine (First_spec B96.net i (by omega)).mono ?_
      rintro e w126 ⟨n1, rfl, k126, hf1⟩
      have B126 := B96.keep k126
      refine ⟨n1, rfl, (refFirst_spec B126.ref i (by omega)).mono ?_⟩
      rintro e w129 ⟨n2, rfl, hf2, k129⟩
      have hnn : n1 = n2 := first_same (P := fun f t => t = i ∧ reachN ns f t = true) hf1 hf2
      have k3 := (k96.trans k126).trans k129
      refine ⟨n2, rfl, BIf_ndec (fun hh => absurd hnn hh) (fun _ => ?_)⟩
      refine ⟨fun j w2 => -1 ≤ j ∧ j ≤ n + 1 ∧ Keep w5 w2, fun j _ => (n + 1 - j).toNat, ⟨by omega, by omega, k3⟩, ?_⟩
      rintro j w134 ⟨hj1, hj2, k134⟩
      intros
      refine BIf_dec (fun h3 => ?_) (fun h3 => ⟨inR64 (by omega), ⟨by omega, by omega, k134⟩, by dsimp only; omega⟩)
      have B134 := B5.keep k134
      refine (Reach_spec B134.net i j).mono ?_
      rintro e w151 ⟨rfl, k151⟩
      refine ⟨_, rfl, (refReach_spec (B134.keep k151).ref i j).mono ?_⟩
      rintro e w154 ⟨rfl, k154⟩
      refine ⟨_, rfl, BIf_mk (fun hh => by simp at hh) (fun _ => ⟨inR64 (by omega), ⟨by omega, by omega, (k134.trans k151).trans k154⟩, by dsimp only; omega⟩)⟩
    · refine ⟨?_, k5.trans k96⟩
      rw [List.take_length, htl, decide_eq_true rfl]

theorem NetPlays_walk (n : Int) (s : Slc) (xs : List ActT) (w : World) (hx : rowsR rdAct w s xs) (A : Nat → Addr) (hE0 : Errs A w) :
    Calls Tryd.prog fn_tidewaterlaw32_NetPlays ⟨[.int .i64 n, s.v]⟩ w fun e w' => e = .returned (.bool true) ∧ Keep w w' := by
  have hsl := hx.1
  refine tidewaterlaw32_NetPlays_ok _ _ ?_
  unfold tidewaterlaw32_NetPlays
  refine (alive32_spec A w hE0).mono ?_
  rintro e w4 ⟨rfl, k4⟩
  refine ⟨_, rfl, BIf_mk (fun h => by cases h) (fun _ => ?_)⟩
  refine (long32_spec s xs w4 (rowsR_keep hx k4)).mono ?_
  rintro e w7 ⟨b, rfl, k7', hlong⟩
  have k7 := k4.trans k7'
  refine ⟨b, rfl, BIf_mk (fun _ => ⟨rfl, k7⟩) (fun hb => ?_)⟩
  obtain ⟨hxl, hxs⟩ := hlong hb
  refine (New_spec A _ n w7 (Errs.b (hE0.keep k7))).mono ?_
  rintro e w10 (⟨hh, rfl, k10'⟩ | ⟨hn1, hn2, r, q, rfl, hN, k10', hM, hF⟩)
  · have k10 := k7.trans k10'
    have fin : Calls Tryd.prog fn_tidewaternum_Num ⟨[errV A (errG.getD 0 0)]⟩ w10 fun e17 w18 => ∃ n19 : Int, e17 = .returned (Value.int .i64 n19) ∧ (Ending.returned (Value.bool (decide (n19 = (1 : Int)))) = .returned (.bool true) ∧ Keep w w18) := by
      refine (Num_spec A 0 (by omega) w10 (hE0.keep k10)).mono ?_
      rintro e w15 ⟨rfl, k15⟩
      exact ⟨1, rfl, rfl, k10.trans k15⟩
    refine ⟨_, _, rfl, fun _ => False, BIf_dec (fun h1 => ?_) (fun h1 => BIf_dec (fun h2 => ?_) (fun h2 => by omega)), fun _ hh => hh.elim⟩
    · exact BIf_mk (fun _ => fin) (fun hh => by cases hh)
    · exact BIf_mk (fun _ => fin) (fun hh => by cases hh)
  · have k10 := k7.trans k10'
    refine ⟨_, _, rfl, fun w' => w' = w10, BIf_dec (fun h1 => by omega) (fun h1 => BIf_dec (fun h2 => by omega) (fun h2 => rfl)), ?_⟩
    rintro w20 rfl
    intros
    refine ⟨fun w' => w' = w20, ⟨trivial, BIf_mk (fun h => by cases h) (fun _ => BIf_mk (fun h => by cases h) (fun _ => rfl))⟩, ?_⟩
    rintro w36 rfl
    intros
    obtain ⟨m, rfl⟩ : ∃ m : Nat, n = m := ⟨n.toNat, by omega⟩
    refine (refNew_spec m (by omega) w36).mono ?_
    rintro e w45 ⟨rr, p, rfl, hP, k45', hPM, hPF⟩
    have k45 := k10.trans k45'
    have hlt := hN.lt
    have z7 := k7.size
    have z10 := k10'.size
    rw [show Int.toNat (m : Int) = m by omega] at hN
    have B45 : Both w w45 r rr q p (upN m) (upN m) (waitL 0 []) ((([] : List Rmsg).length : Nat) : Int) [] := ⟨k45, hN.keep k45', hP, fun k hk hh => by have := hlt k hk; have := hPM k hh; omega, fun k hk => (hF k hk).elim, fun k hk => (hPF k hk).elim, fun k hk => by have := hM k hk; omega, fun k hk => by have := hPM k hk; omega⟩
    refine ⟨_, rfl, fun i w2 => ∃ (k : Nat) (ns : List (Bool × Bool)) (all : List Rmsg), i = k ∧ k ≤ xs.length ∧ St w w2 r rr ns all ∧ ns.length = m ∧ all.length ≤ k, fun i _ => ((xs.length : Int) - i).toNat,
      ⟨0, upN m, [], rfl, by omega, ⟨q, p, B45⟩, by simp [upN], by simp⟩, ?_⟩
    rintro i w50 ⟨k, ns, all, rfl, hk, hS, hnl, hal⟩
    intros
    have hS0 := hS
    obtain ⟨q5, p5, B⟩ := hS0
    refine BIf_dec (fun h3 => ?_) (fun h3 => ⟨rfl, B.k⟩)
    have hkl : k < xs.length := by omega
    obtain ⟨a, ha, hrow, _, _⟩ := rdAct_get (rowsR_keep hx B.k) hkl
    obtain ⟨_, _, _, hb0, hi0⟩ := rdAct_get hx hkl
    refine needSome_mk ha ⟨by omega, h3, _, _, _, _, _, by rw [show Int.toNat (k : Int) * 5 = k * 5 by omega]; exact hrow, ?_⟩
    refine var_mk (cs := actC xs[k]) rfl rfl (fun r75 w77 hr75 o77 k77 hs77 => ?_)
    refine ⟨_, _, _, _, _, o77.row, ?_⟩
    have hxk := hxs _ (List.getElem_mem hkl)
    refine (do_spec A hE0 (⟨q5, p5, B.keep k77⟩ : St w w77 r rr ns all) _ _ _ _ _ _ _ hb0 hi0 (by omega) (by omega) (by omega)).mono ?_
    rintro e w84 ⟨rfl, ns', all', hS', hnl', hal', _⟩
    refine ⟨_, rfl, BIf_mk (fun h => by cases h) (fun _ => ?_)⟩
    refine (same32_spec hS' (m : Int) (by omega) (by omega)).mono ?_
    rintro e w87 ⟨rfl, k87⟩
    obtain ⟨q6, p6, B6⟩ := hS'
    refine ⟨_, rfl, BIf_mk (fun h => by cases h) (fun _ => ⟨inR64 (by omega), ⟨k + 1, ns', all', rfl, hkl, ⟨q6, p6, B6.keep k87⟩, by omega, by omega⟩, by dsimp only; omega⟩)⟩
end Go.D
