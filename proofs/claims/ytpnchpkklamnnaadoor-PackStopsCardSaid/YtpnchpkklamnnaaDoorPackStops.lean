/-
  WHAT IS PROVED: contracts of functions, and the plain law, for this proof. No further conditions.
-/
import Derived.Test.YtpnchpkklamnnaaDoorPackLeast
set_option linter.unusedVariables false
set_option linter.unusedSimpArgs false
namespace Go.D
open Go Go.Proofs

abbrev rdAsk : Rd (Int × Int × Int) := Rd.pair (Rd.int .i64) (Rd.pair (Rd.int .i64) (Rd.int .i64))
theorem rdAsk_get {w : World} {s : Slc} {xs : List (Int × Int × Int)} (h : rowsR rdAsk w s xs) {i : Nat} (hi : i < xs.length) :
    ∃ a, s.p = some a ∧ rowAt w (a.add (i * 3)) 0 [.int .i64 xs[i].1, .int .i64 xs[i].2.1, .int .i64 xs[i].2.2] := by
  obtain ⟨a, cs, h1, ⟨c1, c2, rfl, h2, ⟨c3, c4, rfl, h3, h4⟩⟩, h5⟩ := h.2.2.2 i hi
  obtain ⟨rfl, _⟩ := h2
  obtain ⟨rfl, _⟩ := h3
  obtain ⟨rfl, _⟩ := h4
  exact ⟨a, h1, h5⟩

theorem rMany0 (m : Int) (st : InS) : rMany m 0 [] st = (some [], st) := rfl
theorem rNums_err (a m : Int) (bs : List UInt8) (k : Nat) : rNums a m (bs, some k) = ([], (bs, some k)) := rfl

theorem InR.lt {A : Nat → Addr} {w : World} {r : Nat} {F : Nat → Prop} {st : InS} (h : InR A w r F st) : r < w.heap.size := by
  obtain ⟨s, h1, _⟩ := h
  exact h1.1.lt

theorem PackStops_walk (s sq : Slc) (b : List UInt8) (xs : List (Int × Int × Int)) (w : World) (hb : bytesAt w s b) (hx : rowsR rdAsk w sq xs) (A : Nat → Addr) (hE0 : Errs A w) :
    Calls Tryd.prog fn_tidewaterlaw04_PackStops ⟨[s.v, sq.v]⟩ w fun e w' => e = .returned (.bool true) ∧ Keep w w' := by
  have hE := hE0.b
  generalize hn0 : w.heap.size = n0 at hE
  have hsl := hb.1
  have hxl := hx.1
  refine tidewaterlaw04_PackStops_ok _ _ ?_
  unfold tidewaterlaw04_PackStops
  refine (alive04_spec A n0 w hE).mono ?_
  rintro e w4 ⟨rfl, k4⟩
  refine ⟨_, rfl, BIf_mk (fun h => by cases h) (fun _ => ⟨fun w' => w' = w4 ∧ s.l ≤ 300 ∧ sq.l ≤ 20, BIf_dec (fun _ => ⟨rfl, k4⟩) (fun h1 => BIf_dec (fun _ => ⟨rfl, k4⟩) (fun h2 => ⟨rfl, by omega, by omega⟩)), ?_⟩)⟩
  rintro w7 ⟨rfl, h300, h20⟩
  intros
  have hs4 := k4.size
  refine (Read_spec A s b w7 (bytesAt_keep hb k4) (by omega)).mono ?_
  rintro e w18 ⟨r, F, rfl, hR, k18', hr, hF⟩
  have k18 := k4.trans k18'
  have hrn : n0 ≤ r := by omega
  refine ⟨_, rfl, (In_Num_spec A n0 r F (b, none) (-1) w18 hR (by dsimp only; omega) (hE.keep k18) hrn).mono ?_⟩
  rintro e w21 ⟨rfl, hR21, k21'⟩
  have k21 : Keep w w21 := k18.ext k21' (fun k hk => by rw [show k = r from hk]; omega)
  obtain ⟨bs, k0, hk0, hst⟩ : ∃ (bs : List UInt8) (k : Nat), k < 19 ∧ rNum (-1) (b, none) = (0, (bs, some k)) := by
    rcases rNum_cases (-1) (b, none) with ⟨bs, k, h0, h⟩ | ⟨bs, k, h0, hk, h⟩ | ⟨n, rest, h0, h1, h2, h⟩ | ⟨n, rest, h0, h1, h2, h⟩
    · cases h0
    · cases h0
      exact ⟨_, k, by omega, h⟩
    · exact ⟨_, _, by omega, h⟩
    · omega
  have hbl : bs.length ≤ b.length := by have := rNum_len (-1) (b, none); rw [hst] at this; exact this
  rw [hst] at hR21 ⊢
  dsimp only at hR21
  refine ⟨_, rfl, (In_Left_spec A r F _ w21 hR21).mono ?_⟩
  rintro e w24 ⟨rfl, rfl⟩
  refine ⟨_, rfl, (In_Err_spec A r F _ w24 hR21).mono ?_⟩
  rintro e w27 ⟨rfl, rfl⟩
  refine ⟨_, rfl, trivial, BIf_mk (fun h => by cases h) (fun _ => ?_)⟩
  refine ⟨fun i w' => ∃ k : Nat, i = k ∧ k ≤ xs.length ∧ Keep w w' ∧ InR A w' r F (bs, some k0) ∧ (∀ k, F k → k < w'.heap.size), fun i _ => (xs.length - i).toNat, ⟨0, rfl, by omega, k21, hR21, fun k hk => by have := (hF k hk).2; have := k21'.size; omega⟩, ?_⟩
  rintro i w32 ⟨k, rfl, hkl, k32, hR32, hF32⟩
  intros
  have hrl := hR32.lt
  refine BIf_dec (fun hlt => ?_) (fun hlt => ?_)
  · have hk2 : k < xs.length := by omega
    obtain ⟨a, ha, hrow⟩ := rdAsk_get (rowsR_keep hx k32) hk2
    refine needSome_mk ha ⟨by omega, hlt, _, _, _, by rw [show Int.toNat (k : Int) * 3 = k * 3 by omega]; exact hrow, ?_⟩
    refine var_mk rfl rfl (fun r63 w65 hr63 ho kk hs65 => ⟨_, ho.cell 1 (by simp), ?_⟩)
    have k65 := k32.trans kk
    have hR65 := hR32.keep kk
    have hne : ¬ eqB r r63 := fun h => by rw [show r63 = r from h] at hr63; omega
    refine (In_Num_spec A n0 r F _ _ w65 hR65 (by dsimp only; omega) (hE.keep k65) hrn).mono ?_
    rintro e w68 ⟨rfl, hR68, k68'⟩
    have k68 : Keep w w68 := k65.ext k68' (fun k hk => by rw [show k = r from hk]; omega)
    have ho68 := ho.ext k68' hne
    refine ⟨_, rfl, BIf_ndec (fun h => absurd rfl h) (fun _ => ⟨_, ho68.cell 1 (by simp), ?_⟩)⟩
    refine (In_Text_spec A n0 r F _ _ w68 hR68 (by dsimp only [rNum]; omega) (hE.keep k68) hrn).mono ?_
    rintro e w72 ⟨rfl, hR72, k72'⟩
    have k72 : Keep w w72 := k68.ext k72' (fun k hk => by rw [show k = r from hk]; omega)
    have ho72 := ho68.ext k72' hne
    refine ⟨_, rfl, BIf_ndec (fun h => absurd rfl h) (fun _ => ⟨_, ho72.cell 1 (by simp), ?_⟩)⟩
    have hF72 : ∀ k, F k → k < w72.heap.size := fun k hk => by have := hF32 k hk; have := kk.size; have := k68'.size; have := k72'.size; omega
    refine (In_Nums_spec A n0 r F (bs, some k0) 5 _ w72 hR72 (by dsimp only; omega) (hE.keep k72) hrn hF72 (by omega)).mono ?_
    rintro e w76 ⟨t, rfl, ht, hR76, k76', hft⟩
    have k76 : Keep w w76 := k72.ext k76' (fun k hk => by rw [show k = r from hk]; omega)
    rw [rNums_err] at ht hR76
    have htl : t.l = 0 := ht.1
    refine ⟨t, rfl, BIf_ndec (fun h => by omega) (fun _ => ⟨inR64 (by omega), ⟨k + 1, rfl, hk2, k76, hR76, fun k hk => by have := hF72 k hk; have := k76'.size; omega⟩, by dsimp only; omega⟩)⟩
  · refine newS_mk (fun r78 w79 hr78 hb78 k79 hs79 => ?_)
    have k79w := k32.trans k79
    refine (OutS_Num A n0 r78 _ ([], none) (-1) w79 (OutS.new A hb78) (by omega) (by simp) (hE.keep k79w)).mono ?_
    rintro e w81 ⟨rfl, s81, h81, f81⟩
    have m0 : ∀ k, OutM r78 ⟨none, 0, 0⟩ k → w32.heap.size ≤ k := fun k hk => by rw [OutM_nil hk]; omega
    have k81 := f81.newM k79 m0
    refine ⟨rfl, (OutS_Num A n0 r78 _ _ 3 w81 h81 (by omega) (by simp [oNum]) (hE.keep (k32.trans k81))).mono ?_⟩
    rintro e w83 ⟨rfl, s83, h83, f83⟩
    have f83' := f81.trans f83
    have k83 := f83'.newM k79 m0
    have hl3 := oNum_len 3 (oNum (-1) ([], none))
    have hl1 : (oNum (-1) ([], none)).1.length = 0 := by simp [oNum]
    refine ⟨rfl, (OutS_Text A n0 r78 _ _ [120] w83 h83 (by omega) (by simp) (hE.keep (k32.trans k83))).mono ?_⟩
    rintro e w85 ⟨rfl, s85, h85, f85⟩
    have f85' := f83'.trans f85
    have k85 := f85'.newM k79 m0
    have hl5 : (oText [120] (oNum 3 (oNum (-1) ([], none)))).1.length ≤ 20 := by
      have := encN_len 1 0 (by omega)
      simp only [oText, List.length_append, List.length_singleton]; omega
    have her : (oText [120] (oNum 3 (oNum (-1) ([], none)))).2 = some 0 := by simp [oText, oNum]
    refine ⟨rfl, (OutS_Done A n0 r78 _ _ w85 h85 (by omega) (hE.keep (k32.trans k85))).mono ?_⟩
    rintro e w87 ⟨t, e2, rfl, g1, g2, g3, g5, g6⟩
    rw [her] at g3
    dsimp only at g3
    subst g3
    rw [g5 rfl]
    have k87' := k85.trans g1
    have k87 := k32.trans k87'
    have hR87 := hR32.keep k87'
    refine ⟨_, _, rfl, (In_Left_spec A r F _ w87 hR87).mono ?_⟩
    rintro e w91 ⟨rfl, rfl⟩
    refine ⟨_, rfl, BIf_dec (fun _ => ?_) (fun h => absurd rfl h)⟩
    refine (In_End_spec A n0 r F _ w91 hR87 (hE.keep k87)).mono ?_
    rintro e w94 ⟨rfl, rfl⟩
    refine ⟨_, rfl, (Num_o A n0 (rEnd (bs, some k0)) (by rintro k hk; cases hk; exact hk0) w94 (hE.keep k87)).mono ?_⟩
    rintro e w97 ⟨rfl, k97⟩
    refine ⟨_, rfl, (Num_o A n0 (some k0) (by rintro k hk; cases hk; exact hk0) w97 (hE.keep (k87.trans k97))).mono ?_⟩
    rintro e w100 ⟨rfl, k100⟩
    refine ⟨_, rfl, BIf_dec (fun _ => BIf_dec (fun _ => ?_) (fun h => absurd rfl h)) (fun h => absurd rfl h)⟩
    have k100' := k87.trans (k97.trans k100)
    refine (Num_o A n0 (some 0) (by rintro k hk; cases hk; omega) w100 (hE.keep k100')).mono ?_
    rintro e w103 ⟨rfl, k103⟩
    exact ⟨_, rfl, rfl, k100'.trans k103⟩
end Go.D
