/-
  WHAT IS PROVED: contracts of functions, and the plain law, for this proof. No further conditions.
-/
import Derived.Test.YtpnchpkklamnnaaDoorPackOut3
set_option linter.unusedVariables false
set_option linter.unusedSimpArgs false
namespace Go.D
open Go Go.Proofs

theorem wrapu64_nonneg (n : Int) : 0 ≤ IntKind.wrap .u64 n ∧ IntKind.wrap .u64 n ≤ 18446744073709551615 := by
  simp [IntKind.wrap, IntKind.bits, IntKind.signed]
  have h1 := Int.emod_nonneg n (b := 18446744073709551616) (by omega)
  have h2 := Int.emod_lt_of_pos n (b := 18446744073709551616) (by omega)
  omega
theorem wrapi64_id {n : Int} (h : -9223372036854775808 ≤ n ∧ n ≤ 9223372036854775807) : IntKind.wrap .i64 n = n := wrap_inR (inR64 h)
theorem repl_zero (k : Nat) : repl k [(Value.int .u8 (0 : Int))] = (List.replicate k (0 : UInt8)).map byteV := by
  simp [repl, byteV]
theorem encN_three {k : Nat} (h1 : 16384 ≤ k) (h2 : k < 2097152) : (encN k).length = 3 := by
  rw [encN_ge (by omega), List.length_cons, encN_ge (by omega), List.length_cons, encN_lt (by omega)]; rfl

theorem Num_o (A : Nat → Addr) (n0 : Nat) (e : Option Nat) (he : ∀ k, e = some k → k < 19) (w : World) (h : ErrsB A n0 w) :
    Calls Tryd.prog fn_tidewaternum_Num ⟨[errO A e]⟩ w fun x w' => x = .returned (.int .i64 (match e with | none => 0 | some k => ((k + 1 : Nat) : Int))) ∧ Keep w w' := by
  cases e with
  | none => exact (Num_nil w).mono (by rintro x w' ⟨rfl, rfl⟩; exact ⟨rfl, Ext.refl _ _⟩)
  | some k => exact Num_spec A k (he k rfl) w h.1

theorem PackLeast_walk (s : Slc) (b : List UInt8) (more : Int) (w : World) (hb : bytesAt w s b) (hc : s.l ≤ s.c) (A : Nat → Addr) (hE0 : Errs A w) :
    Calls Tryd.prog fn_tidewaterlaw04_PackLeast ⟨[s.v, .int .i64 more]⟩ w fun e w' => e = .returned (.bool true) ∧ Keep w w' := by
  have hE := hE0.b
  generalize hn0 : w.heap.size = n0 at hE
  have hsl := hb.1
  refine tidewaterlaw04_PackLeast_ok _ _ ?_
  unfold tidewaterlaw04_PackLeast
  refine (alive04_spec A n0 w hE).mono ?_
  rintro e w4 ⟨rfl, k4⟩
  refine ⟨_, rfl, BIf_mk (fun h => by cases h) (fun _ => BIf_dec (fun _ => ⟨rfl, k4⟩) (fun h100 => ?_))⟩
  refine (Read_spec A s b w4 (bytesAt_keep hb k4) (by omega)).mono ?_
  rintro e w7 ⟨r, F, rfl, hR, k7', hr, hF⟩
  have k7 := k4.trans k7'
  refine ⟨_, rfl, (In_Num_spec A n0 r F (b, none) 4611686018427387903 w7 hR (by dsimp only; omega) (hE.keep k7) (by have := k4.size; omega)).mono ?_⟩
  rintro e w10 ⟨rfl, hR10, k10'⟩
  have k10 : Keep w w10 := k7.ext k10' (fun k hk => by rw [show k = r from hk]; have := k4.size; omega)
  generalize hst : rNum 4611686018427387903 (b, none) = st at hR10
  have hstb : (∃ (k : Nat), st = (0, (b, some k)) ∧ (k = 1 ∨ k = 3)) ∨ ∃ (n : Nat) (rest : List UInt8), st = ((n : Int), (rest, none)) ∧ b = encN n ++ rest ∧ n ≤ 4611686018427387903 := by
    rcases rNum_cases 4611686018427387903 (b, none) with ⟨bs, k, h0, h⟩ | ⟨bs, k, h0, hk, h⟩ | ⟨n, rest, h0, h1, h2, h⟩ | ⟨n, rest, h0, h1, h2, h⟩
    · cases h0
    · cases h0
      exact .inl ⟨k, by rw [← hst, h], hk⟩
    · omega
    · simp only [Prod.mk.injEq, and_true] at h0
      exact .inr ⟨n, rest, by rw [← hst, h], h0, h1⟩
  have hlen : st.2.1.length ≤ b.length := by rw [← hst]; exact rNum_len _ _
  refine ⟨_, rfl, (In_Left_spec A r F st.2 w10 hR10).mono ?_⟩
  rintro e w13 ⟨rfl, rfl⟩
  refine ⟨_, rfl, fun w' => Keep w w', ⟨fun x w' => Keep w w' ∧ (x = true → ∃ (n : Nat) (rest : List UInt8), st = ((n : Int), (rest, none)) ∧ b = encN n ++ rest ∧ n ≤ 4611686018427387903), ?_, ?_⟩, ?_⟩
  · refine (In_End_spec A n0 r F st.2 w13 hR10 (hE.keep k10)).mono ?_
    rintro e w18 ⟨rfl, rfl⟩
    refine ⟨_, rfl, errO_isI _ _, BIf_mk (fun hnil => ?_) (fun hnil => ?_)⟩
    · refine ⟨k10, fun _ => ?_⟩
      rcases hstb with ⟨k, rfl, _⟩ | h
      · cases hnil
      · exact h
    · refine (In_End_spec A n0 r F st.2 w18 hR10 (hE.keep k10)).mono ?_
      rintro e w21 ⟨rfl, rfl⟩
      have hk19 : ∀ k, rEnd st.2 = some k → k < 19 := by
        intro k hk
        rcases hstb with ⟨j, rfl, hj⟩ | ⟨n, rest, rfl, _⟩
        · simp [rEnd] at hk; omega
        · simp [rEnd] at hk; omega
      refine ⟨_, rfl, (Num_o A n0 _ hk19 w21 (hE.keep k10)).mono ?_⟩
      rintro e w24 ⟨rfl, k24⟩
      refine ⟨_, rfl, BIf_mk (fun h => ⟨k10.trans k24, fun hx => ?_⟩) (fun h => ⟨k10.trans k24, fun hx => by cases hx⟩)⟩
      rcases hstb with ⟨j, rfl, hj⟩ | h
      · simp at hx; omega
      · exact h
  · rintro x27 w27 ⟨k27, hx27⟩
    intros
    refine BIf_mk (fun h => ?_) (fun h => k27)
    obtain ⟨n, rest, rfl, hbe, hn⟩ := hx27 h
    refine newS_mk (fun r42 w43 hr42 hb42 k43 hs43 => ?_)
    refine (OutS_Num A n0 r42 _ ([], none) (n : Int) w43 (OutS.new A hb42) (by omega) (by simp) (hE.keep (k27.trans k43))).mono ?_
    rintro e w45 ⟨rfl, s', h45, f45⟩
    have hk45 : Keep w27 w45 := f45.newM k43 (fun k hk => by rw [OutM_nil hk]; omega)
    have e1 : oNum (n : Int) ([], none) = (encN n, none) := by
      rw [oNum, if_neg (by omega)]; simp
    have hle := encN_len n 8 (by omega)
    rw [e1] at h45
    refine ⟨rfl, (OutS_Done A n0 r42 s' _ w45 h45 (by dsimp only; omega) (hE.keep (k27.trans hk45))).mono ?_⟩
    rintro e w47 ⟨t, e2, rfl, g1, g2, g3, g5, g6⟩
    have hle2 : ¬ 65536 < (encN n).length := by omega
    rw [if_neg hle2] at g3
    subst g3
    have k47 : Keep w w47.drew := (k27.trans (hk45.trans g1)).drew
    have hbl := congrArg List.length hbe
    simp only [List.length_append] at hbl
    dsimp only
    have e2 : Int.toNat (((s.l : Nat) : Int) - ((rest.length : Nat) : Int)) = (encN n).length := by omega
    refine ⟨t, _, rfl, trivial, BIf_mk (fun h => by cases h) (fun _ => ⟨encN n, g6 rfl, inR64 (by omega), by omega, by omega, by omega, by omega, encN n, ?_, BIf_mk (fun h => ?_) (fun h => k47)⟩)⟩
    · have := bytesAt_sub (bytesAt_keep hb k47) (lo := 0) (hi := (encN n).length) (c := s.c) (by omega) (by omega) (by omega)
      rw [e2]
      simpa [hbe] using this
    · simp at h
  · rintro w53 k53
    intros
    obtain ⟨hq0, hq1⟩ := wrapu64_nonneg more
    generalize hq : IntKind.wrap .u64 more = q at hq0 hq1
    rw [wrapi64_id (show -9223372036854775808 ≤ q % 10 ∧ q % 10 ≤ 9223372036854775807 by omega)]
    obtain ⟨m, hm⟩ : ∃ m : Nat, q % 10 = (m : Int) := ⟨(q % 10).toNat, by omega⟩
    have hm9 : m ≤ 9 := by omega
    rw [hm]
    have ek : Int.toNat ((65530 : Int) + (m : Int)) = 65530 + m := by omega
    refine ⟨hq0, by omega, inR64 (by omega), newS_mk (fun r97 w98 hr97 hb97 k98 hs98 => ⟨by omega, by omega, by omega, newS_mk (fun r99 w100 hr99 hb99 k100 hs100 => ?_)⟩)⟩
    rw [ek] at hb99 ⊢
    rw [repl_zero] at hb99
    have hz : bytesAt w100 ⟨some ⟨r99, 0, none⟩, 65530 + m, 65530 + m⟩ (List.replicate (65530 + m) 0) := (Own.new (sz := 1) hb99 (.inl (by simp)) (by simp)).bytes
    have ho : OutS A w100 r97 ⟨none, 0, 0⟩ ([], none) := OutAt.keep (OutS.new A hb97) k100
    have hEk := hE.keep (k53.trans (k98.trans k100))
    refine ⟨_, hz, (OutS_Text A n0 r97 _ ([], none) _ w100 ho (by simp) (by simp; omega) hEk).mono ?_⟩
    rintro e w103 ⟨rfl, s', h103, f103⟩
    have hk103 : Keep w53 w103 := f103.newM (k98.trans k100) (fun k hk => by rw [OutM_nil hk]; omega)
    have hlen3 := encN_three (k := 65530 + m) (by omega) (by omega)
    obtain ⟨z, hz1, hz2⟩ : ∃ z : List UInt8, oText (List.replicate (65530 + m) (0 : UInt8)) ([], none) = (z, none) ∧ z.length = 65530 + m + 3 :=
      ⟨_, rfl, by simp [hlen3]; omega⟩
    rw [hz1] at h103
    refine ⟨rfl, (OutS_Done A n0 r97 s' _ w103 h103 (by dsimp only; omega) (hE.keep (k53.trans hk103))).mono ?_⟩
    rintro e w105 ⟨t, e2, rfl, g1, g2, g3, g5, g6⟩
    have k105 := k53.trans (hk103.trans g1)
    dsimp only at g3 g6
    refine ⟨t, _, rfl, inR64 (by omega), BIf_dec (fun hgt => ?_) (fun hgt => ?_)⟩
    · rw [if_pos (by omega)] at g3
      subst g3
      rw [g5 rfl]
      refine BIf_dec (fun _ => ?_) (fun h => absurd rfl h)
      refine (Num_o A n0 (some 2) (by simp) w105 (hE.keep k105)).mono ?_
      rintro e w109 ⟨rfl, k109⟩
      exact ⟨_, rfl, by simp, k105.trans k109⟩
    · rw [if_neg (by omega)] at g3
      subst g3
      have hl := (g6 rfl).1
      refine ⟨trivial, BIf_mk (fun _ => ⟨inR64 (by omega), ?_, k105⟩) (fun h => by cases h)⟩
      have : ((t.l : Nat) : Int) = 65530 + (m : Int) + 3 := by omega
      simp [this]
end Go.D
