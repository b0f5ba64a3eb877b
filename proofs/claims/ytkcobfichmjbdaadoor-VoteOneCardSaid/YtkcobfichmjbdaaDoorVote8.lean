/-
  WHAT IS PROVED: contracts of functions, and the plain law, for this proof. No further conditions.
-/
import Derived.Test.YtkcobfichmjbdaaDoorVote7
set_option linter.unusedVariables false
set_option linter.unusedSimpArgs false
namespace Go.D
open Go Go.Proofs

def S0 (n : Nat) (i : Nat) : PS := ⟨n, i, [UInt8.ofNat (97 + i)], -1, [], [], 0, 0⟩
theorem px0 (n : Nat) (hn : 1 ≤ n) : PX n (fun _ => VS.new) (S0 n) (fun _ => none) (fun _ _ => False) := by
  refine ⟨fun k hk => ⟨by show (-1 : Int) ≤ -1; omega, by show (-1 : Int) ≤ -1; omega, fun h => absurd h (by show ¬ (0 : Int) ≤ -1; omega), fun b h => h.elim⟩, fun b t h => (by cases h), fun i hi => ?_⟩
  refine ⟨rfl, ⟨by show (0 : Int) ≤ (i : Int); omega, by show (i : Int) % 4 = i; omega⟩, goodN hi, ⟨by show (-1 : Int) ≤ -1; omega, by show (-1 : Int) < (i : Int); omega, fun h => absurd h (by show ¬ (0 : Int) ≤ -1; omega)⟩, ⟨fun _ => false, cnt_zero n, fun k hk h => (by cases h)⟩, fun h => ?_, fun _ => rfl, ⟨fun _ => false, cnt_zero n, fun k hk h => (by cases h)⟩, fun _ _ _ => rfl⟩
  have : (n : Int) < 2 * ((0 : Nat) : Int) := h
  omega

theorem VoteOne_walk (voters : Int) (s2 : Slc) (xs : List (Int × Int × Bool × Bool)) (w : World) (hx : rowsR rdMove w s2 xs) :
    Calls Tryd.prog fn_tidewaterlaw11_VoteOne ⟨[.int .i64 voters, s2.v]⟩ w fun e w' => e = .returned (.bool true) ∧ Keep w w' := by
  have hsl := hx.1
  refine tidewaterlaw11_VoteOne_ok _ _ ?_
  unfold tidewaterlaw11_VoteOne
  refine (alive11_spec w).mono ?_
  rintro e w4 ⟨rfl, k4⟩
  refine ⟨_, rfl, BIf_mk (fun h => by cases h) (fun _ => BIf_dec (fun _ => ⟨rfl, k4⟩) (fun h100 => ?_))⟩
  obtain ⟨v, hv, hV, hV0⟩ := wrapmod voters 5 (by omega)
  rw [hV]
  refine ⟨hV0, by omega, inR64 (by omega), ?_⟩
  obtain ⟨n, hn, hN⟩ : ∃ n : Nat, (1 ≤ n ∧ n ≤ 5) ∧ (1 : Int) + (v : Int) = (n : Int) := ⟨v + 1, by omega, by omega⟩
  rw [hN]
  have hs4 := k4.size
  refine newS_mk (fun r6 w7 hr6 hb6 k7 hs7 => newS_mk (fun r8 w9 hr8 hb8 k9 hs9 => newS_mk (fun r10 w11 hr10 hb10 k11 hs11 => newS_mk (fun r12 w13 hr12 hb12 k13 hs13 => newS_mk (fun r14 w15 hr14 hb14 k15 hs15 => ?_)))))
  refine var_mk rfl rfl (fun r16 w18 hr16 o16 k18 hs18 => var_mk rfl rfl (fun r19 w21 hr19 o19 k21 hs21 => ?_))
  have hnew : ∀ {r : Nat} {wa : World}, wa.heap[r]? = some (.cells ⟨[.map none]⟩ 28) → Keep wa w21 → VoterAt w21 r (fun k => k = r) (fun _ => VS.new) := fun hb hk => (VoterAt.new hb).keep hk
  obtain ⟨vb, hvb⟩ : ∃ vb : Nat → Nat, vb = fun k => match k with | 0 => r6 | 1 => r8 | 2 => r10 | 3 => r12 | _ => r14 := ⟨_, rfl⟩
  obtain ⟨lab, hlab⟩ : ∃ lab : Nat → Nat, lab = fun b => if b = r6 then 1 else if b = r8 then 2 else if b = r10 then 3 else if b = r12 then 4 else if b = r14 then 5 else if b = r16 then 7 else 8 := ⟨_, rfl⟩
  have kall : Keep w w21 := (((((k4.trans k7).trans k9).trans k11).trans k13).trans k15).trans (k18.trans k21)
  have q0 : MQ (fun _ _ => False) w w21 0 r16 r19 vb lab (fun _ => VS.new) (fun _ => none) (fun _ => 0) (S0 n) := by
    refine ⟨kall, ?_, o19, ⟨?_, by omega⟩, ⟨?_, by omega⟩, fun k hk => ?_, fun i hi => by omega, fun _ _ h => h.elim⟩
    · rw [hvb]; exact o16.keep k21
    · rw [hlab]
      show (if r16 = r6 then 1 else if r16 = r8 then 2 else if r16 = r10 then 3 else if r16 = r12 then 4 else if r16 = r14 then 5 else if r16 = r16 then 7 else 8) = 7
      rw [if_neg (by omega), if_neg (by omega), if_neg (by omega), if_neg (by omega), if_neg (by omega), if_pos rfl]
    · rw [hlab]
      show (if r19 = r6 then 1 else if r19 = r8 then 2 else if r19 = r10 then 3 else if r19 = r12 then 4 else if r19 = r14 then 5 else if r19 = r16 then 7 else 8) = 8
      rw [if_neg (by omega), if_neg (by omega), if_neg (by omega), if_neg (by omega), if_neg (by omega), if_neg (by omega)]
    · rw [hvb, hlab]
      match k, hk with
      | 0, _ =>
        refine ⟨_, _, hnew hb6 ((((k9.trans k11).trans k13).trans k15).trans (k18.trans k21)), rfl, ?_⟩
        rintro b rfl
        exact ⟨if_pos rfl, by omega, by omega⟩
      | 1, _ =>
        refine ⟨_, _, hnew hb8 (((k11.trans k13).trans k15).trans (k18.trans k21)), rfl, ?_⟩
        rintro b rfl
        refine ⟨?_, by omega, by omega⟩
        dsimp only
        rw [if_neg (by omega), if_pos rfl]
      | 2, _ =>
        refine ⟨_, _, hnew hb10 ((k13.trans k15).trans (k18.trans k21)), rfl, ?_⟩
        rintro b rfl
        refine ⟨?_, by omega, by omega⟩
        dsimp only
        rw [if_neg (by omega), if_neg (by omega), if_pos rfl]
      | 3, _ =>
        refine ⟨_, _, hnew hb12 (k15.trans (k18.trans k21)), rfl, ?_⟩
        rintro b rfl
        refine ⟨?_, by omega, by omega⟩
        dsimp only
        rw [if_neg (by omega), if_neg (by omega), if_neg (by omega), if_pos rfl]
      | 4, _ =>
        refine ⟨_, _, hnew hb14 (k18.trans k21), rfl, ?_⟩
        rintro b rfl
        refine ⟨?_, by omega, by omega⟩
        dsimp only
        rw [if_neg (by omega), if_neg (by omega), if_neg (by omega), if_neg (by omega), if_pos rfl]
  -- the four sides begin
  refine ⟨fun i w25 => ∃ (k : Nat) (lab : Nat → Nat) (P : Nat → Option Nat) (B : Nat → Int), i = k ∧ k ≤ 4 ∧ MQ (fun _ _ => False) w w25 k r16 r19 vb lab (fun _ => VS.new) P B (S0 n), fun i _ => (4 - i).toNat, ⟨0, _, _, _, rfl, by omega, q0⟩, ?_⟩
  rintro i w25 ⟨k, lab, P, B, rfl, hk, q⟩
  intros
  refine BIf_dec (fun hlt => ?_) (fun hlt => ?_)
  · have hk4 : k < 4 := by omega
    have e1 : Int.toNat (k : Int) * 2 = k * 2 := by omega
    rw [e1, add_lit, add_lit, Nat.zero_add]
    obtain ⟨s1, s2⟩ := side_setB q.o19 hk4 ((k : Int) - 4)
    refine ⟨inR64 (by omega), by omega, by omega, s1, fun w42 hw => ?_⟩
    obtain ⟨o42, e42, z42⟩ := s2 w42 hw
    have q42 := q.setB (Nat.le_refl k) o42 e42
    have hbk : updN B k ((k : Int) - 4) k = (k : Int) - 4 := updN_same _ _ _
    refine ⟨by omega, by omega, ?_⟩
    have hcall := begin_spec r19 P _ k n w42 q42.o19 hk4 hn (by rw [hbk]; omega)
    rw [add_lit, Nat.zero_add] at hcall
    refine hcall.mono ?_
    rintro e w44 ⟨rfl, qq, rp, ra, ho, hp, hnw, he⟩
    refine ⟨_, rfl, BIf_mk (fun h => by cases h) (fun _ => ?_)⟩
    rw [hbk, show (k : Int) - 4 + 4 = (k : Int) by omega] at hp ho
    obtain ⟨lab', q'⟩ := q42.begins (c' := k + 1) (s' := S0 n k) ho hp hnw he (fun j hj => by omega)
    have eS : updN (S0 n) k (S0 n k) = S0 n := by
      funext x
      by_cases e : x = k
      · subst e; rw [updN_same]
      · rw [updN_ne _ _ e]
    rw [eS] at q'
    exact ⟨inR64 (by omega), ⟨k + 1, lab', _, _, rfl, by omega, q'⟩, by dsimp only; omega⟩
  · obtain rfl : k = 4 := by omega
    have p0 : Play (fun _ _ => False) w w25 n r16 r19 vb (fun _ => VS.new) (S0 n) 0 [] :=
      ⟨⟨lab, P, B, q⟩, ⟨_, _, px0 n hn.1, .inl rfl⟩, fun i hi => ⟨Nat.le_refl _, Nat.le_refl _, by show (i : Int) ≤ _; omega⟩⟩
    refine ⟨fun dec i w50 => ∃ (k : Nat) (X : Nat → List Value → Prop) (f : Nat → VS) (S : Nat → PS), i = k ∧ k ≤ xs.length ∧ Play X w w50 n r16 r19 vb f S (3 * k) dec, fun _ i _ => ((xs.length : Int) - i).toNat, ⟨0, _, _, _, rfl, by omega, p0⟩, ?_⟩
    rintro dec i w50 ⟨k, X, f, S, rfl, hkx, pl⟩
    intros
    refine BIf_dec (fun hlt => ?_) (fun hlt => ⟨rfl, pl.kp⟩)
    have hkl : k < xs.length := by omega
    obtain ⟨a, ha, hrow⟩ := rdMove_get (rowsR_keep hx pl.kp) hkl
    refine needSome_mk ha ⟨by omega, hlt, _, _, _, _, by rw [show Int.toNat (k : Int) * 4 = k * 4 by omega]; exact hrow, ?_⟩
    generalize xs[k] = x at hrow ⊢
    refine var_mk rfl rfl (fun r170 w172 hr170 o170 k172 hs172 => ?_)
    have pd := (pl.beside k172 hr170 o170).keep (Ext.drew _ w172)
    obtain ⟨who, hwho, hW, hW0⟩ := wrapmod x.1 4 (by omega)
    obtain ⟨j, hj, hJ, hJ0⟩ := wrapmod x.2.1 (n : Int) (by omega)
    have hU : IntKind.wrap .u64 (n : Int) = (n : Int) := wrapu_id n (by omega)
    have hw4 : who < 4 := by omega
    have hjn : j < n := by omega
    refine ⟨x.1, pd.obj.cell 0 (by simp), hW0, by omega, x.2.1, pd.obj.cell 1 (by simp), hJ0, by rw [hU]; omega, ?_⟩
    rw [hU, hW, hJ]
    have e2 : Int.toNat (who : Int) * 2 = who * 2 := by omega
    have e3 : Int.toNat (j : Int) * 1 = j := by omega
    rw [e2, e3]
    refine ⟨by omega, by omega, fun w2 => ∃ S, Play (fun r cs => r = r170 ∧ cs = [.int .i64 x.1, .int .i64 x.2.1, .bool x.2.2.1, .bool x.2.2.2]) w w2 n r16 r19 vb f S (3 * k + 1) dec, ⟨x.2.2.2, pd.obj.cell 3 (by simp), BIf_mk (fun _ => ?_) (fun _ => ⟨S, pd.mono (by omega)⟩)⟩, ?_⟩
    · refine (pd.begins hn (by omega) who hw4).mono ?_
      rintro e w178 ⟨rfl, S', p'⟩
      exact ⟨_, rfl, BIf_mk (fun h => by cases h) (fun _ => ⟨S', p'⟩)⟩
    rintro w180 ⟨S, p1⟩
    intros
    refine ⟨fun w2 => ∃ f S, Play (fun r cs => r = r170 ∧ cs = [.int .i64 x.1, .int .i64 x.2.1, .bool x.2.2.1, .bool x.2.2.2]) w w2 n r16 r19 vb f S (3 * k + 2) dec, ?_, ?_⟩
    · obtain ⟨r, c1, c2, c3⟩ := p1.asks (by omega) who hw4
      rw [add_lit, add_lit, add_lit, Nat.zero_add, Nat.zero_add]
      refine ⟨_, c1, c2.mono ?_⟩
      rintro e w194 ⟨rfl, rfl⟩
      refine ⟨_, _, rfl, fun b w2 => w2 = w194 ∧ b = (x.2.2.1 && decide ((S who).most (S who).yes)), ⟨x.2.2.1, p1.obj.cell 2 (by simp), BIf_mk (fun h => ⟨rfl, by rw [show x.2.2.1 = true from h]; rfl⟩) (fun h => ⟨rfl, by rw [show x.2.2.1 = false from h]; rfl⟩)⟩, ?_⟩
      rintro b w200 ⟨rfl, rfl⟩
      intros
      have p1d := p1.keep (Ext.drew _ w200)
      refine BIf_mk (fun hb => ?_) (fun hb => ⟨x.2.2.1, p1.obj.cell 2 (by simp), BIf_mk (fun hb2 => ?_) (fun hb2 => ⟨f, S, p1.mono (by omega)⟩)⟩)
      · have hm : (S who).most (S who).yes := of_decide_eq_true (Bool.and_eq_true_iff.1 hb).2
        obtain ⟨r', c1, c2, c3, c4⟩ := p1d.accept hn.2 (by omega) who j hw4 hjn hm
        rw [if_pos hm]
        refine ⟨_, c1, by omega, by omega, _, c2, _, c3, c4.mono ?_⟩
        rintro e w209 ⟨y, rfl, d1, d2⟩
        refine ⟨y, rfl, ⟨_, d1, rfl⟩, d2.mono ?_⟩
        rintro e w213 ⟨z, rfl, f', S', p'⟩
        exact ⟨z, rfl, f', S', p'⟩
      · obtain ⟨r', c1, c2, c3, c4⟩ := p1d.prepare hn.2 (by omega) who j hw4 hjn
        refine ⟨_, c1, by omega, by omega, _, c2, _, c3, c4.mono ?_⟩
        rintro e w220 ⟨y, b, t, rfl, d1, d2⟩
        refine ⟨_, _, _, rfl, ⟨_, d1, rfl⟩, d2.mono ?_⟩
        rintro e w226 ⟨z, rfl, f', S', p'⟩
        exact ⟨z, rfl, f', S', p'⟩
    · rintro w228 ⟨f, S, p2⟩
      intros
      obtain ⟨r, c1, c2, c3⟩ := p2.asks (by omega) who hw4
      rw [add_lit, Nat.zero_add]
      refine ⟨_, c1, c3.mono ?_⟩
      rintro e w278 ⟨rfl, rfl⟩
      refine ⟨_, _, rfl, BIf_ndec (fun hd => ?_) (fun hd => ?_)⟩
      · exact ⟨inR64 (by omega), ⟨k + 1, _, f, S, rfl, hkl, p2.mono (by omega)⟩, by dsimp only; omega⟩
      · obtain ⟨⟨c, hc, hc1, hc2⟩, hdd, p3⟩ := p2.decided hn.1 who hw4 hd
        rw [if_pos hd]
        rw [hc] at hdd p3 ⊢
        have fin : BIf (!decide ((([c] : List UInt8).length : Int) = 1)) (Ending.returned (Value.bool false) = .returned (.bool true) ∧ Keep w w278) (0 ≤ (0 : Int) ∧ (0 : Int) < ((([c] : List UInt8).length : Nat) : Int) ∧
            BIf (decide ((([c] : List UInt8).getD 0 0).toNat < (97 : Int))) (Ending.returned (Value.bool false) = .returned (.bool true) ∧ Keep w w278) (0 ≤ (0 : Int) ∧ (0 : Int) < ((([c] : List UInt8).length : Nat) : Int) ∧
            BIf (decide ((100 : Int) < (([c] : List UInt8).getD 0 0).toNat)) (Ending.returned (Value.bool false) = .returned (.bool true) ∧ Keep w w278) (inR .i64 ((k : Int) + 1) ∧
              ((∃ (k' : Nat) (X : Nat → List Value → Prop) (f : Nat → VS) (S : Nat → PS), ((k : Int) + 1) = k' ∧ k' ≤ xs.length ∧ Play X w w278 n r16 r19 vb f S (3 * k') [c]) ∧ ((xs.length : Int) - ((k : Int) + 1)).toNat < ((xs.length : Int) - (k : Int)).toNat)))) := by
          refine BIf_ndec (fun h => absurd rfl h) (fun _ => ⟨by omega, by simp, BIf_dec (fun h => ?_) (fun _ => ⟨by omega, by simp, BIf_dec (fun h => ?_) (fun _ => ⟨inR64 (by omega), ⟨k + 1, _, f, S, rfl, hkl, p3.mono (by omega)⟩, by omega⟩)⟩)⟩)
          · simp at h; omega
          · simp at h; omega
        refine BIf_ndec (fun hne => BIf_ndec (fun h => ?_) (fun _ => fin)) (fun _ => fin)
        exact absurd (hdd.resolve_left hne).symm h
end Go.D
