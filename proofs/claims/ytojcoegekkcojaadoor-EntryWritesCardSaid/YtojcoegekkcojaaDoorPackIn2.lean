/-
  WHAT IS PROVED: contracts of functions, and the plain law, for this proof. No further conditions.
-/
import Derived.Test.YtojcoegekkcojaaDoorPackIn
import Derived.Test.YtojcoegekkcojaaDoorPackOutS
import Derived.Test.YtojcoegekkcojaaDoorCloneB
import Derived.Test.YtojcoegekkcojaaDoorPackLaw
import Derived.Test.YtojcoegekkcojaaDoorErrB
import Derived.Test.YtojcoegekkcojaaDoorRd
set_option linter.unusedVariables false
set_option linter.unusedSimpArgs false
namespace Go.D
open Go Go.Proofs

/-- A reader at block r, which holds bytes that lie in the blocks F. -/
def InR (A : Nat → Addr) (w : World) (r : Nat) (F : Nat → Prop) (st : InS) : Prop :=
  ∃ s, InAt w r s st.1 (errO A st.2) ∧ (∀ k, ownB s k → F k) ∧ ¬ F r

theorem InR.ext {A : Nat → Addr} {M : Nat → Prop} {w w' : World} {r : Nat} {F : Nat → Prop} {st : InS} (h : InR A w r F st) (he : Ext M w w') (h1 : ¬ M r) (h2 : ∀ k, F k → ¬ M k) : InR A w' r F st := by
  obtain ⟨s, g1, g2, g3⟩ := h
  exact ⟨s, g1.ext he (fun k hk => hk.elim (fun h => h ▸ h1) (fun h => h2 k (g2 k h))), g2, g3⟩
theorem InR.keep {A : Nat → Addr} {w w' : World} {r : Nat} {F : Nat → Prop} {st : InS} (h : InR A w r F st) (he : Keep w w') : InR A w' r F st := h.ext he (fun h => h) (fun _ _ h => h)

def rNum (most : Int) : InS → Int × InS
  | (bs, some k) => (0, (bs, some k))
  | (bs, none) => match rawR 0 0 bs with
    | .error k => (0, (bs, some k))
    | .ok (n, rest) => if most < (n : Int) then (0, (rest, some 0)) else ((n : Int), (rest, none))

theorem rNum_bad {bs : List UInt8} {k : Nat} (most : Int) (h : rawR 0 0 bs = .error k) : rNum most (bs, none) = (0, (bs, some k)) := by simp [rNum, h]
theorem rNum_big {bs rest : List UInt8} {n : Nat} {most : Int} (h : rawR 0 0 bs = .ok (n, rest)) (hm : most < (n : Int)) : rNum most (bs, none) = (0, (rest, some 0)) := by simp [rNum, h, hm]
theorem rNum_ok {bs rest : List UInt8} {n : Nat} {most : Int} (h : rawR 0 0 bs = .ok (n, rest)) (hm : ¬ most < (n : Int)) : rNum most (bs, none) = ((n : Int), (rest, none)) := by simp [rNum, h, hm]
theorem Ext.trans' {M : Nat → Prop} {a b c : World} (h1 : Ext M a b) (h2 : Ext M b c) : Ext M a c := h1.trans h2 (fun _ h => h) (fun _ h => .inl h)

theorem Read_spec (A : Nat → Addr) (s : Slc) (bs : List UInt8) (w : World) (h : bytesAt w s bs) (hl : s.l ≤ 2 ^ 30) :
    Calls Tryd.prog fn_pack_Read ⟨[s.v]⟩ w fun e w' => ∃ (r : Nat) (F : Nat → Prop), e = .returned (.pointer (some ⟨r, 0, none⟩)) ∧ InR A w' r F (bs, none) ∧ Keep w w' ∧ w.heap.size ≤ r ∧ (∀ k, F k → w.heap.size ≤ k ∧ k < w'.heap.size) := by
  refine pack_Read_ok _ ?_
  unfold pack_Read
  refine (CloneB_own s bs w h hl).mono ?_
  rintro e w3 ⟨t, rfl, ht, hf, hk⟩
  refine ⟨t, rfl, newS_mk (fun r w6 hr hb hk6 hs6 => ?_)⟩
  have hnot : ¬ ownB t r := fun hh => by have := OwnLt ht r hh; omega
  exact ⟨r, ownB t, rfl, ⟨t, ⟨⟨_, _, hb, .inl (by simp)⟩, bytesAt_keep ht.bytes hk6, hnot, ht.le (by omega)⟩, fun _ h => h, hnot⟩, hk.trans hk6, by have := hk.size; omega, fun k hk => ⟨hf k hk, by have := OwnLt ht k hk; omega⟩⟩

theorem In_failR {A : Nat → Addr} {r : Nat} {F : Nat → Prop} {bs : List UInt8} {w : World} (h : InR A w r F (bs, none)) (k : Nat) :
    Calls Tryd.prog fn_pack_In_fail ⟨[.pointer (some ⟨r, 0, none⟩), errV A (errG.getD k 0)]⟩ w fun e w' => e = .returned (.int .i64 0) ∧ InR A w' r F (bs, some k) ∧ Ext (eqB r) w w' := by
  obtain ⟨s, h1, h2, h3⟩ := h
  refine (In_fail_spec r s bs .nilIface (errV A (errG.getD k 0)) w h1 trivial (errV_one A _)).mono ?_
  rintro e w' ⟨rfl, g1, g2⟩
  exact ⟨rfl, ⟨s, g1, h2, h3⟩, g2⟩

theorem In_Num_spec (A : Nat → Addr) (n0 r : Nat) (F : Nat → Prop) (st : InS) (most : Int) (w : World) (h : InR A w r F st) (hl : st.1.length ≤ 2 ^ 30) (hE : ErrsB A n0 w) (hr : n0 ≤ r) :
    Calls Tryd.prog fn_pack_In_Num ⟨[.pointer (some ⟨r, 0, none⟩), .int .i64 most]⟩ w fun e w' => e = .returned (.int .i64 (rNum most st).1) ∧ InR A w' r F (rNum most st).2 ∧ Ext (eqB r) w w' := by
  obtain ⟨bs, er⟩ := st
  refine pack_In_Num_ok _ _ ?_
  unfold pack_In_Num
  have h0 := h
  obtain ⟨s, h1, h2, h3⟩ := h
  refine needSome_mk rfl ⟨_, by rw [add_lit]; exact h1.c1, errO_isI _ _, ?_⟩
  cases er with
  | some k =>
    refine BIf_mk (fun _ => ?_) (fun hh => by cases hh)
    exact ⟨rfl, h0, Ext.refl _ _⟩
  | none =>
    refine BIf_mk (fun hh => by cases hh) (fun _ => ?_)
    refine (In_raw_spec A r s bs w h1 hl hE.1).mono ?_
    rintro e w6 ⟨n, rfl, hres⟩
    refine ⟨n, rfl, ?_⟩
    cases hraw : rawR 0 0 bs with
    | error k =>
      rw [hraw] at hres
      obtain ⟨rfl, g1, g2⟩ := hres
      rw [rNum_bad most hraw]
      refine needSome_mk rfl ⟨errV A (errG.getD k 0), by rw [add_lit]; exact g1.c1, trivial, BIf_mk (fun hh => by cases hh) (fun _ => ?_)⟩
      exact ⟨rfl, ⟨s, g1, h2, h3⟩, g2⟩
    | ok x =>
      obtain ⟨m, rest⟩ := x
      rw [hraw] at hres
      obtain ⟨rfl, s', g1, g2, g3⟩ := hres
      have hR : InR A w6 r F (rest, none) := ⟨s', g1, fun k hk => h2 k (g2 k hk), h3⟩
      refine needSome_mk rfl ⟨.nilIface, by rw [add_lit]; exact g1.c1, trivial, BIf_mk (fun _ => BIf_dec (fun hlt => ?_) (fun hlt => ?_)) (fun hh => by cases hh)⟩
      · refine ⟨_, Errs.at (hE.ext g3 (fun k hk => by rw [show k = r from hk]; exact hr)).1 0 (by omega), (In_failR hR 0).mono ?_⟩
        rintro e w12 ⟨rfl, q1, q2⟩
        rw [rNum_big hraw hlt]
        exact ⟨_, rfl, rfl, q1, g3.trans' q2⟩
      · rw [rNum_ok hraw hlt]
        exact ⟨rfl, hR, g3⟩

theorem rNum_cases (most : Int) (st : InS) :
    (∃ bs k, st = (bs, some k) ∧ rNum most st = (0, (bs, some k))) ∨
    (∃ bs k, st = (bs, none) ∧ (k = 1 ∨ k = 3) ∧ rNum most st = (0, (bs, some k))) ∨
    (∃ n rest, st = (encN n ++ rest, none) ∧ n ≤ 4611686018427387903 ∧ most < (n : Int) ∧ rNum most st = (0, (rest, some 0))) ∨
    (∃ n rest, st = (encN n ++ rest, none) ∧ n ≤ 4611686018427387903 ∧ (n : Int) ≤ most ∧ rNum most st = ((n : Int), (rest, none))) := by
  obtain ⟨bs, er⟩ := st
  cases er with
  | some k => exact .inl ⟨bs, k, rfl, rfl⟩
  | none =>
    cases h : rawR 0 0 bs with
    | error k => exact .inr (.inl ⟨bs, k, rfl, rawR_err _ _ _ _ h, rNum_bad most h⟩)
    | ok x =>
      obtain ⟨n, rest⟩ := x
      obtain ⟨h1, h2⟩ := raw_enc h
      by_cases hm : most < (n : Int)
      · exact .inr (.inr (.inl ⟨n, rest, by rw [h1], h2, hm, rNum_big h hm⟩))
      · exact .inr (.inr (.inr ⟨n, rest, by rw [h1], h2, by omega, rNum_ok h hm⟩))
theorem rNum_enc (most : Int) (n : Nat) (rest : List UInt8) (h : n ≤ 4611686018427387903) (hm : (n : Int) ≤ most) : rNum most (encN n ++ rest, none) = ((n : Int), (rest, none)) :=
  rNum_ok (enc_raw n rest h) (by omega)
theorem rNum_len (most : Int) (st : InS) : (rNum most st).2.1.length ≤ st.1.length := by
  rcases rNum_cases most st with ⟨bs, k, rfl, h⟩ | ⟨bs, k, rfl, _, h⟩ | ⟨n, rest, rfl, _, _, h⟩ | ⟨n, rest, rfl, _, _, h⟩ <;> rw [h] <;> simp
theorem rNum_nonneg (most : Int) (st : InS) : 0 ≤ (rNum most st).1 ∧ (rNum most st).1 ≤ 4611686018427387903 := by
  rcases rNum_cases most st with ⟨bs, k, rfl, h⟩ | ⟨bs, k, rfl, _, h⟩ | ⟨n, rest, rfl, _, _, h⟩ | ⟨n, rest, rfl, _, _, h⟩ <;> rw [h] <;> simp <;> omega
theorem rNum_pos (most : Int) (st : InS) (h0 : 0 < (rNum most st).1) : (rNum most st).2.2 = none := by
  rcases rNum_cases most st with ⟨bs, k, rfl, h⟩ | ⟨bs, k, rfl, _, h⟩ | ⟨n, rest, rfl, _, _, h⟩ | ⟨n, rest, rfl, _, _, h⟩ <;> rw [h] at h0 ⊢ <;> simp at h0
theorem rNum_most (most : Int) (st : InS) (h0 : (rNum most st).2.2 = none) : (rNum most st).1 ≤ most := by
  rcases rNum_cases most st with ⟨bs, k, rfl, h⟩ | ⟨bs, k, rfl, _, h⟩ | ⟨n, rest, rfl, _, _, h⟩ | ⟨n, rest, rfl, _, hm, h⟩ <;> rw [h] at h0 ⊢ <;> simp at h0
  exact hm

def rEnd : InS → Option Nat
  | (bs, some k) => some k
  | (bs, none) => if 0 < bs.length then some 3 else none
theorem In_End_spec (A : Nat → Addr) (n0 r : Nat) (F : Nat → Prop) (st : InS) (w : World) (h : InR A w r F st) (hE : ErrsB A n0 w) :
    Calls Tryd.prog fn_pack_In_End ⟨[.pointer (some ⟨r, 0, none⟩)]⟩ w fun e w' => e = .returned (errO A (rEnd st)) ∧ w' = w := by
  refine pack_In_End_ok _ ?_
  obtain ⟨bs, er⟩ := st
  obtain ⟨s, h1, h2, h3⟩ := h
  have hl := h1.2.1.1
  dsimp only at hl
  refine needSome_mk rfl ⟨_, by rw [add_lit]; exact h1.c1, errO_isI _ _, ?_⟩
  cases er with
  | some k => exact BIf_mk (fun hh => by cases hh) (fun _ => needSome_mk rfl ⟨_, by rw [add_lit]; exact h1.c1, rfl, rfl⟩)
  | none =>
    refine BIf_mk (fun _ => needSome_mk rfl ⟨s, h1.c0, BIf_dec (fun hlt => ?_) (fun hlt => ?_)⟩) (fun hh => by cases hh)
    · refine ⟨_, Errs.at hE.1 3 (by omega), ?_, rfl⟩
      rw [rEnd, if_pos (by omega)]; rfl
    · refine needSome_mk rfl ⟨_, by rw [add_lit]; exact h1.c1, ?_, rfl⟩
      rw [rEnd, if_neg (by omega)]

def rTextF (n : Int) : InS → List UInt8 × InS
  | (bs, some k) => ([], (bs, some k))
  | (bs, none) => if (bs.length : Int) < n then ([], (bs, some 1)) else (bs.take n.toNat, (bs.drop n.toNat, none))
theorem rTextF_short {n : Int} {bs : List UInt8} (h : (bs.length : Int) < n) : rTextF n (bs, none) = ([], (bs, some 1)) := by simp [rTextF, h]
theorem rTextF_ok {n : Int} {bs : List UInt8} (h : ¬ (bs.length : Int) < n) : rTextF n (bs, none) = (bs.take n.toNat, (bs.drop n.toNat, none)) := by simp [rTextF, h]
def rText (most : Int) (st : InS) : List UInt8 × InS := rTextF (rNum most st).1 (rNum most st).2
theorem rText_enc (most : Int) (t rest : List UInt8) (h : t.length ≤ 4611686018427387903) (hm : (t.length : Int) ≤ most) : rText most (encN t.length ++ (t ++ rest), none) = (t, (rest, none)) := by
  rw [rText, rNum_enc most _ _ h hm, rTextF_ok (by simp; omega)]
  simp

theorem In_Text_spec (A : Nat → Addr) (n0 r : Nat) (F : Nat → Prop) (st : InS) (most : Int) (w : World) (h : InR A w r F st) (hl : st.1.length ≤ 2 ^ 30) (hE : ErrsB A n0 w) (hr : n0 ≤ r) :
    Calls Tryd.prog fn_pack_In_Text ⟨[.pointer (some ⟨r, 0, none⟩), .int .i64 most]⟩ w fun e w' => e = .returned (strV (rText most st).1) ∧ InR A w' r F (rText most st).2 ∧ Ext (eqB r) w w' := by
  refine pack_In_Text_ok _ _ ?_
  unfold pack_In_Text
  refine (In_Num_spec A n0 r F st most w h hl hE hr).mono ?_
  rintro e w4 ⟨rfl, hR, k4⟩
  have hlen := rNum_len most st
  have hnn := rNum_nonneg most st
  unfold rText
  generalize hst : rNum most st = x at hR hlen hnn ⊢
  obtain ⟨n, bs, er⟩ := x
  dsimp only at hR hlen hnn ⊢
  have hE4 : ErrsB A n0 w4 := hE.ext k4 (fun k hk => by rw [show k = r from hk]; exact hr)
  have hR0 := hR
  obtain ⟨s, h1, h2, h3⟩ := hR
  have hsl := h1.2.1.1
  have hsc := h1.2.2.2
  dsimp only at hsl h1
  refine ⟨_, rfl, needSome_mk rfl ⟨_, by rw [add_lit]; exact h1.c1, errO_isI _ _, ?_⟩⟩
  cases er with
  | some k => exact BIf_mk (fun _ => ⟨rfl, hR0, k4⟩) (fun hh => by cases hh)
  | none =>
    refine BIf_mk (fun hh => by cases hh) (fun _ => needSome_mk rfl ⟨s, h1.c0, BIf_dec (fun hlt => ?_) (fun hlt => ?_)⟩)
    · refine ⟨_, Errs.at hE4.1 1 (by omega), (In_failR hR0 1).mono ?_⟩
      rintro e w12 ⟨rfl, q1, q2⟩
      rw [rTextF_short (by omega)]
      exact ⟨_, rfl, rfl, q1, k4.trans' q2⟩
    · rw [rTextF_ok (by omega)]
      obtain ⟨g1, g2, g3⟩ := h1.cut (k := n.toNat) (by omega)
      have hb := bytesAt_sub h1.2.1 (lo := 0) (hi := n.toNat) (c := s.c) (by omega) (by omega) (by omega)
      refine needSome_mk rfl ⟨s, h1.c0, by omega, by omega, by omega, by omega, bs.take n.toNat, by simpa using hb, needSome_mk rfl ⟨s, h1.c0, by omega, by omega, by omega, by omega, needSome_mk rfl ⟨g1, ?_⟩⟩⟩
      rintro w22 rfl
      exact ⟨rfl, ⟨_, g2, fun k hk => h2 k (ownB_sub hk), h3⟩, k4.trans' g3⟩

end Go.D
