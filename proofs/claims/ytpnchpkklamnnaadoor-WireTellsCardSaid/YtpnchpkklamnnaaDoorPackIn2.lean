/-
  WHAT IS PROVED: contracts of functions, and the plain law, for this proof. No further conditions.
-/
import Derived.Test.YtpnchpkklamnnaaDoorPackIn
import Derived.Test.YtpnchpkklamnnaaDoorPackLaw
import Derived.Test.YtpnchpkklamnnaaDoorRd
set_option linter.unusedVariables false
set_option linter.unusedSimpArgs false
namespace Go.D
open Go Go.Proofs

/-- The errors are laid below n0. -/
def ErrsB (A : Nat → Addr) (n0 : Nat) (w : World) : Prop := Errs A w ∧ ∀ g ∈ errG, g < n0 ∧ (A g).block < n0
abbrev Old (n0 : Nat) := Ext (fun k => n0 ≤ k)
theorem Old.trans {n0 : Nat} {a b c : World} (h1 : Old n0 a b) (h2 : Old n0 b c) : Old n0 a c := Ext.trans h1 h2 (fun _ h => h) (fun _ h => .inl h)
theorem Keep.old {a b : World} (h : Keep a b) (n0 : Nat) : Old n0 a b := h.mono (fun _ h => h.elim)
theorem Old.keep {w0 w : World} {n0 : Nat} (h : Old n0 w0 w) (hn : w0.heap.size ≤ n0) : Keep w0 w := Ext.trans h (Ext.refl none0 _) (fun _ h => h) (fun _ h => h.elim) |> fun h => ⟨h.os, h.tape, h.output, h.size, fun k hk _ => h.block k hk (by omega)⟩
theorem Errs.b {A : Nat → Addr} {w : World} (h : Errs A w) : ErrsB A w.heap.size w := by
  refine ⟨h, fun g hg => ?_⟩
  obtain ⟨h1, c, t, h2⟩ := h.1 g hg
  refine ⟨?_, lt_of_heap h2⟩
  have := World.block_lt_of_cell? w _ h1
  exact this
theorem ErrsB.ext {A : Nat → Addr} {n0 : Nat} {M : Nat → Prop} {w w' : World} (h : ErrsB A n0 w) (he : Ext M w w') (hm : ∀ k, M k → n0 ≤ k) : ErrsB A n0 w' := by
  refine ⟨⟨fun g hg => ?_, h.1.2⟩, h.2⟩
  obtain ⟨h1, c, t, h2⟩ := h.1.1 g hg
  obtain ⟨b1, b2⟩ := h.2 g hg
  exact ⟨he.cell h1 (fun hh => by have := hm _ hh; simp only at this; omega), c, t, he.heap h2 (fun hh => by have := hm _ hh; omega)⟩
theorem ErrsB.keep {A : Nat → Addr} {n0 : Nat} {w w' : World} (h : ErrsB A n0 w) (he : Keep w w') : ErrsB A n0 w' := h.ext he (fun _ h => h.elim)

/-- An error's place in the table, or none. -/
def errO (A : Nat → Addr) : Option Nat → Value
  | none => .nilIface
  | some k => errV A (errG.getD k 0)
theorem errO_isI (A : Nat → Addr) (e : Option Nat) : isI (errO A e) := by cases e <;> trivial
theorem errO_nil (A : Nat → Addr) (e : Option Nat) : isNilI (errO A e) = e.isNone := by cases e <;> rfl
theorem errO_one (A : Nat → Addr) (e : Option Nat) : ∀ X : Prop, X → oneK (errO A e) X := fun X h => by cases e <;> exact h

abbrev InS := List UInt8 × Option Nat
/-- A reader at block r, which holds bytes that lie in the blocks F. -/
def InR (A : Nat → Addr) (w : World) (r : Nat) (F : Nat → Prop) (st : InS) : Prop :=
  ∃ s, InAt w r s st.1 (errO A st.2) ∧ (∀ k, ownB s k → F k) ∧ ¬ F r

theorem InR.ext {A : Nat → Addr} {M : Nat → Prop} {w w' : World} {r : Nat} {F : Nat → Prop} {st : InS} (h : InR A w r F st) (he : Ext M w w') (h1 : ¬ M r) (h2 : ∀ k, F k → ¬ M k) : InR A w' r F st := by
  obtain ⟨s, g1, g2, g3⟩ := h
  exact ⟨s, g1.ext he (fun k hk => hk.elim (fun h => h ▸ h1) (fun h => h2 k (g2 k h))), g2, g3⟩
theorem InR.keep {A : Nat → Addr} {w w' : World} {r : Nat} {F : Nat → Prop} {st : InS} (h : InR A w r F st) (he : Keep w w') : InR A w' r F st := h.ext he (fun h => h) (fun _ _ h => h)

def rNum (most : Int) : InS → Int × InS
  | (bs, some k) => (0, (bs, some k))
  | (bs, none) => match rawR 0 0 bs with
    | .error k => (0, (bs, some k))
    | .ok (n, rest) => if most < (n : Int) then (0, (rest, some 0)) else ((n : Int), (rest, none))

theorem rNum_bad {bs : List UInt8} {k : Nat} (most : Int) (h : rawR 0 0 bs = .error k) : rNum most (bs, none) = (0, (bs, some k)) := by simp [rNum, h]
theorem rNum_big {bs rest : List UInt8} {n : Nat} {most : Int} (h : rawR 0 0 bs = .ok (n, rest)) (hm : most < (n : Int)) : rNum most (bs, none) = (0, (rest, some 0)) := by simp [rNum, h, hm]
theorem rNum_ok {bs rest : List UInt8} {n : Nat} {most : Int} (h : rawR 0 0 bs = .ok (n, rest)) (hm : ¬ most < (n : Int)) : rNum most (bs, none) = ((n : Int), (rest, none)) := by simp [rNum, h, hm]
theorem Ext.trans' {M : Nat → Prop} {a b c : World} (h1 : Ext M a b) (h2 : Ext M b c) : Ext M a c := h1.trans h2 (fun _ h => h) (fun _ h => .inl h)

theorem Own.le {w : World} {s : Slc} {sz : Nat} {vs : List Value} (h : Own w s sz vs) (hsz : 0 < sz) : s.l ≤ s.c := by
  obtain ⟨hl, ⟨_, hv, hc⟩ | ⟨b, pad, T, f, _, _, h1, _⟩⟩ := h
  · subst hv
    have : s.l * sz = 0 := by simpa using hl
    rcases Nat.mul_eq_zero.1 this with h | h <;> omega
  · rw [List.length_append] at h1
    exact Nat.le_of_mul_le_mul_right (by omega) hsz

theorem Read_spec (A : Nat → Addr) (s : Slc) (bs : List UInt8) (w : World) (h : bytesAt w s bs) (hl : s.l ≤ 2 ^ 30) :
    Calls Tryd.prog fn_pack_Read ⟨[s.v]⟩ w fun e w' => ∃ (r : Nat) (F : Nat → Prop), e = .returned (.pointer (some ⟨r, 0, none⟩)) ∧ InR A w' r F (bs, none) ∧ Keep w w' ∧ w.heap.size ≤ r ∧ (∀ k, F k → w.heap.size ≤ k ∧ k < w'.heap.size) := by
  refine pack_Read_ok _ ?_
  unfold pack_Read
  refine (Clone_own s bs w h hl).mono ?_
  rintro e w3 ⟨t, rfl, ht, hf, hk⟩
  refine ⟨t, rfl, newS_mk (fun r w6 hr hb hk6 hs6 => ?_)⟩
  have hnot : ¬ ownB t r := fun hh => by have := OwnLt ht r hh; omega
  exact ⟨r, ownB t, rfl, ⟨t, ⟨⟨_, _, hb, .inl (by simp)⟩, bytesAt_keep ht.bytes hk6, hnot, ht.le (by omega)⟩, fun _ h => h, hnot⟩, hk.trans hk6, by have := hk.size; omega, fun k hk => ⟨hf k hk, by have := OwnLt ht k hk; omega⟩⟩

theorem In_failR {A : Nat → Addr} {r : Nat} {F : Nat → Prop} {bs : List UInt8} {w : World} (h : InR A w r F (bs, none)) (k : Nat) :
    Calls Tryd.prog fn_pack_In_fail ⟨[.pointer (some ⟨r, 0, none⟩), errV A (errG.getD k 0)]⟩ w fun e w' => e = .returned (.int .i64 0) ∧ InR A w' r F (bs, some k) ∧ Ext (eqB r) w w' := by
  obtain ⟨s, h1, h2, h3⟩ := h
  refine (In_fail_spec r s bs .nilIface (errV A (errG.getD k 0)) w h1 trivial (errV_one A _)).mono ?_
  rintro e w' ⟨rfl, g1, g2⟩
  exact ⟨rfl, ⟨s, g1, h2, h3⟩, g2⟩

theorem In_Num_spec (A : Nat → Addr) (n0 r : Nat) (F : Nat → Prop) (st : InS) (most : Int) (w : World) (h : InR A w r F st) (hl : st.1.length ≤ 2 ^ 30) (hE : ErrsB A n0 w) (hr : n0 ≤ r) :
    Calls Tryd.prog fn_pack_In_Num ⟨[.pointer (some ⟨r, 0, none⟩), .int .i64 most]⟩ w fun e w' => e = .returned (.int .i64 (rNum most st).1) ∧ InR A w' r F (rNum most st).2 ∧ Ext (eqB r) w w' := by
  obtain ⟨bs, er⟩ := st
  refine pack_In_Num_ok _ _ ?_
  unfold pack_In_Num
  have h0 := h
  obtain ⟨s, h1, h2, h3⟩ := h
  refine needSome_mk rfl ⟨_, by rw [add_lit]; exact h1.c1, errO_isI _ _, ?_⟩
  cases er with
  | some k =>
    refine BIf_mk (fun _ => ?_) (fun hh => by cases hh)
    exact ⟨rfl, h0, Ext.refl _ _⟩
  | none =>
    refine BIf_mk (fun hh => by cases hh) (fun _ => ?_)
    refine (In_raw_spec A r s bs w h1 hl hE.1).mono ?_
    rintro e w6 ⟨n, rfl, hres⟩
    refine ⟨n, rfl, ?_⟩
    cases hraw : rawR 0 0 bs with
    | error k =>
      rw [hraw] at hres
      obtain ⟨rfl, g1, g2⟩ := hres
      rw [rNum_bad most hraw]
      refine needSome_mk rfl ⟨errV A (errG.getD k 0), by rw [add_lit]; exact g1.c1, trivial, BIf_mk (fun hh => by cases hh) (fun _ => ?_)⟩
      exact ⟨rfl, ⟨s, g1, h2, h3⟩, g2⟩
    | ok x =>
      obtain ⟨m, rest⟩ := x
      rw [hraw] at hres
      obtain ⟨rfl, s', g1, g2, g3⟩ := hres
      have hR : InR A w6 r F (rest, none) := ⟨s', g1, fun k hk => h2 k (g2 k hk), h3⟩
      refine needSome_mk rfl ⟨.nilIface, by rw [add_lit]; exact g1.c1, trivial, BIf_mk (fun _ => BIf_dec (fun hlt => ?_) (fun hlt => ?_)) (fun hh => by cases hh)⟩
      · refine ⟨_, Errs.at (hE.ext g3 (fun k hk => by rw [show k = r from hk]; exact hr)).1 0 (by omega), (In_failR hR 0).mono ?_⟩
        rintro e w12 ⟨rfl, q1, q2⟩
        rw [rNum_big hraw hlt]
        exact ⟨_, rfl, rfl, q1, g3.trans' q2⟩
      · rw [rNum_ok hraw hlt]
        exact ⟨rfl, hR, g3⟩

theorem rNum_cases (most : Int) (st : InS) :
    (∃ bs k, st = (bs, some k) ∧ rNum most st = (0, (bs, some k))) ∨
    (∃ bs k, st = (bs, none) ∧ (k = 1 ∨ k = 3) ∧ rNum most st = (0, (bs, some k))) ∨
    (∃ n rest, st = (encN n ++ rest, none) ∧ n ≤ 4611686018427387903 ∧ most < (n : Int) ∧ rNum most st = (0, (rest, some 0))) ∨
    (∃ n rest, st = (encN n ++ rest, none) ∧ n ≤ 4611686018427387903 ∧ (n : Int) ≤ most ∧ rNum most st = ((n : Int), (rest, none))) := by
  obtain ⟨bs, er⟩ := st
  cases er with
  | some k => exact .inl ⟨bs, k, rfl, rfl⟩
  | none =>
    cases h : rawR 0 0 bs with
    | error k => exact .inr (.inl ⟨bs, k, rfl, rawR_err _ _ _ _ h, rNum_bad most h⟩)
    | ok x =>
      obtain ⟨n, rest⟩ := x
      obtain ⟨h1, h2⟩ := raw_enc h
      by_cases hm : most < (n : Int)
      · exact .inr (.inr (.inl ⟨n, rest, by rw [h1], h2, hm, rNum_big h hm⟩))
      · exact .inr (.inr (.inr ⟨n, rest, by rw [h1], h2, by omega, rNum_ok h hm⟩))
theorem rNum_enc (most : Int) (n : Nat) (rest : List UInt8) (h : n ≤ 4611686018427387903) (hm : (n : Int) ≤ most) : rNum most (encN n ++ rest, none) = ((n : Int), (rest, none)) :=
  rNum_ok (enc_raw n rest h) (by omega)
theorem rNum_len (most : Int) (st : InS) : (rNum most st).2.1.length ≤ st.1.length := by
  rcases rNum_cases most st with ⟨bs, k, rfl, h⟩ | ⟨bs, k, rfl, _, h⟩ | ⟨n, rest, rfl, _, _, h⟩ | ⟨n, rest, rfl, _, _, h⟩ <;> rw [h] <;> simp
theorem rNum_nonneg (most : Int) (st : InS) : 0 ≤ (rNum most st).1 ∧ (rNum most st).1 ≤ 4611686018427387903 := by
  rcases rNum_cases most st with ⟨bs, k, rfl, h⟩ | ⟨bs, k, rfl, _, h⟩ | ⟨n, rest, rfl, _, _, h⟩ | ⟨n, rest, rfl, _, _, h⟩ <;> rw [h] <;> simp <;> omega
theorem rNum_pos (most : Int) (st : InS) (h0 : 0 < (rNum most st).1) : (rNum most st).2.2 = none := by
  rcases rNum_cases most st with ⟨bs, k, rfl, h⟩ | ⟨bs, k, rfl, _, h⟩ | ⟨n, rest, rfl, _, _, h⟩ | ⟨n, rest, rfl, _, _, h⟩ <;> rw [h] at h0 ⊢ <;> simp at h0
theorem rNum_most (most : Int) (st : InS) (h0 : (rNum most st).2.2 = none) : (rNum most st).1 ≤ most := by
  rcases rNum_cases most st with ⟨bs, k, rfl, h⟩ | ⟨bs, k, rfl, _, h⟩ | ⟨n, rest, rfl, _, _, h⟩ | ⟨n, rest, rfl, _, hm, h⟩ <;> rw [h] at h0 ⊢ <;> simp at h0
  exact hm

theorem In_Left_spec (A : Nat → Addr) (r : Nat) (F : Nat → Prop) (st : InS) (w : World) (h : InR A w r F st) :
    Calls Tryd.prog fn_pack_In_Left ⟨[.pointer (some ⟨r, 0, none⟩)]⟩ w fun e w' => e = .returned (.int .i64 ((st.1.length : Nat) : Int)) ∧ w' = w := by
  refine pack_In_Left_ok _ ?_
  obtain ⟨s, h1, h2, h3⟩ := h
  refine needSome_mk rfl ⟨s, h1.c0, ?_, rfl⟩
  rw [h1.2.1.1]
theorem In_Err_spec (A : Nat → Addr) (r : Nat) (F : Nat → Prop) (st : InS) (w : World) (h : InR A w r F st) :
    Calls Tryd.prog fn_pack_In_Err ⟨[.pointer (some ⟨r, 0, none⟩)]⟩ w fun e w' => e = .returned (errO A st.2) ∧ w' = w := by
  refine pack_In_Err_ok _ ?_
  obtain ⟨s, h1, h2, h3⟩ := h
  exact needSome_mk rfl ⟨_, by rw [add_lit]; exact h1.c1, rfl, rfl⟩
def rEnd : InS → Option Nat
  | (bs, some k) => some k
  | (bs, none) => if 0 < bs.length then some 3 else none
theorem In_End_spec (A : Nat → Addr) (n0 r : Nat) (F : Nat → Prop) (st : InS) (w : World) (h : InR A w r F st) (hE : ErrsB A n0 w) :
    Calls Tryd.prog fn_pack_In_End ⟨[.pointer (some ⟨r, 0, none⟩)]⟩ w fun e w' => e = .returned (errO A (rEnd st)) ∧ w' = w := by
  refine pack_In_End_ok _ ?_
  obtain ⟨bs, er⟩ := st
  obtain ⟨s, h1, h2, h3⟩ := h
  have hl := h1.2.1.1
  dsimp only at hl
  refine needSome_mk rfl ⟨_, by rw [add_lit]; exact h1.c1, errO_isI _ _, ?_⟩
  cases er with
  | some k => exact BIf_mk (fun hh => by cases hh) (fun _ => needSome_mk rfl ⟨_, by rw [add_lit]; exact h1.c1, rfl, rfl⟩)
  | none =>
    refine BIf_mk (fun _ => needSome_mk rfl ⟨s, h1.c0, BIf_dec (fun hlt => ?_) (fun hlt => ?_)⟩) (fun hh => by cases hh)
    · refine ⟨_, Errs.at hE.1 3 (by omega), ?_, rfl⟩
      rw [rEnd, if_pos (by omega)]; rfl
    · refine needSome_mk rfl ⟨_, by rw [add_lit]; exact h1.c1, ?_, rfl⟩
      rw [rEnd, if_neg (by omega)]

def rTextF (n : Int) : InS → List UInt8 × InS
  | (bs, some k) => ([], (bs, some k))
  | (bs, none) => if (bs.length : Int) < n then ([], (bs, some 1)) else (bs.take n.toNat, (bs.drop n.toNat, none))
theorem rTextF_short {n : Int} {bs : List UInt8} (h : (bs.length : Int) < n) : rTextF n (bs, none) = ([], (bs, some 1)) := by simp [rTextF, h]
theorem rTextF_ok {n : Int} {bs : List UInt8} (h : ¬ (bs.length : Int) < n) : rTextF n (bs, none) = (bs.take n.toNat, (bs.drop n.toNat, none)) := by simp [rTextF, h]
def rText (most : Int) (st : InS) : List UInt8 × InS := rTextF (rNum most st).1 (rNum most st).2
theorem rText_enc (most : Int) (t rest : List UInt8) (h : t.length ≤ 4611686018427387903) (hm : (t.length : Int) ≤ most) : rText most (encN t.length ++ (t ++ rest), none) = (t, (rest, none)) := by
  rw [rText, rNum_enc most _ _ h hm, rTextF_ok (by simp; omega)]
  simp

theorem In_Text_spec (A : Nat → Addr) (n0 r : Nat) (F : Nat → Prop) (st : InS) (most : Int) (w : World) (h : InR A w r F st) (hl : st.1.length ≤ 2 ^ 30) (hE : ErrsB A n0 w) (hr : n0 ≤ r) :
    Calls Tryd.prog fn_pack_In_Text ⟨[.pointer (some ⟨r, 0, none⟩), .int .i64 most]⟩ w fun e w' => e = .returned (strV (rText most st).1) ∧ InR A w' r F (rText most st).2 ∧ Ext (eqB r) w w' := by
  refine pack_In_Text_ok _ _ ?_
  unfold pack_In_Text
  refine (In_Num_spec A n0 r F st most w h hl hE hr).mono ?_
  rintro e w4 ⟨rfl, hR, k4⟩
  have hlen := rNum_len most st
  have hnn := rNum_nonneg most st
  unfold rText
  generalize hst : rNum most st = x at hR hlen hnn ⊢
  obtain ⟨n, bs, er⟩ := x
  dsimp only at hR hlen hnn ⊢
  have hE4 : ErrsB A n0 w4 := hE.ext k4 (fun k hk => by rw [show k = r from hk]; exact hr)
  have hR0 := hR
  obtain ⟨s, h1, h2, h3⟩ := hR
  have hsl := h1.2.1.1
  have hsc := h1.2.2.2
  dsimp only at hsl h1
  refine ⟨_, rfl, needSome_mk rfl ⟨_, by rw [add_lit]; exact h1.c1, errO_isI _ _, ?_⟩⟩
  cases er with
  | some k => exact BIf_mk (fun _ => ⟨rfl, hR0, k4⟩) (fun hh => by cases hh)
  | none =>
    refine BIf_mk (fun hh => by cases hh) (fun _ => needSome_mk rfl ⟨s, h1.c0, BIf_dec (fun hlt => ?_) (fun hlt => ?_)⟩)
    · refine ⟨_, Errs.at hE4.1 1 (by omega), (In_failR hR0 1).mono ?_⟩
      rintro e w12 ⟨rfl, q1, q2⟩
      rw [rTextF_short (by omega)]
      exact ⟨_, rfl, rfl, q1, k4.trans' q2⟩
    · rw [rTextF_ok (by omega)]
      obtain ⟨g1, g2, g3⟩ := h1.cut (k := n.toNat) (by omega)
      have hb := bytesAt_sub h1.2.1 (lo := 0) (hi := n.toNat) (c := s.c) (by omega) (by omega) (by omega)
      refine needSome_mk rfl ⟨s, h1.c0, by omega, by omega, by omega, by omega, bs.take n.toNat, by simpa using hb, needSome_mk rfl ⟨s, h1.c0, by omega, by omega, by omega, by omega, needSome_mk rfl ⟨g1, ?_⟩⟩⟩
      rintro w22 rfl
      exact ⟨rfl, ⟨_, g2, fun k hk => h2 k (ownB_sub hk), h3⟩, k4.trans' g3⟩

/-- n numbers are read: their list, or none, if there is an error. -/
def rMany (most : Int) : Nat → List Int → InS → Option (List Int) × InS
  | 0, acc, st => (some acc, st)
  | k + 1, acc, st => if (rNum most st).2.2.isSome = true then (none, (rNum most st).2) else rMany most k (acc ++ [(rNum most st).1]) (rNum most st).2
theorem rMany_err {most : Int} {k : Nat} {acc : List Int} {st : InS} (h : (rNum most st).2.2.isSome = true) : rMany most (k + 1) acc st = (none, (rNum most st).2) := by rw [rMany, if_pos h]
theorem rMany_ok {most : Int} {k : Nat} {acc : List Int} {st : InS} (h : (rNum most st).2.2.isSome = false) : rMany most (k + 1) acc st = rMany most k (acc ++ [(rNum most st).1]) (rNum most st).2 := by
  rw [rMany, if_neg (by rw [h]; simp)]
def rNums (many most : Int) (st : InS) : List Int × InS :=
  let x := rMany most (rNum many st).1.toNat [] (rNum many st).2
  (x.1.getD [], x.2)

theorem In_Nums_spec (A : Nat → Addr) (n0 r : Nat) (F : Nat → Prop) (st : InS) (many most : Int) (w : World) (h : InR A w r F st) (hl : st.1.length ≤ 2 ^ 30) (hE : ErrsB A n0 w) (hr : n0 ≤ r) (hF : ∀ k, F k → k < w.heap.size) (hm : many ≤ 2 ^ 29) :
    Calls Tryd.prog fn_pack_In_Nums ⟨[.pointer (some ⟨r, 0, none⟩), .int .i64 many, .int .i64 most]⟩ w fun e w' => ∃ t : Slc, e = .returned t.v ∧ intsAt w' t (rNums many most st).1 ∧ InR A w' r F (rNums many most st).2 ∧ Ext (eqB r) w w' ∧ Fresh w t := by
  refine pack_In_Nums_ok _ _ _ ?_
  unfold pack_In_Nums
  refine (In_Num_spec A n0 r F st many w h hl hE hr).mono ?_
  rintro e w5 ⟨rfl, hR, k5⟩
  have hlen := rNum_len many st
  have hnn := rNum_nonneg many st
  have hmm : 0 < (rNum many st).1 → (rNum many st).1 ≤ many := fun h => rNum_most many st (rNum_pos many st h)
  unfold rNums
  generalize hst : rNum many st = x at hR hlen hnn hmm ⊢
  obtain ⟨n, st5⟩ := x
  dsimp only at hR hlen hnn hmm ⊢
  have hrw : r < w.heap.size := by obtain ⟨s, h1, _⟩ := h; exact h1.1.lt
  refine ⟨_, rfl, fun out w10 => ∃ (acc : List Int) (st' : InS), acc.length ≤ n.toNat ∧ Own w10 out 1 (acc.map intV) ∧ Fresh w out ∧ InR A w10 r F st' ∧ st'.1.length ≤ 2 ^ 30 ∧ Ext (eqB r) w w10 ∧ rMany most (n.toNat - acc.length) acc st' = rMany most n.toNat [] st5,
    fun out _ => n.toNat - out.l, ⟨[], st5, by simp, Own.nil _ _, Fresh.nil _ _ _, hR, by omega, k5, by simp⟩, ?_⟩
  rintro out w10 ⟨acc, st', hacc, ho, hfr, hR', hl', k10, hrm⟩
  intros
  have hol : out.l = acc.length := by have := ho.1; simpa using this
  have hE10 : ErrsB A n0 w10 := hE.ext k10 (fun k hk => by rw [show k = r from hk]; exact hr)
  refine BIf_dec (fun hlt => ?_) (fun hlt => ?_)
  · refine (In_Num_spec A n0 r F st' most w10 hR' hl' hE10 hr).mono ?_
    rintro e w30 ⟨rfl, hR30, k30⟩
    have e1 : n.toNat - acc.length = (n.toNat - acc.length - 1) + 1 := by omega
    rw [e1] at hrm
    have hlen2 := rNum_len most st'
    have hR30' := hR30
    obtain ⟨s, h1, h2, h3⟩ := hR30
    have hno : ∀ k, ownB out k → ¬ eqB r k := fun k hk he => by have := hfr k hk; rw [show k = r from he] at this; omega
    refine ⟨_, rfl, needSome_mk rfl ⟨errO A (rNum most st').2.2, by rw [add_lit]; exact h1.c1, errO_isI _ _, BIf_mk (fun hh => ?_) (fun hh => ?_)⟩⟩
    · rw [errO_nil] at hh
      have her : (rNum most st').2.2.isSome = true := by cases h : (rNum most st').2.2 <;> rw [h] at hh <;> first | rfl | cases hh
      rw [rMany_err her] at hrm
      rw [← hrm]
      exact ⟨_, rfl, ⟨rfl, .inl rfl⟩, hR30', k10.trans' k30, Fresh.nil _ _ _⟩
    · rw [errO_nil] at hh
      have her : (rNum most st').2.2.isSome = false := by cases h : (rNum most st').2.2 <;> rw [h] at hh <;> first | rfl | cases hh
      · rw [rMany_ok her] at hrm
        refine newS_mk (fun r34 w35 hr34 hb34 hk35 hs35 => ?_)
        have ho30 := ho.ext k30 hno
        have hsrc : srcAt w35 1 (.slc ⟨some ⟨r34, 0, none⟩, 1, 1⟩) [intV (rNum most st').1] := srcAt_slc (Own.new (sz := 1) (n := 1) hb34 (.inl (by simp)) rfl).cells rfl
        refine appendS_own (ho30.keep hk35) (by omega) rfl hsrc (one_ints [_]) (by simp only [Src.n]; omega) (fun s36 w37 g1 g2 g3 g4 => ?_)
        have hne : ∀ k, ownB out k → k ≠ r := fun k hk he => hno k hk he
        have hFout : ∀ k, F k → ¬ ownB out k := fun k hk ho => by have := hF k hk; have := hfr k ho; omega
        simp only [Src.n] at g4
        refine ⟨⟨acc ++ [(rNum most st').1], (rNum most st').2, by simp; omega, by simpa using g1, fun b hb => ?_, (hR30'.keep hk35).ext g2 (fun hh => hne r hh rfl) hFout, by omega, ?_, ?_⟩, by dsimp only; omega⟩
        · rcases g3 b hb with g5 | g5
          · exact hfr b g5
          · have := (k10.trans' k30).size; have := hk35.size; omega
        · refine Ext.trans ((k10.trans' k30).trans hk35 (fun _ h => h) (fun _ h => h.elim)) g2 (fun _ h => h) (fun k hk => .inr (hfr k hk))
        · rw [← hrm]
          congr 1
          simp; omega
  · have e1 : n.toNat - acc.length = 0 := by omega
    rw [e1, rMany] at hrm
    rw [← hrm]
    exact ⟨_, rfl, ho.ints, hR', k10, hfr⟩
end Go.D
