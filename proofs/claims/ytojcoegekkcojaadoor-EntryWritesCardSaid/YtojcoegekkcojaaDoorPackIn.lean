/-
  WHAT IS PROVED: contracts of functions, and the plain law, for this proof. No further conditions.
-/
import Derived.Test.YtojcoegekkcojaaDoorPackOut2
set_option linter.unusedVariables false
set_option linter.unusedSimpArgs false
namespace Go.D
open Go Go.Proofs

/-- A number read off bytes: its value and what is behind, or the error's place. -/
def rawR : Nat → Nat → List UInt8 → Except Nat (Nat × List UInt8)
  | _, _, [] => .error 1
  | k, n, c :: rest =>
    if 128 ≤ c.toNat ∧ k < 8 then rawR (k + 1) (n + (c.toNat % 128) * 2 ^ (7 * k)) rest
    else if 128 ≤ c.toNat ∨ (c.toNat = 0 ∧ 0 < k) ∨ 4611686018427387903 < n + (c.toNat % 128) * 2 ^ (7 * k) then .error 3
    else .ok (n + (c.toNat % 128) * 2 ^ (7 * k), rest)

/-- A reader: a struct that holds a slice of bytes and an error. -/
def InAt (w : World) (r : Nat) (s : Slc) (bs : List UInt8) (ev : Value) : Prop := ObjAt w r [s.v, ev] ∧ bytesAt w s bs ∧ ¬ ownB s r ∧ s.l ≤ s.c
def eqB (r k : Nat) : Prop := k = r

theorem InAt.ext {M : Nat → Prop} {w w' : World} {r : Nat} {s : Slc} {bs : List UInt8} {ev : Value} (h : InAt w r s bs ev) (he : Ext M w w') (hm : ∀ k, OutM r s k → ¬ M k) : InAt w' r s bs ev :=
  ⟨h.1.ext he (hm r (.inl rfl)), bytesAt_ext h.2.1 he (fun k hk => hm k (.inr hk)), h.2.2⟩
theorem InAt.keep {w w' : World} {r : Nat} {s : Slc} {bs : List UInt8} {ev : Value} (h : InAt w r s bs ev) (he : Keep w w') : InAt w' r s bs ev := h.ext he (fun _ _ h => h)
theorem InAt.c0 {w : World} {r : Nat} {s : Slc} {bs : List UInt8} {ev : Value} (h : InAt w r s bs ev) : w.cell? ⟨r, 0, none⟩ = some s.v := h.1.cell 0 (by simp)
theorem InAt.c1 {w : World} {r : Nat} {s : Slc} {bs : List UInt8} {ev : Value} (h : InAt w r s bs ev) : w.cell? ⟨r, 1, none⟩ = some ev := h.1.cell 1 (by simp)
theorem InAt.setErr {w : World} {r : Nat} {s : Slc} {bs : List UInt8} {ev : Value} (h : InAt w r s bs ev) (v : Value) :
    canW w ⟨r, 1, none⟩ 1 ∧ InAt (w.setCell ⟨r, 1, none⟩ v) r s bs v ∧ Ext (eqB r) w (w.setCell ⟨r, 1, none⟩ v) := by
  obtain ⟨h1, h2, h3⟩ := h.1.set 1 (by simp) v
  exact ⟨h1, ⟨h2, bytesAt_ext h.2.1 h3 (fun k hk he => h.2.2.1 (he ▸ hk)), h.2.2⟩, h3⟩

theorem In_fail_spec (r : Nat) (s : Slc) (bs : List UInt8) (ev v : Value) (w : World) (h : InAt w r s bs ev) (hi : isI ev) (hv : ∀ X : Prop, X → oneK v X) :
    Calls Tryd.prog fn_pack_In_fail ⟨[.pointer (some ⟨r, 0, none⟩), v]⟩ w fun e w' => e = .returned (.int .i64 0) ∧ InAt w' r s bs (failE ev v) ∧ Ext (eqB r) w w' := by
  refine pack_In_fail_ok _ _ ?_
  refine needSome_mk rfl ⟨_, by rw [add_lit]; exact h.c1, hi, BIf_mk (fun hn => needSome_mk rfl (hv _ (hv _ ?_))) (fun hn => ?_)⟩
  · obtain ⟨h1, h2, h3⟩ := h.setErr v
    rw [add_lit]
    refine ⟨h1, ?_⟩
    rintro w6 rfl
    refine ⟨rfl, ?_, h3⟩
    rw [failE, if_pos hn]; exact h2
  · refine ⟨rfl, ?_, Ext.refl _ _⟩
    rw [failE, if_neg (by rw [hn]; decide)]; exact h

theorem ownB_sub {s : Slc} {sz lo hi c k : Nat} (h : ownB (Slc.sub s sz lo hi c) k) : ownB s k := by
  obtain ⟨a, ha, rfl⟩ := h
  simp only [Slc.sub] at ha
  split at ha
  · exact ⟨a, ha, rfl⟩
  · obtain ⟨b, hb, rfl⟩ := Option.map_eq_some_iff.1 ha
    exact ⟨b, hb, (add_block b _).symm⟩

/-- The reader's slice is cut. -/
theorem InAt.cut {w : World} {r : Nat} {s : Slc} {bs : List UInt8} {ev : Value} (h : InAt w r s bs ev) {k : Nat} (hk : k ≤ bs.length) :
    canW w ⟨r, 0, none⟩ 1 ∧ InAt (w.setCell ⟨r, 0, none⟩ (Slc.sub s 1 k s.l s.c).v) r (Slc.sub s 1 k s.l s.c) (bs.drop k) ev ∧ Ext (eqB r) w (w.setCell ⟨r, 0, none⟩ (Slc.sub s 1 k s.l s.c).v) := by
  obtain ⟨h1, h2, h3⟩ := h.1.set 0 (by simp) (Slc.sub s 1 k s.l s.c).v
  have hl := h.2.1.1
  have hc := h.2.2.2
  have hb : bytesAt w (Slc.sub s 1 k s.l s.c) (bs.drop k) := by
    have := bytesAt_sub h.2.1 (lo := k) (hi := s.l) (c := s.c) (by omega) (by omega) (by omega)
    rw [hl, List.take_length] at this
    rw [hl]; exact this
  have hn : ¬ ownB (Slc.sub s 1 k s.l s.c) r := fun hh => h.2.2.1 (ownB_sub hh)
  refine ⟨h1, ⟨h2, bytesAt_ext hb h3 (fun x hx he => hn (he ▸ hx)), hn, ?_⟩, h3⟩
  simp only [Slc.sub]
  omega

/-- How a reading of a number ends. -/
def RawRes (A : Nat → Addr) (w w' : World) (r : Nat) (s : Slc) (bs : List UInt8) (n : Int) : Except Nat (Nat × List UInt8) → Prop
  | .error k => n = 0 ∧ InAt w' r s bs (errV A (errG.getD k 0)) ∧ Ext (eqB r) w w'
  | .ok (m, rest) => n = m ∧ ∃ s', InAt w' r s' rest .nilIface ∧ (∀ k, ownB s' k → ownB s k) ∧ Ext (eqB r) w w'

theorem In_raw_spec (A : Nat → Addr) (r : Nat) (s : Slc) (bs : List UInt8) (w : World) (h : InAt w r s bs .nilIface) (hl : bs.length ≤ 2 ^ 30) (hE : Errs A w) :
    Calls Tryd.prog fn_pack_In_raw ⟨[.pointer (some ⟨r, 0, none⟩)]⟩ w fun e w' => ∃ n : Int, e = .returned (.int .i64 n) ∧ RawRes A w w' r s bs n (rawR 0 0 bs) := by
  have hsl := h.2.1.1
  refine pack_In_raw_ok _ ?_
  unfold pack_In_raw
  refine needSome_mk rfl ⟨s, h.c0, ?_⟩
  refine ⟨fun n i w2 => w2 = w ∧ ∃ k m : Nat, i = k ∧ n = m ∧ k ≤ bs.length ∧ k ≤ 8 ∧ m < 2 ^ (7 * k) ∧ rawR k m (bs.drop k) = rawR 0 0 bs, fun _ i _ => ((bs.length : Int) - i).toNat, ⟨rfl, 0, 0, rfl, rfl, by omega, by omega, by simp, rfl⟩, ?_⟩
  rintro n6 i7 w8 ⟨rfl, k, m, rfl, rfl, hk, hk8, hm, hraw⟩
  intros
  have fail : ∀ (j : Nat), j < 19 → Calls Tryd.prog fn_pack_In_fail ⟨[.pointer (some ⟨r, 0, none⟩), errV A (errG.getD j 0)]⟩ w8 fun e w' => e = .returned (.int .i64 0) ∧ InAt w' r s bs (errV A (errG.getD j 0)) ∧ Ext (eqB r) w8 w' :=
    fun j hj => In_fail_spec r s bs .nilIface _ w8 h trivial (errV_one A _)
  refine BIf_dec (fun h1 => ?_) (fun h1 => ?_)
  · have hkl : k < bs.length := by omega
    obtain ⟨a, ha, hc⟩ := bytesAt_cell h.2.1 hkl
    have hd : bs.drop k = bs[k] :: bs.drop (k + 1) := drop_get hkl
    rw [hd, rawR] at hraw
    have hcl := bs[k].toNat_lt
    generalize hcc : bs[k].toNat = c at hraw hcl
    have hc' : w8.cell? (a.add k) = some (.int .u8 (c : Int)) := by rw [hc, byteV, hcc]
    have hmin : min (Int.toNat ((7 : Int) * (k : Int))) 64 = 7 * k := by omega
    have hP : 2 ^ (7 * k) ≤ 2 ^ 56 := Nat.pow_le_pow_right (by omega) (by omega)
    have hP1 : 2 ^ (7 * (k + 1)) = 128 * 2 ^ (7 * k) := by rw [show 7 * (k + 1) = 7 + 7 * k by omega, Nat.pow_add]
    have hor := or_disj m (c % 128) (7 * k) hm
    have hdm : (c % 128) * 2 ^ (7 * k) ≤ 127 * 2 ^ (7 * k) := Nat.mul_le_mul_right _ (by omega)
    rw [hmin]
    have ecast : ((c : Int) % 128) * ((2 ^ (7 * k) : Nat) : Int) = (((c % 128) * 2 ^ (7 * k) : Nat) : Int) := by
      rw [Int.natCast_mul]; congr 1
    refine needSome_mk ha ⟨by omega, h1, (c : Int), by rw [show (Int.toNat (k : Int)) * 1 = k by omega]; exact hc', ?_⟩
    rw [ecast, bits_or, hor]
    generalize hdv : (c % 128) * 2 ^ (7 * k) = d at hraw hdm
    generalize hPv : 2 ^ (7 * k) = P at hP hP1 hm hdm
    refine ⟨by omega, by omega, inR64 (by omega), inR64 (by omega), by omega, inR64 (by omega), by omega, by omega, inR64 (by omega), inR64 (by omega), ?_⟩
    refine ⟨fun w2 => w2 = w8 ∧ ¬ (128 ≤ c ∧ k < 8), BIf_dec (fun h2 => BIf_dec (fun h3 => ?_) (fun h3 => ⟨rfl, by omega⟩)) (fun h2 => ⟨rfl, by omega⟩), ?_⟩
    · rw [if_pos (by omega)] at hraw
      exact ⟨inR64 (by omega), ⟨rfl, k + 1, m + d, rfl, rfl, by omega, by omega, by rw [hP1]; omega, hraw⟩, by dsimp only; omega⟩
    · rintro w66 ⟨rfl, hno⟩
      intros
      rw [if_neg hno] at hraw
      have form : (128 ≤ c ∨ (c = 0 ∧ 0 < k) ∨ 4611686018427387903 < m + d) → ∃ v : Value, w66.cell? ⟨gl_ErrForm, 0, none⟩ = some v ∧ Calls Tryd.prog fn_pack_In_fail ⟨[.pointer (some ⟨r, 0, none⟩), v]⟩ w66 fun e w' => ∃ n : Int, e = .returned (.int .i64 n) ∧ ∃ n' : Int, Ending.returned (Value.int .i64 n) = .returned (.int .i64 n') ∧ RawRes A w66 w' r s bs n' (rawR 0 0 bs) := by
        intro hbad
        refine ⟨_, Errs.at hE 3 (by omega), (fail 3 (by omega)).mono ?_⟩
        rintro e w' ⟨rfl, g1, g2⟩
        rw [if_pos hbad] at hraw
        refine ⟨0, rfl, 0, rfl, ?_⟩
        rw [← hraw]
        exact ⟨rfl, g1, g2⟩
      have good : ¬ (128 ≤ c ∨ (c = 0 ∧ 0 < k) ∨ 4611686018427387903 < m + d) →
          needSome (some (⟨r, 0, none⟩ : Addr)) fun a102 => ∃ s103 : Slc, w66.cell? a102 = some s103.v ∧ inR .i64 ((k : Int) + 1) ∧ 0 ≤ ((k : Int) + 1) ∧ ((k : Int) + 1) ≤ ((s103.l : Nat) : Int) ∧ ((s103.l : Nat) : Int) ≤ ((s103.c : Nat) : Int) ∧ ((s103.c : Nat) : Int) ≤ ((s103.c : Nat) : Int) ∧
            needSome (some (⟨r, 0, none⟩ : Addr)) fun a105 => canW w66 a105 1 ∧ ∀ w106 : World, w106 = w66.setCell a105 (Slc.v (Slc.sub s103 1 (Int.toNat ((k : Int) + 1)) s103.l s103.c)) →
              ∃ n' : Int, Ending.returned (Value.int .i64 ((m + d : Nat) : Int)) = .returned (.int .i64 n') ∧ RawRes A w66 w106 r s bs n' (rawR 0 0 bs) := by
        intro hgood
        rw [if_neg hgood] at hraw
        have ek : Int.toNat ((k : Int) + 1) = k + 1 := by omega
        obtain ⟨g1, g2, g3⟩ := h.cut (k := k + 1) (by omega)
        refine needSome_mk rfl ⟨s, h.c0, inR64 (by omega), by omega, by omega, by have := h.2.2.2; omega, by omega, needSome_mk rfl ⟨g1, ?_⟩⟩
        rintro w106 rfl
        rw [ek]
        refine ⟨_, rfl, ?_⟩
        rw [← hraw]
        exact ⟨rfl, _, g2, fun x hx => ownB_sub hx, g3⟩
      refine BIf_dec (fun h2 => form (.inl (by omega))) (fun h2 => BIf_dec (fun h3 => BIf_dec (fun h4 => form (.inr (.inl (by omega)))) (fun h4 => ?_)) (fun h3 => ?_))
      · refine BIf_dec (fun h5 => form (.inr (.inr (by omega)))) (fun h5 => BIf_dec (fun h6 => by omega) (fun h6 => good (by omega)))
      · refine BIf_dec (fun h5 => form (.inr (.inr (by omega)))) (fun h5 => BIf_dec (fun h6 => by omega) (fun h6 => good (by omega)))
  · refine ⟨_, Errs.at hE 1 (by omega), (fail 1 (by omega)).mono ?_⟩
    rintro e w' ⟨rfl, g1, g2⟩
    have : bs.drop k = [] := List.drop_eq_nil_of_le (by omega)
    rw [this, rawR] at hraw
    refine ⟨0, rfl, 0, rfl, ?_⟩
    rw [← hraw]
    exact ⟨rfl, g1, g2⟩
end Go.D
