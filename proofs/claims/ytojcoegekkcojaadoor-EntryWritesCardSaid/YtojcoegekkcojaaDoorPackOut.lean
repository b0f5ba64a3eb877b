/-
  WHAT IS PROVED: contracts of functions, and the plain law, for this proof. No further conditions.
-/
import Derived.Test.YtojcoegekkcojaaDoorBytes4
import Derived.Test.YtojcoegekkcojaaDoorErrB
import Derived.Test.YtojcoegekkcojaaDoorEncN
import Derived.Test.YtojcoegekkcojaaDoorSub
import Derived.Test.YtojcoegekkcojaaDoorRd
import Derived.Test.YtojcoegekkcojaaDoorVCpack
import Derived.Test.YtojcoegekkcojaaDoorObjM
set_option linter.unusedVariables false
set_option linter.unusedSimpArgs false
namespace Go.D
open Go Go.Proofs

def failE (ev v : Value) : Value := if isNilI ev then v else ev

theorem Out_fail_spec (r : Nat) (s : Slc) (bs : List UInt8) (ev v : Value) (w : World) (h : OutAt w r s bs ev) (hi : isI ev) (hv : ∀ X : Prop, X → oneK v X) :
    Calls Tryd.prog fn_pack_Out_fail ⟨[.pointer (some ⟨r, 0, none⟩), v]⟩ w fun e w' => e = .returned (.tuple #[]) ∧ OutAt w' r s bs (failE ev v) ∧ Foot (OutM r s) (OutM r s) w w' := by
  refine pack_Out_fail_ok _ _ ?_
  refine needSome_mk rfl ⟨_, by rw [add_lit]; exact h.c1, hi, BIf_mk (fun hn => needSome_mk rfl (hv _ (hv _ ?_))) (fun hn => ?_)⟩
  · obtain ⟨h1, h2, h3⟩ := h.setErr v
    rw [add_lit]
    refine ⟨h1, ?_⟩
    rintro w6 rfl
    refine ⟨rfl, ?_, h3⟩
    rw [failE, if_pos hn]; exact h2
  · refine ⟨rfl, ?_, Foot.refl _ _⟩
    rw [failE, if_neg (by rw [hn]; decide)]; exact h

theorem errV_one (A : Nat → Addr) (g : Nat) : ∀ X : Prop, X → oneK (errV A g) X := fun X h => h

theorem Out_Num_spec (A : Nat → Addr) (r : Nat) (s : Slc) (bs : List UInt8) (ev : Value) (n : Int) (w : World) (h : OutAt w r s bs ev) (hi : isI ev) (hn : -9223372036854775808 ≤ n ∧ n ≤ 9223372036854775807) (hl : bs.length ≤ 2 ^ 20)
    (hE : ErrIs tyErr w gl_ErrRange (A gl_ErrRange)) :
    Calls Tryd.prog fn_pack_Out_Num ⟨[.pointer (some ⟨r, 0, none⟩), .int .i64 n]⟩ w fun e w' => e = .returned (.tuple #[]) ∧
      ∃ s', OutAt w' r s' (if n < 0 ∨ 4611686018427387903 < n then bs else bs ++ encN n.toNat) (if n < 0 ∨ 4611686018427387903 < n then failE ev (errV A gl_ErrRange) else ev) ∧ Foot (OutM r s) (OutM r s') w w' := by
  refine pack_Out_Num_ok _ _ ?_
  unfold pack_Out_Num
  by_cases hbad : n < 0 ∨ 4611686018427387903 < n
  · rw [if_pos hbad, if_pos hbad]
    have key := Out_fail_spec r s bs ev (errV A gl_ErrRange) w h hi (errV_one A _)
    refine ⟨fun _ => False, BIf_dec (fun h1 => ⟨_, hE.1, key.mono ?_⟩) (fun h1 => BIf_dec (fun h2 => ⟨_, hE.1, key.mono ?_⟩) (fun h2 => by omega)), fun _ h => h.elim⟩
    · rintro e w' ⟨rfl, h2, h3⟩
      exact ⟨rfl, rfl, s, h2, h3⟩
    · rintro e w' ⟨rfl, h2, h3⟩
      exact ⟨rfl, rfl, s, h2, h3⟩
  · rw [if_neg hbad, if_neg hbad]
    refine ⟨fun w2 => w2 = w, BIf_dec (fun h1 => by omega) (fun h1 => BIf_dec (fun h2 => by omega) (fun h2 => rfl)), ?_⟩
    rintro w2 rfl
    intros
    refine ⟨fun m w3 => ∃ (k : Nat) (s' : Slc) (x : List UInt8), m = k ∧ x ++ encN k = bs ++ encN n.toNat ∧ OutAt w3 r s' x ev ∧ Foot (OutM r s) (OutM r s') w2 w3, fun m _ => m.toNat, ⟨n.toNat, s, bs, by omega, rfl, h, Foot.refl _ _⟩, ?_⟩
    rintro m w3 ⟨k, s', x, rfl, hx, ho, hft⟩
    intros
    have hlen := congrArg List.length hx
    have hle := encN_len n.toNat 8 (by omega)
    have hpos := encN_pos k
    simp only [List.length_append] at hlen
    have hsl : s'.l = x.length := by have := ho.2.1.1; simpa using this
    refine BIf_dec (fun h1 => ?_) (fun h1 => ?_)
    · refine needSome_mk rfl ⟨s', ho.c0, by omega, by omega, inR64 (by omega), newS_mk (fun r43 w44 hr43 hb43 hk43 hs43 => ?_)⟩
      have e1 : ((k : Int) % 128 + 128) = ((k % 128 + 128 : Nat) : Int) := by omega
      rw [e1, wrap8] at hb43
      have hb : bytesAt w44 ⟨some ⟨r43, 0, none⟩, 1, 1⟩ [UInt8.ofNat (k % 128 + 128)] := (Own.new (sz := 1) (n := 1) hb43 (.inl (by simp)) rfl).bytes
      refine (ho.keep hk43).append rfl (srcAt_bytes hb) (by simp only [Src.n]; omega) (fun s45 w46 hc hh => needSome_mk rfl ⟨hc, ?_⟩)
      rintro w48 rfl
      obtain ⟨h5, h6⟩ := hh _ rfl
      refine ⟨by omega, by omega, ⟨k / 128, s45, _, by omega, ?_, h5, (hft.keep hk43).trans h6⟩, by dsimp only; omega⟩
      rw [← hx, encN.eq_1 k, dif_neg (by omega)]; simp
    · refine needSome_mk rfl ⟨s', ho.c0, newS_mk (fun r43 w44 hr43 hb43 hk43 hs43 => ?_)⟩
      rw [wrap8] at hb43
      have hb : bytesAt w44 ⟨some ⟨r43, 0, none⟩, 1, 1⟩ [UInt8.ofNat k] := (Own.new (sz := 1) (n := 1) hb43 (.inl (by simp)) rfl).bytes
      refine (ho.keep hk43).append rfl (srcAt_bytes hb) (by simp only [Src.n]; omega) (fun s45 w46 hc hh => needSome_mk rfl ⟨hc, ?_⟩)
      rintro w48 rfl
      obtain ⟨h5, h6⟩ := hh _ rfl
      refine ⟨rfl, s45, ?_, (hft.keep hk43).trans h6⟩
      rw [encN.eq_1 k, dif_pos (by omega)] at hx
      rw [← hx]; exact h5
end Go.D
