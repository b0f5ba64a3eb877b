/-
  WHAT IS PROVED: contracts of functions, and the plain law, for this proof. No further conditions.
-/
import Derived.Test.YtojcoegekkcojaaDoorVCints
import Derived.Test.YtojcoegekkcojaaDoorRd
set_option linter.unusedVariables false
set_option linter.unusedSimpArgs false
namespace Go.D
open Go Go.Proofs

theorem SameInts_spec (s t : Slc) (a b : List Int) (w : World) (ha : intsAt w s a) (hb : intsAt w t b) (hl : a.length ≤ 2 ^ 40) :
    Calls Tryd.prog fn_tidewaternum_SameInts ⟨[s.v, t.v]⟩ w fun e w' => e = .returned (.bool (decide (a = b))) ∧ Keep w w' := by
  have hsl := ha.1
  have htl := hb.1
  refine tidewaternum_SameInts_ok _ _ ?_
  unfold tidewaternum_SameInts
  refine BIf_ndec (fun h => ?_) (fun h => ?_)
  · rw [decide_eq_false (fun hh => h (by rw [hsl, htl, hh]))]
    exact ⟨rfl, Ext.refl _ _⟩
  · have hlen : a.length = b.length := by omega
    refine ⟨fun i w2 => ∃ k : Nat, i = k ∧ k ≤ a.length ∧ Keep w w2 ∧ ∀ j, j < k → a[j]? = b[j]?, fun i _ => ((a.length : Int) - i).toNat, ⟨0, rfl, by omega, Ext.refl _ _, fun j h => by omega⟩, ?_⟩
    rintro i w2 ⟨k, rfl, hk, hkp, hpre⟩
    intros
    refine BIf_dec (fun h1 => ?_) (fun h1 => ?_)
    · have hka : k < a.length := by omega
      have hkb : k < b.length := by omega
      obtain ⟨p, hp, hcp⟩ := intsAt_cell (intsAt_keep ha hkp.drew) hka
      obtain ⟨q, hq, hcq⟩ := intsAt_cell (intsAt_keep hb hkp.drew) hkb
      refine needSome_mk hp ⟨by omega, h1, a[k], by rw [show Int.toNat (k : Int) * 1 = k by omega]; exact hcp, needSome_mk hq ⟨by omega, by omega, b[k], by rw [show Int.toNat (k : Int) * 1 = k by omega]; exact hcq, ?_⟩⟩
      refine BIf_ndec (fun h2 => ?_) (fun h2 => ?_)
      · rw [decide_eq_false (fun hh => h2 (by subst hh; rfl))]
        exact ⟨rfl, hkp.drew⟩
      · refine ⟨inR64 (by omega), ⟨k + 1, rfl, by omega, hkp.drew, fun j hj => ?_⟩, by dsimp only; omega⟩
        rcases Nat.lt_or_ge j k with h | h
        · exact hpre j h
        · have : j = k := by omega
          subst this
          rw [List.getElem?_eq_getElem hka, List.getElem?_eq_getElem hkb, h2]
    · rw [decide_eq_true (List.ext_getElem? fun j => ?_)]
      · exact ⟨rfl, hkp⟩
      · rcases Nat.lt_or_ge j k with h | h
        · exact hpre j h
        · rw [List.getElem?_eq_none (by omega), List.getElem?_eq_none (by omega)]

end Go.D
