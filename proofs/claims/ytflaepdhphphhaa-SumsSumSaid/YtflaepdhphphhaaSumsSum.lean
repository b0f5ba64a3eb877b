/-
  WHAT IS PROVED: contracts of functions, and the plain law, for this proof. No further conditions.
-/
import Derived.Test.YtflaepdhphphhaaSums2
set_option linter.unusedSimpArgs false
set_option linter.unusedVariables false
namespace Go.D
open Go Go.Proofs

theorem flatten_take_succ {bs : List (List UInt8)} {k : Nat} (h : k < bs.length) : (bs.take (k + 1)).flatten = (bs.take k).flatten ++ bs[k] := by
  rw [List.take_succ_eq_append_getElem h, List.flatten_append]; simp

theorem SumsSum_walk (parts : Slc) (ps : List Slc) (bs : List (List UInt8)) (w : World) (h : rowsAt w parts ps bs) :
    Calls Try.prog fn_tidewaterlaw01_SumsSum ⟨[parts.v]⟩ w fun e w' => e = .returned (.bool true) ∧ Keep w w' := by
  refine tidewaterlaw01_SumsSum_ok _ ?_
  unfold tidewaterlaw01_SumsSum
  refine (alive01_spec w).mono ?_
  rintro e w3 ⟨rfl, hk3⟩
  refine ⟨_, rfl, ?_⟩
  refine BIf_dec (fun h1 => ⟨rfl, hk3⟩) (fun h1 => ?_)
  refine newS_mk (fun r5 w6 hr5 hb5 hk5 hs5 => ?_)
  have hk6 := hk3.trans hk5
  have hl := h.1
  refine ⟨fun all i w' => Keep w w' ∧ Fresh w all ∧ ∃ k : Nat, i = k ∧ k ≤ ps.length ∧ Own w' all 1 ((bs.take k).flatten.map byteV) ∧ all.l ≤ 300 * k ∧ (∀ j (h : j < ps.length), j < k → ps[j].l ≤ 300),
    fun _ i _ => (ps.length - i).toNat,
    ⟨hk6, Fresh.at (by have := hk3.size; omega), 0, rfl, by omega, by simpa using Own.new (sz := 1) (n := 0) hb5 (clear0 _) rfl, by simp, by intro j h1 h2; omega⟩, ?_⟩
  rintro all i w1 ⟨hkw, hfr, k, rfl, hk, hown, hal, hsm⟩
  intros
  have hrow := rowsAt_keep h hkw
  refine BIf_dec (fun h2 => ?_) (fun h2 => ?_)
  · have hk' : k < ps.length := by omega
    have hkb : k < bs.length := by have := h.2.2.1; omega
    refine needSome_cell hrow.2.1 (i := k) (by simpa using hk') (fun a ha hc => ⟨by omega, h2, ps[k], by simpa using hc, ?_⟩)
    have hb := hrow.2.2.2 k hk' hkb
    refine BIf_dec (fun h3 => ⟨rfl, hkw⟩) (fun h3 => ?_)
    refine append_bytes hown rfl hfr hkw (srcAt_bytes hb) (by simp only [Src.n]; omega) (fun s' w' h4 h5 h6 h7 => ?_)
    refine ⟨inR64 (by omega), ⟨h5, h6, k + 1, rfl, by omega, by rw [flatten_take_succ hkb]; exact h4, ?_, fun j h8 h9 => ?_⟩, by dsimp only; omega⟩
    · have e1 := h4.1
      have e2 := hown.1
      simp only [List.length_map, List.length_append, Nat.mul_one] at e1 e2
      have := hb.1
      omega
    · by_cases hj : j = k
      · subst hj; omega
      · exact hsm j h8 (by omega)
  · obtain rfl : k = ps.length := by omega
    have hlen := h.2.2.1
    rw [hlen, List.take_length] at hown
    refine (Sum_spec parts ps bs w1 hrow (by omega) (fun i hi => by have := hsm i hi hi; omega)).mono ?_
    rintro e w2 ⟨rfl, rfl⟩
    refine ⟨_, rfl, ?_⟩
    have hlall : all.l ≤ 6000 := by omega
    refine (refSum_spec all _ w2 hown.bytes (by omega)).mono ?_
    rintro e w4 ⟨rfl, rfl⟩
    refine ⟨_, rfl, BIf_dec (fun _ => ?_) (fun h => absurd rfl h)⟩
    refine newS_mk (fun r34 w35 hr34 hb34 hk34 hs34 => ?_)
    have hb2 := (hown.keep hk34).bytes
    refine (Sum_spec _ _ _ _ (rowsAt_one hb34 hb2) (by simp) (fun i h => by
      have : i = 0 := by simp at h; omega
      subst this; show all.l ≤ _; omega)).mono ?_
    rintro e w5 ⟨rfl, rfl⟩
    refine ⟨_, rfl, ?_⟩
    refine (refSum_spec all _ w5 hb2 (by omega)).mono ?_
    rintro e w6 ⟨rfl, rfl⟩
    refine ⟨_, rfl, ?_, hkw.trans hk34⟩
    simp
end Go.D
