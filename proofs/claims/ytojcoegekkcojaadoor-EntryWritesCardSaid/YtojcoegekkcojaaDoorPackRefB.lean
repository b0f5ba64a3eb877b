/-
  WHAT IS PROVED: contracts of functions, and the plain law, for this proof. No further conditions.
-/
import Derived.Test.YtojcoegekkcojaaDoorVCref04
import Derived.Test.YtojcoegekkcojaaDoorEncN
import Derived.Test.YtojcoegekkcojaaDoorBytes4
import Derived.Test.YtojcoegekkcojaaDoorArgs
import Derived.Test.YtojcoegekkcojaaDoorRd
set_option linter.unusedVariables false
set_option linter.unusedSimpArgs false
namespace Go.D
open Go Go.Proofs

theorem ref04_Num_specZ : ∀ (n : Nat) (z : Int) (w : World), z = n → n ≤ 9223372036854775807 →
    Calls Tryd.prog fn_tidewaterref04_Num ⟨[.int .i64 z]⟩ w fun e w' => ∃ s : Slc, e = .returned s.v ∧ Own w' s 1 ((encN n).map byteV) ∧ Fresh w s ∧ Keep w w' := by
  intro n
  induction n using Nat.strongRecOn with
  | ind n ih =>
    intro z w hz hn
    refine tidewaterref04_Num_ok _ ?_
    unfold tidewaterref04_Num
    refine BIf_dec (fun h => ?_) (fun h => ?_)
    · refine newS_mk (fun r w3 hr hb hk hs => ?_)
      rw [hz, wrap8] at hb
      refine ⟨_, rfl, ?_, Fresh.at (by omega), hk⟩
      rw [encN_lt (by omega)]
      exact Own.new (sz := 1) hb (.inl (by simp)) rfl
    · refine ⟨by omega, by omega, inR64 (by omega), newS_mk (fun r w5 hr hb hk hs => ?_)⟩
      rw [show (z % 128 + 128) = ((n % 128 + 128 : Nat) : Int) by omega, wrap8] at hb
      refine ⟨by omega, by omega, inR64 (by omega), ?_⟩
      refine (ih (n / 128) (by omega) (z / 128) w5 (by omega) (by omega)).mono ?_
      rintro e w7 ⟨s8, rfl, h8, f8, k8⟩
      have ho : Own w7 ⟨some ⟨r, 0, none⟩, 1, 1⟩ 1 ([UInt8.ofNat (n % 128 + 128)].map byteV) := Own.keep (Own.new (sz := 1) hb (.inl (by simp)) rfl) k8
      have hle := encN_len (n / 128) 9 (by omega)
      have h81 := h8.bytes.1
      refine ⟨s8, rfl, append_bytes (w0 := w) ho rfl (Fresh.at (by omega)) (hk.trans k8) (srcAt_bytes h8.bytes) (by simp only [Src.n]; omega) (fun s9 w10 g1 g2 g3 g4 => ?_)⟩
      refine ⟨s9, rfl, ?_, g3, g2⟩
      rw [encN_ge (by omega)]
      exact g1

theorem ref04_Num_spec (n : Nat) (w : World) (h : n ≤ 9223372036854775807) :
    Calls Tryd.prog fn_tidewaterref04_Num ⟨[.int .i64 (n : Int)]⟩ w fun e w' => ∃ s : Slc, e = .returned s.v ∧ Own w' s 1 ((encN n).map byteV) ∧ Fresh w s ∧ Keep w w' := ref04_Num_specZ n n w rfl h

theorem ref04_Text_spec (t : List UInt8) (w : World) (hl : t.length ≤ 2 ^ 20) :
    Calls Tryd.prog fn_tidewaterref04_Text ⟨[strV t]⟩ w fun e w' => ∃ s : Slc, e = .returned s.v ∧ Own w' s 1 ((encN t.length ++ t).map byteV) ∧ Fresh w s ∧ Keep w w' := by
  refine tidewaterref04_Text_ok _ ?_
  unfold tidewaterref04_Text
  refine (ref04_Num_spec t.length w (by omega)).mono ?_
  rintro e w3 ⟨s4, rfl, h4, f4, k4⟩
  have hle := encN_len t.length 9 (by omega)
  have h41 := h4.bytes.1
  refine ⟨s4, rfl, append_bytes (w0 := w) h4 rfl f4 k4 ⟨rfl, rfl⟩ (by simp only [Src.n]; omega) (fun s9 w10 g1 g2 g3 g4 => ?_)⟩
  exact ⟨s9, rfl, g1, g3, g2⟩

end Go.D
