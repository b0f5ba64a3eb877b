/-
  WHAT IS PROVED: contracts of functions, and the plain law, for this proof. No further conditions.
-/
import Derived.Test.YtojcoegekkcojaaDoorVCsums
import Derived.Test.YtojcoegekkcojaaDoorRd
set_option linter.unusedVariables false
set_option linter.unusedSimpArgs false
namespace Go.D
open Go Go.Proofs

theorem CloneB_own (s : Slc) (b : List UInt8) (w : World) (hb : bytesAt w s b) (hl : s.l ≤ 2 ^ 30) :
    Calls Tryd.prog fn_slices_Clone_byte ⟨[s.v]⟩ w fun e w' => ∃ t : Slc, e = .returned t.v ∧ Own w' t 1 (b.map byteV) ∧ Fresh w t ∧ Keep w w' := by
  refine slices_Clone_byte_ok _ ?_
  unfold slices_Clone_byte
  refine BIf_mk (fun h => ?_) (fun h => ?_)
  · have hp : s.p = none := by simpa using h
    have hb0 : b = [] := by
      rcases hb.2 with h0 | ⟨a, ha, _⟩
      · simpa using h0
      · rw [hp] at ha; cases ha
    subst hb0
    exact ⟨_, rfl, Own.nil _ _, Fresh.nil _ _ _, Ext.refl _ _⟩
  · refine newS_mk (fun r w1 hr hb1 hk hs => ?_)
    refine append_bytes (vs := []) (w0 := w) (Own.new (sz := 1) (n := 0) hb1 (.inl (by simp)) rfl) rfl (Fresh.at (by omega)) hk (srcAt_bytes (bytesAt_keep hb hk)) (by simp only [Src.n]; omega) (fun s' w' h1 h2 h3 h4 => ?_)
    exact ⟨s', rfl, by simpa using h1, h3, h2⟩
end Go.D
