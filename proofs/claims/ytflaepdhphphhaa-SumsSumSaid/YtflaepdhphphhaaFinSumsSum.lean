/-
  WHAT IS PROVED: for every input tidewaterlaw01.SumsSum returns true and leaves its argument as it was (Rows.SumsSumSaid). No further conditions.
-/
import Derived.Test.YtflaepdhphphhaaRows
import Derived.WalkKit
import Derived.ProofKit
import Derived.OpenShut
import Derived.ShutString
import Derived.ChangeOld
import Derived.Below
import Derived.Test.YtflaepdhphphhaaSumsSum
set_option linter.unusedSimpArgs false
set_option linter.unusedVariables false
namespace Go.Proofs.Ytflaepdhphphhaa
open Go.ChangeShapes Go.WideShapes Go.ChangeAt Go.RowKit

theorem own : ownKnob Try.prog.godebug = none := by kernel_rfl
theorem laidOut : laidOutB Try.prog = true := by kernel_rfl

set_option maxRecDepth 100000 in
theorem sumsSum_lifted (os : Os) (started : os.Started) (H : Type) (enc : TypeId × Value → H) :
    ReturnsInHanded {} Try.checked os 3 .any (Rows.sumsSumSpec.pre6 enc Try.prog Try.f3 Rows.sumsSumRow.domain false) (Rows.sumsSumSpec.post enc Try.prog Try.f3 false true false false) := by
  refine returnsInHanded_of_change (C := Try.checked) own started (by kernel_rfl) Try.func3
    (ChangeSpec.witness6 (enc := enc) (C := Try.checked) false ⟨#[], #[.slice none 0 0], []⟩ 8 (by kernel_rfl) (by kernel_rfl) (by kernel_rfl) (by kernel_rfl)) ?_
  intro W base args ds gs before hval0 hW hcnd _
  have hval : ∀ (j : Nat) t v, Try.f3.params[j]? = some t → args[j]? = some v → Value.okWide Try.prog W .any base t v := hval0
  have hW' := hW
  obtain ⟨p, q, hA0, hV, rfl, hfz, hnd⟩ := hW
  have hA : DataW.TrodAll enc Try.prog W 0 (fun _ => true) true Try.f3.params.toList args.toList ds p := hA0
  rw [Try.params3] at hA hval
  obtain ⟨v0, vs0, d0, ds0, p0, q0, hargs, rfl, rfl, h0, r0⟩ := trodAll_cons hA
  obtain ⟨rfl, rfl, rfl⟩ := trodAll_nil r0
  obtain rfl : args = #[v0] := by cases args; simp_all
  obtain ⟨rfl, rfl⟩ := trodVars_none hV
  have k0 := h0
  have lt0 : ∀ x ∈ p0, x.block < W.heap.size := by obtain ⟨m, hm⟩ := k0; exact DataW.trod_lt m _ _ _ hm
  obtain ⟨a0, l0, c0, rfl⟩ := okWide_slice Try.underlying22 (hval 0 22 v0 rfl rfl)
  obtain ⟨s0, ps0, bs0, hv0, w0, _⟩ : ∃ (s : D.Slc) (ps : List D.Slc) (bs : List (List UInt8)), Value.slice a0 l0 c0 = s.v ∧ D.rowsAt W s ps bs ∧ s.l ≤ s.c ∧ s.c ≤ maxLen := by
    obtain ⟨fuel, hf⟩ := h0
    exact D.read_rows Try.underlying22 (by kernel_rfl) Try.underlying24 Try.underlying5 (by kernel_rfl) hf
  obtain rfl : s0 = ⟨a0, l0, c0⟩ := D.Slc.v_inj hv0.symm
  clear hv0
  clear hA0 hval0
  refine (D.SumsSum_walk ⟨a0, l0, c0⟩ ps0 bs0 W w0).mono fun e W' ⟨he, kp⟩ => ?_
  have bel := kp.below
  subst he
  exact ⟨_, rfl, _, _, _, [], _, [], hW', trodAll_mk1 (shut_bool Try.underlying4 _), (trodAll_cons_mk (Below.trod laidOut (by kernel_rfl) (of_decide_eq_true (by kernel_rfl)) k0 bel lt0) trodAll_mk0), rfl, bel.frame _, fun h => by cases h⟩

theorem sumsSum_over : Rows.sumsSumRow.holds Try.pinned (OpenSpec.ofChange Rows.sumsSumSpec) :=
  OpenClaim.holds_of_wide 3 Try.f3 rfl rfl rfl rfl rfl rfl rfl ⟨rfl, rfl, rfl, rfl, rfl⟩ rfl rfl rfl rfl rfl (by kernel_rfl) Try.func3 (by kernel_rfl)
    (of_decide_eq_true (by kernel_rfl)) (by unfold Func.isWrapper; first | (rw [if_pos (by decide +kernel)]; kernel_rfl) | (rw [if_neg (by decide +kernel)]; exact ⟨rfl, rfl⟩))
    (fun os started H enc _ => sumsSum_lifted os started H enc)

theorem sumsSum_proved : Rows.SumsSumSaid := sumsSum_over
end Go.Proofs.Ytflaepdhphphhaa
