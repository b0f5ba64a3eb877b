/-
  WHAT IS PROVED: contracts of functions, and the plain law, for this proof. No further conditions.
-/
import Derived.Test.YtecmadidakoppaaDoorVCin
import Derived.Test.YtecmadidakoppaaDoorRd
set_option linter.unusedVariables false
set_option linter.unusedSimpArgs false
namespace Go.D
open Go Go.Proofs

theorem In_spec (s : Slc) (l : List Int) (n : Int) (w : World) (h : intsAt w s l) (hl : l.length ≤ 2 ^ 40) :
    Calls Tryd.prog fn_tidewaternum_In ⟨[s.v, .int .i64 n]⟩ w fun e w' => e = .returned (.bool (decide (n ∈ l))) ∧ w' = w := by
  have hsl := h.1
  refine tidewaternum_In_ok _ _ ?_
  unfold tidewaternum_In
  refine ⟨fun i w2 => w2 = w ∧ ∃ k : Nat, i = k ∧ k ≤ l.length ∧ n ∉ l.take k, fun i _ => ((l.length : Int) - i).toNat, ⟨rfl, 0, rfl, by omega, by simp⟩, ?_⟩
  rintro i w2 ⟨rfl, k, rfl, hk, hn⟩
  intros
  refine BIf_dec (fun hlt => ?_) (fun hlt => ?_)
  · have hkl : k < l.length := by omega
    obtain ⟨a, ha, hc⟩ := intsAt_cell h hkl
    refine needSome_mk ha ⟨by omega, hlt, l[k], by rw [show Int.toNat (k : Int) * 1 = k by omega]; exact hc, BIf_dec (fun h1 => ⟨?_, rfl⟩) (fun h1 => ?_)⟩
    · rw [decide_eq_true (by rw [← h1]; exact List.getElem_mem hkl)]
    · refine ⟨inR64 (by omega), ⟨rfl, k + 1, rfl, hkl, ?_⟩, by dsimp only; omega⟩
      rw [List.take_succ_eq_append_getElem hkl]
      simp only [List.mem_append, List.mem_singleton, not_or]
      exact ⟨hn, fun h2 => h1 h2.symm⟩
  · rw [List.take_of_length_le (by omega)] at hn
    exact ⟨by rw [decide_eq_false hn], rfl⟩

end Go.D
