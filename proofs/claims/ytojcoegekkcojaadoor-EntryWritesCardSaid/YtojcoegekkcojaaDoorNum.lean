/-
  WHAT IS PROVED: contracts of functions, and the plain law, for this proof. No further conditions.
-/
import Derived.Test.YtojcoegekkcojaaDoorVCnum
import Derived.Test.YtojcoegekkcojaaDoorIsFacts
import Derived.Test.YtojcoegekkcojaaDoorLaid
set_option linter.unusedVariables false
set_option linter.unusedSimpArgs false
namespace Go.D
open Go Go.Proofs

/-- The globals of package api's errors, in the order of their numbers. -/
def errG : List Nat := [gl_ErrRange, gl_ErrShort, gl_ErrLong, gl_ErrForm, gl_ErrSum, gl_ErrRune, gl_ErrName, gl_ErrSealed, gl_ErrWritten, gl_ErrUnwritten, gl_ErrTrimmed, gl_ErrDown, gl_ErrFull, gl_ErrEpoch, gl_ErrMoved, gl_ErrNone, gl_ErrState, gl_ErrClash, gl_ErrStale]

abbrev errV (A : Nat → Addr) (g : Nat) : Value := .iface tyErr (.pointer (some (A g)))

/-- All 19 errors are laid, at 19 places. -/
abbrev Errs (A : Nat → Addr) (w : World) : Prop := ErrsOn tyErr errG A w

theorem errG_mem {k : Nat} (hk : k < 19) : errG.getD k 0 ∈ errG := by
  have : errG.getD k 0 = errG[k]'(by simpa [errG] using hk) := by
    simp only [List.getD]
    rw [List.getElem?_eq_getElem (by simpa [errG] using hk)]
    rfl
  rw [this]
  exact List.getElem_mem _
theorem errG_inj {i j : Nat} (hi : i < 19) (hj : j < 19) (h : errG.getD i 0 = errG.getD j 0) : i = j := by
  have : ∀ i < 19, ∀ j < 19, errG.getD i 0 = errG.getD j 0 → i = j := by decide
  exact this i hi j hj h

theorem Errs.at {A : Nat → Addr} {w : World} (h : Errs A w) (k : Nat) (hk : k < 19) : w.cell? (⟨errG.getD k 0, 0, none⟩ : Addr) = some (errV A (errG.getD k 0)) := (h.1 _ (errG_mem hk)).1

theorem Errs.is {A : Nat → Addr} {w : World} (h : Errs A w) {i j : Nat} (hi : i < 19) (hj : j < 19) :
    Calls Tryd.prog fn_errors_Is ⟨[errV A (errG.getD i 0), errV A (errG.getD j 0)]⟩ w fun e w' => e = .returned (.bool (decide (i = j))) ∧ w' = w := by
  by_cases hij : i = j
  · subst hij
    rw [decide_eq_true rfl]
    exact Is_same _ _
  · rw [decide_eq_false hij]
    obtain ⟨_, c1, t1, h1⟩ := h.1 _ (errG_mem hi)
    obtain ⟨_, c2, t2, h2⟩ := h.1 _ (errG_mem hj)
    exact Is_other _ _ c1 c2 t1 t2 _ (fun he => hij (errG_inj hi hj (h.2 _ (errG_mem hi) _ (errG_mem hj) he))) h1 h2

theorem Num_nil (w : World) : Calls Tryd.prog fn_tidewaternum_Num ⟨[.nilIface]⟩ w fun e w' => e = .returned (.int .i64 0) ∧ w' = w := by
  refine tidewaternum_Num_ok _ ?_
  exact ⟨trivial, BIf_mk (fun _ => ⟨rfl, rfl⟩) (fun h => by cases h)⟩

theorem Num_spec (A : Nat → Addr) (k : Nat) (hk : k < 19) (w : World) (h : Errs A w) :
    Calls Tryd.prog fn_tidewaternum_Num ⟨[errV A (errG.getD k 0)]⟩ w fun e w' => e = .returned (.int .i64 ((k + 1 : Nat) : Int)) ∧ Keep w w' := by
  refine tidewaternum_Num_ok _ ?_
  unfold tidewaternum_Num
  refine ⟨trivial, BIf_mk (fun h => by cases h) (fun _ => ?_)⟩
  refine ⟨_, Errs.at h 0 (by omega), _, Errs.at h 1 (by omega), _, Errs.at h 2 (by omega), _, Errs.at h 3 (by omega), _, Errs.at h 4 (by omega), _, Errs.at h 5 (by omega), _, Errs.at h 6 (by omega), _, Errs.at h 7 (by omega), _, Errs.at h 8 (by omega), _, Errs.at h 9 (by omega), _, Errs.at h 10 (by omega), _, Errs.at h 11 (by omega), _, Errs.at h 12 (by omega), _, Errs.at h 13 (by omega), _, Errs.at h 14 (by omega), _, Errs.at h 15 (by omega), _, Errs.at h 16 (by omega), _, Errs.at h 17 (by omega), _, Errs.at h 18 (by omega), ?_⟩
  refine newS_mk (fun r w1 hr hb hkp hs => ?_)
  refine ⟨fun i w2 => w2 = w1 ∧ ∃ n : Nat, i = n ∧ n ≤ k, fun i _ => (19 - i).toNat, ⟨rfl, 0, rfl, by omega⟩, ?_⟩
  rintro i w2 ⟨rfl, n, rfl, hn⟩
  intros
  refine BIf_dec (fun h1 => ?_) (fun h1 => by omega)
  refine ⟨by omega, h1, errV A (errG.getD n 0), ?_, ?_⟩
  · have e : (Int.toNat (n : Int)) * 1 = n := by omega
    rw [e, add_lit, Nat.zero_add, cell_of hb]
    have : n < 19 := by omega
    show ((List.range 19).map fun k => errV A (errG.getD k 0))[n]? = _
    simp [this]
  · refine (Errs.is (h.keep hkp) hk (by omega)).mono ?_
    rintro e w3 ⟨rfl, rfl⟩
    refine ⟨_, rfl, BIf_mk (fun h2 => ?_) (fun h2 => ?_)⟩
    · have : k = n := by simpa using h2
      subst this
      exact ⟨inR64 (by omega), by simp, hkp⟩
    · have : k ≠ n := by simpa using h2
      exact ⟨inR64 (by omega), ⟨rfl, n + 1, rfl, by omega⟩, by dsimp only; omega⟩
end Go.D
