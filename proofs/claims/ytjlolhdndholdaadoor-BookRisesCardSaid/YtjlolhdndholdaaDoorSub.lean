/-
  WHAT IS PROVED: contracts of functions, and the plain law, for this proof. No further conditions.
-/
import Derived.Test.YtjlolhdndholdaaDoorArgs
import Derived.DataElems
set_option linter.unusedSimpArgs false
set_option linter.unusedVariables false
namespace Go.D
open Go

theorem bytesAt_sub {w : World} {s : Slc} {b : List UInt8} (h : bytesAt w s b) {lo hi c : Nat} (h1 : lo ≤ hi) (h2 : hi ≤ b.length) (h3 : hi ≤ c) :
    bytesAt w (Slc.sub s 1 lo hi c) ((b.take hi).drop lo) := by
  refine ⟨by simp [Slc.sub]; omega, ?_⟩
  by_cases he : lo = hi
  · left
    subst he
    simp
  · rcases h.2 with hb | ⟨a, ha, hc⟩
    · have : b = [] := by simpa using hb
      subst this
      left; simp
    · right
      refine ⟨a.add lo, ?_, fun i hi2 => ?_⟩
      · simp only [Slc.sub, ha, Nat.mul_one]
        rw [if_neg (by omega)]; rfl
      · have hlen : i < hi - lo := by simp at hi2; omega
        rw [Addr.add_add, hc (lo + i) (by simp; omega)]
        simp [List.getElem_drop, List.getElem_take]

/-- A cell of a slice of bytes. -/
theorem bytesAt_cell {w : World} {s : Slc} {b : List UInt8} (h : bytesAt w s b) {i : Nat} (hi : i < b.length) : ∃ a, s.p = some a ∧ w.cell? (a.add i) = some (byteV b[i]) := by
  obtain ⟨a, ha, hc⟩ := cellsAt_get h.2 (i := i) (by simpa using hi)
  exact ⟨a, ha, by simpa using hc⟩

theorem cell_drew (w : World) (a : Addr) : w.drew.cell? a = w.cell? a := rfl
theorem bytesAt_drew {w : World} {s : Slc} {b : List UInt8} (h : bytesAt w s b) : bytesAt w.drew s b := bytesAt_keep h (Ext.drew _ _)
theorem bytesAt_inj {w : World} {s : Slc} {b c : List UInt8} (h : bytesAt w s b) (h' : bytesAt w s c) : b = c := by
  have hl : b.length = c.length := by rw [← h.1, ← h'.1]
  refine List.ext_getElem hl (fun i h1 h2 => ?_)
  obtain ⟨a, ha, hc⟩ := bytesAt_cell h h1
  obtain ⟨a', ha', hc'⟩ := bytesAt_cell h' h2
  rw [ha] at ha'
  obtain rfl := Option.some.inj ha'
  rw [hc] at hc'
  have := Option.some.inj hc'
  simp only [byteV, Value.int.injEq, true_and] at this
  exact UInt8.toNat_inj.1 (by omega)

theorem append_bytes2 {e : TypeId} {z : List Value} {w w0 : World} {s : Slc} {src : Src} {vs b : List UInt8} {K : Slc → World → Prop} (ho : Own w s 1 (vs.map byteV)) (hz : z.length = 1)
    (hfr : Fresh w0 s) (hk : Keep w0 w)
    (hsrc : srcAt w 1 src (b.map byteV)) (hlen : s.l + src.n ≤ 2 ^ 30)
    (h : ∀ s' w', Own w' s' 1 ((vs ++ b).map byteV) → Keep w0 w' → Fresh w0 s' → Ext (ownB s) w w' → (∀ k, ownB s' k → ownB s k ∨ w.heap.size ≤ k) → K s' w') : appendS 1 e z w s src K := by
  refine appendS_own ho (by omega) hz hsrc (one_bytes b) hlen (fun s' w' h1 h2 h3 _ => h s' w' (by rw [List.map_append]; exact h1) (hk.ext h2 (fun k hk => hfr k hk)) (fun k hk2 => ?_) h2 h3)
  rcases h3 k hk2 with h4 | h4
  · exact hfr k h4
  · exact Nat.le_trans hk.size h4
end Go.D
