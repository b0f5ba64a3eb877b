/-
  WHAT IS PROVED: contracts of functions, and the plain law, for this proof. No further conditions.
-/
import Derived.Test.YtpnchpkklamnnaaDoorSums1
set_option linter.unusedSimpArgs false
set_option linter.unusedVariables false
namespace Go.D
open Go Go.Proofs

theorem rowsAt_keep {w w' : World} {s : Slc} {ps : List Slc} {bs : List (List UInt8)} (h : rowsAt w s ps bs) (hk : Keep w w') : rowsAt w' s ps bs :=
  ⟨h.1, cellsAt_keep h.2.1 hk, h.2.2.1, fun i h1 h2 => bytesAt_keep (h.2.2.2 i h1 h2) hk⟩

/-- A row of one slice of bytes. -/
theorem rowsAt_one {w : World} {r : Nat} {T : TypeId} {f : Nat × Nat} {s : Slc} {b : List UInt8} (h : w.heap[r]? = some (.cells ⟨[s.v]⟩ T f)) (hb : bytesAt w s b) :
    rowsAt w ⟨some ⟨r, 0, none⟩, 1, 1⟩ [s] [b] := by
  refine ⟨rfl, .inr ⟨_, rfl, fun i hi => ?_⟩, rfl, fun i h1 h2 => ?_⟩
  · have : i = 0 := by simp at hi; omega
    subst this
    rw [add_lit, cell_of h]; rfl
  · have : i = 0 := by simp at h1; omega
    subst this
    exact hb

theorem Size_spec (n : Int) (h : -9223372036854775808 ≤ n ∧ n ≤ 9223372036854775807) (w : World) :
    Calls Tryd.prog fn_sums_Size ⟨[.int .i64 n]⟩ w fun e w' => e = .returned (.int .i64 (if n < 0 ∨ 2048 < n then 0 else 6 + n)) ∧ w' = w := by
  refine sums_Size_ok _ ?_
  unfold sums_Size
  refine BIf_dec (fun h1 => ?_) (fun h1 => BIf_dec (fun h2 => ?_) (fun h2 => ?_))
  · rw [if_pos (.inl h1)]; exact ⟨rfl, rfl⟩
  · rw [if_pos (.inr h2)]; exact ⟨rfl, rfl⟩
  · rw [if_neg (by omega)]; exact ⟨inR64 (by omega), rfl, rfl⟩

theorem crc_example : crc [49, 50, 51, 52, 53, 54, 55, 56, 57] = 3421780262 := by decide +kernel

theorem alive01_spec (w : World) : Calls Tryd.prog fn_tidewaterlaw01_alive ⟨[]⟩ w fun e w' => e = .returned (.bool true) ∧ Keep w w' := by
  refine tidewaterlaw01_alive_ok ?_
  unfold tidewaterlaw01_alive
  refine newS_mk (fun r w1 hr hb hk hs => ?_)
  rintro w2 rfl
  obtain ⟨hm, he⟩ := markW_heap hb
  have hk2 : Keep w (markW w1 r) := hk.step (by omega) he
  generalize markW w1 r = w2 at hm he hk2 ⊢
  refine newS_mk (fun r5 w6 hr5 hb5 hk5 hs5 => ?_)
  have hbytes : bytesAt w6 ⟨some ⟨r, 0, none⟩, 9, 9⟩ [49, 50, 51, 52, 53, 54, 55, 56, 57] :=
    bytesAt_keep (Own.bytes (Own.new (sz := 1) hm (clear_mark _) rfl)) hk5
  refine (Sum_spec _ _ _ _ (rowsAt_one hb5 hbytes) (by simp) (fun i h => by
    have : i = 0 := by simp at h; omega
    subst this; simp)).mono ?_
  rintro e w7 ⟨rfl, rfl⟩
  have : crc [[49, 50, 51, 52, 53, 54, 55, 56, 57]].flatten = 3421780262 := crc_example
  rw [this]
  refine ⟨_, rfl, BIf_dec (fun _ => ?_) (fun h => absurd rfl h)⟩
  refine (Size_spec 3 (by omega) _).mono ?_
  rintro e w8 ⟨rfl, rfl⟩
  exact ⟨_, rfl, rfl, hk2.trans hk5⟩
end Go.D
