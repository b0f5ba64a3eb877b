/-
  WHAT IS PROVED: contracts of functions, and the plain law, for this proof. No further conditions.
-/
import Derived.Test.YtpnchpkklamnnaaDoorFrame
import Derived.Test.YtpnchpkklamnnaaDoorVCsize
set_option linter.unusedVariables false
set_option linter.unusedSimpArgs false
namespace Go.D
open Go Go.Proofs

theorem zeros_bytes {w : World} {r n : Nat} {T : TypeId} (h : w.heap[r]? = some (.cells ⟨repl n [Value.int .u8 (0 : Int)]⟩ T (0, 0))) :
    bytesAt w ⟨some ⟨r, 0, none⟩, n, n⟩ (List.replicate n 0) := by
  have e : ∀ n : Nat, repl n [Value.int .u8 (0 : Int)] = (List.replicate n (0 : UInt8)).map byteV := by
    intro n
    induction n with
    | zero => rfl
    | succ n ih => rw [List.replicate_succ, List.map_cons, ← ih]; rfl
  rw [e] at h
  exact (Own.new (sz := 1) h (Or.inl (by simp)) (by simp)).bytes

theorem SumsSize_walk (n : Int) (hn : -9223372036854775808 ≤ n ∧ n ≤ 9223372036854775807) (w : World) :
    Calls Tryd.prog fn_tidewaterlaw01_SumsSize ⟨[.int .i64 n]⟩ w fun e w' => e = .returned (.bool true) ∧ Keep w w' := by
  refine tidewaterlaw01_SumsSize_ok _ ?_
  unfold tidewaterlaw01_SumsSize
  refine (alive01_spec w).mono ?_
  rintro e w3 ⟨rfl, hk⟩
  refine ⟨_, rfl, BIf_mk (fun h => by cases h) (fun _ => ?_)⟩
  refine ⟨fun w2 => w2 = w3 ∧ 0 ≤ n ∧ n ≤ 2048, BIf_dec (fun h => ?_) (fun h => BIf_dec (fun h2 => ?_) (fun h2 => ⟨rfl, by omega, by omega⟩)), ?_⟩
  · refine (Size_spec n hn w3).mono ?_
    rintro e w4 ⟨rfl, rfl⟩
    rw [if_pos (.inl h)]
    exact ⟨_, rfl, rfl, hk⟩
  · refine (Size_spec n hn w3).mono ?_
    rintro e w4 ⟨rfl, rfl⟩
    rw [if_pos (.inr h2)]
    exact ⟨_, rfl, rfl, hk⟩
  · rintro w4 ⟨rfl, h1, h2⟩
    intros
    refine ⟨h1, Int.le_refl _, by omega, newS_mk (fun r w5 hr hb hk5 hs => ?_)⟩
    have hb' := zeros_bytes hb
    refine (Frame_spec _ _ w5 hb' (by simp; omega)).mono ?_
    rintro e w6 ⟨f, rfl, hf, _, hk6⟩
    refine ⟨f, .nilIface, rfl, trivial, BIf_mk (fun _ => ?_) (fun h => by cases h)⟩
    refine (Size_spec n hn w6).mono ?_
    rintro e w7 ⟨rfl, rfl⟩
    have hl : f.l = n.toNat + 6 := by
      have := hf.1
      simp only [Nat.mul_one, List.length_map, frameB_length, List.length_replicate] at this
      exact this
    refine ⟨_, rfl, BIf_dec (fun h3 => ⟨inR64 (by omega), ?_, (hk.trans hk5).trans hk6⟩) (fun h3 => ?_)⟩
    · rw [decide_eq_true]; omega
    · rw [if_neg (by omega)] at h3
      omega
end Go.D
