/-
  WHAT IS PROVED: contracts of functions, and the plain law, for this proof. No further conditions.
-/
import Derived.Test.YtojcoegekkcojaaDoorPackOut2
import Derived.Test.YtojcoegekkcojaaDoorErrB
set_option linter.unusedVariables false
set_option linter.unusedSimpArgs false
namespace Go.D
open Go Go.Proofs

abbrev InS := List UInt8 × Option Nat
def OutS (A : Nat → Addr) (w : World) (r : Nat) (s : Slc) (st : InS) : Prop := OutAt w r s st.1 (errO A st.2)
def oNum (n : Int) (st : InS) : InS := if n < 0 ∨ 4611686018427387903 < n then (st.1, some (st.2.getD 0)) else (st.1 ++ encN n.toNat, st.2)
def oText (t : List UInt8) (st : InS) : InS := (st.1 ++ encN t.length ++ t, st.2)
def oNums (l : List Int) (st : InS) : InS := l.foldl (fun st n => oNum n st) (oNum l.length st)

theorem failE_errO (A : Nat → Addr) (e : Option Nat) : failE (errO A e) (errV A gl_ErrRange) = errO A (some (e.getD 0)) := by
  cases e <;> rfl

theorem OutS_Num (A : Nat → Addr) (n0 r : Nat) (s : Slc) (st : InS) (n : Int) (w : World) (h : OutS A w r s st) (hn : -9223372036854775808 ≤ n ∧ n ≤ 9223372036854775807) (hl : st.1.length ≤ 2 ^ 20) (hE : ErrsB A n0 w) :
    Calls Tryd.prog fn_pack_Out_Num ⟨[.pointer (some ⟨r, 0, none⟩), .int .i64 n]⟩ w fun e w' => e = .returned (.tuple #[]) ∧ ∃ s', OutS A w' r s' (oNum n st) ∧ Foot (OutM r s) (OutM r s') w w' := by
  refine (Out_Num_spec A r s st.1 (errO A st.2) n w h (errO_isI _ _) hn hl (hE.1.1 gl_ErrRange (errG_mem (k := 0) (by omega)))).mono ?_
  rintro e w' ⟨rfl, s', h1, h2⟩
  refine ⟨rfl, s', ?_, h2⟩
  unfold OutS oNum
  split at h1
  · rename_i hh; rw [if_pos hh]
    rw [failE_errO] at h1; exact h1
  · rename_i hh; rw [if_neg hh]
    exact h1

theorem OutS_Text (A : Nat → Addr) (n0 r : Nat) (s : Slc) (st : InS) (t : List UInt8) (w : World) (h : OutS A w r s st) (hl : st.1.length ≤ 2 ^ 20) (ht : t.length ≤ 2 ^ 20) (hE : ErrsB A n0 w) :
    Calls Tryd.prog fn_pack_Out_Text ⟨[.pointer (some ⟨r, 0, none⟩), strV t]⟩ w fun e w' => e = .returned (.tuple #[]) ∧ ∃ s', OutS A w' r s' (oText t st) ∧ Foot (OutM r s) (OutM r s') w w' := by
  exact Out_Text_spec A r s st.1 (errO A st.2) t w h (errO_isI _ _) hl ht (hE.1.1 gl_ErrRange (errG_mem (k := 0) (by omega)))

theorem oNum_len (n : Int) (st : InS) : (oNum n st).1.length ≤ st.1.length + 9 := by
  unfold oNum
  split
  · simp
  · have := encN_len n.toNat 8 (by omega)
    simp; omega

theorem oNums_len : ∀ (l : List Int) (st : InS), (l.foldl (fun st n => oNum n st) st).1.length ≤ st.1.length + 9 * l.length
  | [], st => by simp
  | n :: l, st => by
    have h1 := oNums_len l (oNum n st)
    have h2 := oNum_len n st
    simp only [List.foldl_cons, List.length_cons]; omega

theorem OutS_Done (A : Nat → Addr) (n0 r : Nat) (s : Slc) (st : InS) (w : World) (h : OutS A w r s st) (hl : st.1.length ≤ 2 ^ 22) (hE : ErrsB A n0 w) :
    Calls Tryd.prog fn_pack_Out_Done ⟨[.pointer (some ⟨r, 0, none⟩)]⟩ w fun e w' => ∃ (t : Slc) (e2 : Option Nat), e = .returned (.tuple ⟨[t.v, errO A e2]⟩) ∧ Keep w w' ∧ Fresh w t ∧
      e2 = (match st.2 with | some k => some k | none => if 65536 < st.1.length then some 2 else none) ∧ (e2.isSome = true → t = ⟨none, 0, 0⟩) ∧ (e2 = none → bytesAt w' t st.1) := by
  refine (Out_Done_spec A r s st.1 (errO A st.2) w h (errO_isI _ _) hl (hE.1.1 gl_ErrLong (errG_mem (k := 2) (by omega)))).mono ?_
  rintro e w' ⟨t, e2, rfl, h1, h2, h3⟩
  obtain ⟨bs, er⟩ := st
  cases er with
  | some k =>
    rw [if_pos (by rfl)] at h3
    obtain ⟨rfl, rfl⟩ := h3
    exact ⟨_, some k, rfl, h1, h2, rfl, fun _ => rfl, fun h => by cases h⟩
  | none =>
    rw [if_neg (by intro h; cases h)] at h3
    dsimp only at h3 ⊢
    split at h3
    · rename_i hh
      obtain ⟨rfl, rfl⟩ := h3
      exact ⟨_, some 2, rfl, h1, h2, by rw [if_pos hh], fun _ => rfl, fun h => by cases h⟩
    · rename_i hh
      obtain ⟨rfl, h4⟩ := h3
      exact ⟨_, none, rfl, h1, h2, by rw [if_neg hh], fun h => by simp at h, fun _ => h4⟩

/-- A new writer. -/
theorem OutS.new {w1 : World} {r : Nat} {T : TypeId} (A : Nat → Addr) (h : w1.heap[r]? = some (.cells ⟨[(Slc.v (⟨none, 0, 0⟩ : Slc)), Value.nilIface]⟩ T)) : OutS A w1 r ⟨none, 0, 0⟩ ([], none) :=
  ⟨⟨T, (0, 0), h, .inl (by simp)⟩, Own.nil _ _, by rintro ⟨a, ha, _⟩; cases ha⟩
theorem OutM_nil {r k : Nat} (h : OutM r ⟨none, 0, 0⟩ k) : k = r := by
  rcases h with h | ⟨a, ha, _⟩
  · exact h
  · cases ha

theorem Foot.newM {w0 w w' : World} {M M' : Nat → Prop} (h : Foot M M' w w') (hk : Keep w0 w) (hm : ∀ k, M k → w0.heap.size ≤ k) : Keep w0 w' := (h.new hk hm).1

end Go.D
