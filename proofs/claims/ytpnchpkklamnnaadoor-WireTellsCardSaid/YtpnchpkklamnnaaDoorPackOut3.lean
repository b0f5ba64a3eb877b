/-
  WHAT IS PROVED: contracts of functions, and the plain law, for this proof. No further conditions.
-/
import Derived.Test.YtpnchpkklamnnaaDoorPackOut2
import Derived.Test.YtpnchpkklamnnaaDoorPackIn2
set_option linter.unusedVariables false
set_option linter.unusedSimpArgs false
namespace Go.D
open Go Go.Proofs

/-- A writer's state: the bytes, and the first error's place. -/
def OutS (A : Nat → Addr) (w : World) (r : Nat) (s : Slc) (st : InS) : Prop := OutAt w r s st.1 (errO A st.2)
def oNum (n : Int) (st : InS) : InS := if n < 0 ∨ 4611686018427387903 < n then (st.1, some (st.2.getD 0)) else (st.1 ++ encN n.toNat, st.2)
def oText (t : List UInt8) (st : InS) : InS := (st.1 ++ encN t.length ++ t, st.2)
def oNums (l : List Int) (st : InS) : InS := l.foldl (fun st n => oNum n st) (oNum l.length st)

theorem failE_errO (A : Nat → Addr) (e : Option Nat) : failE (errO A e) (errV A gl_ErrRange) = errO A (some (e.getD 0)) := by
  cases e <;> rfl

theorem OutS_Num (A : Nat → Addr) (n0 r : Nat) (s : Slc) (st : InS) (n : Int) (w : World) (h : OutS A w r s st) (hn : -9223372036854775808 ≤ n ∧ n ≤ 9223372036854775807) (hl : st.1.length ≤ 2 ^ 20) (hE : ErrsB A n0 w) :
    Calls Tryd.prog fn_pack_Out_Num ⟨[.pointer (some ⟨r, 0, none⟩), .int .i64 n]⟩ w fun e w' => e = .returned (.tuple #[]) ∧ ∃ s', OutS A w' r s' (oNum n st) ∧ Foot (OutM r s) (OutM r s') w w' := by
  refine (Out_Num_spec A r s st.1 (errO A st.2) n w h (errO_isI _ _) hn hl (hE.1.1 gl_ErrRange (errG_mem (k := 0) (by omega)))).mono ?_
  rintro e w' ⟨rfl, s', h1, h2⟩
  refine ⟨rfl, s', ?_, h2⟩
  unfold OutS oNum
  split at h1
  · rename_i hh; rw [if_pos hh]
    rw [failE_errO] at h1; exact h1
  · rename_i hh; rw [if_neg hh]
    exact h1

theorem OutS_Text (A : Nat → Addr) (n0 r : Nat) (s : Slc) (st : InS) (t : List UInt8) (w : World) (h : OutS A w r s st) (hl : st.1.length ≤ 2 ^ 20) (ht : t.length ≤ 2 ^ 20) (hE : ErrsB A n0 w) :
    Calls Tryd.prog fn_pack_Out_Text ⟨[.pointer (some ⟨r, 0, none⟩), strV t]⟩ w fun e w' => e = .returned (.tuple #[]) ∧ ∃ s', OutS A w' r s' (oText t st) ∧ Foot (OutM r s) (OutM r s') w w' := by
  exact Out_Text_spec A r s st.1 (errO A st.2) t w h (errO_isI _ _) hl ht (hE.1.1 gl_ErrRange (errG_mem (k := 0) (by omega)))

theorem oNum_len (n : Int) (st : InS) : (oNum n st).1.length ≤ st.1.length + 9 := by
  unfold oNum
  split
  · simp
  · have := encN_len n.toNat 8 (by omega)
    simp; omega

theorem oNums_len : ∀ (l : List Int) (st : InS), (l.foldl (fun st n => oNum n st) st).1.length ≤ st.1.length + 9 * l.length
  | [], st => by simp
  | n :: l, st => by
    have h1 := oNums_len l (oNum n st)
    have h2 := oNum_len n st
    simp only [List.foldl_cons, List.length_cons]; omega

theorem OutS_Nums (A : Nat → Addr) (n0 r : Nat) (s sl : Slc) (st : InS) (l : List Int) (w : World) (h : OutS A w r s st) (hl : st.1.length ≤ 2 ^ 19) (hll : l.length ≤ 1000) (hr : ∀ n ∈ l, -9223372036854775808 ≤ n ∧ n ≤ 9223372036854775807)
    (hint : intsAt w sl l) (hsep : l ≠ [] → ∀ k, ownB sl k → k < n0) (hE : ErrsB A n0 w) (hM : ∀ k, OutM r s k → n0 ≤ k) (hn0 : n0 ≤ w.heap.size) :
    Calls Tryd.prog fn_pack_Out_Nums ⟨[.pointer (some ⟨r, 0, none⟩), sl.v]⟩ w fun e w' => e = .returned (.tuple #[]) ∧ ∃ s', OutS A w' r s' (oNums l st) ∧ Foot (OutM r s) (OutM r s') w w' := by
  refine pack_Out_Nums_ok _ _ ?_
  unfold pack_Out_Nums
  have hsl := hint.1
  rw [show ((sl.l : Nat) : Int) = ((l.length : Nat) : Int) by rw [hsl]]
  refine (OutS_Num A n0 r s st _ w h (by omega) (by omega) hE).mono ?_
  rintro e w4 ⟨rfl, s4, h4, f4⟩
  have hl4 := oNum_len l.length st
  refine ⟨rfl, fun i w8 => ∃ (k : Nat) (s8 : Slc), i = k ∧ k ≤ l.length ∧ OutS A w8 r s8 ((l.take k).foldl (fun st n => oNum n st) (oNum l.length st)) ∧ Foot (OutM r s) (OutM r s8) w w8, fun i _ => (l.length - i).toNat, ⟨0, s4, rfl, by omega, by simpa using h4, f4⟩, ?_⟩
  rintro i w8 ⟨k, s8, rfl, hk, ho, hf⟩
  intros
  refine BIf_dec (fun hlt => ?_) (fun hlt => ?_)
  · have hkl : k < l.length := by omega
    have hint8 : intsAt w8 sl l := intsAt_ext hint hf.1 (fun k hk hm => by have := hsep (by rintro rfl; simp at hkl) k hk; have := hM k hm; omega)
    obtain ⟨a, ha, hc⟩ := intsAt_cell hint8 hkl
    have hlen := oNums_len (l.take k) (oNum l.length st)
    have hmem := hr _ (List.getElem_mem hkl)
    refine needSome_mk ha ⟨by omega, hlt, l[k], by rw [show Int.toNat (k : Int) * 1 = k by omega]; exact hc, (OutS_Num A n0 r s8 _ _ w8 ho hmem ?_ (hE.ext hf.1 hM)).mono ?_⟩
    · have : (l.take k).length ≤ l.length := by simp; omega
      omega
    · rintro e w20 ⟨rfl, s20, h20, f20⟩
      refine ⟨rfl, inR64 (by omega), ⟨k + 1, s20, rfl, hkl, ?_, hf.trans f20⟩, by dsimp only; omega⟩
      rw [List.take_succ_eq_append_getElem hkl, List.foldl_append]
      exact h20
  · have : k = l.length := by omega
    subst this
    rw [List.take_length] at ho
    exact ⟨rfl, s8, ho, hf⟩

theorem OutS_Done (A : Nat → Addr) (n0 r : Nat) (s : Slc) (st : InS) (w : World) (h : OutS A w r s st) (hl : st.1.length ≤ 2 ^ 22) (hE : ErrsB A n0 w) :
    Calls Tryd.prog fn_pack_Out_Done ⟨[.pointer (some ⟨r, 0, none⟩)]⟩ w fun e w' => ∃ (t : Slc) (e2 : Option Nat), e = .returned (.tuple ⟨[t.v, errO A e2]⟩) ∧ Keep w w' ∧ Fresh w t ∧
      e2 = (match st.2 with | some k => some k | none => if 65536 < st.1.length then some 2 else none) ∧ (e2.isSome = true → t = ⟨none, 0, 0⟩) ∧ (e2 = none → bytesAt w' t st.1) := by
  refine (Out_Done_spec A r s st.1 (errO A st.2) w h (errO_isI _ _) hl (hE.1.1 gl_ErrLong (errG_mem (k := 2) (by omega)))).mono ?_
  rintro e w' ⟨t, e2, rfl, h1, h2, h3⟩
  obtain ⟨bs, er⟩ := st
  cases er with
  | some k =>
    rw [if_pos (by rfl)] at h3
    obtain ⟨rfl, rfl⟩ := h3
    exact ⟨_, some k, rfl, h1, h2, rfl, fun _ => rfl, fun h => by cases h⟩
  | none =>
    rw [if_neg (by intro h; cases h)] at h3
    dsimp only at h3 ⊢
    split at h3
    · rename_i hh
      obtain ⟨rfl, rfl⟩ := h3
      exact ⟨_, some 2, rfl, h1, h2, by rw [if_pos hh], fun _ => rfl, fun h => by cases h⟩
    · rename_i hh
      obtain ⟨rfl, h4⟩ := h3
      exact ⟨_, none, rfl, h1, h2, by rw [if_neg hh], fun h => by simp at h, fun _ => h4⟩

/-- A new writer. -/
theorem OutS.new {w1 : World} {r : Nat} {T : TypeId} (A : Nat → Addr) (h : w1.heap[r]? = some (.cells ⟨[(Slc.v (⟨none, 0, 0⟩ : Slc)), Value.nilIface]⟩ T)) : OutS A w1 r ⟨none, 0, 0⟩ ([], none) :=
  ⟨⟨T, (0, 0), h, .inl (by simp)⟩, Own.nil _ _, by rintro ⟨a, ha, _⟩; cases ha⟩
theorem OutM_nil {r k : Nat} (h : OutM r ⟨none, 0, 0⟩ k) : k = r := by
  rcases h with h | ⟨a, ha, _⟩
  · exact h
  · cases ha

theorem Foot.newM {w0 w w' : World} {M M' : Nat → Prop} (h : Foot M M' w w') (hk : Keep w0 w) (hm : ∀ k, M k → w0.heap.size ≤ k) : Keep w0 w' := (h.new hk hm).1

theorem encN300 : encN 300 = [172, 2] := by
  rw [encN_ge (by omega), show 300 / 128 = 2 from rfl, encN_lt (by omega)]; rfl

theorem alive04_spec (A : Nat → Addr) (n0 : Nat) (w : World) (hE : ErrsB A n0 w) : Calls Tryd.prog fn_tidewaterlaw04_alive ⟨[]⟩ w fun e w' => e = .returned (.bool true) ∧ Keep w w' := by
  refine tidewaterlaw04_alive_ok ?_
  unfold tidewaterlaw04_alive
  refine newS_mk (fun r w2 hr hb hk hs => ?_)
  refine (OutS_Num A n0 r _ ([], none) 300 w2 (OutS.new A hb) (by omega) (by simp) (hE.keep hk)).mono ?_
  rintro e w4 ⟨rfl, s', h4, f4⟩
  have hk4 : Keep w w4 := f4.newM hk (fun k hk => by rw [OutM_nil hk]; omega)
  have e1 : oNum 300 ([], none) = ([172, 2], none) := by
    rw [oNum, if_neg (by omega)]
    simp [encN300]
  rw [e1] at h4
  refine ⟨rfl, (OutS_Done A n0 r s' _ w4 h4 (by simp) (hE.keep hk4)).mono ?_⟩
  rintro e w6 ⟨t, e2, rfl, h1, h2, h3, h5, h6⟩
  rw [if_neg (by simp)] at h3
  subst h3
  exact ⟨t, _, rfl, trivial, BIf_mk (fun _ => ⟨_, h6 rfl, rfl, hk4.trans h1⟩) (fun h => by cases h)⟩
end Go.D
