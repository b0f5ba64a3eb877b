/-
  WHAT IS PROVED: contracts of functions, and the plain law, for this proof. No further conditions.
-/
import Derived.Test.YtpnchpkklamnnaaDoorPackOut3
import Derived.Test.YtpnchpkklamnnaaDoorVCints
set_option linter.unusedVariables false
set_option linter.unusedSimpArgs false
namespace Go.D
open Go Go.Proofs

theorem SameInts_spec (s t : Slc) (a b : List Int) (w : World) (ha : intsAt w s a) (hb : intsAt w t b) (hl : a.length ≤ 2 ^ 40) :
    Calls Tryd.prog fn_tidewaternum_SameInts ⟨[s.v, t.v]⟩ w fun e w' => e = .returned (.bool (decide (a = b))) ∧ Keep w w' := by
  have hsl := ha.1
  have htl := hb.1
  refine tidewaternum_SameInts_ok _ _ ?_
  unfold tidewaternum_SameInts
  refine BIf_ndec (fun h => ?_) (fun h => ?_)
  · rw [decide_eq_false (fun hh => h (by rw [hsl, htl, hh]))]
    exact ⟨rfl, Ext.refl _ _⟩
  · have hlen : a.length = b.length := by omega
    refine ⟨fun i w2 => ∃ k : Nat, i = k ∧ k ≤ a.length ∧ Keep w w2 ∧ ∀ j, j < k → a[j]? = b[j]?, fun i _ => ((a.length : Int) - i).toNat, ⟨0, rfl, by omega, Ext.refl _ _, fun j h => by omega⟩, ?_⟩
    rintro i w2 ⟨k, rfl, hk, hkp, hpre⟩
    intros
    refine BIf_dec (fun h1 => ?_) (fun h1 => ?_)
    · have hka : k < a.length := by omega
      have hkb : k < b.length := by omega
      obtain ⟨p, hp, hcp⟩ := intsAt_cell (intsAt_keep ha hkp.drew) hka
      obtain ⟨q, hq, hcq⟩ := intsAt_cell (intsAt_keep hb hkp.drew) hkb
      refine needSome_mk hp ⟨by omega, h1, a[k], by rw [show Int.toNat (k : Int) * 1 = k by omega]; exact hcp, needSome_mk hq ⟨by omega, by omega, b[k], by rw [show Int.toNat (k : Int) * 1 = k by omega]; exact hcq, ?_⟩⟩
      refine BIf_ndec (fun h2 => ?_) (fun h2 => ?_)
      · rw [decide_eq_false (fun hh => h2 (by subst hh; rfl))]
        exact ⟨rfl, hkp.drew⟩
      · refine ⟨inR64 (by omega), ⟨k + 1, rfl, by omega, hkp.drew, fun j hj => ?_⟩, by dsimp only; omega⟩
        rcases Nat.lt_or_ge j k with h | h
        · exact hpre j h
        · have : j = k := by omega
          subst this
          rw [List.getElem?_eq_getElem hka, List.getElem?_eq_getElem hkb, h2]
    · rw [decide_eq_true (List.ext_getElem? fun j => ?_)]
      · exact ⟨rfl, hkp⟩
      · rcases Nat.lt_or_ge j k with h | h
        · exact hpre j h
        · rw [List.getElem?_eq_none (by omega), List.getElem?_eq_none (by omega)]

theorem ref04_Num_specZ : ∀ (n : Nat) (z : Int) (w : World), z = n → n ≤ 9223372036854775807 →
    Calls Tryd.prog fn_tidewaterref04_Num ⟨[.int .i64 z]⟩ w fun e w' => ∃ s : Slc, e = .returned s.v ∧ Own w' s 1 ((encN n).map byteV) ∧ Fresh w s ∧ Keep w w' := by
  intro n
  induction n using Nat.strongRecOn with
  | ind n ih =>
    intro z w hz hn
    refine tidewaterref04_Num_ok _ ?_
    unfold tidewaterref04_Num
    refine BIf_dec (fun h => ?_) (fun h => ?_)
    · refine newS_mk (fun r w3 hr hb hk hs => ?_)
      rw [hz, wrap8] at hb
      refine ⟨_, rfl, ?_, Fresh.at (by omega), hk⟩
      rw [encN_lt (by omega)]
      exact Own.new (sz := 1) hb (.inl (by simp)) rfl
    · refine ⟨by omega, by omega, inR64 (by omega), newS_mk (fun r w5 hr hb hk hs => ?_)⟩
      rw [show (z % 128 + 128) = ((n % 128 + 128 : Nat) : Int) by omega, wrap8] at hb
      refine ⟨by omega, by omega, inR64 (by omega), ?_⟩
      refine (ih (n / 128) (by omega) (z / 128) w5 (by omega) (by omega)).mono ?_
      rintro e w7 ⟨s8, rfl, h8, f8, k8⟩
      have ho : Own w7 ⟨some ⟨r, 0, none⟩, 1, 1⟩ 1 ([UInt8.ofNat (n % 128 + 128)].map byteV) := Own.keep (Own.new (sz := 1) hb (.inl (by simp)) rfl) k8
      have hle := encN_len (n / 128) 9 (by omega)
      have h81 := h8.bytes.1
      refine ⟨s8, rfl, append_bytes (w0 := w) ho rfl (Fresh.at (by omega)) (hk.trans k8) (srcAt_bytes h8.bytes) (by simp only [Src.n]; omega) (fun s9 w10 g1 g2 g3 g4 => ?_)⟩
      refine ⟨s9, rfl, ?_, g3, g2⟩
      rw [encN_ge (by omega)]
      exact g1

theorem ref04_Num_spec (n : Nat) (w : World) (h : n ≤ 9223372036854775807) :
    Calls Tryd.prog fn_tidewaterref04_Num ⟨[.int .i64 (n : Int)]⟩ w fun e w' => ∃ s : Slc, e = .returned s.v ∧ Own w' s 1 ((encN n).map byteV) ∧ Fresh w s ∧ Keep w w' := ref04_Num_specZ n n w rfl h

theorem ref04_Text_spec (t : List UInt8) (w : World) (hl : t.length ≤ 2 ^ 20) :
    Calls Tryd.prog fn_tidewaterref04_Text ⟨[strV t]⟩ w fun e w' => ∃ s : Slc, e = .returned s.v ∧ Own w' s 1 ((encN t.length ++ t).map byteV) ∧ Fresh w s ∧ Keep w w' := by
  refine tidewaterref04_Text_ok _ ?_
  unfold tidewaterref04_Text
  refine (ref04_Num_spec t.length w (by omega)).mono ?_
  rintro e w3 ⟨s4, rfl, h4, f4, k4⟩
  have hle := encN_len t.length 9 (by omega)
  have h41 := h4.bytes.1
  refine ⟨s4, rfl, append_bytes (w0 := w) h4 rfl f4 k4 ⟨rfl, rfl⟩ (by simp only [Src.n]; omega) (fun s9 w10 g1 g2 g3 g4 => ?_)⟩
  exact ⟨s9, rfl, g1, g3, g2⟩

/-- The bytes of a list. -/
def encL (l : List Int) : List UInt8 := encN l.length ++ (l.map fun n => encN n.toNat).flatten
theorem encs_len : ∀ (l : List Int), (∀ n ∈ l, n ≤ 4611686018427387903) → ((l.map fun n => encN n.toNat).flatten).length ≤ 9 * l.length
  | [], _ => by simp
  | n :: l, h => by
    have h1 := encs_len l (fun n hn => h n (by simp [hn]))
    have h2 := h n (by simp)
    have h3 := encN_len n.toNat 8 (by omega)
    simp at h1 ⊢; omega

theorem ref04_Nums_spec (sl : Slc) (l : List Int) (w : World) (hint : intsAt w sl l) (hll : l.length ≤ 1000) (hr : ∀ n ∈ l, 0 ≤ n ∧ n ≤ 4611686018427387903) :
    Calls Tryd.prog fn_tidewaterref04_Nums ⟨[sl.v]⟩ w fun e w' => ∃ s : Slc, e = .returned s.v ∧ Own w' s 1 ((encL l).map byteV) ∧ Fresh w s ∧ Keep w w' := by
  refine tidewaterref04_Nums_ok _ ?_
  unfold tidewaterref04_Nums
  have hsl := hint.1
  rw [show ((sl.l : Nat) : Int) = ((l.length : Nat) : Int) by rw [hsl]]
  refine (ref04_Num_spec l.length w (by omega)).mono ?_
  rintro e w3 ⟨s4, rfl, h4, f4, k4⟩
  have hle := encN_len l.length 9 (by omega)
  have h41 := h4.bytes.1
  refine ⟨s4, rfl, fun out i w9 => ∃ k : Nat, i = k ∧ k ≤ l.length ∧ Own w9 out 1 ((encN l.length ++ ((l.take k).map fun n => encN n.toNat).flatten).map byteV) ∧ Fresh w out ∧ Keep w w9, fun _ i _ => (l.length - i).toNat, ⟨0, rfl, by omega, by simpa using h4, f4, k4⟩, ?_⟩
  rintro out i w9 ⟨k, rfl, hk, ho, hf, hkp⟩
  intros
  refine BIf_dec (fun hlt => ?_) (fun hlt => ?_)
  · have hkl : k < l.length := by omega
    obtain ⟨a, ha, hc⟩ := intsAt_cell (intsAt_keep hint hkp) hkl
    obtain ⟨m, hm⟩ : ∃ m : Nat, l[k] = (m : Int) := ⟨l[k].toNat, by have := hr _ (List.getElem_mem hkl); omega⟩
    have hmr := hr _ (List.getElem_mem hkl)
    refine needSome_mk ha ⟨by omega, hlt, l[k], by rw [show Int.toNat (k : Int) * 1 = k by omega]; exact hc, ?_⟩
    rw [hm]
    refine (ref04_Num_spec m w9 (by omega)).mono ?_
    rintro e w22 ⟨s23, rfl, h23, f23, k23⟩
    have hle2 := encN_len m 8 (by omega)
    have h231 := h23.bytes.1
    have hol := ho.bytes.1
    have hfl := encs_len (l.take k) (fun n hn => (hr n (List.mem_of_mem_take hn)).2)
    have htk : (l.take k).length ≤ 1000 := by simp; omega
    simp only [List.length_append] at hol
    refine ⟨s23, rfl, append_bytes (w0 := w) (ho.keep k23) rfl hf (hkp.trans k23) (srcAt_bytes h23.bytes) (by simp only [Src.n]; omega) (fun s24 w25 g1 g2 g3 g4 => ?_)⟩
    refine ⟨inR64 (by omega), ⟨k + 1, rfl, hkl, ?_, g3, g2⟩, by dsimp only; omega⟩
    rw [List.take_succ_eq_append_getElem hkl]
    simpa [hm] using g1
  · have : k = l.length := by omega
    subst this
    rw [List.take_length] at ho
    exact ⟨out, rfl, ho, hf, hkp⟩

theorem right04_spec (n : Int) (w : World) : Calls Tryd.prog fn_tidewaterlaw04_right ⟨[.int .i64 n]⟩ w fun e w' => e = .returned (.bool (decide (0 ≤ n ∧ n ≤ 4611686018427387903))) ∧ w' = w := by
  refine tidewaterlaw04_right_ok _ ?_
  unfold tidewaterlaw04_right
  refine BIf_dec (fun h => ⟨?_, rfl⟩) (fun h => ⟨?_, rfl⟩)
  · rw [decide_eq_decide.2]; exact ⟨fun h2 => ⟨h, h2⟩, fun h2 => h2.2⟩
  · rw [decide_eq_false]; omega
end Go.D
