/-
  WHAT IS PROVED: contracts of functions, and the plain law, for this proof. No further conditions.
-/
import Derived.Test.YtojcoegekkcojaaDoorVCrunes
import Derived.Test.YtojcoegekkcojaaDoorErrB
import Derived.Test.YtojcoegekkcojaaDoorIntsB
import Derived.Test.YtojcoegekkcojaaDoorMapM
set_option linter.unusedVariables false
set_option linter.unusedSimpArgs false
set_option maxRecDepth 20000
namespace Go.D
open Go Go.Proofs

/-! ### runes, by definition -/
def bN (s : List UInt8) (i : Nat) : Nat := (s.getD i 0).toNat
def conB (s : List UInt8) (i : Nat) : Bool := decide (i < s.length) && decide (bN s i / 64 = 2)
def validN (c : Nat) : Bool := decide (c < 55296) || (decide (57344 ≤ c) && decide (c ≤ 1114111))
def c2N (s : List UInt8) (i : Nat) : Nat := bN s i % 32 * 64 + bN s (i + 1) % 64
def c3N (s : List UInt8) (i : Nat) : Nat := bN s i % 16 * 4096 + bN s (i + 1) % 64 * 64 + bN s (i + 2) % 64
def c4N (s : List UInt8) (i : Nat) : Nat := bN s i % 8 * 262144 + bN s (i + 1) % 64 * 4096 + bN s (i + 2) % 64 * 64 + bN s (i + 3) % 64
/-- The rune at i and one less than its width; none: there is none. -/
def stepR (s : List UInt8) (i : Nat) : Option (Nat × Nat) :=
  if bN s i < 128 then some (bN s i, 0)
  else if bN s i / 32 = 6 then (if (conB s (i + 1) && decide (128 ≤ c2N s i)) = true then some (c2N s i, 1) else none)
  else if bN s i / 16 = 14 then (if (conB s (i + 1) && (conB s (i + 2) && (decide (2048 ≤ c3N s i) && validN (c3N s i)))) = true then some (c3N s i, 2) else none)
  else if bN s i / 8 = 30 then (if (conB s (i + 1) && (conB s (i + 2) && (conB s (i + 3) && (decide (65536 ≤ c4N s i) && validN (c4N s i))))) = true then some (c4N s i, 3) else none)
  else none
theorem bN_lt (s : List UInt8) (i : Nat) : bN s i < 256 := UInt8.toNat_lt _
theorem get_bN (s : List UInt8) (k : Nat) : ((ByteArray.mk ⟨s⟩).get! k).toNat = bN s k := by
  simp [ByteArray.get!, bN] <;> rfl
theorem validN_eq (c : Nat) : Utf8.valid (c : Int) = validN c := by
  unfold Utf8.valid validN
  rw [Bool.eq_iff_iff]
  simp only [Bool.or_eq_true, Bool.and_eq_true, decide_eq_true_eq]
  omega
theorem decS_eq (s : List UInt8) (i : Nat) : decS s i =
    (if bN s i < 128 then (bN s i, 1)
    else if (bN s i / 32 == 6 && conB s (i + 1)) = true then (if c2N s i ≥ 128 then (c2N s i, 2) else (65533, 1))
    else if (bN s i / 16 == 14 && conB s (i + 1) && conB s (i + 2)) = true then
      (if (decide (c3N s i ≥ 2048) && validN (c3N s i)) = true then (c3N s i, 3) else (65533, 1))
    else if (bN s i / 8 == 30 && conB s (i + 1) && conB s (i + 2) && conB s (i + 3)) = true then
      (if (decide (c4N s i ≥ 65536) && validN (c4N s i)) = true then (c4N s i, 4) else (65533, 1))
    else (65533, 1)) := by
  have hc : ∀ k, (decide (i + k < (ByteArray.mk ⟨s⟩).size) && (bN s (i + k) / 64 == 2)) = conB s (i + k) := fun k => by
    unfold conB
    congr 1
  unfold decS Utf8.decode
  simp only [get_bN, hc, validN_eq, Nat.add_zero, Utf8.runeError, c2N, c3N, c4N]
  rfl
theorem dec_step (s : List UInt8) (i : Nat) : match stepR s i with | some (c, n) => decS s i = (c, n + 1) | none => decS s i = (65533, 1) := by
  rw [decS_eq]
  unfold stepR
  have hb := bN_lt s i
  generalize c2N s i = c2
  generalize c3N s i = c3
  generalize c4N s i = c4
  generalize bN s i = b0 at *
  generalize conB s (i + 1) = k1
  generalize conB s (i + 2) = k2
  generalize conB s (i + 3) = k3
  generalize validN c3 = v3
  generalize validN c4 = v4
  by_cases h1 : b0 < 128
  · rw [if_pos h1, if_pos h1]
  rw [if_neg h1, if_neg h1]
  by_cases h2 : b0 / 32 = 6
  · have e3 : ¬ b0 / 16 = 14 := by omega
    have e4 : ¬ b0 / 8 = 30 := by omega
    rw [if_pos h2]
    by_cases h5 : 128 ≤ c2 <;> cases k1 <;> simp [h2, e3, e4, h5]
  rw [if_neg h2]
  by_cases h3 : b0 / 16 = 14
  · have e4 : ¬ b0 / 8 = 30 := by omega
    rw [if_pos h3]
    by_cases h5 : 2048 ≤ c3 <;> cases k1 <;> cases k2 <;> cases v3 <;> simp [h2, h3, e4, h5]
  rw [if_neg h3]
  by_cases h4 : b0 / 8 = 30
  · rw [if_pos h4]
    by_cases h5 : 65536 ≤ c4 <;> cases k1 <;> cases k2 <;> cases k3 <;> cases v4 <;> simp [h2, h3, h4, h5]
  · rw [if_neg h4]
    simp [h2, h3, h4]
theorem conB_lt {s : List UInt8} {i : Nat} (h : conB s i = true) : i < s.length ∧ 128 ≤ bN s i ∧ bN s i < 192 := by
  unfold conB at h
  simp only [Bool.and_eq_true, decide_eq_true_eq] at h
  omega
theorem stepR_le {s : List UInt8} {i c n : Nat} (hi : i < s.length) (h : stepR s i = some (c, n)) : i + n + 1 ≤ s.length ∧ c ≤ 1114111 := by
  unfold stepR c2N c3N c4N at h
  have hb := bN_lt s i
  by_cases h1 : bN s i < 128
  · rw [if_pos h1] at h; simp at h; omega
  rw [if_neg h1] at h
  by_cases h2 : bN s i / 32 = 6
  · rw [if_pos h2] at h
    split at h
    · rename_i hh
      simp only [Bool.and_eq_true] at hh
      have q1 := conB_lt hh.1
      simp at h; omega
    · cases h
  rw [if_neg h2] at h
  by_cases h3 : bN s i / 16 = 14
  · rw [if_pos h3] at h
    split at h
    · rename_i hh
      simp only [Bool.and_eq_true] at hh
      have q1 := conB_lt hh.1
      have q2 := conB_lt hh.2.1
      simp at h; omega
    · cases h
  rw [if_neg h3] at h
  by_cases h4 : bN s i / 8 = 30
  · rw [if_pos h4] at h
    split at h
    · rename_i hh
      simp only [Bool.and_eq_true] at hh
      have q3 := conB_lt hh.2.2.1
      have qv := hh.2.2.2.2
      unfold validN at qv
      simp only [Bool.or_eq_true, Bool.and_eq_true, decide_eq_true_eq] at qv
      simp at h; omega
    · cases h
  · rw [if_neg h4] at h; cases h
/-- The text's runes from i on. -/
def runesR (s : List UInt8) (i : Nat) : Option (List Nat) :=
  if h : i < s.length then (match stepR s i with
    | none => none
    | some (c, n) => (runesR s (i + n + 1)).map (c :: ·))
  else some []
termination_by s.length - i
decreasing_by omega
def markB3 : List UInt8 := [239, 191, 189]
theorem mark_some {s : List UInt8} {i : Nat} (h : i + 3 ≤ s.length) (hm : (s.take (i + 3)).drop i = markB3) : stepR s i = some (65533, 2) := by
  have hg : ∀ k, k < 3 → (s.getD (i + k) 0) = markB3.getD k 0 := by
    intro k hk
    rw [← hm]
    simp only [List.getD, List.getElem?_drop]
    rw [List.getElem?_take_of_lt (by omega)]
  have h0 : bN s i = 239 := by have := hg 0 (by omega); unfold bN; rw [show s.getD i 0 = s.getD (i + 0) 0 from rfl, this]; rfl
  have h1 : bN s (i + 1) = 191 := by unfold bN; rw [hg 1 (by omega)]; rfl
  have h2 : bN s (i + 2) = 189 := by unfold bN; rw [hg 2 (by omega)]; rfl
  have c1 : conB s (i + 1) = true := by unfold conB; rw [h1]; simp; omega
  have c2 : conB s (i + 2) = true := by unfold conB; rw [h2]; simp; omega
  unfold stepR c3N
  rw [h0, h1, h2, c1, c2]
  rfl
theorem some_mark {s : List UInt8} {i n : Nat} (hi : i < s.length) (h : stepR s i = some (65533, n)) : i + 3 ≤ s.length ∧ (s.take (i + 3)).drop i = markB3 := by
  have hb := bN_lt s i
  have key : i + 3 ≤ s.length ∧ bN s i = 239 ∧ bN s (i + 1) = 191 ∧ bN s (i + 2) = 189 := by
    unfold stepR c2N c3N c4N at h
    have hb1 := bN_lt s (i + 1)
    by_cases h1 : bN s i < 128
    · rw [if_pos h1] at h; simp at h; omega
    rw [if_neg h1] at h
    by_cases h2 : bN s i / 32 = 6
    · rw [if_pos h2] at h
      split at h
      · simp at h; omega
      · cases h
    rw [if_neg h2] at h
    by_cases h3 : bN s i / 16 = 14
    · rw [if_pos h3] at h
      split at h
      · rename_i hh
        simp only [Bool.and_eq_true] at hh
        have q1 := conB_lt hh.1
        have q2 := conB_lt hh.2.1
        simp at h
        omega
      · cases h
    rw [if_neg h3] at h
    by_cases h4 : bN s i / 8 = 30
    · rw [if_pos h4] at h
      split at h
      · rename_i hh
        simp only [Bool.and_eq_true, decide_eq_true_eq] at hh
        simp at h
        omega
      · cases h
    · rw [if_neg h4] at h; cases h
  obtain ⟨h3, e0, e1, e2⟩ := key
  refine ⟨h3, List.ext_getElem (by simp [markB3]; omega) (fun k hk1 hk2 => ?_)⟩
  have hk : k < 3 := by simpa [markB3] using hk2
  have hs : i + k < s.length := by omega
  rw [List.getElem_drop, List.getElem_take]
  have hbn : (s[i + k]).toNat = bN s (i + k) := by simp [bN, List.getD, hs]
  apply UInt8.toNat.inj
  rw [hbn]
  have : k = 0 ∨ k = 1 ∨ k = 2 := by omega
  rcases this with rfl | rfl | rfl
  · rw [Nat.add_zero, e0]; rfl
  · rw [e1]; rfl
  · rw [e2]; rfl

/-! ### where a range over a text stands -/
def iterP (w : World) (r : Nat) : Nat := match w.heap[r]? with | some (.stringIter _ p) => p | _ => 0
theorem iterP_eq {w : World} {r p : Nat} {b : ByteArray} (h : w.heap[r]? = some (.stringIter b p)) : iterP w r = p := by unfold iterP; rw [h]
theorem iter_set {w w1 : World} {r : Nat} {o o' : Obj} (h : w.heap[r]? = some o) (h1 : w1 = setObjW w r o') : w1.heap[r]? = some o' ∧ Ext (fun k => k = r) w w1 := by
  subst h1
  exact ⟨by have := lt_of_heap h; simp [setObjW, this], setObjW_ext⟩

theorem runesRight_spec (s : List UInt8) (hl : s.length ≤ 2 ^ 40) (w : World) :
    Calls Tryd.prog fn_runes_Right ⟨[strV s]⟩ w fun e w' => e = .returned (.bool (runesR s 0).isSome) ∧ Keep w w' := by
  refine runes_Right_ok _ ?_
  unfold runes_Right
  refine newS_mk (fun r2 w3 hr2 hb2 k2 hs2 => ?_)
  refine ⟨fun w2 => ∃ p, w2.heap[r2]? = some (.stringIter ⟨⟨s⟩⟩ p) ∧ Keep w w2 ∧ (runesR s 0).isSome = (runesR s p).isSome, fun w2 => s.length - iterP w2 r2, ⟨0, hb2, k2, rfl⟩, ?_⟩
  rintro w6 ⟨p, hp, k6, hr⟩
  intros
  refine ⟨s, p, hp, BIf_dec (fun h1 => fun w33 hw33 => ?_) (fun h1 => ⟨?_, k6⟩)⟩
  · obtain ⟨g1, g2⟩ := iter_set hp hw33
    have k33 : Keep w w33 := k6.ext g2 (fun j hj => by omega)
    have hd := dec_step s p
    rw [runesR.eq_1 s p, dif_pos h1] at hr
    cases hst : stepR s p with
    | none =>
      rw [hst] at hd hr
      simp only at hd
      rw [hd] at g1 ⊢
      refine BIf_dec (fun _ => ⟨inR64 (by omega), BIf_dec (fun _ => ⟨by rw [hr]; rfl, k33⟩) (fun h3 => ⟨inR64 (by omega), by omega, by omega, by omega, ?_⟩)⟩) (fun h => absurd rfl h)
      refine BIf_ndec (fun h4 => ⟨by rw [hr]; rfl, k33⟩) (fun h4 => ?_)
      rw [show Int.toNat ((p : Int) + 3) = p + 3 by omega] at h4
      have := mark_some (s := s) (i := p) (by omega) h4
      rw [hst] at this; cases this
    | some cn =>
      obtain ⟨c, n⟩ := cn
      rw [hst] at hd hr
      simp only at hd
      have hle := stepR_le h1 hst
      rw [hd] at g1 ⊢
      have next : (∃ p, w33.heap[r2]? = some (.stringIter ⟨⟨s⟩⟩ p) ∧ Keep w w33 ∧ (runesR s 0).isSome = (runesR s p).isSome) ∧ s.length - iterP w33 r2 < s.length - iterP w6 r2 := by
        refine ⟨⟨_, g1, k33, ?_⟩, by rw [iterP_eq g1, iterP_eq hp]; omega⟩
        rw [hr, ← Nat.add_assoc]; simp
      refine BIf_dec (fun h2 => ?_) (fun h2 => next)
      have hc : c = 65533 := by simp only at h2; omega
      subst hc
      obtain ⟨q1, q2⟩ := some_mark h1 hst
      refine ⟨inR64 (by omega), BIf_dec (fun h => by omega) (fun _ => ⟨inR64 (by omega), by omega, by omega, by omega, BIf_ndec (fun h4 => absurd ?_ h4) (fun _ => next)⟩)⟩
      rw [show Int.toNat ((p : Int) + 3) = p + 3 by omega]; exact q2
  · rw [hr, runesR.eq_1 s p, dif_neg (by omega)]; rfl

theorem runesR_len (s : List UInt8) : ∀ (i : Nat) (l : List Nat), runesR s i = some l → l.length + i ≤ s.length ∨ (l = [] ∧ s.length ≤ i) := by
  intro i
  induction h : s.length - i using Nat.strongRecOn generalizing i with
  | ind m ih =>
    intro l hl
    rw [runesR.eq_1] at hl
    split at hl
    · rename_i hi
      cases hst : stepR s i with
      | none => rw [hst] at hl; cases hl
      | some cn =>
        obtain ⟨c, n⟩ := cn
        rw [hst] at hl
        simp only at hl
        have hle := (stepR_le hi hst).1
        cases hr : runesR s (i + n + 1) with
        | none => rw [hr] at hl; cases hl
        | some l2 =>
          rw [hr] at hl
          cases hl
          rcases ih (s.length - (i + n + 1)) (by omega) (i + n + 1) rfl l2 hr with h2 | ⟨rfl, h2⟩
          · left; simp; omega
          · left; simp; omega
    · cases hl
      exact .inr ⟨rfl, by omega⟩
theorem runesCount_spec (s : List UInt8) (hl : s.length ≤ 2 ^ 40) (w : World) :
    Calls Tryd.prog fn_runes_Count ⟨[strV s]⟩ w fun e w' => e = .returned (.int .i64 (match runesR s 0 with | none => -1 | some l => (l.length : Int))) ∧ Keep w w' := by
  refine runes_Count_ok _ ?_
  unfold runes_Count
  refine (runesRight_spec s hl w).mono ?_
  rintro e w3 ⟨rfl, k3⟩
  cases hr0 : runesR s 0 with
  | none => exact ⟨_, rfl, BIf_mk (fun _ => ⟨rfl, k3⟩) (fun h => by cases h)⟩
  | some l =>
    refine ⟨_, rfl, BIf_mk (fun h => by cases h) (fun _ => newS_mk (fun r5 w6 hr5 hb5 k5 hs5 => ?_))⟩
    have z3 := k3.size
    refine ⟨fun n w2 => ∃ (p m : Nat) (l2 : List Nat), w2.heap[r5]? = some (.stringIter ⟨⟨s⟩⟩ p) ∧ Keep w w2 ∧ n = m ∧ runesR s p = some l2 ∧ m + l2.length = l.length, fun _ w2 => s.length - iterP w2 r5, ⟨0, 0, l, hb5, k3.trans k5, rfl, hr0, by omega⟩, ?_⟩
    rintro n w10 ⟨p, m, l2, hp, k10, rfl, hl2, hm⟩
    intros
    refine ⟨s, p, hp, BIf_dec (fun h1 => fun w33 hw33 => ?_) (fun h1 => ⟨?_, k10⟩)⟩
    · obtain ⟨g1, g2⟩ := iter_set hp hw33
      have k33 : Keep w w33 := k10.ext g2 (fun j hj => by omega)
      have hd := dec_step s p
      rw [runesR.eq_1, dif_pos h1] at hl2
      cases hst : stepR s p with
      | none => rw [hst] at hl2; cases hl2
      | some cn =>
        obtain ⟨c, n⟩ := cn
        rw [hst] at hd hl2
        simp only at hd hl2
        rw [hd] at g1
        have hle := stepR_le h1 hst
        cases hr : runesR s (p + n + 1) with
        | none => rw [hr] at hl2; cases hl2
        | some l3 =>
          rw [hr] at hl2
          cases hl2
          have hlen := runesR_len s 0 l hr0
          simp at hm
          exact ⟨inR64 (by omega), ⟨_, m + 1, l3, g1, k33, rfl, by rw [← Nat.add_assoc]; exact hr, by omega⟩, by show s.length - iterP w33 r5 < s.length - iterP w10 r5; rw [iterP_eq g1, iterP_eq hp]; omega⟩
    · rw [runesR.eq_1, dif_neg (by omega)] at hl2
      cases hl2
      have : m = l.length := by simpa using hm
      rw [this]

/-! ### keys -/
def badC (c : Nat) : Bool := decide (c < 32) || decide (c = 127)
/-- A key's error. -/
def keyE (s : List UInt8) : Option Nat := match runesR s 0 with
  | none => some 5
  | some l => if l.length = 0 then some 1 else if 24 < l.length then some 2 else if l.any badC = true then some 6 else none
def keyG : List Nat := [gl_ErrRune, gl_ErrShort, gl_ErrLong, gl_ErrName]
theorem runesKey_spec (A : Nat → Addr) {n0 : Nat} (s : List UInt8) (hl : s.length ≤ 2 ^ 40) (w : World) (hE : ErrsG keyG A n0 w) :
    Calls Tryd.prog fn_runes_Key ⟨[strV s]⟩ w fun e w' => e = .returned (errO A (keyE s)) ∧ Keep w w' := by
  refine runes_Key_ok _ ?_
  unfold runes_Key
  refine (runesCount_spec s hl w).mono ?_
  rintro e w3 ⟨rfl, k3⟩
  unfold keyE
  have hE3 := hE.keep k3
  cases hr0 : runesR s 0 with
  | none =>
    refine ⟨_, rfl, BIf_dec (fun _ => ⟨_, errG_at hE3 5 _ rfl (by simp [keyG]), rfl, k3⟩) (fun h => absurd (show (-1 : Int) < 0 by omega) h)⟩
  | some l =>
    refine ⟨_, rfl, BIf_dec (fun h => by simp only at h; omega) (fun _ => BIf_dec (fun h => ⟨_, errG_at hE3 1 _ rfl (by simp [keyG]), ?_, k3⟩) (fun h2 => BIf_dec (fun h => ⟨_, errG_at hE3 2 _ rfl (by simp [keyG]), ?_, k3⟩) (fun h3 => ?_)))⟩
    · simp only at h ⊢; rw [if_pos (by omega)]
    · simp only at h h2 ⊢; rw [if_neg (by omega), if_pos (by omega)]
    simp only at h2 h3 ⊢
    rw [if_neg (by omega), if_neg (by omega)]
    refine newS_mk (fun r8 w9 hr8 hb8 k8 hs8 => ?_)
    have z3 := k3.size
    refine ⟨fun w2 => ∃ (p : Nat) (l2 : List Nat), w2.heap[r8]? = some (.stringIter ⟨⟨s⟩⟩ p) ∧ Keep w w2 ∧ runesR s p = some l2 ∧ l.any badC = l2.any badC, fun w2 => s.length - iterP w2 r8, ⟨0, l, hb8, k3.trans k8, hr0, rfl⟩, ?_⟩
    rintro w12 ⟨p, l2, hp, k12, hl2, hany⟩
    intros
    refine ⟨s, p, hp, BIf_dec (fun h1 => fun w33 hw33 => ?_) (fun h1 => ⟨?_, k12⟩)⟩
    · obtain ⟨g1, g2⟩ := iter_set hp hw33
      have k33 : Keep w w33 := k12.ext g2 (fun j hj => by omega)
      have hd := dec_step s p
      rw [runesR.eq_1, dif_pos h1] at hl2
      cases hst : stepR s p with
      | none => rw [hst] at hl2; cases hl2
      | some cn =>
        obtain ⟨c, n⟩ := cn
        rw [hst] at hd hl2
        simp only at hd hl2
        rw [hd] at g1 ⊢
        have hle := stepR_le h1 hst
        cases hr : runesR s (p + n + 1) with
        | none => rw [hr] at hl2; cases hl2
        | some l3 =>
          rw [hr] at hl2
          cases hl2
          rw [List.any_cons] at hany
          have hE33 := hE.keep k33
          refine BIf_dec (fun h4 => ⟨_, errG_at hE33 6 _ rfl (by simp [keyG]), ?_, k33⟩) (fun h4 => BIf_dec (fun h5 => ⟨_, errG_at hE33 6 _ rfl (by simp [keyG]), ?_, k33⟩) (fun h5 => ⟨⟨_, l3, g1, k33, by rw [← Nat.add_assoc]; exact hr, ?_⟩, by show s.length - iterP w33 r8 < s.length - iterP w12 r8; rw [iterP_eq g1, iterP_eq hp]; omega⟩))
          · rw [if_pos (by rw [hany]; simp [badC]; left; left; simp only at h4; omega)]
          · rw [if_pos (by rw [hany]; simp [badC]; left; right; simp only at h5; omega)]
          · rw [hany]
            have : badC c = false := by simp only at h4 h5; simp [badC]; omega
            rw [this]; rfl
    · rw [runesR.eq_1, dif_neg (by omega)] at hl2
      cases hl2
      rw [hany]; rfl
end Go.D
