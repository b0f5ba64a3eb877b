/-
  WHAT IS PROVED: contracts of functions, and the plain law, for this proof. No further conditions.
-/
import Derived.Test.YtojcoegekkcojaaDoorRunes1
set_option linter.unusedVariables false
set_option linter.unusedSimpArgs false
set_option maxRecDepth 20000
namespace Go.D
open Go Go.Proofs

/-! ### the document's runes -/
def clsR (s : List UInt8) (i n least c0 : Nat) : Prop :=
  (n = 1 ∧ least = 0 ∧ bN s i < 128 ∧ c0 = bN s i) ∨ (n = 2 ∧ least = 128 ∧ bN s i / 32 = 6 ∧ c0 = bN s i % 32) ∨ (n = 3 ∧ least = 2048 ∧ bN s i / 16 = 14 ∧ c0 = bN s i % 16) ∨ (n = 4 ∧ least = 65536 ∧ bN s i / 8 = 30 ∧ c0 = bN s i % 8)
def accN (s : List UInt8) (i c0 : Nat) : Nat → Nat
  | 0 => c0
  | k + 1 => accN s i c0 k * 64 + bN s (i + (k + 1)) % 64
theorem cls_none {s : List UInt8} {i n least c0 : Nat} (h : clsR s i n least c0) (k : Nat) (h1 : 1 ≤ k) (hk : k < n) (hc : conB s (i + k) = false) : stepR s i = none := by
  have hb := bN_lt s i
  unfold stepR
  rcases h with ⟨rfl, _⟩ | ⟨rfl, _, h2, _⟩ | ⟨rfl, _, h2, _⟩ | ⟨rfl, _, h2, _⟩
  · omega
  · rw [if_neg (by omega), if_pos h2]
    have : k = 1 := by omega
    subst this
    rw [hc]; rfl
  · rw [if_neg (by omega), if_neg (by omega), if_pos h2]
    have : k = 1 ∨ k = 2 := by omega
    rcases this with rfl | rfl
    · rw [hc]; rfl
    · rw [hc]; simp
  · rw [if_neg (by omega), if_neg (by omega), if_neg (by omega), if_pos h2]
    have : k = 1 ∨ k = 2 ∨ k = 3 := by omega
    rcases this with rfl | rfl | rfl
    · rw [hc]; rfl
    · rw [hc]; simp
    · rw [hc]; simp
theorem cls_end {s : List UInt8} {i n least c0 : Nat} (h : clsR s i n least c0) (hc : ∀ k, 1 ≤ k → k < n → conB s (i + k) = true) :
    stepR s i = if (decide (least ≤ accN s i c0 (n - 1)) && validN (accN s i c0 (n - 1))) = true then some (accN s i c0 (n - 1), n - 1) else none := by
  have hb := bN_lt s i
  unfold stepR
  rcases h with ⟨rfl, rfl, h2, rfl⟩ | ⟨rfl, rfl, h2, rfl⟩ | ⟨rfl, rfl, h2, rfl⟩ | ⟨rfl, rfl, h2, rfl⟩
  · rw [if_pos h2]
    have hv : validN (bN s i) = true := by unfold validN; simp; omega
    rw [show accN s i (bN s i) (1 - 1) = bN s i from rfl, hv]
    simp
  · rw [if_neg (by omega), if_pos h2, hc 1 (by omega) (by omega)]
    have e : accN s i (bN s i % 32) (2 - 1) = c2N s i := rfl
    have hv : validN (c2N s i) = true := by unfold validN c2N; simp; omega
    rw [e, hv]
    simp
  · rw [if_neg (by omega), if_neg (by omega), if_pos h2, hc 1 (by omega) (by omega), hc 2 (by omega) (by omega)]
    have e : accN s i (bN s i % 16) (3 - 1) = c3N s i := by
      show ((bN s i % 16) * 64 + bN s (i + 1) % 64) * 64 + bN s (i + 2) % 64 = _
      unfold c3N; omega
    rw [e]
    simp
  · rw [if_neg (by omega), if_neg (by omega), if_neg (by omega), if_pos h2, hc 1 (by omega) (by omega), hc 2 (by omega) (by omega), hc 3 (by omega) (by omega)]
    have e : accN s i (bN s i % 8) (4 - 1) = c4N s i := by
      show (((bN s i % 8) * 64 + bN s (i + 1) % 64) * 64 + bN s (i + 2) % 64) * 64 + bN s (i + 3) % 64 = _
      unfold c4N; omega
    rw [e]
    simp
theorem accN_lt {s : List UInt8} {i n least c0 : Nat} (h : clsR s i n least c0) : ∀ k, accN s i c0 k < 128 * 64 ^ k
  | 0 => by
    have hb := bN_lt s i
    show c0 < _
    rcases h with ⟨_, _, _, rfl⟩ | ⟨_, _, _, rfl⟩ | ⟨_, _, _, rfl⟩ | ⟨_, _, _, rfl⟩ <;> omega
  | k + 1 => by
    have := accN_lt h k
    rw [accN, Nat.pow_succ]
    omega

theorem refRunes_spec (s : List UInt8) (hl : s.length ≤ 2 ^ 20) (w : World) :
    Calls Tryd.prog fn_tidewaterref02_Runes ⟨[strV s]⟩ w fun e w' => Keep w w' ∧ match runesR s 0 with
      | none => ∃ t : Slc, e = .returned (.tuple ⟨[t.v, .bool false]⟩)
      | some l => ∃ t : Slc, e = .returned (.tuple ⟨[t.v, .bool true]⟩) ∧ IntsAt w' t (l.map fun (c : Nat) => (c : Int)) := by
  refine tidewaterref02_Runes_ok _ ?_
  unfold tidewaterref02_Runes
  refine newS_mk (fun r2 w3 hr2 hb2 k2 hs2 => ?_)
  refine ⟨fun out i w2 => ∃ (p : Nat) (l1 : List Nat), i = p ∧ p ≤ s.length ∧ IntsAt w2 out (l1.map fun (c : Nat) => (c : Int)) ∧ Fresh w out ∧ Keep w w2 ∧ l1.length ≤ p ∧ runesR s 0 = (runesR s p).map (l1 ++ ·), fun _ i _ => ((s.length : Int) - i).toNat,
    ⟨0, [], rfl, by omega, IntsAt.new hb2, Fresh.at (by omega), k2, by simp, by simp⟩, ?_⟩
  rintro out i w8 ⟨p, l1, rfl, hp, hI, hf, k8, hl1, hr⟩
  intros
  -- there is none
  have bad : ∀ {w2 : World}, Keep w w2 → stepR s p = none → p < s.length → Keep w w2 ∧ match runesR s 0 with
      | none => ∃ t : Slc, Ending.returned (Value.tuple ⟨[(Slc.v (⟨none, 0, 0⟩ : Slc)), (Value.bool false)]⟩) = .returned (.tuple ⟨[t.v, .bool false]⟩)
      | some l => ∃ t : Slc, Ending.returned (Value.tuple ⟨[(Slc.v (⟨none, 0, 0⟩ : Slc)), (Value.bool false)]⟩) = .returned (.tuple ⟨[t.v, .bool true]⟩) ∧ IntsAt w2 t (l.map fun (c : Nat) => (c : Int)) := by
    intro w2 k hst hpl
    refine ⟨k, ?_⟩
    have : runesR s 0 = none := by rw [hr, runesR.eq_1 s p, dif_pos hpl, hst]; rfl
    rw [this]
    exact ⟨_, rfl⟩
  refine BIf_dec (fun h1 => ?_) (fun h1 => ?_)
  · have hpl : p < s.length := by omega
    have hb := bN_lt s p
    have eb : (UInt8.toNat (List.getD s (Int.toNat (p : Int)) 0)) = bN s p := by unfold bN; rw [Int.toNat_natCast]
    rw [eb]
    have kd := k8.drew
    refine ⟨by omega, h1, inR64 (by omega), fun n least c w2 => w2 = w8.drew ∧ ∃ n' least' c0 : Nat, n = n' ∧ least = least' ∧ c = c0 ∧ clsR s p n' least' c0, ?_, ?_⟩
    · refine BIf_dec (fun h2 => ⟨rfl, 1, 0, bN s p, rfl, rfl, rfl, .inl ⟨rfl, rfl, by omega, rfl⟩⟩) (fun h2 => ⟨fun x w2 => w2 = w8.drew ∧ (x = true ↔ bN s p / 32 = 6), ?_, ?_⟩)
      · refine BIf_dec (fun h3 => ⟨rfl, ?_⟩) (fun h3 => ⟨rfl, ?_⟩)
        · rw [decide_eq_true_eq]; omega
        · refine ⟨fun h => (by cases h), fun h => by omega⟩
      rintro x w107 ⟨rfl, hx⟩
      intros
      refine BIf_mk (fun h3 => ?_) (fun h3 => ⟨fun x w2 => w2 = w8.drew ∧ (x = true ↔ bN s p / 16 = 14), ?_, ?_⟩)
      · have := hx.1 h3
        exact ⟨inR64 (by omega), rfl, 2, 128, bN s p % 32, rfl, rfl, by omega, .inr (.inl ⟨rfl, rfl, this, rfl⟩)⟩
      · refine BIf_dec (fun h4 => ⟨rfl, ?_⟩) (fun h4 => ⟨rfl, ?_⟩)
        · rw [decide_eq_true_eq]; omega
        · refine ⟨fun h => (by cases h), fun h => by omega⟩
      rintro y w116 ⟨rfl, hy⟩
      intros
      have h6 : ¬ bN s p / 32 = 6 := fun hh => by rw [hx.2 hh] at h3; cases h3
      refine BIf_mk (fun h4 => ?_) (fun h4 => ?_)
      · have := hy.1 h4
        exact ⟨inR64 (by omega), rfl, 3, 2048, bN s p % 16, rfl, rfl, by omega, .inr (.inr (.inl ⟨rfl, rfl, this, rfl⟩))⟩
      · have h14 : ¬ bN s p / 16 = 14 := fun hh => by rw [hy.2 hh] at h4; cases h4
        have none_ : ¬ bN s p / 8 = 30 → stepR s p = none := fun h30 => by
          unfold stepR
          rw [if_neg (by omega), if_neg h6, if_neg h14, if_neg h30]
        refine BIf_dec (fun h5 => BIf_dec (fun h7 => ?_) (fun h7 => bad kd (none_ (by omega)) hpl)) (fun h5 => bad kd (none_ (by omega)) hpl)
        exact ⟨inR64 (by omega), rfl, 4, 65536, bN s p % 8, rfl, rfl, by omega, .inr (.inr (.inr ⟨rfl, rfl, by omega, rfl⟩))⟩
    · rintro n least c w126 ⟨rfl, n', least', c0, rfl, rfl, rfl, hcls⟩
      intros
      have hn4 : 1 ≤ n' ∧ n' ≤ 4 := by rcases hcls with ⟨rfl, _⟩ | ⟨rfl, _⟩ | ⟨rfl, _⟩ | ⟨rfl, _⟩ <;> omega
      refine ⟨inR64 (by omega), BIf_dec (fun h2 => ?_) (fun h2 => ?_)⟩
      · -- too short
        have hc : conB s (s.length) = false := by unfold conB; simp
        have := cls_none hcls (s.length - p) (by omega) (by omega) (by rw [show p + (s.length - p) = s.length by omega]; exact hc)
        exact bad kd this hpl
      refine ⟨fun c k w2 => w2 = w8.drew ∧ ∃ k' : Nat, k = ((k' + 1 : Nat) : Int) ∧ k' + 1 ≤ n' ∧ c = (accN s p c0 k' : Int) ∧ ∀ j, 1 ≤ j → j < k' + 1 → conB s (p + j) = true, fun _ k _ => ((n' : Int) - k).toNat, ⟨rfl, 0, by omega, by omega, rfl, fun j h1 h2 => by omega⟩, ?_⟩
      rintro c k w163 ⟨rfl, k', rfl, hk, rfl, hcon⟩
      intros
      have hacc := accN_lt hcls k'
      have hp64 : 64 ^ k' ≤ 64 ^ 3 := Nat.pow_le_pow_right (by omega) (by omega)
      refine BIf_dec (fun h3 => ?_) (fun h3 => ?_)
      · have ei : Int.toNat ((p : Int) + ((k' + 1 : Nat) : Int)) = p + (k' + 1) := by omega
        have eb2 : (UInt8.toNat (List.getD s (Int.toNat ((p : Int) + ((k' + 1 : Nat) : Int))) 0)) = bN s (p + (k' + 1)) := by unfold bN; rw [ei]
        rw [eb2]
        have hb2 := bN_lt s (p + (k' + 1))
        have hno : ¬ (128 ≤ bN s (p + (k' + 1)) ∧ bN s (p + (k' + 1)) ≤ 191) → stepR s p = none := fun hh => by
          refine cls_none hcls (k' + 1) (by omega) (by omega) ?_
          unfold conB
          have : ¬ bN s (p + (k' + 1)) / 64 = 2 := by omega
          simp [this]
        refine ⟨inR64 (by omega), by omega, by omega, inR64 (by omega), BIf_dec (fun h4 => bad kd (hno (by omega)) hpl) (fun h4 => BIf_dec (fun h5 => bad kd (hno (by omega)) hpl) (fun h5 => ?_))⟩
        refine ⟨inR64 (by omega), inR64 (by omega), inR64 (by omega), inR64 (by omega), ⟨rfl, k' + 1, by omega, by omega, ?_, fun j hj1 hj2 => ?_⟩, by first | (dsimp only; omega) | omega⟩
        · rw [accN]; omega
        · by_cases hjk : j = k' + 1
          · subst hjk
            unfold conB
            simp only [Bool.and_eq_true, decide_eq_true_eq]
            omega
          · exact hcon j hj1 (by omega)
      · have hkn : k' = n' - 1 := by omega
        have hend := cls_end hcls (fun k h1 h2 => hcon k h1 (by omega))
        rw [← hkn] at hend
        generalize accN s p c0 k' = c at *
        have hno : ¬ (least' ≤ c ∧ validN c = true) → stepR s p = none := fun hh => by
          rw [hend, if_neg]
          simp only [Bool.and_eq_true, decide_eq_true_eq]
          exact hh
        have hv : validN c = true ↔ c < 55296 ∨ (57344 ≤ c ∧ c ≤ 1114111) := by
          unfold validN; simp
        refine BIf_dec (fun h4 => bad kd (hno (fun hh => by omega)) hpl) (fun h4 => BIf_dec (fun h5 => bad kd (hno (fun hh => by have := hv.1 hh.2; omega)) hpl) (fun h5 => ?_))
        -- a rune
        have good : validN c = true → ∀ {T E : TypeId}, newS w8.drew (.cells ⟨[.int .i64 (c : Int)]⟩ T) fun r w2 => appendS 1 E [.int .i64 0] w2 out (.slc ⟨some ⟨r, 0, none⟩, 1, 1⟩) fun s3 w3 =>
            inR .i64 ((p : Int) + (n' : Int)) ∧ (∃ (p2 : Nat) (l1 : List Nat), ((p : Int) + (n' : Int)) = p2 ∧ p2 ≤ s.length ∧ IntsAt w3 s3 (l1.map fun (c : Nat) => (c : Int)) ∧ Fresh w s3 ∧ Keep w w3 ∧ l1.length ≤ p2 ∧ runesR s 0 = (runesR s p2).map (l1 ++ ·)) ∧ ((s.length : Int) - ((p : Int) + (n' : Int))).toNat < ((s.length : Int) - (p : Int)).toNat := by
          intro hvc T E
          have hst : stepR s p = some (c, n' - 1) := by
            rw [hend, if_pos (by simp only [Bool.and_eq_true, decide_eq_true_eq]; exact ⟨by omega, hvc⟩), hkn]
          refine (hI.keep (Ext.drew none0 _)).push hf kd (by simp; omega) (fun s' w' g1 g2 g3 g4 g5 => ?_)
          refine ⟨inR64 (by omega), ⟨p + n', l1 ++ [c], by omega, by omega, by simpa using g1, g2, g3, by simp; omega, ?_⟩, by omega⟩
          rw [hr, runesR.eq_1 s p, dif_pos hpl, hst]
          simp only
          rw [show p + (n' - 1) + 1 = p + n' by omega]
          cases runesR s (p + n') <;> simp
        refine BIf_dec (fun h6 => BIf_dec (fun h7 => bad kd (hno (fun hh => by have := hv.1 hh.2; omega)) hpl) (fun h7 => good (hv.2 (by omega)))) (fun h6 => good (hv.2 (by omega)))
  · have hpl : p = s.length := by omega
    subst hpl
    refine ⟨k8, ?_⟩
    rw [runesR.eq_1 s s.length, dif_neg (by omega)] at hr
    rw [hr]
    exact ⟨out, rfl, by simpa using hI⟩

def keyN (s : List UInt8) : Int := match keyE s with | none => 0 | some k => ((k + 1 : Nat) : Int)
theorem refKey_spec (s : List UInt8) (hl : s.length ≤ 2 ^ 20) (w : World) :
    Calls Tryd.prog fn_tidewaterref02_Key ⟨[strV s]⟩ w fun e w' => e = .returned (.int .i64 (keyN s)) ∧ Keep w w' := by
  refine tidewaterref02_Key_ok _ ?_
  unfold tidewaterref02_Key
  refine (refRunes_spec s hl w).mono ?_
  rintro e w3 ⟨k3, hm⟩
  unfold keyN keyE
  cases hr0 : runesR s 0 with
  | none =>
    rw [hr0] at hm
    obtain ⟨t, rfl⟩ := hm
    exact ⟨_, _, rfl, BIf_mk (fun _ => ⟨rfl, k3⟩) (fun h => by cases h)⟩
  | some l =>
    rw [hr0] at hm
    obtain ⟨t, rfl, hI⟩ := hm
    have hsl := hI.sl
    rw [List.length_map] at hsl
    refine ⟨_, _, rfl, BIf_mk (fun h => by cases h) (fun _ => BIf_dec (fun h1 => ⟨?_, k3⟩) (fun h1 => BIf_dec (fun h2 => ⟨?_, k3⟩) (fun h2 => ?_)))⟩
    · simp only; rw [if_pos (by omega)]; rfl
    · simp only; rw [if_neg (by omega), if_pos (by omega)]; rfl
    simp only
    rw [if_neg (by omega), if_neg (by omega)]
    refine ⟨fun i w2 => ∃ k : Nat, i = k ∧ k ≤ l.length ∧ w2 = w3 ∧ (l.take k).any badC = false, fun i _ => ((l.length : Int) - i).toNat, ⟨0, rfl, by omega, rfl, by simp⟩, ?_⟩
    rintro i w9 ⟨k, rfl, hk, rfl, hany⟩
    intros
    refine BIf_dec (fun h3 => ?_) (fun h3 => ⟨?_, k3⟩)
    · have hkl : k < l.length := by omega
      obtain ⟨a, ha, hc⟩ := hI.get (i := k) (by simp; omega)
      have e1 : (l.map fun (c : Nat) => (c : Int))[k]'(by simp; omega) = (l[k] : Int) := by simp
      rw [e1] at hc
      have bad : badC l[k] = true → l.any badC = true := fun hb => List.any_eq_true.2 ⟨_, List.getElem_mem hkl, hb⟩
      refine needSome_mk ha ⟨by omega, h3, _, by rw [Int.toNat_natCast]; exact hc, BIf_dec (fun h4 => ⟨?_, k3⟩) (fun h4 => BIf_dec (fun h5 => ⟨?_, k3⟩) (fun h5 => ⟨inR64 (by omega), ⟨k + 1, rfl, hkl, rfl, ?_⟩, by first | (dsimp only; omega) | omega⟩))⟩
      · rw [if_pos (bad (by simp [badC]; omega))]; rfl
      · rw [if_pos (bad (by simp [badC]; omega))]; rfl
      · rw [List.take_succ_eq_append_getElem hkl, List.any_append, hany]
        simp [badC]; omega
    · rw [List.take_of_length_le (by omega)] at hany
      rw [if_neg (by rw [hany]; simp)]
end Go.D
