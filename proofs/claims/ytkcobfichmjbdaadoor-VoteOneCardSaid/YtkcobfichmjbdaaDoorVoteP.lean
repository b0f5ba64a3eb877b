/-
  WHAT IS PROVED: contracts of functions, and the plain law, for this proof. No further conditions.
-/
import Derived.Test.YtkcobfichmjbdaaDoorVote2
set_option linter.unusedVariables false
set_option linter.unusedSimpArgs false
namespace Go.D
open Go Go.Proofs

/-- How many below n. -/
def cnt : Nat → (Nat → Bool) → Nat
  | 0, _ => 0
  | n + 1, p => cnt n p + (if p n = true then 1 else 0)
theorem cnt_le (p : Nat → Bool) : ∀ n, cnt n p ≤ n
  | 0 => Nat.le_refl _
  | n + 1 => by have := cnt_le p n; rw [cnt]; split <;> omega
theorem cnt_both (p q : Nat → Bool) : ∀ n, n < cnt n p + cnt n q → ∃ k, k < n ∧ p k = true ∧ q k = true
  | 0, h => by simp [cnt] at h
  | n + 1, h => by
    rw [cnt, cnt] at h
    by_cases hp : p n = true
    · by_cases hq : q n = true
      · exact ⟨n, by omega, hp, hq⟩
      · rw [if_pos hp, if_neg hq] at h
        obtain ⟨k, h1, h2⟩ := cnt_both p q n (by omega)
        exact ⟨k, by omega, h2⟩
    · rw [if_neg hp] at h
      obtain ⟨k, h1, h2⟩ := cnt_both p q n (by split at h <;> omega)
      exact ⟨k, by omega, h2⟩
def insB (p : Nat → Bool) (k : Nat) : Nat → Bool := fun x => if x = k then true else p x
theorem insB_ne {p : Nat → Bool} {k x : Nat} (h : x ≠ k) : insB p k x = p x := if_neg h
theorem insB_same {p : Nat → Bool} {k : Nat} : insB p k k = true := if_pos rfl
theorem cnt_ins_ge (p : Nat → Bool) (k : Nat) : ∀ n, n ≤ k → cnt n (insB p k) = cnt n p
  | 0, _ => rfl
  | n + 1, h => by rw [cnt, cnt, cnt_ins_ge p k n (by omega), insB_ne (show n ≠ k by omega)]
theorem cnt_ins (p : Nat → Bool) (k : Nat) (hk : p k = false) : ∀ n, k < n → cnt n (insB p k) = cnt n p + 1
  | 0, h => by omega
  | n + 1, h => by
    rw [cnt, cnt]
    by_cases e : k = n
    · subst e
      rw [cnt_ins_ge p k k (Nat.le_refl _), insB_same, if_pos rfl, hk, if_neg (by simp)]
    · rw [cnt_ins p k hk n (by omega), insB_ne (show n ≠ k by omega)]; omega
theorem cnt_zero : ∀ n, cnt n (fun _ => false) = 0
  | 0 => rfl
  | n + 1 => by rw [cnt, cnt_zero n]; rfl

def goodT (t : List UInt8) : Prop := ∃ c : UInt8, t = [c] ∧ 97 ≤ c.toNat ∧ c.toNat ≤ 100

/-- A side in a play. -/
structure SideI (n : Nat) (f : Nat → VS) (txt : Int → Option (List UInt8)) (acc : Nat → Int → Prop) (i : Nat) (s : PS) : Prop where
  sn : s.n = (n : Int)
  b : 0 ≤ s.b ∧ s.b % 4 = (i : Int)
  t : goodT s.t
  g : -1 ≤ s.g ∧ s.g < s.b ∧ (0 ≤ s.g → txt s.g = some s.t)
  C : ∃ C, cnt n C = s.yes ∧ ∀ k, k < n → C k = true → lookL s.pr (k : Int) ≠ none ∧ s.b ≤ (f k).p ∧ ∀ b', acc k b' → b' < s.b → b' ≤ s.g
  yes : s.most s.yes → txt s.b = some s.t
  no : ¬ s.most s.yes → txt s.b = none
  D : ∃ D, cnt n D = s.done ∧ ∀ k, k < n → D k = true → lookL s.ac (k : Int) ≠ none ∧ acc k s.b
  fr : ∀ b, s.b < b → b % 4 = (i : Int) → txt b = none

/-- The votes. -/
structure PX (n : Nat) (f : Nat → VS) (S : Nat → PS) (txt : Int → Option (List UInt8)) (acc : Nat → Int → Prop) : Prop where
  v : ∀ k, k < n → -1 ≤ (f k).b ∧ (f k).b ≤ (f k).p ∧ (0 ≤ (f k).b → txt (f k).b = some (f k).t) ∧ ∀ b, acc k b → 0 ≤ b ∧ b ≤ (f k).b ∧ txt b ≠ none
  s : ∀ b t, txt b = some t → goodT t ∧ ∃ (Q : Nat → Bool) (c : Int), n < 2 * cnt n Q ∧ c < b ∧ -1 ≤ c ∧ (0 ≤ c → txt c = some t) ∧ ∀ k, k < n → Q k = true → b ≤ (f k).p ∧ ∀ b', acc k b' → b' < b → b' ≤ c
  p : ∀ i, i < 4 → SideI n f txt acc i (S i)

/-- A text that is decided at a ballot. -/
def DecAt (n : Nat) (txt : Int → Option (List UInt8)) (acc : Nat → Int → Prop) (b : Int) (t : List UInt8) : Prop := txt b = some t ∧ ∃ D, n < 2 * cnt n D ∧ ∀ k, k < n → D k = true → acc k b
def More (txt txt' : Int → Option (List UInt8)) (acc acc' : Nat → Int → Prop) : Prop := (∀ b t, txt b = some t → txt' b = some t) ∧ ∀ k b, acc k b → acc' k b
theorem DecAt.more {n : Nat} {txt txt' : Int → Option (List UInt8)} {acc acc' : Nat → Int → Prop} {b : Int} {t : List UInt8} (h : DecAt n txt acc b t) (m : More txt txt' acc acc') : DecAt n txt' acc' b t :=
  ⟨m.1 _ _ h.1, let ⟨D, h1, h2⟩ := h.2; ⟨D, h1, fun k hk hD => m.2 _ _ (h2 k hk hD)⟩⟩

theorem PX.agree1 {n : Nat} {f : Nat → VS} {S : Nat → PS} {txt : Int → Option (List UInt8)} {acc : Nat → Int → Prop} (h : PX n f S txt acc) {b : Int} {t : List UInt8} (hd : DecAt n txt acc b t) (hb : 0 ≤ b) :
    ∀ (m : Nat) (b' : Int) (t' : List UInt8), b' = b + m → txt b' = some t' → t' = t := by
  intro m
  induction m using Nat.strongRecOn with
  | ind m ih =>
    intro b' t' hb' ht'
    rcases Nat.eq_zero_or_pos m with h0 | h0
    · subst h0
      have : b' = b := by omega
      rw [this, hd.1] at ht'
      exact (Option.some.inj ht').symm
    · obtain ⟨_, Q, c, q1, q2, q3, q4, q5⟩ := h.s b' t' ht'
      obtain ⟨D, d1, d2⟩ := hd.2
      obtain ⟨k, k1, k2, k3⟩ := cnt_both Q D n (by omega)
      have hc := (q5 k k1 k2).2 b (d2 k k1 k3) (by omega)
      obtain ⟨j, hj⟩ : ∃ j : Nat, c = b + j := ⟨(c - b).toNat, by omega⟩
      exact ih j (by omega) c t' hj (q4 (by omega))
theorem PX.agree {n : Nat} {f : Nat → VS} {S : Nat → PS} {txt : Int → Option (List UInt8)} {acc : Nat → Int → Prop} (h : PX n f S txt acc) {b b' : Int} {t t' : List UInt8} (hd : DecAt n txt acc b t) (hd' : DecAt n txt acc b' t') (hb : 0 ≤ b) (hb' : 0 ≤ b') : t = t' := by
  rcases Int.le_total b b' with h1 | h1
  · exact (h.agree1 hd hb (b' - b).toNat b' t' (by omega) hd'.1).symm
  · exact h.agree1 hd' hb' (b - b').toNat b t (by omega) hd.1

def updN {α : Type} (f : Nat → α) (k : Nat) (v : α) : Nat → α := fun x => if x = k then v else f x
theorem updN_same {α : Type} (f : Nat → α) (k : Nat) (v : α) : updN f k v k = v := if_pos rfl
theorem updN_ne {α : Type} (f : Nat → α) {k x : Nat} (v : α) (h : x ≠ k) : updN f k v x = f x := if_neg h

/-- Promises grow, and nothing that was accepted changes. -/
theorem SideI.grow {n : Nat} {f f' : Nat → VS} {txt txt' : Int → Option (List UInt8)} {acc acc' : Nat → Int → Prop} {i : Nat} {s : PS} (h : SideI n f txt acc i s) (hp : ∀ k, k < n → (f k).p ≤ (f' k).p)
    (ht : ∀ b t, txt b = some t → txt' b = some t) (hn : ∀ b, b % 4 = (i : Int) → txt b = none → txt' b = none) (ha : ∀ k b, acc k b → acc' k b) (ha' : ∀ k b, k < n → acc' k b → acc k b ∨ (f k).p ≤ b) : SideI n f' txt' acc' i s := by
  obtain ⟨C, c1, c2⟩ := h.C
  obtain ⟨D, d1, d2⟩ := h.D
  refine ⟨h.sn, h.b, h.t, ⟨h.g.1, h.g.2.1, fun hg => ht _ _ (h.g.2.2 hg)⟩, ⟨C, c1, fun k hk hC => ?_⟩, fun hm => ht _ _ (h.yes hm), fun hm => hn _ h.b.2 (h.no hm), ⟨D, d1, fun k hk hD => ⟨(d2 k hk hD).1, ha _ _ (d2 k hk hD).2⟩⟩, fun b hb hbi => hn b hbi (h.fr b hb hbi)⟩
  obtain ⟨e1, e2, e3⟩ := c2 k hk hC
  refine ⟨e1, by have := hp k hk; omega, fun b' hb' hlt => ?_⟩
  rcases ha' k b' hk hb' with h1 | h1
  · exact e3 b' h1 hlt
  · omega
theorem safe_grow {n : Nat} {f f' : Nat → VS} {txt txt' : Int → Option (List UInt8)} {acc acc' : Nat → Int → Prop} {b : Int} {t : List UInt8}
    (h : ∃ (Q : Nat → Bool) (c : Int), n < 2 * cnt n Q ∧ c < b ∧ -1 ≤ c ∧ (0 ≤ c → txt c = some t) ∧ ∀ k, k < n → Q k = true → b ≤ (f k).p ∧ ∀ b', acc k b' → b' < b → b' ≤ c) (hp : ∀ k, k < n → (f k).p ≤ (f' k).p)
    (ht : ∀ b t, txt b = some t → txt' b = some t) (ha' : ∀ k b, k < n → acc' k b → acc k b ∨ (f k).p ≤ b) :
    ∃ (Q : Nat → Bool) (c : Int), n < 2 * cnt n Q ∧ c < b ∧ -1 ≤ c ∧ (0 ≤ c → txt' c = some t) ∧ ∀ k, k < n → Q k = true → b ≤ (f' k).p ∧ ∀ b', acc' k b' → b' < b → b' ≤ c := by
  obtain ⟨Q, c, q1, q2, q3, q4, q5⟩ := h
  refine ⟨Q, c, q1, q2, q3, fun hc => ht _ _ (q4 hc), fun k hk hQ => ?_⟩
  obtain ⟨e1, e2⟩ := q5 k hk hQ
  refine ⟨by have := hp k hk; omega, fun b' hb' hlt => ?_⟩
  rcases ha' k b' hk hb' with h1 | h1
  · exact e2 b' h1 hlt
  · omega

/-- A side begins. -/
theorem PX.begins {n : Nat} {f : Nat → VS} {S : Nat → PS} {txt : Int → Option (List UInt8)} {acc : Nat → Int → Prop} (h : PX n f S txt acc) (hn : 1 ≤ n) (i : Nat) (hi : i < 4) (t : List UInt8) (ht : goodT t) :
    PX n f (updN S i ⟨n, (S i).b + 4, t, -1, [], [], 0, 0⟩) txt acc := by
  refine ⟨h.v, h.s, fun j hj => ?_⟩
  by_cases e : j = i
  · subst e
    rw [updN_same]
    have hs := h.p j hj
    refine ⟨rfl, ⟨by have := hs.b; show 0 ≤ (S j).b + 4; omega, by have := hs.b.2; show ((S j).b + 4) % 4 = _; omega⟩, ht, ⟨by show (-1 : Int) ≤ -1; omega, by have := hs.b; show (-1 : Int) < (S j).b + 4; omega, fun hg => absurd hg (by show ¬ (0 : Int) ≤ -1; omega)⟩,
      ⟨fun _ => false, cnt_zero n, fun k hk hC => by cases hC⟩, fun hm => ?_, fun _ => hs.fr _ (by show (S j).b < (S j).b + 4; omega) (by have := hs.b.2; show ((S j).b + 4) % 4 = _; omega), ⟨fun _ => false, cnt_zero n, fun k hk hC => by cases hC⟩, fun b hb hbi => hs.fr b (by have : (S j).b + 4 < b := hb; omega) hbi⟩
    have : (n : Int) < 2 * ((0 : Nat) : Int) := hm
    omega
  · rw [updN_ne _ _ e]
    exact h.p j hj

/-- A side asks a voter for a promise. -/
theorem PX.prepare {n : Nat} {f : Nat → VS} {S : Nat → PS} {txt : Int → Option (List UInt8)} {acc : Nat → Int → Prop} (h : PX n f S txt acc) (i k : Nat) (hi : i < 4) (hk : k < n) :
    ∃ txt', PX n (if (f k).p < (S i).b then updN f k ⟨(S i).b, (f k).b, (f k).t⟩ else f) (updN S i ((S i).promise k (decide ((f k).p < (S i).b)) (f k).b (f k).t)) txt' acc ∧ More txt txt' acc acc := by
  have hs := h.p i hi
  obtain ⟨v1, v2, v3, v4⟩ := h.v k hk
  -- only the proposer notes it
  have note : ∀ (s' : PS), s'.n = (S i).n → s'.b = (S i).b → s'.t = (S i).t → s'.g = (S i).g → s'.yes = (S i).yes → s'.done = (S i).done → s'.ac = (S i).ac → (∀ j, lookL (S i).pr j ≠ none → lookL s'.pr j ≠ none) → SideI n f txt acc i s' := by
    intro s' e1 e2 e3 e4 e5 e6 e7 e8
    obtain ⟨C, c1, c2⟩ := hs.C
    obtain ⟨D, d1, d2⟩ := hs.D
    refine ⟨by rw [e1]; exact hs.sn, by rw [e2]; exact hs.b, by rw [e3]; exact hs.t, by rw [e2, e3, e4]; exact hs.g, ⟨C, by rw [e5]; exact c1, fun k hk hC => ⟨e8 _ (c2 k hk hC).1, by rw [e2, e4]; exact (c2 k hk hC).2⟩⟩, ?_, ?_, ⟨D, by rw [e6]; exact d1, fun k hk hD => by rw [e7, e2]; exact d2 k hk hD⟩, by rw [e2]; exact hs.fr⟩
    · intro hm; rw [PS.most, e1, e5] at hm; rw [e2, e3]; exact hs.yes hm
    · intro hm; rw [PS.most, e1, e5] at hm; rw [e2]; exact hs.no hm
  have putN : ∀ j, lookL (S i).pr j ≠ none → lookL (putL (S i).pr (k : Int) (decide ((f k).p < (S i).b))) j ≠ none := by
    intro j hj
    rw [look_put]
    split
    · simp
    · exact hj
  by_cases hy : (f k).p < (S i).b
  · rw [if_pos hy]
    have gp : ∀ x, x < n → (f x).p ≤ (updN f k ⟨(S i).b, (f k).b, (f k).t⟩ x).p := by
      intro x hx
      by_cases e : x = k
      · subst e; rw [updN_same]; show (f x).p ≤ (S i).b; omega
      · rw [updN_ne _ _ e]; exact Int.le_refl _
    have vok : ∀ (txt' : Int → Option (List UInt8)), (∀ b t, txt b = some t → txt' b = some t) → ∀ x, x < n → -1 ≤ (updN f k ⟨(S i).b, (f k).b, (f k).t⟩ x).b ∧ (updN f k ⟨(S i).b, (f k).b, (f k).t⟩ x).b ≤ (updN f k ⟨(S i).b, (f k).b, (f k).t⟩ x).p ∧
        (0 ≤ (updN f k ⟨(S i).b, (f k).b, (f k).t⟩ x).b → txt' (updN f k ⟨(S i).b, (f k).b, (f k).t⟩ x).b = some (updN f k ⟨(S i).b, (f k).b, (f k).t⟩ x).t) ∧ ∀ b, acc x b → 0 ≤ b ∧ b ≤ (updN f k ⟨(S i).b, (f k).b, (f k).t⟩ x).b ∧ txt' b ≠ none := by
      intro txt' ht x hx
      have tn : ∀ b, txt b ≠ none → txt' b ≠ none := fun b hb => by
        cases e : txt b with
        | none => exact absurd e hb
        | some t => rw [ht b t e]; simp
      by_cases e : x = k
      · subst e; rw [updN_same]
        exact ⟨v1, by show (f x).b ≤ (S i).b; omega, fun hb => ht _ _ (v3 hb), fun b hb => ⟨(v4 b hb).1, (v4 b hb).2.1, tn b (v4 b hb).2.2⟩⟩
      · rw [updN_ne _ _ e]
        obtain ⟨x1, x2, x3, x4⟩ := h.v x hx
        exact ⟨x1, x2, fun hb => ht _ _ (x3 hb), fun b hb => ⟨(x4 b hb).1, (x4 b hb).2.1, tn b (x4 b hb).2.2⟩⟩
    have al : ∀ x b, x < n → acc x b → acc x b ∨ (f x).p ≤ b := fun x b _ h => .inl h
    -- nothing new is asked
    have plain : ∀ s', SideI n f txt acc i s' → ∃ txt', PX n (updN f k ⟨(S i).b, (f k).b, (f k).t⟩) (updN S i s') txt' acc ∧ More txt txt' acc acc := by
      intro s' hs'
      refine ⟨txt, ⟨vok txt (fun _ _ h => h), fun b t hb => ⟨(h.s b t hb).1, safe_grow (h.s b t hb).2 gp (fun _ _ h => h) al⟩, fun j hj => ?_⟩, fun _ _ h => h, fun _ _ h => h⟩
      by_cases e : j = i
      · subst e; rw [updN_same]; exact hs'.grow gp (fun _ _ h => h) (fun _ _ h => h) (fun _ _ h => h) al
      · rw [updN_ne _ _ e]; exact (h.p j hj).grow gp (fun _ _ h => h) (fun _ _ h => h) (fun _ _ h => h) al
    rw [decide_eq_true hy] at putN ⊢
    by_cases hc : (S i).has (k : Int) ∧ lookL (S i).pr (k : Int) = none
    · by_cases hm : (S i).most (S i).yes
      · rw [PS.promise, if_pos hc, if_neg (fun hh => hh.2 hm)]
        exact plain _ (note _ rfl rfl rfl rfl rfl rfl rfl putN)
      · -- the promise counts
        obtain ⟨C, c1, c2⟩ := hs.C
        obtain ⟨D, d1, d2⟩ := hs.D
        have hCk : C k = false := by
          cases e : C k with
          | false => rfl
          | true => exact absurd hc.2 (c2 k hk e).1
        obtain ⟨s', hs'⟩ : ∃ s', (S i).promise (k : Int) true (f k).b (f k).t = s' := ⟨_, rfl⟩
        have key : s'.n = (S i).n ∧ s'.b = (S i).b ∧ s'.yes = (S i).yes + 1 ∧ s'.done = (S i).done ∧ s'.ac = (S i).ac ∧ s'.pr = putL (S i).pr (k : Int) true ∧ goodT s'.t ∧ (S i).g ≤ s'.g ∧ (f k).b ≤ s'.g ∧ s'.g < (S i).b ∧ (0 ≤ s'.g → txt s'.g = some s'.t) := by
          rw [PS.promise, if_pos hc, if_pos ⟨rfl, hm⟩] at hs'
          by_cases hg : (S i).g < (f k).b
          · rw [if_pos hg] at hs'
            subst hs'
            have h0 : 0 ≤ (f k).b := by have := hs.g.1; omega
            exact ⟨rfl, rfl, rfl, rfl, rfl, rfl, (h.s _ _ (v3 h0)).1, by show (S i).g ≤ (f k).b; omega, by show (f k).b ≤ (f k).b; omega, by show (f k).b < (S i).b; omega, fun _ => v3 h0⟩
          · rw [if_neg hg] at hs'
            subst hs'
            exact ⟨rfl, rfl, rfl, rfl, rfl, rfl, hs.t, by show (S i).g ≤ (S i).g; omega, by show (f k).b ≤ (S i).g; omega, hs.g.2.1, hs.g.2.2⟩
        rw [hs']
        obtain ⟨k1, k2, k3, k4, k5, k6, k7, k8, k9, k10, k11⟩ := key
        have hCs : ∀ x, x < n → insB C k x = true → lookL s'.pr (x : Int) ≠ none ∧ s'.b ≤ (updN f k ⟨(S i).b, (f k).b, (f k).t⟩ x).p ∧ ∀ b', acc x b' → b' < s'.b → b' ≤ s'.g := by
          intro x hx hCx
          rw [insB] at hCx
          by_cases e : x = k
          · subst e
            refine ⟨by rw [k6, look_put, if_pos rfl]; simp, by rw [updN_same, k2]; exact Int.le_refl _, fun b' hb' _ => ?_⟩
            have := (v4 b' hb').2.1
            omega
          · rw [if_neg e] at hCx
            obtain ⟨e1, e2, e3⟩ := c2 x hx hCx
            refine ⟨by rw [k6]; exact putN _ e1, by rw [updN_ne _ _ e, k2]; exact e2, fun b' hb' hlt => ?_⟩
            rw [k2] at hlt
            have := e3 b' hb' hlt
            omega
        have hcnt : cnt n (insB C k) = s'.yes := by rw [cnt_ins C k hCk n hk, c1, k3]
        have hnone : txt (S i).b = none := hs.no hm
        by_cases hm' : s'.most s'.yes
        · -- there is a text now
          have ht : ∀ b t, txt b = some t → (fun b => if b = (S i).b then some s'.t else txt b) b = some t := by
            intro b t hb
            have : b ≠ (S i).b := fun e => by rw [e, hnone] at hb; cases hb
            show (if b = (S i).b then some s'.t else txt b) = some t
            rw [if_neg this]; exact hb
          refine ⟨fun b => if b = (S i).b then some s'.t else txt b, ⟨vok _ ht, fun b t hb => ?_, fun j hj => ?_⟩, ht, fun _ _ h => h⟩
          · by_cases e : b = (S i).b
            · have hb : (if b = (S i).b then some s'.t else txt b) = some t := hb
              rw [if_pos e] at hb
              obtain rfl := Option.some.inj hb
              refine ⟨k7, insB C k, s'.g, ?_, by omega, by have := hs.g.1; omega, fun hg => ht _ _ (k11 hg), fun x hx hQ => ?_⟩
              · have : s'.n < 2 * (s'.yes : Int) := hm'
                rw [k1, hs.sn, ← hcnt] at this
                omega
              · obtain ⟨_, e2, e3⟩ := hCs x hx hQ
                rw [k2] at e2 e3
                rw [e]; exact ⟨e2, e3⟩
            · have hb : (if b = (S i).b then some s'.t else txt b) = some t := hb
              rw [if_neg e] at hb
              exact ⟨(h.s b t hb).1, safe_grow (h.s b t hb).2 gp ht al⟩
          · by_cases e : j = i
            · subst e
              rw [updN_same]
              refine ⟨by rw [k1]; exact hs.sn, by rw [k2]; exact hs.b, k7, ⟨by have := hs.g.1; omega, by rw [k2]; exact k10, fun hg => ht _ _ (k11 hg)⟩, ⟨insB C k, hcnt, hCs⟩, fun _ => ?_, fun hh => absurd hm' hh, ⟨D, by rw [k4]; exact d1, by rw [k5, k2]; exact d2⟩, fun b hb hbi => ?_⟩
              · rw [k2]; exact if_pos rfl
              · rw [k2] at hb
                show (if b = (S j).b then some s'.t else txt b) = none
                rw [if_neg (by omega)]; exact hs.fr b hb hbi
            · rw [updN_ne _ _ e]
              refine (h.p j hj).grow gp ht (fun b hbj hb => ?_) (fun _ _ h => h) al
              show (if b = (S i).b then some s'.t else txt b) = none
              rw [if_neg (fun e2 => by have := hs.b.2; rw [e2] at hbj; omega)]
              exact hb
        · refine ⟨txt, ⟨vok txt (fun _ _ h => h), fun b t hb => ⟨(h.s b t hb).1, safe_grow (h.s b t hb).2 gp (fun _ _ h => h) al⟩, fun j hj => ?_⟩, fun _ _ h => h, fun _ _ h => h⟩
          by_cases e : j = i
          · subst e; rw [updN_same]
            refine ⟨by rw [k1]; exact hs.sn, by rw [k2]; exact hs.b, k7, ⟨by have := hs.g.1; omega, by rw [k2]; exact k10, k11⟩, ⟨insB C k, hcnt, hCs⟩, fun hh => absurd hh hm', fun _ => by rw [k2]; exact hnone, ⟨D, by rw [k4]; exact d1, by rw [k5, k2]; exact d2⟩, by rw [k2]; exact hs.fr⟩
          · rw [updN_ne _ _ e]; exact (h.p j hj).grow gp (fun _ _ h => h) (fun _ _ h => h) (fun _ _ h => h) al
    · rw [PS.promise, if_neg hc]
      exact plain _ hs
  · rw [if_neg hy]
    rw [decide_eq_false hy] at putN ⊢
    refine ⟨txt, ⟨h.v, h.s, fun j hj => ?_⟩, fun _ _ h => h, fun _ _ h => h⟩
    by_cases e : j = i
    · subst e; rw [updN_same, PS.promise]
      by_cases hc : (S j).has (k : Int) ∧ lookL (S j).pr (k : Int) = none
      · rw [if_pos hc, if_neg (by simp)]
        exact note _ rfl rfl rfl rfl rfl rfl rfl putN
      · rw [if_neg hc]; exact hs
    · rw [updN_ne _ _ e]; exact h.p j hj

/-- A side asks a voter to accept its text. -/
theorem PX.accept {n : Nat} {f : Nat → VS} {S : Nat → PS} {txt : Int → Option (List UInt8)} {acc : Nat → Int → Prop} (h : PX n f S txt acc) (i k : Nat) (hi : i < 4) (hk : k < n) (hm : (S i).most (S i).yes) :
    ∃ acc', PX n (if 0 ≤ (S i).b ∧ (f k).p ≤ (S i).b then updN f k ⟨(S i).b, (S i).b, (S i).t⟩ else f) (updN S i ((S i).accepted k (decide (0 ≤ (S i).b ∧ (f k).p ≤ (S i).b)))) txt acc' ∧ More txt txt acc acc' := by
  have hs := h.p i hi
  have htx := hs.yes hm
  obtain ⟨v1, v2, v3, v4⟩ := h.v k hk
  obtain ⟨D, d1, d2⟩ := hs.D
  by_cases hy : 0 ≤ (S i).b ∧ (f k).p ≤ (S i).b
  · rw [if_pos hy, decide_eq_true hy]
    have gp : ∀ x, x < n → (f x).p ≤ (updN f k ⟨(S i).b, (S i).b, (S i).t⟩ x).p := by
      intro x hx
      by_cases e : x = k
      · subst e; rw [updN_same]; exact hy.2
      · rw [updN_ne _ _ e]; exact Int.le_refl _
    have ha : ∀ x b, acc x b → (fun x b => acc x b ∨ (x = k ∧ b = (S i).b)) x b := fun x b h => .inl h
    have ha' : ∀ x b, x < n → (fun x b => acc x b ∨ (x = k ∧ b = (S i).b)) x b → acc x b ∨ (f x).p ≤ b := by
      rintro x b hx (h1 | ⟨rfl, rfl⟩)
      · exact .inl h1
      · exact .inr hy.2
    refine ⟨fun x b => acc x b ∨ (x = k ∧ b = (S i).b), ⟨fun x hx => ?_, fun b t hb => ⟨(h.s b t hb).1, safe_grow (h.s b t hb).2 gp (fun _ _ h => h) ha'⟩, fun j hj => ?_⟩, fun _ _ h => h, ha⟩
    · by_cases e : x = k
      · subst e; rw [updN_same]
        refine ⟨by show -1 ≤ (S i).b; omega, by show (S i).b ≤ (S i).b; omega, fun _ => htx, ?_⟩
        rintro b (hb | ⟨_, rfl⟩)
        · obtain ⟨a1, a2, a3⟩ := v4 b hb
          exact ⟨a1, by show b ≤ (S i).b; omega, a3⟩
        · exact ⟨hy.1, Int.le_refl _, by rw [htx]; simp⟩
      · rw [updN_ne _ _ e]
        obtain ⟨x1, x2, x3, x4⟩ := h.v x hx
        refine ⟨x1, x2, x3, ?_⟩
        rintro b (hb | ⟨rfl, _⟩)
        · exact x4 b hb
        · exact absurd rfl e
    · by_cases e : j = i
      · subst e; rw [updN_same]
        have hg := hs.grow gp (fun _ _ h => h) (fun _ _ h => h) ha ha'
        rw [PS.accepted]
        by_cases hc : (S j).most (S j).yes ∧ (S j).has (k : Int) ∧ lookL (S j).ac (k : Int) = none
        · rw [if_pos hc]
          have hDk : D k = false := by
            cases e : D k with
            | false => rfl
            | true => exact absurd hc.2.2 (d2 k hk e).1
          refine ⟨hg.sn, hg.b, hg.t, hg.g, hg.C, hg.yes, hg.no, ⟨insB D k, ?_, fun x hx hDx => ?_⟩, hg.fr⟩
          · show cnt n (insB D k) = (S j).done + (if true = true then 1 else 0)
            rw [cnt_ins D k hDk n hk, d1, if_pos rfl]
          · rw [insB] at hDx
            show lookL (putL (S j).ac (k : Int) true) (x : Int) ≠ none ∧ _
            rw [look_put]
            by_cases e : x = k
            · subst e
              rw [if_pos rfl]
              exact ⟨by simp, .inr ⟨rfl, rfl⟩⟩
            · rw [if_neg e] at hDx
              rw [if_neg (by omega)]
              exact ⟨(d2 x hx hDx).1, .inl (d2 x hx hDx).2⟩
        · rw [if_neg hc]; exact hg
      · rw [updN_ne _ _ e]; exact (h.p j hj).grow gp (fun _ _ h => h) (fun _ _ h => h) ha ha'
  · rw [if_neg hy, decide_eq_false hy]
    refine ⟨acc, ⟨h.v, h.s, fun j hj => ?_⟩, fun _ _ h => h, fun _ _ h => h⟩
    by_cases e : j = i
    · subst e; rw [updN_same, PS.accepted]
      by_cases hc : (S j).most (S j).yes ∧ (S j).has (k : Int) ∧ lookL (S j).ac (k : Int) = none
      · rw [if_pos hc]
        refine ⟨hs.sn, hs.b, hs.t, hs.g, hs.C, hs.yes, hs.no, ⟨D, ?_, fun x hx hDx => ⟨?_, (d2 x hx hDx).2⟩⟩, hs.fr⟩
        · show cnt n D = (S j).done + (if false = true then 1 else 0)
          rw [if_neg (by simp)]; exact d1
        · show lookL (putL (S j).ac (k : Int) false) (x : Int) ≠ none
          rw [look_put]
          split
          · simp
          · exact (d2 x hx hDx).1
      · rw [if_neg hc]; exact hs
    · rw [updN_ne _ _ e]; exact h.p j hj

/-- What a side has decided. -/
theorem PX.decided {n : Nat} {f : Nat → VS} {S : Nat → PS} {txt : Int → Option (List UInt8)} {acc : Nat → Int → Prop} (h : PX n f S txt acc) (hn : 1 ≤ n) (i : Nat) (hi : i < 4) (hd : (S i).most (S i).done) :
    DecAt n txt acc (S i).b (S i).t ∧ 0 ≤ (S i).b ∧ goodT (S i).t := by
  have hs := h.p i hi
  obtain ⟨D, d1, d2⟩ := hs.D
  have hd : (S i).n < 2 * ((S i).done : Int) := hd
  rw [hs.sn, ← d1] at hd
  obtain ⟨k, k1, k2, _⟩ := cnt_both D D n (by omega)
  have ht : txt (S i).b = some (S i).t := by
    by_cases hm : (S i).most (S i).yes
    · exact hs.yes hm
    · exact absurd (hs.no hm) ((h.v k k1).2.2.2 _ (d2 k k1 k2).2).2.2
  exact ⟨⟨ht, D, by omega, fun k hk hD => (d2 k hk hD).2⟩, hs.b.1, hs.t⟩
end Go.D
