/-
  WHAT IS PROVED: contracts of functions, and the plain law, for this proof. No further conditions.
-/
import Derived.Test.YtmfdpgjnmdlajaaDoorOrder9
import Derived.Test.YtmfdpgjnmdlajaaDoorIntsB
set_option linter.unusedVariables false
set_option linter.unusedSimpArgs false
namespace Go.D
open Go Go.Proofs

/-! ### orders, by first numbers -/
def lexLt : List Int → List Int → Prop
  | a :: l, b :: m => a < b ∨ a = b ∧ lexLt l m
  | _, _ => False
theorem lexLt_irr : ∀ (l : List Int), ¬ lexLt l l
  | [], h => h
  | a :: l, h => by
    rcases h with h | ⟨_, h⟩
    · omega
    · exact lexLt_irr l h
theorem lexLt_total : ∀ (l m : List Int), l.length = m.length → lexLt l m ∨ l = m ∨ lexLt m l
  | [], [], _ => .inr (.inl rfl)
  | a :: l, b :: m, h => by
    by_cases h1 : a < b
    · exact .inl (.inl h1)
    · by_cases h2 : b < a
      · exact .inr (.inr (.inl h2))
      · have : a = b := by omega
        subst this
        rcases lexLt_total l m (by simpa using h) with h | h | h
        · exact .inl (.inr ⟨rfl, h⟩)
        · exact .inr (.inl (by rw [h]))
        · exact .inr (.inr (.inr ⟨rfl, h⟩))
  | [], _ :: _, h => by simp at h
  | _ :: _, [], h => by simp at h
theorem desc_max : ∀ {D E : List Int}, D.Pairwise (fun a b => b < a) → E.Perm D → ¬ lexLt D E
  | [], E, _, _, h => by cases E <;> exact h
  | d :: D, [], _, _, h => h
  | d :: D, e :: E, hd, hp, h => by
    have he : e ∈ d :: D := hp.mem_iff.1 (by simp)
    rw [List.pairwise_cons] at hd
    rcases h with h | ⟨rfl, h⟩
    · rcases List.mem_cons.1 he with rfl | he
      · omega
      · have := hd.1 e he; omega
    · exact desc_max hd.2 hp.cons_inv h
theorem asc_min : ∀ {D E : List Int}, D.Pairwise (fun a b => a < b) → E.Perm D → ¬ lexLt E D
  | [], E, _, _, h => by cases E <;> exact h
  | d :: D, [], _, _, h => h
  | d :: D, e :: E, hd, hp, h => by
    have he : e ∈ d :: D := hp.mem_iff.1 (by simp)
    rw [List.pairwise_cons] at hd
    rcases h with h | ⟨rfl, h⟩
    · rcases List.mem_cons.1 he with rfl | he
      · omega
      · have := hd.1 e he; omega
    · exact asc_min hd.2 hp.cons_inv h
/-- What stands behind an order next. -/
theorem next_lex {x y : Int} {D1 D2 : List Int} (hd : (D1 ++ y :: D2).Pairwise (fun a b => b < a)) (hxy : x < y) (h2 : ∀ z ∈ D2, z < x) : ∀ (A : List Int),
    (A ++ y :: (D1 ++ x :: D2).reverse).Perm (A ++ x :: (D1 ++ y :: D2)) ∧ lexLt (A ++ x :: (D1 ++ y :: D2)) (A ++ y :: (D1 ++ x :: D2).reverse) ∧
    ∀ q : List Int, q.Perm (A ++ x :: (D1 ++ y :: D2)) → lexLt (A ++ x :: (D1 ++ y :: D2)) q → ¬ lexLt q (A ++ y :: (D1 ++ x :: D2).reverse)
  | [] => by
    have hp0 : (y :: (D1 ++ x :: D2)).Perm (x :: (D1 ++ y :: D2)) := by
      have e1 : (y :: (D1 ++ x :: D2)).Perm (y :: x :: (D1 ++ D2)) := List.Perm.cons _ List.perm_middle
      have e2 : (x :: (D1 ++ y :: D2)).Perm (x :: y :: (D1 ++ D2)) := List.Perm.cons _ List.perm_middle
      exact (e1.trans (List.Perm.swap _ _ _)).trans e2.symm
    refine ⟨(List.Perm.cons _ (List.reverse_perm _)).trans hp0, .inl hxy, ?_⟩
    intro q hq h1 h3
    rw [List.nil_append] at hq h1 h3
    cases q with
    | nil => exact h1
    | cons z E =>
      have hpa := List.pairwise_append.1 hd
      have hpc := List.pairwise_cons.1 hpa.2.1
      have hz : z ∈ x :: (D1 ++ y :: D2) := hq.mem_iff.1 (by simp)
      rcases h1 with h1 | ⟨rfl, h1⟩
      · have hz2 : z ∈ D1 ∨ z = y ∨ z ∈ D2 := by
          rcases List.mem_cons.1 hz with rfl | hz
          · omega
          · rcases List.mem_append.1 hz with h | h
            · exact .inl h
            · exact .inr (List.mem_cons.1 h)
        rcases h3 with h3 | ⟨rfl, h3⟩
        · rcases hz2 with h | rfl | h
          · have := hpa.2.2 z h y (by simp); omega
          · omega
          · have := h2 z h; omega
        · have hE : E.Perm (D1 ++ x :: D2) := (hq.trans hp0.symm).cons_inv
          refine asc_min ?_ (hE.trans (List.reverse_perm _).symm) h3
          rw [List.pairwise_reverse]
          refine List.pairwise_append.2 ⟨hpa.1, List.pairwise_cons.2 ⟨fun a ha => h2 a ha, hpc.2⟩, fun a ha b hb => ?_⟩
          rcases List.mem_cons.1 hb with rfl | hb
          · have := hpa.2.2 a ha z (by simp); omega
          · exact hpa.2.2 a ha b (by simp [hb])
      · exact desc_max hd hq.cons_inv h1
  | a :: A => by
    obtain ⟨g1, g2, g3⟩ := next_lex hd hxy h2 A
    refine ⟨List.Perm.cons _ g1, .inr ⟨rfl, g2⟩, ?_⟩
    intro q hq h1 h3
    rw [List.cons_append] at hq h1
    cases q with
    | nil => exact h1
    | cons b q =>
      rw [List.cons_append] at h3
      rcases h1 with h1 | ⟨rfl, h1⟩
      · rcases h3 with h3 | ⟨h3, _⟩ <;> omega
      · rcases h3 with h3 | ⟨_, h3⟩
        · omega
        · exact g3 q hq.cons_inv h1 h3

/-! ### a number for an order -/
def lvI (n : Nat) : List Int → Nat
  | [] => 0
  | a :: l => a.toNat * n ^ l.length + lvI n l
theorem lvI_lt {n : Nat} : ∀ {l : List Int}, (∀ a ∈ l, inI n a) → lvI n l < n ^ l.length
  | [], _ => by simp [lvI]
  | a :: l, h => by
    have h1 := lvI_lt (n := n) (l := l) (fun b hb => h b (by simp [hb]))
    have h2 := h a (by simp)
    have h3 : a.toNat + 1 ≤ n := by obtain ⟨q1, q2⟩ := h2; omega
    have h4 : (a.toNat + 1) * n ^ l.length ≤ n * n ^ l.length := Nat.mul_le_mul_right _ h3
    rw [lvI, List.length_cons, Nat.pow_succ, Nat.mul_comm (n ^ l.length)]
    rw [Nat.add_mul, Nat.one_mul] at h4
    omega
theorem lvI_mono {n : Nat} : ∀ {l m : List Int}, (∀ a ∈ l, inI n a) → (∀ a ∈ m, inI n a) → l.length = m.length → lexLt l m → lvI n l < lvI n m
  | [], _, _, _, _, h => by cases h
  | _ :: _, [], _, _, _, h => by cases h
  | a :: l, b :: m, h1, h2, hl, h => by
    have hl' : l.length = m.length := by simpa using hl
    rw [lvI, lvI, hl']
    rcases h with h | ⟨rfl, h⟩
    · have h3 := lvI_lt (n := n) (l := l) (fun b hb => h1 b (by simp [hb]))
      rw [hl'] at h3
      obtain ⟨q1, q2⟩ := h1 a (by simp)
      have h4 : (a.toNat + 1) * n ^ m.length ≤ b.toNat * n ^ m.length := Nat.mul_le_mul_right _ (by omega)
      rw [Nat.add_mul, Nat.one_mul] at h4
      omega
    · have := lvI_mono (n := n) (fun c hc => h1 c (by simp [hc])) (fun c hc => h2 c (by simp [hc])) hl' h
      omega

/-! ### the least order that stands -/
theorem goP_least {L : List Ev} (hall : L.all rightB = true) : ∀ (r pre : List Int) (t : Tab) (o : List Int), goP L r.length pre t = some o → chkL L pre r t = true → (∀ j : Nat, j < L.length → (j : Int) ∈ pre ∨ (j : Int) ∈ r) → ∃ r', o = pre ++ r' ∧ ¬ lexLt r r'
  | [], pre, t, o, h, _, _ => by
    cases h
    exact ⟨[], by simp, fun h => h⟩
  | n :: r, pre, t, o, h, hc, hcov => by
    have hc0 := hc
    rw [chkL] at hc
    cases hm : idxE L n with
    | none => rw [hm] at hc; cases hc
    | some e =>
      rw [hm] at hc
      simp only [Bool.and_eq_true] at hc
      obtain ⟨h1, h2, h3, h4, h5⟩ := hc
      obtain ⟨h6, h7, h8, h9⟩ := idxE_in hm
      have hcov2 : ∀ j : Nat, j < L.length → (j : Int) ∈ pre ++ [n] ∨ (j : Int) ∈ r := by
        intro j hj
        rcases hcov j hj with h | h
        · exact .inl (by simp [h])
        · rcases List.mem_cons.1 h with h | h
          · exact .inl (by simp [h])
          · exact .inr h
      have hs := goP_some hall r _ _ h5 hcov2
      have hmay : mayB L pre n.toNat = true := by
        unfold mayB
        rw [Bool.and_eq_true, Int.toNat_of_nonneg h6]
        refine ⟨by simpa using h1, List.all_eq_true.2 (fun j hj => ?_)⟩
        have hjl : j < L.length := List.mem_range.1 hj
        rw [Bool.or_eq_true]
        rcases hcov j hjl with hj2 | hj2
        · exact .inl (decide_eq_true hj2)
        · right
          rw [evN_eq hjl, evN_eq h8, h9]
          rcases List.mem_cons.1 hj2 with hj3 | hj3
          · have : j = n.toNat := by omega
            subst this
            rw [h9]
            unfold rightB at h2
            simp only [Bool.and_eq_true, decide_eq_true_eq] at h2
            simp; omega
          · have := List.any_eq_false.1 (by simpa using h3) _ hj3
            rw [early_some (idxE_nat hjl)] at this
            simpa using this
      rw [List.length_cons, goP, List.findSome?_eq_some_iff] at h
      obtain ⟨l1, a, l2, hr, hf, hno⟩ := h
      have hpw := List.pairwise_append.1 (hr ▸ List.pairwise_lt_range (n := L.length))
      have hpc := List.pairwise_cons.1 hpw.2.1
      have han : a ≤ n.toNat := by
        refine Classical.byContradiction fun hlt => ?_
        have hmem : n.toNat ∈ l1 ++ a :: l2 := hr ▸ List.mem_range.2 h8
        have hm1 : n.toNat ∈ l1 := by
          rcases List.mem_append.1 hmem with h | h
          · exact h
          · rcases List.mem_cons.1 h with h | h
            · omega
            · have := hpc.1 _ h; omega
        have := hno _ hm1
        rw [evN_eq h8, h9, Int.toNat_of_nonneg h6, h4, hmay] at this
        simp only [Bool.and_self, if_true] at this
        rw [this] at hs
        cases hs
      split at hf
      · obtain ⟨r', hr1, hr2, _⟩ := goP_sound hall _ _ _ _ hf
        refine ⟨(a : Int) :: r', by rw [hr1]; simp, ?_⟩
        rintro (hlt | ⟨heq, hlt⟩)
        · omega
        · have ha : a = n.toNat := by omega
          subst ha
          rw [evN_eq h8, h9, Int.toNat_of_nonneg h6] at hf
          obtain ⟨r2, hr3, hr4⟩ := goP_least hall r _ _ _ hf h5 hcov2
          rw [Int.toNat_of_nonneg h6] at hr1
          have : r2 = r' := List.append_cancel_left (hr3.symm.trans hr1)
          subst this
          exact hr4 hlt
      · cases hf
theorem check_perm {L : List Ev} {q : List Int} (h : checkB L q = true) : q.Perm (idsI 0 L.length) := by
  unfold checkB at h
  rw [Bool.and_eq_true, decide_eq_true_eq] at h
  refine (List.perm_ext_iff_of_nodup (chk_nodup h.2) ?_).2 (fun x => ?_)
  · unfold idsI
    refine List.Pairwise.map _ (fun a b (h : a ≠ b) => ?_) (List.nodup_range' (s := 0) (n := L.length) (step := 1))
    intro hh; exact h (by omega)
  · unfold idsI
    rw [List.mem_map]
    constructor
    · intro hx
      obtain ⟨q0, q1⟩ := (chk_mem h.2 x hx).1
      exact ⟨x.toNat, by rw [List.mem_range'_1]; omega, by omega⟩
    · rintro ⟨j, hj, rfl⟩
      rw [List.mem_range'_1] at hj
      exact chk_cover h.2 h.1 j (by omega)
theorem findP_least {L : List Ev} {o q : List Int} (h : findP L = .ok o) (hq : checkB L q = true) : ¬ lexLt q o := by
  unfold findP at h
  split at h
  · cases h
  · split at h
    · cases h
    · rename_i hr
      have hall : L.all rightB = true := by simpa using hr
      cases hg : goP L L.length [] [] with
      | none => rw [hg] at h; cases h
      | some o' =>
        rw [hg] at h
        cases h
        unfold checkB at hq
        rw [Bool.and_eq_true, decide_eq_true_eq] at hq
        rw [← hq.1] at hg
        obtain ⟨r', hr, hl⟩ := goP_least hall q [] [] _ hg hq.2 (fun j hj => .inr (chk_cover hq.2 hq.1 j hj))
        rw [List.nil_append] at hr
        subst hr
        exact hl
end Go.D
