/-
  WHAT IS PROVED: contracts of functions, and the plain law, for this proof. No further conditions.
-/
import Derived.Test.YtmfdpgjnmdlajaaDoorOrder7
set_option linter.unusedVariables false
set_option linter.unusedSimpArgs false
namespace Go.D
open Go Go.Proofs

/-! ### the plain law of the search -/
def inI (n : Nat) (k : Int) : Prop := 0 ≤ k ∧ k < (n : Int)
theorem chk_mem {L : List Ev} : ∀ {r pre : List Int} {t : Tab}, chkL L pre r t = true → ∀ n ∈ r, inI L.length n ∧ n ∉ pre
  | [], _, _, _, n, hn => by simp at hn
  | m :: r, pre, t, h, n, hn => by
    rw [chkL] at h
    cases hm : idxE L m with
    | none => rw [hm] at h; cases h
    | some e =>
      rw [hm] at h
      simp only [Bool.and_eq_true] at h
      obtain ⟨h1, h2, h3, h4, h5⟩ := h
      rcases List.mem_cons.1 hn with rfl | hn
      · exact ⟨⟨(idxE_in hm).1, (idxE_in hm).2.1⟩, by simpa using h1⟩
      · have := chk_mem h5 n hn
        exact ⟨this.1, fun hh => this.2 (by simp [hh])⟩
theorem chk_nodup {L : List Ev} : ∀ {r pre : List Int} {t : Tab}, chkL L pre r t = true → r.Nodup
  | [], _, _, _ => by simp
  | m :: r, pre, t, h => by
    rw [chkL] at h
    cases hm : idxE L m with
    | none => rw [hm] at h; cases h
    | some e =>
      rw [hm] at h
      simp only [Bool.and_eq_true] at h
      obtain ⟨h1, h2, h3, h4, h5⟩ := h
      refine List.nodup_cons.2 ⟨fun hh => (chk_mem h5 m hh).2 (by simp), chk_nodup h5⟩
theorem idxE_nat {L : List Ev} {k : Nat} (h : k < L.length) : idxE L (k : Int) = some L[k] := by
  obtain ⟨h1, h2⟩ := idxE_some (L := L) (n := (k : Int)) (by omega) (by omega)
  rw [h2]
  simp
theorem goP_sound {L : List Ev} (hall : L.all rightB = true) : ∀ (m : Nat) (pre : List Int) (t : Tab) (o : List Int), goP L m pre t = some o → ∃ r, o = pre ++ r ∧ r.length = m ∧ chkL L pre r t = true
  | 0, pre, t, o, h => by
    cases h
    exact ⟨[], by simp, rfl, rfl⟩
  | m + 1, pre, t, o, h => by
    rw [goP] at h
    obtain ⟨k, hk, hf⟩ := List.exists_of_findSome?_eq_some h
    have hkl : k < L.length := List.mem_range.1 hk
    split at hf
    · rename_i hm
      rw [Bool.and_eq_true] at hm
      obtain ⟨r, rfl, hr, hc⟩ := goP_sound hall m _ _ o hf
      refine ⟨(k : Int) :: r, by simp, by simp [hr], ?_⟩
      have hmay := hm.1
      unfold mayB at hmay
      rw [Bool.and_eq_true] at hmay
      rw [chkL, idxE_nat hkl]
      rw [evN_eq hkl] at hm hc hmay
      simp only [Bool.and_eq_true]
      refine ⟨by simpa using hmay.1, List.all_eq_true.1 hall _ (List.getElem_mem hkl), ?_, hm.2, hc⟩
      rw [Bool.not_eq_true', List.any_eq_false]
      intro n hn
      obtain ⟨⟨h0, h1⟩, hnp⟩ := chk_mem hc n hn
      obtain ⟨h2, h3⟩ := idxE_some h0 h1
      rw [early_some h3]
      have := List.all_eq_true.1 hmay.2 n.toNat (List.mem_range.2 h2)
      rw [evN_eq h2, Int.toNat_of_nonneg h0] at this
      rw [Bool.or_eq_true] at this
      rcases this with this | this
      · exact absurd (of_decide_eq_true this) (fun hh => hnp (by simp [hh]))
      · simpa using this
    · cases hf
theorem goP_some {L : List Ev} (hall : L.all rightB = true) : ∀ (r pre : List Int) (t : Tab), chkL L pre r t = true → (∀ j : Nat, j < L.length → (j : Int) ∈ pre ∨ (j : Int) ∈ r) → (goP L r.length pre t).isSome = true
  | [], pre, t, _, _ => rfl
  | n :: r, pre, t, h, hc => by
    rw [chkL] at h
    cases hm : idxE L n with
    | none => rw [hm] at h; cases h
    | some e =>
      rw [hm] at h
      simp only [Bool.and_eq_true] at h
      obtain ⟨h1, h2, h3, h4, h5⟩ := h
      obtain ⟨h6, h7, h8, h9⟩ := idxE_in hm
      rw [List.length_cons, goP, List.findSome?_isSome_iff]
      refine ⟨n.toNat, List.mem_range.2 h8, ?_⟩
      rw [evN_eq h8, h9, Int.toNat_of_nonneg h6, h4]
      have hmay : mayB L pre n.toNat = true := by
        unfold mayB
        rw [Bool.and_eq_true, Int.toNat_of_nonneg h6]
        refine ⟨by simpa using h1, List.all_eq_true.2 (fun j hj => ?_)⟩
        have hjl : j < L.length := List.mem_range.1 hj
        rw [Bool.or_eq_true]
        rcases hc j hjl with hj2 | hj2
        · exact .inl (decide_eq_true hj2)
        · right
          rw [evN_eq hjl, evN_eq h8, h9]
          rcases List.mem_cons.1 hj2 with hj3 | hj3
          · have : j = n.toNat := by omega
            subst this
            rw [h9]
            unfold rightB at h2
            simp only [Bool.and_eq_true, decide_eq_true_eq] at h2
            simp; omega
          · have := List.any_eq_false.1 (by simpa using h3) _ hj3
            rw [early_some (idxE_nat hjl)] at this
            simpa using this
      rw [hmay]
      refine goP_some hall r _ _ h5 (fun j hj => ?_)
      rcases hc j hj with h | h
      · exact .inl (by simp [h])
      · rcases List.mem_cons.1 h with h | h
        · exact .inl (by simp [h])
        · exact .inr h
theorem chk_cover {L : List Ev} {o : List Int} {t : Tab} (h : chkL L [] o t = true) (hl : o.length = L.length) (j : Nat) (hj : j < L.length) : (j : Int) ∈ o := by
  refine Classical.byContradiction fun hn => ?_
  have hnd : ((j : Int) :: o).Nodup := List.nodup_cons.2 ⟨hn, chk_nodup h⟩
  have hsub : ((j : Int) :: o) ⊆ (List.range L.length).map (fun i : Nat => (i : Int)) := by
    intro x hx
    rw [List.mem_map]
    rcases List.mem_cons.1 hx with rfl | hx
    · exact ⟨j, List.mem_range.2 hj, rfl⟩
    · obtain ⟨q0, q1⟩ := (chk_mem h x hx).1
      exact ⟨x.toNat, List.mem_range.2 (by omega), by omega⟩
  have := List.Nodup.length_le_of_subset hnd hsub
  simp at this
  omega
/-- What Find hands back stands. -/
theorem findP_ok {L : List Ev} {o : List Int} (h : findP L = .ok o) : o.length = L.length ∧ checkB L o = true := by
  unfold findP at h
  split at h
  · cases h
  · split at h
    · cases h
    · rename_i hr
      have hall : L.all rightB = true := by simpa using hr
      cases hg : goP L L.length [] [] with
      | none => rw [hg] at h; cases h
      | some o' =>
        rw [hg] at h
        cases h
        obtain ⟨r, hr, hl, hc⟩ := goP_sound hall _ _ _ _ hg
        rw [List.nil_append] at hr
        subst hr
        exact ⟨hl, by unfold checkB; rw [decide_eq_true hl, hc]; rfl⟩
theorem findP_some {L : List Ev} {o : List Int} (hall : L.all rightB = true) (hl : L.length ≤ 12) (h : checkB L o = true) : ∃ o', findP L = .ok o' := by
  unfold checkB at h
  rw [Bool.and_eq_true, decide_eq_true_eq] at h
  have hs := goP_some hall o [] [] h.2 (fun j hj => .inr (chk_cover h.2 h.1 j hj))
  rw [h.1] at hs
  obtain ⟨o', ho⟩ := Option.isSome_iff_exists.1 hs
  exact ⟨o', by unfold findP; rw [if_neg (by omega), if_neg (by rw [hall]; simp), ho]⟩

/-! ### what is done one behind the other -/
def tabN (L : List Ev) (k : Nat) : Tab := (L.take k).foldl (fun t e => (doB e t).2) []
def SeenOk (L : List Ev) : Prop := ∀ k (h : k < L.length), L[k].en = k ∧ L[k].b ≤ k ∧ (1 ≤ L[k].kind ∧ L[k].kind ≤ 4) ∧ (doB L[k] (tabN L k)).1 = true
theorem tabN_snoc {L : List Ev} {e : Ev} {k : Nat} (h : k ≤ L.length) : tabN (L ++ [e]) k = tabN L k := by
  unfold tabN
  rw [List.take_append_of_le_length h]
theorem tabN_all {L : List Ev} {e : Ev} : tabN (L ++ [e]) (L.length + 1) = (doB e (tabN L L.length)).2 := by
  unfold tabN
  rw [show L.length + 1 = (L ++ [e]).length by simp, List.take_length, List.take_length, List.foldl_append]
  rfl
theorem tabN_succ {L : List Ev} {k : Nat} (h : k < L.length) : tabN L (k + 1) = (doB L[k] (tabN L k)).2 := by
  unfold tabN
  rw [take_succ_get h, List.foldl_append]
  rfl
theorem SeenOk.nil : SeenOk [] := fun k h => by simp at h
theorem SeenOk.snoc {L : List Ev} {e : Ev} (h : SeenOk L) (h1 : e.en = L.length) (h2 : e.b ≤ L.length) (h3 : 1 ≤ e.kind ∧ e.kind ≤ 4) (h4 : (doB e (tabN L L.length)).1 = true) : SeenOk (L ++ [e]) := by
  intro k hk
  by_cases hkl : k < L.length
  · rw [tabN_snoc (by omega)]
    have e1 : (L ++ [e])[k] = L[k] := List.getElem_append_left hkl
    rw [e1]
    exact h k hkl
  · have : k = L.length := by simp at hk; omega
    subst this
    rw [tabN_snoc (by omega)]
    have e1 : (L ++ [e])[L.length] = e := by simp
    rw [e1]
    exact ⟨h1, h2, h3, h4⟩
theorem SeenOk.right {L : List Ev} (h : SeenOk L) : L.all rightB = true := by
  rw [List.all_eq_true]
  intro e he
  obtain ⟨k, hk, rfl⟩ := List.getElem_of_mem he
  obtain ⟨h1, h2, h3, _⟩ := h k hk
  unfold rightB
  simp only [Bool.and_eq_true, decide_eq_true_eq]
  omega
def idsI (k m : Nat) : List Int := (List.range' k m).map (fun i : Nat => (i : Int))
theorem SeenOk.chk {L : List Ev} (h : SeenOk L) : ∀ (m k : Nat), k + m = L.length → chkL L (idsI 0 k) (idsI k m) (tabN L k) = true
  | 0, k, _ => rfl
  | m + 1, k, hk => by
    have hkl : k < L.length := by omega
    obtain ⟨h1, h2, h3, h4⟩ := h k hkl
    rw [show idsI k (m + 1) = (k : Int) :: idsI (k + 1) m by simp [idsI, List.range'_succ], chkL, idxE_nat hkl]
    simp only [Bool.and_eq_true]
    have e1 : idsI 0 k ++ [(k : Int)] = idsI 0 (k + 1) := by
      unfold idsI
      rw [List.range'_concat]
      simp
    refine ⟨?_, List.all_eq_true.1 h.right _ (List.getElem_mem hkl), ?_, h4, ?_⟩
    · simp [idsI]
      omega
    · rw [Bool.not_eq_true', List.any_eq_false]
      intro n hn
      unfold idsI at hn
      obtain ⟨j, hj, rfl⟩ := List.mem_map.1 hn
      rw [List.mem_range'_1] at hj
      have hjl : j < L.length := by omega
      rw [early_some (idxE_nat hjl)]
      have := (h j hjl).1
      simp; omega
    · rw [e1, ← tabN_succ hkl]
      exact SeenOk.chk h m (k + 1) (by omega)
theorem SeenOk.check {L : List Ev} (h : SeenOk L) : checkB L (idsI 0 L.length) = true := by
  unfold checkB
  rw [Bool.and_eq_true]
  exact ⟨by simp [idsI], h.chk L.length 0 (by omega)⟩
theorem SeenOk.take {L : List Ev} (h : SeenOk L) (n : Nat) : SeenOk (L.take n) := by
  intro k hk
  have hkl : k < L.length := by simp at hk; omega
  have hkn : k < n := by simp at hk; omega
  have e : tabN (L.take n) k = tabN L k := by
    unfold tabN
    rw [List.take_take, show min k n = k by omega]
  rw [e]
  simp only [List.getElem_take]
  exact h k hkl
theorem SeenOk.find {L : List Ev} (h : SeenOk L) (hl : L.length ≤ 12) : ∃ o, findP L = .ok o := findP_some h.right hl h.check
theorem SeenOk.most {L : List Ev} (h : SeenOk L) {m r : Nat} (hs : IsStart L m) (hr : r ≤ m) (hno : ∀ j, r < j → j ≤ m → fndB (L.take j) = false) : r = min L.length 12 := by
  have hm : m = min L.length 12 := by
    rcases hs.2.2.2 with h1 | ⟨h1, _, h2⟩
    · exact h1
    · have := List.all_eq_true.1 h.right _ (List.getElem_mem h1)
      rw [h2] at this
      cases this
  refine Classical.byContradiction fun hne => ?_
  have := hno m (by omega) (Nat.le_refl _)
  obtain ⟨o, ho⟩ := (h.take m).find (by simp; omega)
  unfold fndB at this
  rw [ho] at this
  cases this
end Go.D
