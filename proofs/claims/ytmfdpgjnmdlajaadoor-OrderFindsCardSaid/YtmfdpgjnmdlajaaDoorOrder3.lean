/-
  WHAT IS PROVED: contracts of functions, and the plain law, for this proof. No further conditions.
-/
import Derived.Test.YtmfdpgjnmdlajaaDoorOrder2
import Derived.Test.YtmfdpgjnmdlajaaDoorInB
import Derived.Test.YtmfdpgjnmdlajaaDoorCopyM
set_option linter.unusedVariables false
set_option linter.unusedSimpArgs false
namespace Go.D
open Go Go.Proofs

theorem intsAt_take {w : World} {s : Slc} {l : List Int} (h : intsAt w s l) (k : Nat) (hk : k ≤ l.length) : intsAt w ⟨s.p, k, s.c⟩ (l.take k) := by
  refine ⟨by simp; omega, ?_⟩
  rcases h.2 with h0 | ⟨a, ha, hc⟩
  · left
    have : l = [] := by simpa using h0
    subst this; simp
  · right
    refine ⟨a, ha, fun i hi => ?_⟩
    have hi2 : i < k := by simp at hi; omega
    rw [hc i (by simp; omega)]
    simp

/-! ### the document's answer -/
def okL (L : List Ev) : List Int → List Int → Bool
  | _, [] => true
  | pre, n :: r => match idxE L n with | none => false | some e => rightB e && (!(decide (n ∈ pre)) && okL L (pre ++ [n]) r)
def pwL (L : List Ev) : List Int → Bool
  | [] => true
  | n :: r => match idxE L n with | none => false | some e => !(r.any (early L e)) && pwL L r
def stL (L : List Ev) : List Int → Tab → Bool
  | [], _ => true
  | n :: r, t => match idxE L n with | none => false | some e => (doB e t).1 && stL L r (doB e t).2
theorem chkL_eq (L : List Ev) : ∀ (r pre : List Int) (t : Tab), chkL L pre r t = (okL L pre r && (pwL L r && stL L r t))
  | [], pre, t => rfl
  | n :: r, pre, t => by
    rw [chkL, okL, pwL, stL]
    cases idxE L n with
    | none => rfl
    | some e =>
      simp only
      rw [chkL_eq L r]
      cases decide (n ∈ pre) <;> cases rightB e <;> cases r.any (early L e) <;> cases (doB e t).1 <;> cases okL L (pre ++ [n]) r <;> cases pwL L r <;> rfl
def standB (L : List Ev) (ord : List Int) : Bool := decide (ord.length = L.length) && (okL L [] ord && (pwL L ord && stL L ord []))
theorem check_stand (L : List Ev) (ord : List Int) : checkB L ord = standB L ord := by unfold checkB standB; rw [chkL_eq]

theorem okL_all {L : List Ev} : ∀ {r pre : List Int}, okL L pre r = true → ∀ n ∈ r, ∃ e, idxE L n = some e
  | [], _, _, n, hn => by simp at hn
  | m :: r, pre, h, n, hn => by
    rw [okL] at h
    cases hm : idxE L m with
    | none => rw [hm] at h; cases h
    | some e =>
      rw [hm] at h
      simp only [Bool.and_eq_true] at h
      rcases List.mem_cons.1 hn with rfl | hn
      · exact ⟨e, hm⟩
      · exact okL_all h.2.2 n hn
theorem okL_right {L : List Ev} : ∀ {r pre : List Int}, okL L pre r = true → ∀ {n : Int} {e : Ev}, n ∈ r → idxE L n = some e → rightB e = true
  | [], _, _, n, e, hn, _ => by simp at hn
  | m :: r, pre, h, n, e, hn, he => by
    rw [okL] at h
    cases hm : idxE L m with
    | none => rw [hm] at h; cases h
    | some e' =>
      rw [hm] at h
      simp only [Bool.and_eq_true] at h
      rcases List.mem_cons.1 hn with rfl | hn
      · rw [hm] at he; cases he; exact h.1
      · exact okL_right h.2.2 hn he
theorem idxE_in {L : List Ev} {n : Int} {e : Ev} (h : idxE L n = some e) : 0 ≤ n ∧ n < (L.length : Int) ∧ ∃ hl : n.toNat < L.length, L[n.toNat] = e := by
  unfold idxE at h
  split at h
  · rename_i hh
    have hl : n.toNat < L.length := by omega
    rw [List.getElem?_eq_getElem hl] at h
    exact ⟨hh.1, hh.2, hl, Option.some.inj h⟩
  · cases h

/-! ### the document's table: the pairs, in a slice -/
def PairR : RowD (List UInt8 × List UInt8) where
  n := 2
  pos := by omega
  R _ x cs := cs = [strV x.1, strV x.2]
  len h := by rw [h]; rfl
  one h := by rw [h]; intro v hv; simp at hv; rcases hv with rfl | rfl <;> rfl
  ext h _ _ := h
  lt h := by rw [h]; rintro k ⟨s, hs, _⟩; simp [Slc.v, strV] at hs
theorem foot_pair {a b : List UInt8} {k : Nat} : ¬ footV [strV a, strV b] k := by rintro ⟨s, hs, _⟩; simp [Slc.v, strV] at hs
def pairC (p : List UInt8 × List UInt8) : List Value := [strV p.1, strV p.2]
/-- The table t at slice s. -/
def TabAt (w : World) (s : Slc) (t : Tab) : Prop := Rows PairR w s t (t.map pairC)
theorem TabAt.mk {w : World} {s : Slc} {t : Tab} {css : List (List Value)} (h : Rows PairR w s t css) : TabAt w s t := by
  have e : css = t.map pairC := by
    refine List.ext_getElem (by rw [h.len]; simp) (fun i h1 h2 => ?_)
    have := h.row i h1 (by simpa using h2)
    rw [show css[i] = _ from this]
    simp [pairC]
  rw [e] at h
  exact h
theorem TabAt.ext {M : Nat → Prop} {w w' : World} {s : Slc} {t : Tab} (h : TabAt w s t) (he : Ext M w w') (hm : ∀ k, ownB s k → ¬ M k) : TabAt w' s t :=
  Rows.ext h he hm (fun k ⟨cs, hc, hk⟩ => by
    obtain ⟨p, _, rfl⟩ := List.mem_map.1 hc
    exact (foot_pair hk).elim)
theorem TabAt.keep {w w' : World} {s : Slc} {t : Tab} (h : TabAt w s t) (he : Keep w w') : TabAt w' s t := h.ext he (fun _ _ h => h)
theorem TabAt.get {w : World} {s : Slc} {t : Tab} (h : TabAt w s t) {i : Nat} (hi : i < t.length) : ∃ a, s.p = some a ∧ a.spot = none ∧ rowAt w (a.add (i * 2)) 0 [strV t[i].1, strV t[i].2] := by
  obtain ⟨a, ha, hsp, hr⟩ := Rows.get h (i := i) (by simpa using hi)
  have e : (t.map pairC)[i]'(by simpa using hi) = [strV t[i].1, strV t[i].2] := by simp [pairC]
  rw [e] at hr
  exact ⟨a, ha, hsp, hr⟩

/-- No key stands twice. -/
def Uniq (t : Tab) : Prop := (t.map (·.1)).Nodup
theorem look_none {t : Tab} {k : List UInt8} (h : ∀ j (hj : j < t.length), t[j].1 ≠ k) : lookL t k = none := by
  induction t with
  | nil => rfl
  | cons p t ih =>
    obtain ⟨k', v⟩ := p
    rw [lookL, if_neg (fun e => h 0 (by simp) (by simp [e]))]
    exact ih (fun j hj => by have := h (j + 1) (by simp; omega); simpa using this)
theorem look_at {t : Tab} {k : List UInt8} (hu : Uniq t) {j : Nat} (hj : j < t.length) (h : t[j].1 = k) :
    lookL t k = some t[j].2 ∧ (∀ v, putL t k v = t.set j (k, v)) ∧ delL t k = t.take j ++ t.drop (j + 1) := by
  induction t generalizing j with
  | nil => simp at hj
  | cons p t ih =>
    obtain ⟨k', v'⟩ := p
    cases j with
    | zero =>
      have : k' = k := by simpa using h
      subst this
      exact ⟨by simp [lookL], fun v => by simp [putL], by simp [delL]⟩
    | succ j =>
      have hu' : k' ∉ t.map (·.1) ∧ Uniq t := by unfold Uniq at hu ⊢; rw [List.map_cons, List.nodup_cons] at hu; exact hu
      have hj' : j < t.length := by simpa using hj
      have hne : k ≠ k' := by
        rintro rfl
        refine hu'.1 (List.mem_map.2 ⟨t[j], List.getElem_mem hj', by simpa using h⟩)
      obtain ⟨h1, h2, h3⟩ := ih hu'.2 hj' (by simpa using h)
      refine ⟨by rw [lookL, if_neg hne, h1]; simp, fun v => by rw [putL, if_neg hne, h2]; simp, by rw [delL, if_neg hne, h3]; simp⟩
theorem put_none {t : Tab} {k v : List UInt8} (h : ∀ j (hj : j < t.length), t[j].1 ≠ k) : putL t k v = t ++ [(k, v)] := by
  induction t with
  | nil => rfl
  | cons p t ih =>
    obtain ⟨k', v'⟩ := p
    rw [putL, if_neg (fun e => h 0 (by simp) (by simp [e])), ih (fun j hj => by have := h (j + 1) (by simp; omega); simpa using this)]
    rfl
theorem del_none {t : Tab} {k : List UInt8} (h : ∀ j (hj : j < t.length), t[j].1 ≠ k) : delL t k = t := by
  induction t with
  | nil => rfl
  | cons p t ih =>
    obtain ⟨k', v'⟩ := p
    rw [delL, if_neg (fun e => h 0 (by simp) (by simp [e])), ih (fun j hj => by have := h (j + 1) (by simp; omega); simpa using this)]
theorem mem_put {t : Tab} {k v : List UInt8} : ∀ x, x ∈ (putL t k v).map (·.1) ↔ x = k ∨ x ∈ t.map (·.1) := by
  induction t with
  | nil => intro x; simp [putL]
  | cons p t ih =>
    obtain ⟨k', v'⟩ := p
    intro x
    rw [putL]
    split
    · rename_i h; subst h; simp
    · simp only [List.map_cons, List.mem_cons, ih]
      constructor
      · rintro (h | h | h); exact .inr (.inl h); exact .inl h; exact .inr (.inr h)
      · rintro (h | h | h); exact .inr (.inl h); exact .inl h; exact .inr (.inr h)
theorem mem_del {t : Tab} {k : List UInt8} : ∀ x, x ∈ (delL t k).map (·.1) → x ∈ t.map (·.1) := by
  induction t with
  | nil => intro x h; simp [delL] at h
  | cons p t ih =>
    obtain ⟨k', v'⟩ := p
    intro x
    rw [delL]
    split
    · intro h; simp only [List.map_cons, List.mem_cons]; exact .inr h
    · simp only [List.map_cons, List.mem_cons]
      rintro (h | h)
      · exact .inl h
      · exact .inr (ih x h)
theorem Uniq.put {t : Tab} (h : Uniq t) (k v : List UInt8) : Uniq (putL t k v) := by
  unfold Uniq at *
  induction t with
  | nil => simp [putL]
  | cons p t ih =>
    obtain ⟨k', v'⟩ := p
    rw [List.map_cons, List.nodup_cons] at h
    rw [putL]
    split
    · rename_i hk; subst hk; rw [List.map_cons, List.nodup_cons]; exact h
    · rename_i hk
      rw [List.map_cons, List.nodup_cons]
      refine ⟨fun hm => ?_, ih h.2⟩
      rcases (mem_put _).1 hm with h1 | h1
      · exact hk h1.symm
      · exact h.1 h1
theorem Uniq.del {t : Tab} (h : Uniq t) (k : List UInt8) : Uniq (delL t k) := by
  unfold Uniq at *
  induction t with
  | nil => simp [delL]
  | cons p t ih =>
    obtain ⟨k', v'⟩ := p
    rw [List.map_cons, List.nodup_cons] at h
    rw [delL]
    split
    · exact h.2
    · rw [List.map_cons, List.nodup_cons]
      exact ⟨fun hm => h.1 (mem_del _ hm), ih h.2⟩
theorem Uniq.do {t : Tab} (h : Uniq t) (e : Ev) : Uniq (doB e t).2 := by
  unfold doB
  split
  · exact h.put _ _
  · split
    · exact h.del _
    · split
      · simp only
        split
        · exact h.put _ _
        · exact h
      · exact h
theorem put_len {t : Tab} {k v : List UInt8} : (putL t k v).length ≤ t.length + 1 := by rw [put_length]; split <;> omega
theorem del_len {t : Tab} {k : List UInt8} : (delL t k).length ≤ t.length := by
  induction t with
  | nil => simp [delL]
  | cons p t ih =>
    obtain ⟨k', v'⟩ := p
    rw [delL]
    split
    · simp
    · simp; exact ih
theorem do_len {t : Tab} (e : Ev) : (doB e t).2.length ≤ t.length + 1 := by
  unfold doB
  split
  · exact put_len
  · split
    · have := del_len (t := t) (k := e.key); simp only; omega
    · split
      · simp only
        split
        · exact put_len
        · omega
      · simp
end Go.D
