/-
  WHAT IS PROVED: contracts of functions, and the plain law, for this proof. No further conditions.
-/
import Derived.Test.YtecmadidakoppaaDoorPlan6
import Derived.Test.YtecmadidakoppaaDoorVCplan2
set_option linter.unusedVariables false
set_option linter.unusedSimpArgs false
namespace Go.D
open Go Go.Proofs

/-! ### chains that are the call's own -/
theorem Slc_mem {s t : Slc} (h : s.v ∈ [t.v]) : s = t := by
  simp at h
  exact Slc.v_inj h
def HdR : RowD Slc where
  n := 1
  pos := by omega
  R w x cs := cs = [x.v] ∧ ∀ k, ownB x k → k < w.heap.size
  len h := by rw [h.1]; rfl
  one h := by rw [h.1]; intro v hv; simp at hv; subst hv; rfl
  ext h he _ := ⟨h.1, fun k hk => Nat.lt_of_lt_of_le (h.2 k hk) he.size⟩
  lt h := by
    rintro k ⟨s, hs, _, hk⟩
    rw [h.1] at hs
    exact h.2 k (Slc_mem hs ▸ hk)
def hdC (t : Slc) : List Value := [t.v]
theorem foot_hd {ts : List Slc} {k : Nat} (h : footC (ts.map hdC) k) : ∃ t ∈ ts, ownB t k := by
  obtain ⟨cs, hc, s, hs, _, hk⟩ := h
  obtain ⟨t, ht, rfl⟩ := List.mem_map.1 hc
  exact ⟨t, ht, Slc_mem hs ▸ hk⟩
theorem HdR.eq {w : World} {s : Slc} {ts : List Slc} {css : List (List Value)} (h : Rows HdR w s ts css) : css = ts.map hdC := by
  refine List.ext_getElem (by rw [h.len]; simp) (fun i h1 h2 => ?_)
  have := (h.row i h1 (by simpa using h2)).1
  rw [this]; simp [hdC]
structure ChO (w : World) (s : Slc) (ts : List Slc) (cs : List (List Int)) : Prop where
  hd : Rows HdR w s ts (ts.map hdC)
  len : ts.length = cs.length
  ch : ∀ i (h : i < ts.length) (h' : i < cs.length), IntsAt w ts[i] cs[i]
  sep : ∀ t ∈ ts, ∀ k, ownB t k → ¬ ownB s k
  dis : ∀ i j (h : i < ts.length) (h' : j < ts.length), i ≠ j → ∀ k, ownB ts[i] k → ¬ ownB ts[j] k
/-- The blocks of chains. -/
def ChB (s : Slc) (ts : List Slc) (k : Nat) : Prop := ownB s k ∨ ∃ t ∈ ts, ownB t k
theorem IntsAt.cap' {w : World} {s : Slc} {l : List Int} (h : IntsAt w s l) : s.l ≤ s.c := Rows.cap h
section
variable {w w' : World} {s : Slc} {ts : List Slc} {cs : List (List Int)}
theorem ChO.ext {M : Nat → Prop} (h : ChO w s ts cs) (he : Ext M w w') (hm : ∀ k, ChB s ts k → ¬ M k) : ChO w' s ts cs :=
  ⟨h.hd.ext he (fun k hk => hm k (.inl hk)) (fun k hk => hm k (.inr (foot_hd hk))), h.len, fun i h1 h2 => (h.ch i h1 h2).ext he (fun k hk => hm k (.inr ⟨_, List.getElem_mem h1, hk⟩)), h.sep, h.dis⟩
theorem ChO.keep (h : ChO w s ts cs) (he : Keep w w') : ChO w' s ts cs := h.ext he (fun _ _ h => h)
theorem ChO.lt (h : ChO w s ts cs) : ∀ k, ChB s ts k → k < w.heap.size := by
  rintro k (hk | ⟨t, ht, hk⟩)
  · exact h.hd.lt k hk
  · obtain ⟨i, hi, rfl⟩ := List.getElem_of_mem ht
    exact (h.ch i hi (by rw [← h.len]; exact hi)).lt k hk
theorem ChO.get (h : ChO w s ts cs) {i : Nat} (hi : i < cs.length) : ∃ (a : Addr) (hi' : i < ts.length), s.p = some a ∧ w.cell? (a.add (i * 1)) = some (ts[i]).v ∧ IntsAt w ts[i] cs[i] := by
  have hi' : i < ts.length := by rw [h.len]; exact hi
  obtain ⟨a, ha, _, hr⟩ := h.hd.get (i := i) (by simpa using hi')
  rw [List.getElem_map] at hr
  have := rowAt_get hr 0 (by simp [hdC])
  have e : (a.add (i * HdR.n)).add (0 + 0) = a.add (i * 1) := by simp [Addr.add, HdR]
  rw [e] at this
  exact ⟨a, hi', ha, this, h.ch i hi' hi⟩
theorem ChO.sl (h : ChO w s ts cs) : s.l = cs.length := by rw [h.hd.sl, h.len]
theorem ChO.chs (h : ChO w s ts cs) : Chs w s cs := by
  refine ⟨h.sl, fun i hi => ?_⟩
  obtain ⟨a, hi', ha, hc, hI⟩ := h.get hi
  exact ⟨a, ts[i], ha, hc, hI.ints, hI.cap'⟩
theorem ChO.new {r : Nat} : ChO w ⟨none, 0, 0⟩ [] [] := ⟨Rows.nil _ _, rfl, fun i h => by simp at h, fun t h => by simp at h, fun i j h => by simp at h⟩
/-- A chain of one's own is appended. -/
theorem ChO.snoc {T E : TypeId} {f : Nat × Nat} {t : Slc} {c : List Int} {r : Nat} {K : Slc → World → Prop} (h : ChO w s ts cs) (hc : IntsAt w t c) (h1 : ∀ k, ownB t k → ¬ ChB s ts k) (hb : w.heap[r]? = some (.cells ⟨[t.v]⟩ T f)) (hcf : clear f 1) (hlen : cs.length < 2 ^ 30)
    (hK : ∀ s' w', ChO w' s' (ts ++ [t]) (cs ++ [c]) → Ext (ownB s) w w' → (∀ k, ownB s' k → ownB s k ∨ w.heap.size ≤ k) → K s' w') : appendS 1 E [(Slc.v (⟨none, 0, 0⟩ : Slc))] w s (.slc ⟨some ⟨r, 0, none⟩, 1, 1⟩) K := by
  refine h.hd.snoc (cs := hdC t) (x := t) (z := [(Slc.v (⟨none, 0, 0⟩ : Slc))]) rfl ⟨rfl, hc.lt⟩ (fun k hk => ?_) hb hcf (by rw [h.len]; exact hlen) (fun s' w' g1 g2 g3 => ?_)
  · obtain ⟨s2, hs, _, hk⟩ := hk
    exact fun hh => h1 k (Slc_mem hs ▸ hk) (.inl hh)
  · refine hK s' w' ⟨by simpa using g1, by simp [h.len], fun i hi hi' => ?_, fun t' ht' k hk hh => ?_, fun i j hi hj hne k hk hk2 => ?_⟩ g2 g3
    · by_cases hil : i < ts.length
      · rw [List.getElem_append_left hil, List.getElem_append_left (by rw [← h.len]; exact hil)]
        exact (h.ch i hil (by rw [← h.len]; exact hil)).ext g2 (fun k hk => h.sep _ (List.getElem_mem hil) k hk)
      · have hie : i = ts.length := by simp at hi; omega
        subst hie
        have hl := h.len
        rw [List.getElem_append_right (by omega), List.getElem_append_right (by omega)]
        simp only [hl, Nat.sub_self, List.getElem_cons_zero]
        exact hc.ext g2 (fun k hk hh => h1 k hk (.inl hh))
    · rcases g3 k hh with hs | hs
      · rcases List.mem_append.1 ht' with ht | ht
        · exact h.sep t' ht k hk hs
        · rw [List.mem_singleton] at ht; subst ht; exact h1 k hk (.inl hs)
      · rcases List.mem_append.1 ht' with ht | ht
        · have := h.lt k (.inr ⟨t', ht, hk⟩); omega
        · rw [List.mem_singleton] at ht; subst ht; have := hc.lt k hk; omega
    · have go : ∀ (i j : Nat) (hi : i < (ts ++ [t]).length) (hj : j < (ts ++ [t]).length), i < j → ownB (ts ++ [t])[i] k → ownB (ts ++ [t])[j] k → False := by
        intro i j hi hj hlt hk hk2
        have hil : i < ts.length := by simp at hj; omega
        rw [List.getElem_append_left hil] at hk
        by_cases hjl : j < ts.length
        · rw [List.getElem_append_left hjl] at hk2
          exact h.dis i j hil hjl (by omega) k hk hk2
        · have hje : j = ts.length := by simp at hj; omega
          subst hje
          rw [List.getElem_append_right (by omega)] at hk2
          simp only [Nat.sub_self, List.getElem_cons_zero] at hk2
          exact h1 k hk2 (.inr ⟨_, List.getElem_mem hil, hk⟩)
      rcases Nat.lt_or_ge i j with hlt | hge
      · exact go i j hi hj hlt hk hk2
      · exact go j i hj hi (by omega) hk2 hk
/-- Chain i has become another one, in its own blocks or in new ones; its slice is laid. -/
theorem ChO.put {w1 : World} {i : Nat} {t : Slc} {c : List Int} {a : Addr} (h : ChO w s ts cs) (hi : i < ts.length) (ha : s.p = some a) (he : Ext (ownB ts[i]) w w1) (hc : IntsAt w1 t c) (ht : ∀ k, ownB t k → ownB ts[i] k ∨ w.heap.size ≤ k) :
    canW w1 (Addr.add a (i * 1)) 1 ∧ ∀ w2, w2 = World.setCell w1 (Addr.add a (i * 1)) t.v → ChO w2 s (ts.set i t) (cs.set i c) ∧ Ext (ownB s) w1 w2 ∧ w2.heap.size = w1.heap.size := by
  have hd1 : Rows HdR w1 s ts (ts.map hdC) := by
    refine ⟨h.hd.own.ext he (fun k hk hh => h.sep _ (List.getElem_mem hi) k hh hk), h.hd.len, fun j h1 h2 => ?_, h.hd.sep⟩
    have := h.hd.row j h1 h2
    exact ⟨this.1, fun k hk => Nat.lt_of_lt_of_le (this.2 k hk) he.size⟩
  have hnt : ∀ k, ownB t k → ¬ ownB s k := fun k hk hh => (ht k hk).elim (fun h2 => h.sep _ (List.getElem_mem hi) k h2 hh) (fun h2 => by have := h.lt k (.inl hh); omega)
  have hi2 : i < (ts.map hdC).length := by simpa using hi
  have hcs : (ts.map hdC)[i].take 0 ++ [t.v] ++ (ts.map hdC)[i].drop (0 + [t.v].length) = hdC t := by rw [List.getElem_map]; rfl
  obtain ⟨g1, g2⟩ := hd1.set hi2 0 [t.v] (by simp [HdR]) t ha (fun w' hw' => by rw [hcs]; exact ⟨rfl, fun k hk => Nat.lt_of_lt_of_le (hc.lt k hk) hw'.size⟩) (fun k hk => by
    rw [hcs] at hk
    obtain ⟨s2, hs, _, hk⟩ := hk
    exact hnt k (Slc_mem hs ▸ hk))
  have e : (a.add (i * HdR.n)).add 0 = a.add (i * 1) := by simp [Addr.add, HdR]
  rw [e] at g1 g2
  refine ⟨g1, fun w2 hw2 => ?_⟩
  obtain ⟨g3, g4, g5⟩ := g2 w2 (by rw [hw2]; simp [setCells, Addr.add])
  refine ⟨⟨HdR.eq g3 ▸ g3, by simp [h.len], fun j h1 h2 => ?_, fun t' ht' k hk hh => ?_, fun j1 j2 h1 h2 hne k hk1 hk2 => ?_⟩, g4, g5⟩
  · by_cases hji : i = j
    · subst hji
      simp only [List.getElem_set_self]
      exact hc.ext g4 hnt
    · simp only [List.getElem_set_ne hji]
      have hjl : j < ts.length := by simpa using h1
      exact ((h.ch j hjl (by rw [← h.len]; exact hjl)).ext he (fun k hk hh => h.dis j i hjl hi (fun e => hji e.symm) k hk hh)).ext g4 (fun k hk => h.sep _ (List.getElem_mem hjl) k hk)
  · rcases List.mem_or_eq_of_mem_set ht' with h6 | rfl
    · exact h.sep t' h6 k hk hh
    · exact hnt k hk hh
  · have go : ∀ (j : Nat) (hj : j < ts.length), i ≠ j → ownB t k → ownB ts[j] k → False := fun j hj hne k1 k2 =>
      (ht k k1).elim (fun h7 => h.dis i j hi hj hne k h7 k2) (fun h7 => by have := h.lt k (.inr ⟨_, List.getElem_mem hj, k2⟩); omega)
    have h1' : j1 < ts.length := by simpa using h1
    have h2' : j2 < ts.length := by simpa using h2
    by_cases e1 : i = j1
    · subst e1
      simp only [List.getElem_set_self] at hk1
      simp only [List.getElem_set_ne hne] at hk2
      exact go j2 h2' hne hk1 hk2
    · simp only [List.getElem_set_ne e1] at hk1
      by_cases e2 : i = j2
      · subst e2
        simp only [List.getElem_set_self] at hk2
        exact go j1 h1' e1 hk2 hk1
      · simp only [List.getElem_set_ne e2] at hk2
        exact h.dis j1 j2 h1' h2' hne k hk1 hk2
end
end Go.D
