/-
  WHAT IS PROVED: contracts of functions, and the plain law, for this proof. No further conditions.
-/
import Derived.Test.YtecmadidakoppaaDoorPlan1
set_option linter.unusedVariables false
set_option linter.unusedSimpArgs false
namespace Go.D
open Go Go.Proofs

/-! ### chains -/
def Chs (w : World) (s : Slc) (cs : List (List Int)) : Prop :=
  s.l = cs.length ∧ ∀ i (h : i < cs.length), ∃ (a : Addr) (sl : Slc), s.p = some a ∧ World.cell? w (Addr.add a (i * 1)) = some (Slc.v sl) ∧ intsAt w sl cs[i] ∧ sl.l ≤ sl.c
theorem Chs.keep {w w' : World} {s : Slc} {cs : List (List Int)} (h : Chs w s cs) (k : Keep w w') : Chs w' s cs :=
  ⟨h.1, fun i hi => let ⟨a, sl, h1, h2, h3, h4⟩ := h.2 i hi; ⟨a, sl, h1, k.cell h2, intsAt_keep h3 k, h4⟩⟩
theorem Chs.of {w : World} {s : Slc} {xs : List (Slc × List Int)} (h : rowsR Rd.ints w s xs) : Chs w s (xs.map (·.2)) := by
  refine ⟨by rw [h.1, List.length_map], fun i hi => ?_⟩
  have hi2 : i < xs.length := by simpa using hi
  obtain ⟨a, cs, ha, hc, hrow⟩ := h.2.2.2 i hi2
  obtain ⟨rfl, h1, h2, h3, h4⟩ := hc
  refine ⟨a, xs[i].1, ha, ?_, by rw [List.getElem_map]; exact h1, h3⟩
  have := hrow.1
  have e : (a.add (i * Rd.ints.n)).add 0 = a.add (i * 1) := by simp [Addr.add, Rd.ints]
  rw [e] at this
  exact this

theorem chainRight_1_spec (u : Int) (w : World) : Calls Tryd.prog fn_plan_chainRight_1 ⟨[.int .i64 u]⟩ w fun e w' => e = .returned (.bool (decide (u < 0 ∨ 12 ≤ u))) ∧ w' = w := by
  refine plan_chainRight_1_ok _ ?_
  unfold plan_chainRight_1
  refine BIf_dec (fun h => ⟨by rw [decide_eq_true (.inl h)], rfl⟩) (fun h => ⟨?_, rfl⟩)
  by_cases h2 : (12 : Int) ≤ u
  · rw [decide_eq_true h2, decide_eq_true (.inr h2)]
  · rw [decide_eq_false h2, decide_eq_false (by omega)]
def unitsOk (c : List Int) : Prop := ∀ u ∈ c, 0 ≤ u ∧ u < 12
theorem ContainsFunc_chain_spec (s : Slc) (c : List Int) (w : World) (h : intsAt w s c) (hl : c.length ≤ 2 ^ 40) :
    Calls Tryd.prog fn_slices_ContainsFunc_int ⟨[s.v, .func (.func fn_plan_chainRight_1) ⟨[]⟩ ⟨[]⟩]⟩ w fun e w' => ∃ b, e = .returned (.bool b) ∧ (b = false ↔ unitsOk c) ∧ w' = w := by
  have hsl := h.1
  have hi : Calls Tryd.prog fn_slices_IndexFunc_int ⟨[s.v, .func (.func fn_plan_chainRight_1) ⟨[]⟩ ⟨[]⟩]⟩ w fun e w' => ∃ i : Int, e = .returned (.int .i64 i) ∧ (i < 0 ↔ unitsOk c) ∧ w' = w := by
    refine slices_IndexFunc_int_plan_chainRight_1_ok _ ?_
    unfold slices_IndexFunc_int_plan_chainRight_1
    refine ⟨fun i w2 => w2 = w ∧ ∃ k : Nat, i = k ∧ k ≤ c.length ∧ unitsOk (c.take k), fun i _ => ((c.length : Int) - i).toNat, ⟨rfl, 0, rfl, by omega, by intro u hu; simp at hu⟩, ?_⟩
    rintro i w2 ⟨rfl, k, rfl, hk, hno⟩
    intros
    refine BIf_dec (fun h1 => ?_) (fun h1 => ?_)
    · have hkl : k < c.length := by omega
      obtain ⟨a, ha, hc⟩ := intsAt_cell h hkl
      refine needSome_mk ha ⟨by omega, h1, c[k], by rw [show Int.toNat (k : Int) * 1 = k by omega]; exact hc, ?_⟩
      refine (chainRight_1_spec c[k] w2).mono ?_
      rintro e w21 ⟨rfl, rfl⟩
      refine ⟨_, rfl, BIf_dec (fun h2 => ⟨_, rfl, ⟨fun hh => by omega, fun hh => by have := hh _ (List.getElem_mem hkl); omega⟩, rfl⟩) (fun h2 => ?_)⟩
      refine ⟨inR64 (by omega), ⟨rfl, k + 1, rfl, hkl, fun u hu => ?_⟩, by dsimp only; omega⟩
      have e5 : c.take (k + 1) = c.take k ++ [c[k]] := by rw [List.take_add_one, List.getElem?_eq_getElem hkl]; rfl
      rw [e5, List.mem_append, List.mem_singleton] at hu
      rcases hu with h6 | rfl
      · exact hno u h6
      · omega
    · rw [List.take_of_length_le (by omega)] at hno
      exact ⟨_, rfl, ⟨fun _ => hno, fun _ => by decide⟩, rfl⟩
  refine slices_ContainsFunc_int_plan_chainRight_1_ok _ ?_
  unfold slices_ContainsFunc_int_plan_chainRight_1
  refine hi.mono ?_
  rintro e w' ⟨i, rfl, hv, rfl⟩
  refine ⟨i, rfl, _, rfl, ⟨fun hh => hv.1 (by simpa using hh), fun hh => by have := hv.2 hh; simp; omega⟩, rfl⟩

def chainOk (c : List Int) : Prop := 1 ≤ c.length ∧ c.length ≤ 3 ∧ unitsOk c
theorem chainRight_spec (s : Slc) (c : List Int) (w : World) (h : intsAt w s c) :
    Calls Tryd.prog fn_plan_chainRight ⟨[s.v]⟩ w fun e w' => ∃ b, e = .returned (.bool b) ∧ (b = true ↔ chainOk c) ∧ w' = w := by
  have hsl := h.1
  refine plan_chainRight_ok _ ?_
  unfold plan_chainRight
  refine BIf_dec (fun h1 => BIf_dec (fun h2 => ?_) (fun h2 => ⟨_, rfl, ⟨fun hh => (by cases hh), fun hh => by have := hh.2.1; omega⟩, rfl⟩)) (fun h1 => ⟨_, rfl, ⟨fun hh => (by cases hh), fun hh => by have := hh.1; omega⟩, rfl⟩)
  refine (ContainsFunc_chain_spec s c w h (by omega)).mono ?_
  rintro e w' ⟨b, rfl, hb, rfl⟩
  refine ⟨b, rfl, _, rfl, ⟨fun hh => ⟨by omega, by omega, hb.1 (by simpa using hh)⟩, fun hh => by rw [hb.2 hh.2.2]; rfl⟩, rfl⟩

theorem ContainsFunc_chains_spec (s : Slc) (cs : List (List Int)) (w : World) (h : Chs w s cs) (hl : cs.length ≤ 2 ^ 40) :
    Calls Tryd.prog fn_slices_ContainsFunc_Sint ⟨[s.v, .func (.func fn_plan_Right_1) ⟨[]⟩ ⟨[]⟩]⟩ w fun e w' => ∃ b, e = .returned (.bool b) ∧ (b = false ↔ ∀ c ∈ cs, chainOk c) ∧ w' = w := by
  have hsl := h.1
  have hi : Calls Tryd.prog fn_slices_IndexFunc_Sint ⟨[s.v, .func (.func fn_plan_Right_1) ⟨[]⟩ ⟨[]⟩]⟩ w fun e w' => ∃ i : Int, e = .returned (.int .i64 i) ∧ (i < 0 ↔ ∀ c ∈ cs, chainOk c) ∧ w' = w := by
    refine slices_IndexFunc_Sint_plan_Right_1_ok _ ?_
    unfold slices_IndexFunc_Sint_plan_Right_1
    refine ⟨fun i w2 => w2 = w ∧ ∃ k : Nat, i = k ∧ k ≤ cs.length ∧ ∀ c ∈ cs.take k, chainOk c, fun i _ => ((cs.length : Int) - i).toNat, ⟨rfl, 0, rfl, by omega, by intro u hu; simp at hu⟩, ?_⟩
    rintro i w2 ⟨rfl, k, rfl, hk, hno⟩
    intros
    refine BIf_dec (fun h1 => ?_) (fun h1 => ?_)
    · have hkl : k < cs.length := by omega
      obtain ⟨a, sl, ha, hc, hint, _⟩ := h.2 k hkl
      refine needSome_mk ha ⟨by omega, h1, sl, by rw [show Int.toNat (k : Int) * 1 = k * 1 by omega]; exact hc, ?_⟩
      have hr1 : Calls Tryd.prog fn_plan_Right_1 ⟨[sl.v]⟩ w2 fun e w' => ∃ b, e = .returned (.bool b) ∧ (b = false ↔ chainOk cs[k]) ∧ w' = w2 := by
        refine plan_Right_1_ok _ ?_
        unfold plan_Right_1
        refine (chainRight_spec sl cs[k] w2 hint).mono ?_
        rintro e w3 ⟨b, rfl, hb, rfl⟩
        exact ⟨b, rfl, _, rfl, ⟨fun hh => hb.1 (by simpa using hh), fun hh => by rw [hb.2 hh]; rfl⟩, rfl⟩
      refine hr1.mono ?_
      rintro e w21 ⟨b, rfl, hb, rfl⟩
      refine ⟨b, rfl, BIf_mk (fun h2 => ⟨_, rfl, ⟨fun hh => by omega, fun hh => by have := hb.2 (hh _ (List.getElem_mem hkl)); rw [h2] at this; cases this⟩, rfl⟩) (fun h2 => ?_)⟩
      refine ⟨inR64 (by omega), ⟨rfl, k + 1, rfl, hkl, fun u hu => ?_⟩, by dsimp only; omega⟩
      have e5 : cs.take (k + 1) = cs.take k ++ [cs[k]] := by rw [List.take_add_one, List.getElem?_eq_getElem hkl]; rfl
      rw [e5, List.mem_append, List.mem_singleton] at hu
      rcases hu with h6 | rfl
      · exact hno u h6
      · exact hb.1 h2
    · rw [List.take_of_length_le (by omega)] at hno
      exact ⟨_, rfl, ⟨fun _ => hno, fun _ => by decide⟩, rfl⟩
  refine slices_ContainsFunc_Sint_plan_Right_1_ok _ ?_
  unfold slices_ContainsFunc_Sint_plan_Right_1
  refine hi.mono ?_
  rintro e w' ⟨i, rfl, hv, rfl⟩
  refine ⟨i, rfl, _, rfl, ⟨fun hh => hv.1 (by simpa using hh), fun hh => by have := hv.2 hh; simp; omega⟩, rfl⟩

/-! ### one slice of all -/
theorem sub00 (c : Nat) : Slc.sub (⟨none, 0, 0⟩ : Slc) 1 0 c c = ⟨none, c, c⟩ := by
  unfold Slc.sub; split <;> simp
theorem Grow_spec (n : Nat) (hn : n ≤ 1000) (w : World) :
    Calls Tryd.prog fn_slices_Grow_int ⟨[Slc.v ⟨none, 0, 0⟩, .int .i64 (n : Int)]⟩ w fun e w' => ∃ t : Slc, e = .returned t.v ∧ IntsAt w' t [] ∧ Keep w w' ∧ ∀ k, ownB t k → w.heap.size ≤ k := by
  refine slices_Grow_int_ok _ _ ?_
  unfold slices_Grow_int
  refine ⟨fun w2 => w2 = w, BIf_dec (fun h => by omega) (fun _ => rfl), ?_⟩
  rintro w4 rfl
  intros
  dsimp only
  refine ⟨inR64 (by omega), inR64 (by omega), BIf_dec (fun h => ?_) (fun h => ⟨_, rfl, IntsAt.nil _, Ext.refl _ _, by rintro k ⟨a, ha, _⟩; cases ha⟩)⟩
  refine ⟨by omega, by omega, by omega, by omega, ?_⟩
  rw [sub00]
  have en : Int.toNat ((n : Int) - (((0 : Nat) : Int) - ((0 : Nat) : Int))) = n := by omega
  refine ⟨by omega, by simp only [en]; omega, [], rfl, .inl rfl, fun _ a ha => (by cases ha), fun s9 w10 hA => ?_⟩
  rw [en] at hA
  rcases hA with ⟨hf, _⟩ | ⟨hg, cap, hc, rfl, rfl⟩
  · simp only at hf; omega
  simp only [Nat.zero_add] at hc ⊢
  have hb : (w4.drew.alloc (.cells ⟨[] ++ repl n [.int .i64 0] ++ repl (cap - n) [.int .i64 0]⟩ 3)).heap[w4.heap.size]? = some (.cells ⟨repl n [.int .i64 0] ++ repl (cap - n) [.int .i64 0]⟩ 3) := heap_new w4.drew _
  refine ⟨by omega, by omega, by omega, by omega, ?_⟩
  have e1 : Slc.sub (⟨some ⟨w4.heap.size, 0, none⟩, n, cap⟩ : Slc) 1 0 0 cap = ⟨some ⟨w4.heap.size, 0, none⟩, 0, cap⟩ := by
    unfold Slc.sub; split <;> simp [Addr.add]
  rw [e1]
  refine ⟨_, rfl, ⟨⟨rfl, .inr ⟨_, repl n [.int .i64 0] ++ repl (cap - n) [.int .i64 0], 3, (0, 0), rfl, hb, ?_, clear0 _⟩⟩, rfl, fun i h => by simp at h, fun k hk => (footC_int (l := []) hk).elim⟩, (Ext.drew none0 w4).trans (Ext.alloc _ _ _) (fun _ h => h) (fun _ h => .inl h), by rintro k ⟨a, ha, rfl⟩; cases ha; exact Nat.le_refl _⟩
  simp [repl_length, IntR]; omega
theorem IntsAt.app {E : TypeId} {z : List Value} {w : World} {s sl : Slc} {l c : List Int} {K : Slc → World → Prop} (h : IntsAt w s l) (hz : z.length = 1) (hc : intsAt w sl c) (hlen : l.length + c.length ≤ 2 ^ 30)
    (hK : ∀ s' w', IntsAt w' s' (l ++ c) → Ext (ownB s) w w' → (∀ k, ownB s' k → ownB s k ∨ w.heap.size ≤ k) → K s' w') : appendS 1 E z w s (.slc sl) K := by
  have hsl := h.sl
  have hcl := hc.1
  have ho := h.own
  rw [flat_int] at ho
  have hone : ∀ v ∈ c.map (fun x => Value.int .i64 x), v.oneCell' = true := by
    intro v hv
    obtain ⟨x, _, rfl⟩ := List.mem_map.1 hv
    rfl
  refine appendS_own ho (by decide) hz (srcAt_slc hc.2 (by simp [hcl])) hone (by simp only [Src.n]; omega) (fun s' w' q1 q2 q3 q4 => hK s' w' ⟨?_, by simp, fun i hi hi' => by rw [List.getElem_map]; rfl, fun k hk => (footC_int hk).elim⟩ q2 q3)
  rw [flat_int, List.map_append]
  exact q1
def total (cs : List (List Int)) : Nat := cs.flatten.length
theorem total_take (cs : List (List Int)) (k : Nat) (hk : k < cs.length) : (cs.take (k + 1)).flatten = (cs.take k).flatten ++ cs[k] := by
  have e5 : cs.take (k + 1) = cs.take k ++ [cs[k]] := by rw [List.take_add_one, List.getElem?_eq_getElem hk]; rfl
  rw [e5, List.flatten_append]; simp
theorem total_le (cs : List (List Int)) (k : Nat) : (cs.take k).flatten.length ≤ cs.flatten.length := by
  conv => rhs; rw [← List.take_append_drop k cs]
  rw [List.flatten_append, List.length_append]; omega
theorem Concat_spec (s : Slc) (cs : List (List Int)) (w : World) (h : Chs w s cs) (hl : cs.flatten.length ≤ 1000) (hcl : cs.length ≤ 2 ^ 40) :
    Calls Tryd.prog fn_slices_Concat_int ⟨[s.v]⟩ w fun e w' => ∃ t : Slc, e = .returned t.v ∧ IntsAt w' t cs.flatten ∧ Keep w w' ∧ ∀ k, ownB t k → w.heap.size ≤ k := by
  have hsl := h.1
  refine slices_Concat_int_ok _ ?_
  unfold slices_Concat_int
  refine ⟨fun n i w2 => w2 = w ∧ ∃ k : Nat, i = k ∧ k ≤ cs.length ∧ n = ((cs.take k).flatten.length : Nat), fun _ i _ => ((cs.length : Int) - i).toNat, ⟨rfl, 0, rfl, by omega, by simp⟩, ?_⟩
  rintro n i w6 ⟨rfl, k, rfl, hk, rfl⟩
  intros
  refine BIf_dec (fun h1 => ?_) (fun h1 => ?_)
  · have hkl : k < cs.length := by omega
    obtain ⟨a, sl, ha, hc, hint, _⟩ := h.2 k hkl
    have hil := hint.1
    have h3 := total_take cs k hkl
    have h4 := total_le cs (k + 1)
    rw [h3, List.length_append] at h4
    refine needSome_mk ha ⟨by omega, h1, sl, by rw [show Int.toNat (k : Int) * 1 = k * 1 by omega]; exact hc, inR64 (by omega), BIf_dec (fun h2 => by omega) (fun _ => ⟨inR64 (by omega), ⟨rfl, k + 1, rfl, hkl, ?_⟩, by dsimp only; omega⟩)⟩
    rw [h3, List.length_append]; omega
  · obtain rfl : k = cs.length := by omega
    rw [List.take_length]
    refine (Grow_spec _ hl w6).mono ?_
    rintro e w22 ⟨t, rfl, ht, k22, ft⟩
    refine ⟨t, rfl, fun t i w2 => ∃ k : Nat, i = k ∧ k ≤ cs.length ∧ IntsAt w2 t (cs.take k).flatten ∧ Keep w6 w2 ∧ ∀ k, ownB t k → w6.heap.size ≤ k, fun _ i _ => ((cs.length : Int) - i).toNat, ⟨0, rfl, by omega, ht, k22, ft⟩, ?_⟩
    rintro t2 i w28 ⟨k, rfl, hk, ht2, k28, ft2⟩
    intros
    refine BIf_dec (fun h1 => ?_) (fun h1 => ?_)
    · have hkl : k < cs.length := by omega
      obtain ⟨a, sl, ha, hc, hint, _⟩ := (h.keep k28).2 k hkl
      have h3 := total_take cs k hkl
      have h4 := total_le cs (k + 1)
      rw [h3, List.length_append] at h4
      refine needSome_mk ha ⟨by omega, h1, sl, by rw [show Int.toNat (k : Int) * 1 = k * 1 by omega]; exact hc, ht2.app rfl hint (by omega) (fun s' w' g1 g2 g3 => ?_)⟩
      have z28 := k28.size
      exact ⟨inR64 (by omega), ⟨k + 1, rfl, hkl, by rw [h3]; exact g1, k28.ext g2 ft2, fun x hx => (g3 x hx).elim (ft2 x) (fun h => by omega)⟩, by dsimp only; omega⟩
    · obtain rfl : k = cs.length := by omega
      rw [List.take_length] at ht2
      exact ⟨t2, rfl, ht2, k28, ft2⟩

theorem all_spec (ep : Int) (s : Slc) (cs : List (List Int)) (w : World) (h : Chs w s cs) (hl : cs.flatten.length ≤ 12) (hcl : cs.length ≤ 2 ^ 40) :
    Calls Tryd.prog fn_plan_all ⟨[.agg ⟨[.int .i64 ep, s.v]⟩]⟩ w fun e w' => ∃ (t : Slc) (l : List Int), e = .returned t.v ∧ l.Perm cs.flatten ∧ SortedTo l l.length ∧ IntsAt w' t l ∧ Keep w w' ∧ ∀ k, ownB t k → w.heap.size ≤ k := by
  refine plan_all_ok _ _ ?_
  unfold plan_all
  refine newS_mk (fun r3 w4 hr3 hb3 k4 hs4 => ?_)
  refine ⟨s, (ObjAt.new' hb3).cell 1 (by simp), ?_⟩
  refine (Concat_spec s cs w4 (h.keep k4) (by omega) hcl).mono ?_
  rintro e w7 ⟨t, rfl, ht, k7, ft⟩
  refine ⟨t, rfl, (Sort_spec t _ w7 ht hl).mono ?_⟩
  rintro e w10 ⟨rfl, l', hp, hs, hi, he⟩
  have z4 := k4.size
  have ft' : ∀ k, ownB t k → w.heap.size ≤ k := fun k hk => by have := ft k hk; omega
  exact ⟨rfl, t, l', rfl, hp, by rw [hp.length_eq]; exact hs, hi, (k4.trans k7).ext he ft', ft'⟩

theorem CloneP_spec (s : Slc) (l : List Int) (w : World) (h : intsAt w s l) (hl : l.length ≤ 2 ^ 30) :
    Calls Tryd.prog fn_slices_Clone_int ⟨[s.v]⟩ w fun e w' => ∃ t : Slc, e = .returned t.v ∧ IntsAt w' t l ∧ Keep w w' ∧ ∀ k, ownB t k → w.heap.size ≤ k := by
  refine slices_Clone_int_ok _ ?_
  unfold slices_Clone_int
  refine BIf_mk (fun h1 => ?_) (fun h1 => ?_)
  · have hp : s.p = none := by simpa using h1
    have hb0 : l = [] := by
      rcases h.2 with h0 | ⟨a, ha, _⟩
      · simpa using h0
      · rw [hp] at ha; cases ha
    subst hb0
    exact ⟨_, rfl, IntsAt.nil _, Ext.refl _ _, by rintro k ⟨a, ha, _⟩; cases ha⟩
  · refine newS_mk (fun r2 w3 hr2 hb2 k3 hs3 => ?_)
    refine (IntsAt.new hb2).app rfl (intsAt_keep h k3) (by simp; omega) (fun s' w' g1 g2 g3 => ⟨s', rfl, by simpa using g1, k3.ext g2 (fun k hk => ?_), fun k hk => ?_⟩)
    · obtain ⟨a, ha, rfl⟩ := hk; cases ha; show w.heap.size ≤ r2; omega
    · have := k3.size
      rcases g3 k hk with h2 | h2
      · obtain ⟨a, ha, rfl⟩ := h2; cases ha; show w.heap.size ≤ r2; omega
      · omega
def NoTwice (l : List Int) : Prop := ∀ j (h : j < l.length), 0 < j → l[j] ≠ l[j - 1]'(by omega)
theorem Compact_spec (s : Slc) (l : List Int) (w : World) (h : IntsAt w s l) (hl : l.length ≤ 2 ^ 30) :
    Calls Tryd.prog fn_slices_Compact_int ⟨[s.v]⟩ w fun e w' => ∃ t : Slc, e = .returned t.v ∧ (t.l = l.length ↔ NoTwice l) ∧ Ext (ownB s) w w' := by
  have hsl := h.sl
  have hcap := h.cap
  refine slices_Compact_int_ok _ ?_
  unfold slices_Compact_int
  refine BIf_dec (fun h1 => ⟨s, rfl, ⟨fun _ j hj h0 => by omega, fun _ => hsl⟩, Ext.refl _ _⟩) (fun h1 => ?_)
  refine ⟨fun k w2 => ∃ m : Nat, k = m ∧ 1 ≤ m ∧ m ≤ l.length ∧ (∀ j (h : j < l.length), 0 < j → j < m → l[j] ≠ l[j - 1]'(by omega)) ∧ Keep w w2, fun k _ => ((l.length : Int) - k).toNat, ⟨1, rfl, by omega, by omega, fun j _ _ _ => by omega, Ext.refl _ _⟩, ?_⟩
  rintro k w5 ⟨m, rfl, hm1, hml, hno, k5⟩
  intros
  refine BIf_dec (fun h2 => ?_) (fun h2 => ⟨s, rfl, ⟨fun _ j hj h0 => hno j hj h0 (by omega), fun _ => hsl⟩, k5.mono (fun _ h => h.elim)⟩)
  have hm : m < l.length := by omega
  have kd := k5.drew
  have hd := h.keep kd
  have hm1' : m - 1 < l.length := by omega
  obtain ⟨a, ha, c1⟩ := hd.get hm
  obtain ⟨a', ha', c2⟩ := hd.get hm1'
  rw [ha] at ha'
  cases ha'
  have e1 : Int.toNat ((m : Int) - 1) * 1 = (m - 1) * 1 := by omega
  have e2 : Int.toNat (m : Int) * 1 = m * 1 := by omega
  refine needSome_mk ha ⟨by omega, by omega, _, by rw [e2]; exact c1, inR64 (by omega), needSome_mk ha ⟨by omega, by omega, _, by rw [e1]; exact c2, BIf_dec (fun h3 => ?_) (fun h3 => ?_)⟩⟩
  · -- the second loop
    have hsp : a.spot = none := by
      obtain ⟨_, ⟨hp, _⟩ | ⟨b, pad, T, f, hp, _⟩⟩ := h.own
      · rw [hp] at ha; cases ha
      · rw [hp] at ha; cases ha; rfl
    rw [show Int.toNat (m : Int) = m by omega]
    have es : Slc.sub s 1 m s.l s.c = ⟨some (a.add (m * 1)), s.l - m, s.c - m⟩ := by
      unfold Slc.sub
      rw [if_neg (by omega), ha]; rfl
    rw [es]
    dsimp only
    refine ⟨by omega, by omega, by omega, by omega, fun k i w2 => ∃ (x y : Nat) (l2 : List Int), k = x ∧ i = y ∧ 1 ≤ y ∧ x + 1 ≤ m + y ∧ y ≤ l.length - m ∧ l2.length = l.length ∧ IntsAt w2 s l2 ∧ Ext (ownB s) w w2, fun _ i _ => ((l.length : Int) - m - i).toNat,
      ⟨m, 1, l, rfl, rfl, by omega, by omega, by omega, rfl, hd, kd.mono (fun _ h => h.elim)⟩, ?_⟩
    rintro k i w68 ⟨x, y, l2, rfl, rfl, hy1, hxy, hy, hl2, h68, e68⟩
    intros
    have h68d := h68.keep (Ext.drew _ w68)
    have e68d : Ext (ownB s) w w68.drew := e68.trans (Ext.drew _ _) (fun _ h => h) (fun _ h => .inl h)
    refine BIf_dec (fun h4 => ?_) (fun h4 => ?_)
    · have i1 : m + y < l2.length := by omega
      have i2 : m + (y - 1) < l2.length := by omega
      have at_ : ∀ j (hj : m + j < l2.length), World.cell? w68.drew (Addr.add (a.add (m * 1)) (j * 1)) = some (.int .i64 l2[m + j]) := by
        intro j hj
        obtain ⟨a', ha', c⟩ := h68d.get hj
        rw [ha] at ha'
        cases ha'
        rw [addr_add_add a (m * 1) (j * 1) hsp, show m * 1 + j * 1 = (m + j) * 1 by omega]
        exact c
      have next : ∀ (x' : Nat) (l3 : List Int) (w3 : World), x' ≤ x + 1 → l3.length = l.length → IntsAt w3 s l3 → Ext (ownB s) w w3 → inR .i64 ((y : Int) + 1) ∧ (∃ (x2 y2 : Nat) (l2 : List Int), (x' : Int) = x2 ∧ ((y : Int) + 1) = y2 ∧ 1 ≤ y2 ∧ x2 + 1 ≤ m + y2 ∧ y2 ≤ l.length - m ∧ l2.length = l.length ∧ IntsAt w3 s l2 ∧ Ext (ownB s) w w3) ∧ ((l.length : Int) - m - ((y : Int) + 1)).toNat < ((l.length : Int) - m - (y : Int)).toNat :=
        fun x' l3 w3 b1 b2 b3 b4 => ⟨inR64 (by omega), ⟨x', y + 1, l3, rfl, by omega, by omega, by omega, by omega, b2, b3, b4⟩, by omega⟩
      have f1 : Int.toNat ((y : Int) - 1) * 1 = (y - 1) * 1 := by omega
      have f2 : Int.toNat (y : Int) * 1 = y * 1 := by omega
      refine needSome_mk rfl ⟨by omega, by omega, _, by rw [f2]; exact at_ y i1, inR64 (by omega), needSome_mk rfl ⟨by omega, by omega, _, by rw [f1]; exact at_ (y - 1) i2, BIf_ndec (fun h5 => ?_) (fun h5 => next x l2 _ (by omega) hl2 h68d e68d)⟩⟩
      have hx : x < l2.length := by omega
      obtain ⟨cw, g⟩ := h68d.set hx l2[m + y] ha
      have f3 : Int.toNat (x : Int) * 1 = x * 1 := by omega
      refine needSome_mk rfl ⟨by omega, by omega, _, by rw [f2]; exact at_ y i1, needSome_mk ha ⟨by omega, by omega, by rw [f3]; exact cw, fun w101 hw => ?_⟩⟩
      obtain ⟨g1, g2, g3⟩ := g w101 (by rw [hw, f3])
      exact ⟨inR64 (by omega), next (x + 1) _ w101 (by omega) (by simp [hl2]) g1 (e68d.trans g2 (fun _ h => h) (fun _ h => .inl h))⟩
    · refine ⟨by omega, by omega, by omega, by omega, ?_⟩
      rw [show Int.toNat (x : Int) = x by omega]
      refine h68.cut (by omega) (fun w' g1 g2 g3 => ⟨by omega, by omega, by omega, by omega, _, rfl, ⟨fun hh => ?_, fun hh => absurd h3 (hh m hm (by omega))⟩, e68.trans g2 (fun _ h => h) (fun _ h => .inl h)⟩)
      simp only [Slc.sub] at hh
      omega
  · refine ⟨inR64 (by omega), ⟨m + 1, rfl, by omega, by omega, fun j hj h0 hjm => ?_, kd⟩, by dsimp only; omega⟩
    by_cases hjm2 : j = m
    · subst hjm2; exact h3
    · exact hno j hj h0 (by omega)
end Go.D
