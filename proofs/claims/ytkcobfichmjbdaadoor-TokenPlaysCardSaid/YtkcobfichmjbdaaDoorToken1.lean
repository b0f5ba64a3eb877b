/-
  WHAT IS PROVED: contracts of functions, and the plain law, for this proof. No further conditions.
-/
import Derived.Test.YtkcobfichmjbdaaDoorVCtoken
import Derived.Test.YtkcobfichmjbdaaDoorSameInts
import Derived.Test.YtkcobfichmjbdaaDoorErrB
import Derived.Test.YtkcobfichmjbdaaDoorMapM
set_option linter.unusedVariables false
set_option linter.unusedSimpArgs false
namespace Go.D
open Go Go.Proofs

/-- Five errors stand in their variables. -/
def LE5 (A : Nat → Addr) (n0 : Nat) (w : World) : Prop := ∀ k, k ∈ [0, 3, 7, 12, 13] → w.cell? ⟨errG.getD k 0, 0, none⟩ = some (errV A (errG.getD k 0)) ∧ errG.getD k 0 < n0
theorem LE5.ext {A : Nat → Addr} {n0 : Nat} {M : Nat → Prop} {w w' : World} (h : LE5 A n0 w) (he : Ext M w w') (hm : ∀ k, M k → n0 ≤ k) : LE5 A n0 w' :=
  fun k hk => ⟨he.cell (h k hk).1 (fun hh => by have h1 : n0 ≤ errG.getD k 0 := hm _ hh; have := (h k hk).2; omega), (h k hk).2⟩
theorem LE5.keep {A : Nat → Addr} {n0 : Nat} {w w' : World} (h : LE5 A n0 w) (he : Keep w w') : LE5 A n0 w' := h.ext he (fun _ h => h.elim)
theorem LE5.at {A : Nat → Addr} {n0 : Nat} {w : World} (h : LE5 A n0 w) (k : Nat) (hk : k ∈ [0, 3, 7, 12, 13]) : w.cell? ⟨errG.getD k 0, 0, none⟩ = some (errV A (errG.getD k 0)) := (h k hk).1
theorem LE5.of {A : Nat → Addr} {w : World} {gs : List Nat} (h : ErrsOn tyErr gs A w) (hg : ∀ k, k ∈ [0, 3, 7, 12, 13] → errG.getD k 0 ∈ gs) : LE5 A w.heap.size w :=
  fun k hk => ⟨(h.1 _ (hg k hk)).1, World.block_lt_of_cell? w _ (h.1 _ (hg k hk)).1⟩

theorem stream_spec (n : Int) (w : World) : Calls Tryd.prog fn_token_stream ⟨[.int .i64 n]⟩ w fun e w' => e = .returned (.bool (decide (0 ≤ n ∧ n ≤ 12))) ∧ w' = w := by
  refine token_stream_ok _ ?_
  unfold token_stream
  refine BIf_dec (fun h => ⟨?_, rfl⟩) (fun h => ⟨?_, rfl⟩)
  · rw [decide_eq_decide.2]; exact ⟨fun h2 => ⟨h, h2⟩, fun h2 => h2.2⟩
  · rw [decide_eq_false]; omega

def fallsL : List Int → Int → Bool
  | [], _ => true
  | a :: r, next => decide (0 ≤ a ∧ a < next) && fallsL r a
def risesL : List Int → Int → Bool
  | [], _ => true
  | s :: r, last => decide (last < s ∧ 0 ≤ s ∧ s ≤ 12) && risesL r s

theorem falls_spec (s : Slc) (l : List Int) (next : Int) (w : World) (h : intsAt w s l) (hl : l.length ≤ 2 ^ 40) :
    Calls Tryd.prog fn_token_falls ⟨[s.v, .int .i64 next]⟩ w fun e w' => e = .returned (.bool (fallsL l next && decide (l.length ≤ 4))) ∧ w' = w := by
  have hsl := h.1
  refine token_falls_ok _ _ ?_
  unfold token_falls
  refine ⟨fun nx i w2 => w2 = w ∧ ∃ k : Nat, i = k ∧ k ≤ l.length ∧ fallsL (l.drop k) nx = fallsL l next, fun _ i _ => ((l.length : Int) - i).toNat, ⟨rfl, 0, rfl, by omega, rfl⟩, ?_⟩
  rintro nx i w2 ⟨rfl, k, rfl, hk, hf⟩
  intros
  refine BIf_dec (fun hlt => ?_) (fun hlt => ?_)
  · have hkl : k < l.length := by omega
    obtain ⟨a, ha, hc⟩ := intsAt_cell h hkl
    rw [List.drop_eq_getElem_cons hkl, fallsL] at hf
    refine needSome_mk ha ⟨by omega, hlt, l[k], by rw [show Int.toNat (k : Int) * 1 = k by omega]; exact hc, BIf_dec (fun h1 => ⟨?_, rfl⟩) (fun h1 => BIf_dec (fun h2 => ⟨?_, rfl⟩) (fun h2 => ?_))⟩
    · rw [decide_eq_false (by omega), Bool.false_and] at hf
      rw [← hf]; rfl
    · rw [decide_eq_false (by omega), Bool.false_and] at hf
      rw [← hf]; rfl
    · rw [decide_eq_true (by omega), Bool.true_and] at hf
      exact ⟨inR64 (by omega), ⟨rfl, k + 1, rfl, hkl, hf⟩, by dsimp only; omega⟩
  · rw [List.drop_of_length_le (by omega), fallsL] at hf
    refine ⟨?_, rfl⟩
    rw [← hf, Bool.true_and, hsl]
    have : decide (((l.length : Nat) : Int) ≤ 4) = decide (l.length ≤ 4) := by rw [decide_eq_decide]; omega
    rw [this]

theorem rises_spec (s : Slc) (l : List Int) (w : World) (h : intsAt w s l) (hl : l.length ≤ 2 ^ 40) :
    Calls Tryd.prog fn_token_rises ⟨[s.v]⟩ w fun e w' => e = .returned (.bool (risesL l (-1))) ∧ w' = w := by
  have hsl := h.1
  refine token_rises_ok _ ?_
  unfold token_rises
  refine ⟨fun nx i w2 => w2 = w ∧ ∃ k : Nat, i = k ∧ k ≤ l.length ∧ risesL (l.drop k) nx = risesL l (-1), fun _ i _ => ((l.length : Int) - i).toNat, ⟨rfl, 0, rfl, by omega, rfl⟩, ?_⟩
  rintro nx i w2 ⟨rfl, k, rfl, hk, hf⟩
  intros
  refine BIf_dec (fun hlt => ?_) (fun hlt => ?_)
  · have hkl : k < l.length := by omega
    obtain ⟨a, ha, hc⟩ := intsAt_cell h hkl
    rw [List.drop_eq_getElem_cons hkl, risesL] at hf
    refine needSome_mk ha ⟨by omega, hlt, l[k], by rw [show Int.toNat (k : Int) * 1 = k by omega]; exact hc, BIf_dec (fun h1 => ⟨?_, rfl⟩) (fun h1 => ?_)⟩
    · rw [decide_eq_false (by omega), Bool.false_and] at hf
      rw [← hf]
    · refine (stream_spec _ w2).mono ?_
      rintro e w25 ⟨rfl, rfl⟩
      refine ⟨_, rfl, BIf_ndec (fun h2 => ⟨?_, rfl⟩) (fun h2 => ?_)⟩
      · rw [decide_eq_false (by omega), Bool.false_and] at hf
        rw [← hf]
      · rw [decide_eq_true (by omega), Bool.true_and] at hf
        exact ⟨inR64 (by omega), ⟨rfl, k + 1, rfl, hkl, hf⟩, by dsimp only; omega⟩
  · rw [List.drop_of_length_le (by omega), risesL] at hf
    exact ⟨by rw [← hf], rfl⟩

theorem nil_ints (w : World) : intsAt w ⟨none, 0, 0⟩ [] := ⟨rfl, .inl rfl⟩
theorem CloneI_spec (s : Slc) (l : List Int) (w : World) (h : intsAt w s l) (hl : l.length ≤ 2 ^ 30) :
    Calls Tryd.prog fn_slices_Clone_int ⟨[s.v]⟩ w fun e w' => ∃ t : Slc, e = .returned t.v ∧ intsAt w' t l ∧ t.l ≤ t.c ∧ Fresh w t ∧ (∀ k, ownB t k → k < w'.heap.size) ∧ Keep w w' := by
  have hsl := h.1
  refine slices_Clone_int_ok _ ?_
  unfold slices_Clone_int
  refine BIf_mk (fun hn => ?_) (fun hn => ?_)
  · have : l = [] := by
      have hp : s.p = none := by cases e : s.p with
        | none => rfl
        | some a => rw [e] at hn; cases hn
      rcases h.2 with h1 | ⟨a, h1, _⟩
      · simpa using h1
      · rw [hp] at h1; cases h1
    subst this
    exact ⟨_, rfl, nil_ints _, Nat.le_refl _, Fresh.nil _ _ _, (by rintro k ⟨a, ha, _⟩; cases ha), Ext.refl _ _⟩
  · refine newS_mk (fun r w3 hr hb hk hs => ?_)
    have ho : Own w3 ⟨some ⟨r, 0, none⟩, 0, 0⟩ 1 [] := Own.new (sz := 1) (n := 0) hb (.inl (by simp)) rfl
    refine appendS_own ho (by omega) rfl (srcAt_slc (intsAt_keep h hk).2 (by simp [hsl])) (one_ints l) (by simp only [Src.n]; omega) (fun s' w' g1 g2 g3 g4 => ?_)
    rw [List.nil_append] at g1
    refine ⟨s', rfl, g1.ints, g1.le (by omega), fun b hb2 => ?_, OwnLt g1, hk.ext g2 (fun k hk2 => ?_)⟩
    · rcases g3 b hb2 with ⟨a, ha, rfl⟩ | h1
      · cases ha; show w.heap.size ≤ r; omega
      · have := hk.size; omega
    · obtain ⟨a, ha, rfl⟩ := hk2
      cases ha; show w.heap.size ≤ r; omega

/-! ### a sequencer -/
def seqC (e n : Int) (sl : Nat → Slc) : List Value := .int .i64 e :: .int .i64 n :: (List.range 13).map fun x => (sl x).v
def updS {α : Type} (f : Nat → α) (k : Nat) (v : α) : Nat → α := fun x => if x = k then v else f x
theorem seqC_len (e n : Int) (sl : Nat → Slc) : (seqC e n sl).length = 15 := by simp [seqC]
theorem seqC_get (e n : Int) (sl : Nat → Slc) {x : Nat} (h : x < 13) : (seqC e n sl)[2 + x]? = some (sl x).v := by
  rw [seqC, show 2 + x = x + 1 + 1 by omega]
  simp [h]
theorem seqC_set (e n : Int) (sl : Nat → Slc) {x : Nat} (h : x < 13) (s : Slc) : (seqC e n sl).set (2 + x) s.v = seqC e n (updS sl x s) := by
  apply List.ext_getElem?
  intro i
  rw [seqC, seqC, show 2 + x = x + 1 + 1 by omega]
  match i with
  | 0 => rfl
  | 1 => rfl
  | i + 2 =>
    simp only [List.set_cons_succ, List.getElem?_cons_succ, List.getElem?_set, List.length_map, List.length_range, List.getElem?_map]
    by_cases hi : x = i
    · subst hi
      rw [if_pos rfl, if_pos h, List.getElem?_range h]; simp [updS]
    · rw [if_neg hi]
      by_cases h13 : i < 13
      · rw [List.getElem?_range h13]; simp [updS, show ¬ i = x from fun e => hi e.symm]
      · rw [List.getElem?_eq_none (by simp; omega)]; rfl

structure SeqAt (B : Nat) (w : World) (r : Nat) (F : Nat → Prop) (e n : Int) (sl : Nat → Slc) (L : Nat → List Int) : Prop where
  o : ObjAt w r (seqC e n sl)
  s : ∀ x, x < 13 → intsAt w (sl x) (L x) ∧ (∀ k, ownB (sl x) k → F k) ∧ (L x).length ≤ B ∧ (sl x).l ≤ (sl x).c
  f : ¬ F r
theorem SeqAt.ext {B : Nat} {N : Nat → Prop} {w w' : World} {r : Nat} {F : Nat → Prop} {e n : Int} {sl : Nat → Slc} {L : Nat → List Int} (h : SeqAt B w r F e n sl L) (he : Ext N w w') (h1 : ¬ N r) (h2 : ∀ k, F k → ¬ N k) : SeqAt B w' r F e n sl L :=
  ⟨h.o.ext he h1, fun x hx => ⟨intsAt_ext (h.s x hx).1 he (fun k hk => h2 k ((h.s x hx).2.1 k hk)), (h.s x hx).2⟩, h.f⟩
theorem SeqAt.keep {B : Nat} {w w' : World} {r : Nat} {F : Nat → Prop} {e n : Int} {sl : Nat → Slc} {L : Nat → List Int} (h : SeqAt B w r F e n sl L) (he : Keep w w') : SeqAt B w' r F e n sl L := h.ext he (fun h => h) (fun _ _ h => h)
theorem SeqAt.wide {B : Nat} {w : World} {r : Nat} {F G : Nat → Prop} {e n : Int} {sl : Nat → Slc} {L : Nat → List Int} (h : SeqAt B w r F e n sl L) (hg : ∀ k, F k → G k) (hr : ¬ G r) : SeqAt B w r G e n sl L :=
  ⟨h.o, fun x hx => ⟨(h.s x hx).1, fun k hk => hg k ((h.s x hx).2.1 k hk), (h.s x hx).2.2⟩, hr⟩
theorem SeqAt.c0 {B : Nat} {w : World} {r : Nat} {F : Nat → Prop} {e n : Int} {sl : Nat → Slc} {L : Nat → List Int} (h : SeqAt B w r F e n sl L) : w.cell? ⟨r, 0, none⟩ = some (.int .i64 e) := h.o.cell 0 (by rw [seqC_len]; omega)
theorem SeqAt.c1 {B : Nat} {w : World} {r : Nat} {F : Nat → Prop} {e n : Int} {sl : Nat → Slc} {L : Nat → List Int} (h : SeqAt B w r F e n sl L) : w.cell? ⟨r, 1, none⟩ = some (.int .i64 n) := h.o.cell 1 (by rw [seqC_len]; omega)
theorem SeqAt.cx {B : Nat} {w : World} {r : Nat} {F : Nat → Prop} {e n : Int} {sl : Nat → Slc} {L : Nat → List Int} (h : SeqAt B w r F e n sl L) {x : Nat} (hx : x < 13) : w.cell? ⟨r, 2 + x, none⟩ = some (sl x).v := by
  have := h.o.cell (2 + x) (by rw [seqC_len]; omega)
  rw [this, ← seqC_get e n sl hx, List.getElem?_eq_getElem]
/-- A stream's slice is laid. -/
theorem SeqAt.setS {B : Nat} {w : World} {r : Nat} {F : Nat → Prop} {e n : Int} {sl : Nat → Slc} {L : Nat → List Int} (h : SeqAt B w r F e n sl L) {x : Nat} (hx : x < 13) {s : Slc} {l : List Int} (hs : intsAt w s l) (hF : ∀ k, ownB s k → F k) (hl : l.length ≤ B) (hc : s.l ≤ s.c) :
    canW w ⟨r, 2 + x, none⟩ 1 ∧ ∀ w2, w2 = w.setCell ⟨r, 2 + x, none⟩ s.v → SeqAt B w2 r F e n (updS sl x s) (updS L x l) ∧ Ext (fun k => k = r) w w2 := by
  obtain ⟨h1, h2⟩ := h.o.setOne (2 + x) (by rw [seqC_len]; omega) s.v
  refine ⟨h1, fun w2 hw => ?_⟩
  obtain ⟨g1, g2, g3⟩ := h2 w2 hw
  rw [seqC_set e n sl hx] at g1
  refine ⟨⟨g1, fun y hy => ?_, h.f⟩, g2⟩
  by_cases e : y = x
  · subst e
    simp only [updS, if_pos rfl]
    exact ⟨intsAt_ext hs g2 (fun k hk hh => h.f (hh ▸ hF k hk)), hF, hl, hc⟩
  · simp only [updS, if_neg e]
    exact ⟨intsAt_ext (h.s y hy).1 g2 (fun k hk hh => h.f (hh ▸ (h.s y hy).2.1 k hk)), (h.s y hy).2⟩
/-- The next address is laid. -/
theorem SeqAt.setN {B : Nat} {w : World} {r : Nat} {F : Nat → Prop} {e n : Int} {sl : Nat → Slc} {L : Nat → List Int} (h : SeqAt B w r F e n sl L) (m : Int) :
    canW w ⟨r, 1, none⟩ 1 ∧ ∀ w2, w2 = w.setCell ⟨r, 1, none⟩ (.int .i64 m) → SeqAt B w2 r F e m sl L ∧ Ext (fun k => k = r) w w2 := by
  obtain ⟨h1, h2⟩ := h.o.setOne 1 (by rw [seqC_len]; omega) (.int .i64 m)
  refine ⟨h1, fun w2 hw => ?_⟩
  obtain ⟨g1, g2, g3⟩ := h2 w2 hw
  exact ⟨⟨g1, fun y hy => ⟨intsAt_ext (h.s y hy).1 g2 (fun k hk hh => h.f (hh ▸ (h.s y hy).2.1 k hk)), (h.s y hy).2⟩, h.f⟩, g2⟩
end Go.D
