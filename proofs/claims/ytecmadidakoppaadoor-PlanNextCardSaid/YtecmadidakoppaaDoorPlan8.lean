/-
  WHAT IS PROVED: contracts of functions, and the plain law, for this proof. No further conditions.
-/
import Derived.Test.YtecmadidakoppaaDoorPlan7
set_option linter.unusedVariables false
set_option linter.unusedSimpArgs false
namespace Go.D
open Go Go.Proofs

theorem Index_spec (s : Slc) (l : List Int) (v : Int) (w : World) (h : intsAt w s l) (hl : l.length ≤ 2 ^ 40) :
    Calls Tryd.prog fn_slices_Index_int ⟨[s.v, .int .i64 v]⟩ w fun e w' => ∃ i : Int, e = .returned (.int .i64 i) ∧ (0 ≤ i ↔ v ∈ l) ∧ w' = w := by
  have hsl := h.1
  refine slices_Index_int_ok _ _ ?_
  unfold slices_Index_int
  refine ⟨fun i w2 => w2 = w ∧ ∃ k : Nat, i = k ∧ k ≤ l.length ∧ v ∉ l.take k, fun i _ => ((l.length : Int) - i).toNat, ⟨rfl, 0, rfl, by omega, by simp⟩, ?_⟩
  rintro i w6 ⟨rfl, k, rfl, hk, hn⟩
  intros
  refine BIf_dec (fun h1 => ?_) (fun h1 => ?_)
  · have hkl : k < l.length := by omega
    obtain ⟨a, ha, hc⟩ := intsAt_cell h hkl
    refine needSome_mk ha ⟨by omega, h1, _, by rw [show Int.toNat (k : Int) * 1 = k by omega]; exact hc, BIf_dec (fun h2 => ⟨_, rfl, ⟨fun _ => h2 ▸ List.getElem_mem hkl, fun _ => by omega⟩, rfl⟩) (fun h2 => ⟨inR64 (by omega), ⟨rfl, k + 1, rfl, hkl, ?_⟩, by first | (dsimp only; omega) | omega⟩)⟩
    rw [List.take_succ_eq_append_getElem hkl]
    simp only [List.mem_append, List.mem_singleton, not_or]
    exact ⟨hn, h2⟩
  · rw [List.take_of_length_le (by omega)] at hn
    exact ⟨_, rfl, ⟨fun h => by omega, fun h => (hn h).elim⟩, rfl⟩
theorem Contains_spec (s : Slc) (l : List Int) (v : Int) (w : World) (h : intsAt w s l) (hl : l.length ≤ 2 ^ 40) :
    Calls Tryd.prog fn_slices_Contains_int ⟨[s.v, .int .i64 v]⟩ w fun e w' => e = .returned (.bool (decide (v ∈ l))) ∧ w' = w := by
  refine slices_Contains_int_ok _ _ ?_
  unfold slices_Contains_int
  refine (Index_spec s l v w h hl).mono ?_
  rintro e w4 ⟨i, rfl, hi, rfl⟩
  refine ⟨i, rfl, ?_, rfl⟩
  by_cases hm : v ∈ l
  · rw [decide_eq_true hm, decide_eq_true (hi.2 hm)]
  · rw [decide_eq_false hm, decide_eq_false (fun hh => hm (hi.1 hh))]

/-- What a chain keeps. -/
def keepC (g c : List Int) : List Int := c.filter fun u => !(decide (u ∈ g))
structure GoneAt (w : World) (r : Nat) (sg : Slc) (g : List Int) : Prop where
  o : w.cell? ⟨r, 0, none⟩ = some sg.v
  gs : intsAt w sg g
  sz : g.length ≤ 1000
theorem GoneAt.ext {M : Nat → Prop} {w w' : World} {r : Nat} {sg : Slc} {g : List Int} (h : GoneAt w r sg g) (he : Ext M w w') (h1 : ¬ M r) (h2 : g ≠ [] → ∀ k, ownB sg k → ¬ M k) : GoneAt w' r sg g := by
  refine ⟨he.cell h.o h1, ?_, h.sz⟩
  by_cases hg : g = []
  · subst hg; exact ⟨h.gs.1, .inl rfl⟩
  · exact intsAt_ext h.gs he (h2 hg)
theorem GoneAt.keep {w w' : World} {r : Nat} {sg : Slc} {g : List Int} (h : GoneAt w r sg g) (he : Keep w w') : GoneAt w' r sg g := h.ext he (fun h => h) (fun _ _ _ h => h)

theorem Replace_1_spec (u : Int) (r : Nat) (sg : Slc) (g : List Int) (w : World) (h : GoneAt w r sg g) :
    Calls Tryd.prog fn_plan_Replace_1 ⟨[.int .i64 u, .pointer (some ⟨r, 0, none⟩)]⟩ w fun e w' => e = .returned (.bool (decide (u ∈ g))) ∧ w' = w := by
  refine plan_Replace_1_ok _ _ ?_
  unfold plan_Replace_1
  refine needSome_mk rfl ⟨sg, h.o, ?_⟩
  refine (Contains_spec sg g u w h.gs (by have := h.sz; omega)).mono ?_
  rintro e w6 ⟨rfl, rfl⟩
  exact ⟨_, rfl, rfl, rfl⟩
theorem IndexDel_spec (s : Slc) (c : List Int) (r : Nat) (sg : Slc) (g : List Int) (w : World) (hs : IntsAt w s c) (hl : c.length ≤ 1000) (h : GoneAt w r sg g) :
    Calls Tryd.prog fn_slices_IndexFunc_int ⟨[s.v, .func (.func fn_plan_Replace_1) ⟨[]⟩ ⟨[.pointer (some ⟨r, 0, none⟩)]⟩]⟩ w fun e w' => w' = w ∧ ∃ i : Int, e = .returned (.int .i64 i) ∧
      ((i = -1 ∧ keepC g c = c) ∨ ∃ k : Nat, i = k ∧ k < c.length ∧ keepC g (c.take (k + 1)) = c.take k) := by
  have hsl := hs.sl
  refine slices_IndexFunc_int_plan_Replace_1_ok _ _ ?_
  unfold slices_IndexFunc_int_plan_Replace_1
  refine ⟨fun i w2 => w2 = w ∧ ∃ k : Nat, i = k ∧ k ≤ c.length ∧ keepC g (c.take k) = c.take k, fun i _ => ((c.length : Int) - i).toNat, ⟨rfl, 0, rfl, by omega, by simp [keepC]⟩, ?_⟩
  rintro i w6 ⟨rfl, k, rfl, hk, hn⟩
  intros
  refine BIf_dec (fun h1 => ?_) (fun h1 => ?_)
  · have hkl : k < c.length := by omega
    obtain ⟨a, ha, hc⟩ := hs.get hkl
    refine needSome_mk ha ⟨by omega, h1, _, by rw [show Int.toNat (k : Int) * 1 = k * 1 by omega]; exact hc, ?_⟩
    refine (Replace_1_spec _ r sg g w6 h).mono ?_
    rintro e w22 ⟨rfl, rfl⟩
    have hsp : keepC g (c.take (k + 1)) = c.take k ++ keepC g [c[k]] := by
      rw [List.take_succ_eq_append_getElem hkl]
      unfold keepC at hn ⊢
      rw [List.filter_append, hn]
    refine ⟨_, rfl, BIf_dec (fun h2 => ⟨rfl, _, rfl, .inr ⟨k, rfl, hkl, ?_⟩⟩) (fun h2 => ⟨inR64 (by omega), ⟨rfl, k + 1, rfl, hkl, ?_⟩, by first | (dsimp only; omega) | omega⟩)⟩
    · rw [hsp]; simp [keepC, h2]
    · rw [hsp, List.take_succ_eq_append_getElem hkl]; simp [keepC, h2]
  · rw [List.take_of_length_le (by omega)] at hn
    exact ⟨rfl, _, rfl, .inl ⟨rfl, hn⟩⟩
theorem DeleteFunc_spec (s : Slc) (c : List Int) (r : Nat) (sg : Slc) (g : List Int) (w : World) (hs : IntsAt w s c) (hl : c.length ≤ 1000) (h : GoneAt w r sg g) (hr : ¬ ownB s r) (hg : g ≠ [] → ∀ k, ownB sg k → ¬ ownB s k) :
    Calls Tryd.prog fn_slices_DeleteFunc_int ⟨[s.v, .func (.func fn_plan_Replace_1) ⟨[]⟩ ⟨[.pointer (some ⟨r, 0, none⟩)]⟩]⟩ w fun e w' => ∃ t : Slc, e = .returned t.v ∧ t = ⟨s.p, (keepC g c).length, s.c⟩ ∧ IntsAt w' t (keepC g c) ∧ Ext (ownB s) w w' := by
  have hsl := hs.sl
  have hcap := hs.cap'
  refine slices_DeleteFunc_int_plan_Replace_1_ok _ _ ?_
  unfold slices_DeleteFunc_int_plan_Replace_1
  refine (IndexDel_spec s c r sg g w hs hl h).mono ?_
  rintro e w4 ⟨rfl, n, rfl, hb⟩
  refine ⟨n, rfl, BIf_dec (fun h1 => ?_) (fun h1 => ?_)⟩
  · rcases hb with ⟨_, hk⟩ | ⟨k, rfl, _⟩
    · rw [hk]
      exact ⟨s, rfl, by rw [← hsl], hs, Ext.refl _ _⟩
    · omega
  · rcases hb with ⟨h2, _⟩ | ⟨k, rfl, hkl, hk⟩
    · omega
    refine ⟨inR64 (by omega), fun i j w2 => ∃ (i' j' : Nat) (x : List Int), i = i' ∧ j = j' ∧ i' < j' ∧ j' ≤ c.length ∧ IntsAt w2 s x ∧ x.length = c.length ∧ x.take i' = keepC g (c.take j') ∧ x.drop j' = c.drop j' ∧ Ext (ownB s) w4 w2, fun _ j _ => ((c.length : Int) - j).toNat,
      ⟨k, k + 1, c, rfl, by omega, by omega, by omega, hs, rfl, hk.symm, rfl, Ext.refl _ _⟩, ?_⟩
    rintro i j w10 ⟨i', j', x, rfl, rfl, hij, hj, hx, hxl, hxt, hxd, x10⟩
    intros
    have hsx := hx.sl
    refine BIf_dec (fun h2 => ?_) (fun h2 => ?_)
    · have hjl : j' < c.length := by omega
      have hjx : j' < x.length := by omega
      obtain ⟨a, ha, hc⟩ := hx.get hjx
      have hxj : x[j'] = c[j'] := by
        have := congrArg (fun l => l[0]?) hxd
        simpa [hjl, hjx] using this
      rw [hxj] at hc
      refine needSome_mk ha ⟨by omega, h2, _, by rw [show Int.toNat (j' : Int) * 1 = j' * 1 by omega]; exact hc, ?_⟩
      refine (Replace_1_spec _ r sg g w10 (h.ext x10 hr (fun hh k hk => hg hh k hk))).mono ?_
      rintro e w35 ⟨rfl, rfl⟩
      have hsp : keepC g (c.take (j' + 1)) = x.take i' ++ keepC g [c[j']] := by
        rw [List.take_succ_eq_append_getElem hjl, hxt]
        unfold keepC
        rw [List.filter_append]
      have hdr : ∀ (y : List Int), y.drop j' = c.drop j' → y.length = c.length → y.drop (j' + 1) = c.drop (j' + 1) := fun y h1 _ => by
        rw [← List.drop_drop, h1, List.drop_drop]
      refine ⟨_, rfl, BIf_mk (fun h3 => ?_) (fun h3 => ⟨inR64 (by omega), ⟨i', j' + 1, x, rfl, by omega, by omega, by omega, hx, hxl, ?_, hdr x hxd hxl, x10⟩, by first | (dsimp only; omega) | omega⟩)⟩
      · have h4 : ¬ c[j'] ∈ g := by simpa using h3
        obtain ⟨q1, q2⟩ := hx.set (i := i') (by omega) c[j'] ha
        refine needSome_mk ha ⟨by omega, by omega, by rw [show Int.toNat (i' : Int) * 1 = i' * 1 by omega]; exact q1, fun w38 hw38 => ?_⟩
        rw [show Int.toNat (i' : Int) * 1 = i' * 1 by omega] at hw38
        obtain ⟨q3, q4, q5⟩ := q2 w38 hw38
        refine ⟨inR64 (by omega), inR64 (by omega), ⟨i' + 1, j' + 1, _, by omega, by omega, by omega, by omega, q3, by simp [hxl], ?_, ?_, x10.trans q4 (fun _ h => h) (fun _ h => .inl h)⟩, by first | (dsimp only; omega) | omega⟩
        · rw [hsp]
          have hi2 : i' < (x.set i' c[j']).length := by simp; omega
          rw [List.take_succ_eq_append_getElem hi2, List.take_set_of_le (Nat.le_refl _)]
          simp [keepC, h4]
        · rw [List.drop_set_of_lt (by omega)]
          exact hdr x hxd hxl
      · have h4 : c[j'] ∈ g := by simpa using h3
        rw [hsp]; simp [keepC, h4]
    · have hjl : j' = c.length := by omega
      subst hjl
      rw [List.take_length] at hxt
      have hil : (keepC g c).length = i' := by rw [← hxt, List.length_take]; omega
      refine ⟨by omega, by omega, by omega, by omega, ?_⟩
      rw [Int.toNat_natCast]
      refine hx.cut (j := i') (by omega) (fun w40 g1 g2 g3 => ⟨by omega, by omega, by omega, by omega, ⟨s.p, i', s.c⟩, ?_, by rw [hil], by rw [← hxt]; exact g1, x10.trans g2 (fun _ h => h) (fun _ h => .inl h)⟩)
      have : Slc.sub s 1 0 i' s.c = ⟨s.p, i', s.c⟩ := by
        unfold Slc.sub
        have : s.p.map (·.add (0 * 1)) = s.p := by
          cases s.p with
          | none => rfl
          | some a => simp [Addr.add]
        rw [this]; simp
      rw [this]
end Go.D
