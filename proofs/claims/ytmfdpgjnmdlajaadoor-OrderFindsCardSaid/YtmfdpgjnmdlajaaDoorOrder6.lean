/-
  WHAT IS PROVED: contracts of functions, and the plain law, for this proof. No further conditions.
-/
import Derived.Test.YtmfdpgjnmdlajaaDoorOrder5
set_option linter.unusedVariables false
set_option linter.unusedSimpArgs false
namespace Go.D
open Go Go.Proofs

theorem Find_1_spec35 (e : Ev) (w : World) : Calls Tryd.prog fn_order_Find_1 ⟨[.agg ⟨evC e⟩]⟩ w fun x w' => x = .returned (.bool (!rightB e)) ∧ Keep w w' := by
  refine order_Find_1_ok _ _ _ _ _ _ _ ?_
  unfold order_Find_1
  refine newS_mk (fun r w1 hr hb hk hs => ⟨_, _, _, _, _, _, _, (ObjAt.new' hb).row, ?_⟩)
  refine (right_spec e w1).mono ?_
  rintro x w2 ⟨rfl, k2⟩
  exact ⟨_, rfl, rfl, hk.trans k2⟩
theorem Most_1_spec35 (e : Ev) (w : World) : Calls Tryd.prog fn_order_Most_1 ⟨[.agg ⟨evC e⟩]⟩ w fun x w' => x = .returned (.bool (!rightB e)) ∧ Keep w w' := by
  refine order_Most_1_ok _ _ _ _ _ _ _ ?_
  unfold order_Most_1
  refine newS_mk (fun r w1 hr hb hk hs => ⟨_, _, _, _, _, _, _, (ObjAt.new' hb).row, ?_⟩)
  refine (right_spec e w1).mono ?_
  rintro x w2 ⟨rfl, k2⟩
  exact ⟨_, rfl, rfl, hk.trans k2⟩

/-- The first event that is not right. -/
def BadAt (L : List Ev) (i : Int) : Prop := (∃ k : Nat, i = k ∧ ∃ h : k < L.length, rightB L[k] = false ∧ ∀ j (hj : j < k), rightB (L[j]'(by omega)) = true) ∨ (i = -1 ∧ ∀ j (hj : j < L.length), rightB L[j] = true)
theorem IndexFind_spec (s : Slc) (L : List Ev) (w : World) (h : EvAt w s L) (hl : L.length ≤ 2 ^ 40) :
    Calls Tryd.prog fn_slices_IndexFunc_Event ⟨[s.v, .func (.func fn_order_Find_1) ⟨[]⟩ ⟨[]⟩]⟩ w fun x w' => ∃ i, x = .returned (.int .i64 i) ∧ BadAt L i ∧ Keep w w' := by
  refine slices_IndexFunc_Event_order_Find_1_ok _ ?_
  unfold slices_IndexFunc_Event_order_Find_1
  have hsl := h.1
  refine ⟨fun i w2 => ∃ k : Nat, i = k ∧ k ≤ L.length ∧ Keep w w2 ∧ ∀ j (hj : j < L.length), j < k → rightB L[j] = true, fun i _ => ((L.length : Int) - i).toNat, ⟨0, rfl, by omega, Ext.refl _ _, fun j _ hj => by omega⟩, ?_⟩
  rintro i w2 ⟨k, rfl, hk, k2, hno⟩
  intros
  refine BIf_dec (fun h1 => ?_) (fun h1 => ⟨_, rfl, .inr ⟨rfl, fun j hj => hno j hj (by omega)⟩, k2⟩)
  have hkl : k < L.length := by omega
  obtain ⟨a, _, ha, hrow⟩ := (h.keep k2).row (n := (k : Int)) (by omega) (by omega)
  refine needSome_mk ha ⟨by omega, h1, _, _, _, _, _, _, _, hrow, ?_⟩
  simp only [Int.toNat_natCast]
  refine (Find_1_spec35 L[k] w2).mono ?_
  rintro e w25 ⟨rfl, k25⟩
  refine ⟨_, rfl, BIf_mk (fun h2 => ⟨_, rfl, .inl ⟨k, rfl, hkl, by simpa using h2, fun j hj => hno j (by omega) hj⟩, k2.trans k25⟩) (fun h2 => ?_)⟩
  refine ⟨inR64 (by omega), ⟨k + 1, rfl, hkl, k2.trans k25, fun j hj hjk => ?_⟩, by first | (dsimp only; omega) | omega⟩
  by_cases hj2 : j = k
  · subst hj2; simpa using h2
  · exact hno j hj (by omega)
theorem IndexMost_spec (s : Slc) (L : List Ev) (w : World) (h : EvAt w s L) (hl : L.length ≤ 2 ^ 40) :
    Calls Tryd.prog fn_slices_IndexFunc_Event ⟨[s.v, .func (.func fn_order_Most_1) ⟨[]⟩ ⟨[]⟩]⟩ w fun x w' => ∃ i, x = .returned (.int .i64 i) ∧ BadAt L i ∧ Keep w w' := by
  refine slices_IndexFunc_Event_order_Most_1_ok _ ?_
  unfold slices_IndexFunc_Event_order_Most_1
  have hsl := h.1
  refine ⟨fun i w2 => ∃ k : Nat, i = k ∧ k ≤ L.length ∧ Keep w w2 ∧ ∀ j (hj : j < L.length), j < k → rightB L[j] = true, fun i _ => ((L.length : Int) - i).toNat, ⟨0, rfl, by omega, Ext.refl _ _, fun j _ hj => by omega⟩, ?_⟩
  rintro i w2 ⟨k, rfl, hk, k2, hno⟩
  intros
  refine BIf_dec (fun h1 => ?_) (fun h1 => ⟨_, rfl, .inr ⟨rfl, fun j hj => hno j hj (by omega)⟩, k2⟩)
  have hkl : k < L.length := by omega
  obtain ⟨a, _, ha, hrow⟩ := (h.keep k2).row (n := (k : Int)) (by omega) (by omega)
  refine needSome_mk ha ⟨by omega, h1, _, _, _, _, _, _, _, hrow, ?_⟩
  simp only [Int.toNat_natCast]
  refine (Most_1_spec35 L[k] w2).mono ?_
  rintro e w25 ⟨rfl, k25⟩
  refine ⟨_, rfl, BIf_mk (fun h2 => ⟨_, rfl, .inl ⟨k, rfl, hkl, by simpa using h2, fun j hj => hno j (by omega) hj⟩, k2.trans k25⟩) (fun h2 => ?_)⟩
  refine ⟨inR64 (by omega), ⟨k + 1, rfl, hkl, k2.trans k25, fun j hj hjk => ?_⟩, by first | (dsimp only; omega) | omega⟩
  by_cases hj2 : j = k
  · subst hj2; simpa using h2
  · exact hno j hj (by omega)

/-! ### Find -/
def findP (L : List Ev) : Except Nat (List Int) :=
  if 12 < L.length then .error 2 else if L.all rightB = false then .error 3 else match goP L L.length [] [] with | some o => .ok o | none => .error 17
def ordG : List Nat := [gl_ErrLong, gl_ErrForm, gl_ErrClash]
theorem errG_at {G : List Nat} {A : Nat → Addr} {n0 : Nat} {w : World} (h : ErrsG G A n0 w) (k : Nat) (g : Nat) (hg : g = errG.getD k 0) (hm : g ∈ G) : w.cell? (⟨g, 0, none⟩ : Addr) = some (errO A (some k)) := by
  subst hg; exact h.at hm
/-- What Find hands back. -/
def FindRes (A : Nat → Addr) (w : World) (L : List Ev) (x : Ending) (w' : World) : Prop :=
  Keep w w' ∧ match findP L with
    | .ok o => ∃ t : Slc, x = .returned (.tuple ⟨[t.v, .nilIface]⟩) ∧ Own w' t 1 (o.map intV) ∧ Fresh w t
    | .error k => x = .returned (.tuple ⟨[(⟨none, 0, 0⟩ : Slc).v, errO A (some k)]⟩)
theorem Find_spec35 (A : Nat → Addr) {n0 : Nat} (s : Slc) (L : List Ev) (w : World) (h : EvAt w s L) (hl : L.length ≤ 2 ^ 20) (hE : ErrsG ordG A n0 w) :
    Calls Tryd.prog fn_order_Find ⟨[s.v]⟩ w fun x w' => FindRes A w L x w' := by
  have hsl := h.1
  refine order_Find_ok _ ?_
  unfold order_Find
  refine BIf_dec (fun h1 => ⟨_, errG_at (hE.keep (Ext.drew _ _)) 2 _ rfl (by simp [ordG]), Ext.drew _ _, ?_⟩) (fun h1 => ?_)
  · have : findP L = .error 2 := by unfold findP; rw [if_pos (by omega)]
    rw [this]
  · have hcf : Calls Tryd.prog fn_slices_ContainsFunc_Event ⟨[s.v, .func (.func fn_order_Find_1) ⟨[]⟩ ⟨[]⟩]⟩ w fun x w' => x = .returned (.bool (!L.all rightB)) ∧ Keep w w' := by
      refine slices_ContainsFunc_Event_order_Find_1_ok _ ?_
      unfold slices_ContainsFunc_Event_order_Find_1
      refine (IndexFind_spec s L w h (by omega)).mono ?_
      rintro x w3 ⟨i, rfl, hb, k3⟩
      refine ⟨_, rfl, ?_, k3⟩
      rcases hb with ⟨k, rfl, hk, hr, _⟩ | ⟨rfl, hall⟩
      · have : L.all rightB = false := by rw [List.all_eq_false]; exact ⟨_, List.getElem_mem hk, by simp [hr]⟩
        rw [this]; simp
      · have : L.all rightB = true := by rw [List.all_eq_true]; intro e he; obtain ⟨j, hj, rfl⟩ := List.getElem_of_mem he; exact hall j hj
        rw [this]; rfl
    refine hcf.mono ?_
    rintro x w4 ⟨rfl, k4⟩
    refine ⟨_, rfl, BIf_mk (fun h2 => ⟨_, errG_at (hE.keep k4.drew) 3 _ rfl (by simp [ordG]), k4.drew, ?_⟩) (fun h2 => ?_)⟩
    · have : findP L = .error 3 := by unfold findP; rw [if_neg (by omega), if_pos (by simpa using h2)]
      rw [this]
    · have hall : L.all rightB = true := by simpa using h2
      refine ⟨by omega, by omega, by omega, newS_mk (fun r7 w8 hr7 hb7 k7 hs7 => newS_mk (fun r9 w10 hr9 hb9 k9 hs9 => newS_mk (fun r11 w12 hr11 hb11 k11 hs11 => ?_)))⟩
      have z4 := k4.size
      have z7 := k7.size
      have z9 := k9.size
      have k12 := ((k4.trans k7).trans k9).trans k11
      have S : SrchAt w12 r9 r7 s ⟨none, 0, 0⟩ L [] := ⟨by rw [← hsl]; exact (ObjAt.new' hb9).keep k11, by rw [usedOf_nil, ← hsl]; exact ((ObjAt.new' hb7).keep k9).keep k11, Own.nil _ _, h.keep k12, by omega,
        (by rintro ⟨a, ha, _⟩; cases ha), (by rintro ⟨a, ha, _⟩; cases ha), fun h0 k hk => ⟨by have := h.lt h0 k hk; omega, by have := h.lt h0 k hk; omega, by rintro ⟨a, ha, _⟩; cases ha⟩⟩
      refine (goOn_spec L r9 r7 s hl L.length [] [] r11 ⟨none, 0, 0⟩ w12 (by simp) S (MapAt.new hb11) (fun hh => by rcases hh with hh | hh | ⟨a, ha, _⟩; omega; omega; cases ha)).mono ?_
      rintro x w14 ⟨so, rfl, S14, f14⟩
      have hK : ∀ k, SM r9 r7 ⟨none, 0, 0⟩ k → w.heap.size ≤ k := by
        rintro k (rfl | rfl | ⟨a, ha, _⟩)
        · omega
        · omega
        · cases ha
      obtain ⟨k14, hf14⟩ := f14.new k12 hK
      refine ⟨_, rfl, BIf_mk (fun h3 => ⟨_, errG_at (hE.keep k14.drew) 17 _ rfl (by simp [ordG]), k14.drew, ?_⟩) (fun h3 => ?_)⟩
      · have hn : goP L L.length [] [] = none := by simpa using h3
        have : findP L = .error 17 := by unfold findP; rw [if_neg (by omega), if_neg (by rw [hall]; simp), hn]
        rw [this]
      · obtain ⟨o, ho⟩ : ∃ o, goP L L.length [] [] = some o := Option.isSome_iff_exists.1 (by simpa using h3)
        rw [ho] at S14
        have : findP L = .ok o := by unfold findP; rw [if_neg (by omega), if_neg (by rw [hall]; simp), ho]
        refine ⟨_, by have := S14.c2; rwa [add_lit] at this, k14, ?_⟩
        rw [this]
        exact ⟨so, rfl, S14.od, fun k hk => hf14 k (.inr (.inr hk))⟩

/-! ### Most -/
def fndB (L : List Ev) : Bool := match findP L with | .ok _ => true | .error _ => false
/-- From where Most goes down. -/
def IsStart (L : List Ev) (m : Nat) : Prop := m ≤ L.length ∧ m ≤ 12 ∧ (∀ j (h : j < L.length), j < m → rightB L[j] = true) ∧ (m = min L.length 12 ∨ ∃ h : m < L.length, m < 12 ∧ rightB L[m] = false)
theorem Most_spec35 (A : Nat → Addr) {n0 : Nat} (s : Slc) (L : List Ev) (w : World) (h : EvAt w s L) (hl : L.length ≤ 2 ^ 20) (hE : ErrsG ordG A n0 w) :
    Calls Tryd.prog fn_order_Most ⟨[s.v]⟩ w fun x w' => ∃ r m : Nat, x = .returned (.int .i64 (r : Int)) ∧ IsStart L m ∧ r ≤ m ∧ fndB (L.take r) = true ∧ (∀ j, r < j → j ≤ m → fndB (L.take j) = false) ∧ Keep w w' := by
  have hsl := h.1
  have hsc := h.2.1
  refine order_Most_ok _ ?_
  unfold order_Most
  obtain ⟨m0, hm0⟩ : ∃ m0 : Nat, m0 = min L.length 12 := ⟨_, rfl⟩
  have e0 : (if (12 : Int) < ((s.l : Nat) : Int) then (12 : Int) else ((s.l : Nat) : Int)) = (m0 : Int) := by split <;> omega
  rw [e0]
  refine ⟨fun i w2 => ∃ (k m : Nat), i = k ∧ IsStart L m ∧ k ≤ m ∧ Keep w w2 ∧ ∀ j, k < j → j ≤ m → fndB (L.take j) = false, fun i _ => i.toNat, ?_, ?_⟩
  · refine ⟨by omega, by omega, by omega, by omega, ?_⟩
    rw [sub0, Int.toNat_natCast]
    refine (IndexMost_spec ⟨s.p, m0, s.c⟩ (L.take m0) w (h.sub m0 (by omega)) (by simp; omega)).mono ?_
    rintro x w34 ⟨i, rfl, hb, k34⟩
    refine ⟨_, rfl, BIf_dec (fun h1 => ?_) (fun h1 => ?_)⟩
    · rcases hb with ⟨k, rfl, hk, hr, hall⟩ | ⟨rfl, _⟩
      · have hk2 : k < m0 := by simp at hk; omega
        refine ⟨k, k, rfl, ⟨by omega, by omega, fun j hj hjk => by have := hall j hjk; simpa using this, .inr ⟨by omega, by omega, by simpa using hr⟩⟩, by omega, k34, fun j h1 h2 => by omega⟩
      · omega
    · rcases hb with ⟨k, rfl, hk, hr, hall⟩ | ⟨rfl, hall⟩
      · omega
      · refine ⟨m0, m0, rfl, ⟨by omega, by omega, fun j hj hjk => by have := hall j (by simp; omega); simpa using this, .inl hm0⟩, by omega, k34, fun j h1 h2 => by omega⟩
  · rintro n4 w5 ⟨k, m, rfl, hst, hkm, k5, hno⟩
    intros
    have hmL := hst.1
    have hm12 := hst.2.1
    refine ⟨by omega, by omega, by omega, by omega, ?_⟩
    rw [sub0, Int.toNat_natCast]
    refine (Find_spec35 A ⟨s.p, k, s.c⟩ (L.take k) w5 ((h.keep k5).sub k (by omega)) (by simp; omega) (hE.keep k5)).mono ?_
    rintro x w38 ⟨k38, hres⟩
    cases hf : findP (L.take k) with
    | ok o =>
      rw [hf] at hres
      obtain ⟨t, rfl, ht, _⟩ := hres
      refine ⟨_, _, rfl, trivial, BIf_mk (fun h => by cases h) (fun _ => ⟨k, m, rfl, hst, hkm, by unfold fndB; rw [hf], hno, k5.trans k38⟩)⟩
    | error e =>
      rw [hf] at hres
      simp only at hres
      subst hres
      refine ⟨_, _, rfl, errO_isI _ _, BIf_mk (fun _ => ?_) (fun h => by rw [errO_nil] at h; cases h)⟩
      have hk0 : k ≠ 0 := by
        rintro rfl
        have : findP (L.take 0) = .ok [] := by simp [findP, goP]
        rw [this] at hf; cases hf
      refine ⟨inR64 (by omega), ⟨k - 1, m, by omega, hst, by omega, k5.trans k38, fun j h1 h2 => ?_⟩, by dsimp only; omega⟩
      by_cases hjk : j = k
      · subst hjk; unfold fndB; rw [hf]
      · exact hno j (by omega) h2
end Go.D
