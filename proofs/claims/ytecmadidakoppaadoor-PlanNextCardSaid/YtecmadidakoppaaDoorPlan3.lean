/-
  WHAT IS PROVED: contracts of functions, and the plain law, for this proof. No further conditions.
-/
import Derived.Test.YtecmadidakoppaaDoorPlan2
set_option linter.unusedVariables false
set_option linter.unusedSimpArgs false
namespace Go.D
open Go Go.Proofs

/-! ### which plans are right -/
def RightP (ep : Int) (cs : List (List Int)) : Prop := (0 ≤ ep ∧ ep ≤ 1073741824) ∧ (1 ≤ cs.length ∧ cs.length ≤ 3) ∧ (∀ c ∈ cs, chainOk c) ∧ cs.flatten.Nodup
theorem flat_le (m : Nat) : ∀ (cs : List (List Int)), (∀ c ∈ cs, c.length ≤ m) → cs.flatten.length ≤ cs.length * m
  | [], _ => by simp
  | c :: cs, h => by
    have h1 := flat_le m cs (fun d hd => h d (by simp [hd]))
    have h2 := h c (by simp)
    rw [List.flatten_cons, List.length_append, List.length_cons, Nat.add_mul]; omega
theorem noTwice_nodup {l : List Int} (h : SortedTo l l.length) : NoTwice l ↔ l.Nodup := by
  constructor
  · intro hn
    rw [List.nodup_iff_pairwise_ne, List.pairwise_iff_getElem]
    intro i j hi hj hij he
    have h1 := h i (j - 1) hi (by omega)
    have h2 := h (j - 1) j (by omega) hj (by omega) (by omega)
    have h3 : l[i] ≤ l[j - 1]'(by omega) := by
      by_cases e : i = j - 1
      · subst e; exact Int.le_refl _
      · exact h i (j - 1) hi (by omega) (by omega) (by omega)
    have h4 := hn j hj (by omega)
    omega
  · intro hn j hj h0 he
    rw [List.nodup_iff_pairwise_ne, List.pairwise_iff_getElem] at hn
    exact hn (j - 1) j (by omega) hj (by omega) he.symm
theorem Right_spec (ep : Int) (s : Slc) (cs : List (List Int)) (w : World) (h : Chs w s cs) (hcl : cs.length ≤ 2 ^ 40) :
    Calls Tryd.prog fn_plan_Right ⟨[.agg ⟨[.int .i64 ep, s.v]⟩]⟩ w fun e w' => ∃ b, e = .returned (.bool b) ∧ (b = true ↔ RightP ep cs) ∧ Keep w w' := by
  have hsl := h.1
  refine plan_Right_ok _ _ ?_
  unfold plan_Right
  refine newS_mk (fun r3 w4 hr3 hb3 k4 hs4 => ?_)
  have o4 := ObjAt.new' hb3
  have no : ∀ w', Keep w w' → ¬ RightP ep cs → ∃ b, Ending.returned (Value.bool false) = .returned (.bool b) ∧ (b = true ↔ RightP ep cs) ∧ Keep w w' := fun w' k hn => ⟨false, rfl, ⟨fun hh => (by cases hh), fun hh => absurd hh hn⟩, k⟩
  refine ⟨fun w' => w' = w4 ∧ (0 ≤ ep ∧ ep ≤ 1073741824) ∧ (1 ≤ cs.length ∧ cs.length ≤ 3), ?_, ?_⟩
  · refine ⟨ep, o4.cell 0 (by simp), BIf_dec (fun h1 => no _ k4 (fun hh => by have := hh.1; omega)) (fun h1 => ?_)⟩
    refine ⟨ep, o4.cell 0 (by simp), BIf_dec (fun h2 => no _ k4 (fun hh => by have := hh.1; omega)) (fun h2 => ?_)⟩
    refine ⟨s, o4.cell 1 (by simp), BIf_dec (fun h3 => no _ k4 (fun hh => by have := hh.2.1; omega)) (fun h3 => ?_)⟩
    exact ⟨s, o4.cell 1 (by simp), BIf_dec (fun h4 => no _ k4 (fun hh => by have := hh.2.1; omega)) (fun h4 => ⟨rfl, by omega, by omega⟩)⟩
  rintro w10 ⟨rfl, hep, hlen⟩
  intros
  have h4 := h.keep k4
  refine ⟨s, o4.cell 1 (by simp), (ContainsFunc_chains_spec s cs w10 h4 hcl).mono ?_⟩
  rintro e w34 ⟨b, rfl, hb, rfl⟩
  refine ⟨b, rfl, BIf_mk (fun h1 => no _ k4 (fun hh => by have := hb.2 hh.2.2.1; rw [h1] at this; cases this)) (fun h1 => ?_)⟩
  have hch := hb.1 h1
  have hfl : cs.flatten.length ≤ 9 := by
    have := flat_le 3 cs (fun c hc => (hch c hc).2.1)
    omega
  refine ⟨ep, s, o4.row, (all_spec ep s cs w34 h4 (by omega) hcl).mono ?_⟩
  rintro e w39 ⟨t, l, rfl, hp, hs, ht, k39, ft⟩
  have hpl := hp.length_eq
  have htl := ht.sl
  refine ⟨t, rfl, (CloneP_spec t l w39 ht.ints (by omega)).mono ?_⟩
  rintro e w42 ⟨t2, rfl, ht2, k42, ft2⟩
  refine ⟨t2, rfl, (Compact_spec t2 l w42 ht2 (by omega)).mono ?_⟩
  rintro e w45 ⟨t3, rfl, h3, e45⟩
  have z4 := k4.size
  have z39 := k39.size
  refine ⟨t3, rfl, _, rfl, ?_, ((k4.trans k39).trans k42).ext e45 (fun k hk => by have := ft2 k hk; omega)⟩
  have e1 : (decide (((t3.l : Nat) : Int) = ((t.l : Nat) : Int)) = true) ↔ t3.l = l.length := by rw [htl, decide_eq_true_iff]; omega
  rw [e1, h3, noTwice_nodup hs, hp.nodup_iff]
  exact ⟨fun hh => ⟨hep, hlen, hch, hh⟩, fun hh => hh.2.2.2⟩

theorem strict_of {l : List Int} (h : SortedTo l l.length) (hn : l.Nodup) : l.Pairwise (· < ·) := by
  rw [List.pairwise_iff_getElem]
  intro i j hi hj hij
  have h1 := h i j hi hj hij hj
  rw [List.nodup_iff_pairwise_ne, List.pairwise_iff_getElem] at hn
  have h2 := hn i j hi hj hij
  omega
theorem strict_eq : ∀ {a b : List Int}, a.Pairwise (· < ·) → b.Pairwise (· < ·) → (∀ x, x ∈ a ↔ x ∈ b) → a = b
  | [], [], _, _, _ => rfl
  | [], y :: b, _, _, h => by have := (h y).2 (by simp); simp at this
  | x :: a, [], _, _, h => by have := (h x).1 (by simp); simp at this
  | x :: a, y :: b, ha, hb, h => by
    have ha' := List.pairwise_cons.1 ha
    have hb' := List.pairwise_cons.1 hb
    have hxy : x = y := by
      have h1 := (h x).1 (by simp)
      have h2 := (h y).2 (by simp)
      rw [List.mem_cons] at h1 h2
      rcases h1 with h1 | h1
      · exact h1
      · rcases h2 with h2 | h2
        · exact h2.symm
        · have := ha'.1 y h2; have := hb'.1 x h1; omega
    subst hxy
    congr 1
    refine strict_eq ha'.2 hb'.2 (fun z => ⟨fun hz => ?_, fun hz => ?_⟩)
    · have h1 := (h z).1 (by simp [hz])
      rw [List.mem_cons] at h1
      rcases h1 with rfl | h1
      · have := ha'.1 z hz; omega
      · exact h1
    · have h1 := (h z).2 (by simp [hz])
      rw [List.mem_cons] at h1
      rcases h1 with rfl | h1
      · have := hb'.1 z hz; omega
      · exact h1

theorem Units_spec (ep : Int) (s : Slc) (cs : List (List Int)) (w : World) (h : Chs w s cs) (hcl : cs.length ≤ 2 ^ 40) :
    Calls Tryd.prog fn_plan_Units ⟨[.agg ⟨[.int .i64 ep, s.v]⟩]⟩ w fun e w' => ∃ (t : Slc) (l : List Int), e = .returned t.v ∧ intsAt w' t l ∧ Keep w w' ∧ (¬ RightP ep cs → l = []) ∧ (RightP ep cs → l.Pairwise (· < ·) ∧ ∀ x, x ∈ l ↔ x ∈ cs.flatten) := by
  refine plan_Units_ok _ _ ?_
  unfold plan_Units
  refine newS_mk (fun r3 w4 hr3 hb3 k4 hs4 => ?_)
  have o4 := ObjAt.new' hb3
  refine ⟨ep, s, o4.row, (Right_spec ep s cs w4 (h.keep k4) hcl).mono ?_⟩
  rintro e w8 ⟨b, rfl, hb, k8'⟩
  have k8 := k4.trans k8'
  refine ⟨b, rfl, BIf_mk (fun h1 => ?_) (fun h1 => ?_)⟩
  · have hn : ¬ RightP ep cs := fun hh => by rw [hb.2 hh] at h1; cases h1
    exact ⟨_, [], rfl, ⟨rfl, .inl rfl⟩, k8, fun _ => rfl, fun hh => absurd hh hn⟩
  · have hr : RightP ep cs := hb.1 (by simpa using h1)
    have hfl : cs.flatten.length ≤ 9 := by
      have := flat_le 3 cs (fun c hc => (hr.2.2.1 c hc).2.1)
      have := hr.2.1
      omega
    refine ⟨ep, s, (o4.keep k8').row, (all_spec ep s cs w8 (h.keep k8) (by omega) hcl).mono ?_⟩
    rintro e w13 ⟨t, l, rfl, hp, hs, ht, k13, ft⟩
    exact ⟨t, rfl, t, l, rfl, ht.ints, k8.trans k13, fun hh => absurd hr hh, fun _ => ⟨strict_of hs (hp.nodup_iff.2 hr.2.2.2), fun x => hp.mem_iff⟩⟩

def plG : List Nat := [gl_ErrForm, gl_ErrRange]
theorem Place_spec (A : Nat → Addr) (n0 : Nat) (ep : Int) (s : Slc) (cs : List (List Int)) (a : Int) (w : World) (h : Chs w s cs) (hcl : cs.length ≤ 2 ^ 40) (hE : ErrsG plG A n0 w) :
    Calls Tryd.prog fn_plan_Place ⟨[.agg ⟨[.int .i64 ep, s.v]⟩, .int .i64 a]⟩ w fun e w' => Keep w w' ∧
      ((¬ RightP ep cs ∧ e = .returned (.tuple ⟨[.int .i64 0, .int .i64 0, errV A (errG.getD 3 0)]⟩)) ∨
       (RightP ep cs ∧ ¬ (0 ≤ a ∧ a < 4096) ∧ e = .returned (.tuple ⟨[.int .i64 0, .int .i64 0, errV A (errG.getD 0 0)]⟩)) ∨
       (RightP ep cs ∧ (0 ≤ a ∧ a < 4096) ∧ e = .returned (.tuple ⟨[.int .i64 (a % (cs.length : Int)), .int .i64 (a / (cs.length : Int)), .nilIface]⟩))) := by
  have hsl := h.1
  refine plan_Place_ok _ _ _ ?_
  unfold plan_Place
  refine newS_mk (fun r3 w4 hr3 hb3 k4 hs4 => ?_)
  have o4 := ObjAt.new' hb3
  refine ⟨ep, s, o4.row, (Right_spec ep s cs w4 (h.keep k4) hcl).mono ?_⟩
  rintro e w8 ⟨b, rfl, hb, k8'⟩
  have k8 := k4.trans k8'
  have kd := k8.drew
  refine ⟨b, rfl, BIf_mk (fun h1 => ?_) (fun h1 => ?_)⟩
  · have hn : ¬ RightP ep cs := fun hh => by rw [hb.2 hh] at h1; cases h1
    exact ⟨_, errG_at (hE.keep kd) 3 _ rfl (by simp [plG]), kd, .inl ⟨hn, rfl⟩⟩
  · have hr : RightP ep cs := hb.1 (by simpa using h1)
    refine BIf_dec (fun h2 => ⟨_, errG_at (hE.keep kd) 0 _ rfl (by simp [plG]), kd, .inr (.inl ⟨hr, by omega, rfl⟩)⟩) (fun h2 => ?_)
    refine BIf_dec (fun h3 => ⟨_, errG_at (hE.keep kd) 0 _ rfl (by simp [plG]), kd, .inr (.inl ⟨hr, by omega, rfl⟩)⟩) (fun h3 => ?_)
    have h5 := hr.2.1
    refine ⟨s, (o4.keep k8').cell 1 (by simp), by omega, by omega, by omega, by omega, inR64 (by omega), kd, .inr (.inr ⟨hr, by omega, ?_⟩)⟩
    rw [hsl]
theorem Address_spec (ep : Int) (s : Slc) (cs : List (List Int)) (c at_ : Int) (w : World) (h : Chs w s cs) (hcl : cs.length ≤ 2 ^ 40) :
    Calls Tryd.prog fn_plan_Address ⟨[.agg ⟨[.int .i64 ep, s.v]⟩, .int .i64 c, .int .i64 at_]⟩ w fun e w' => Keep w w' ∧ ∃ r : Int, e = .returned (.int .i64 r) ∧
      (RightP ep cs ∧ (0 ≤ c ∧ c < cs.length) ∧ (0 ≤ at_ ∧ at_ ≤ 4096) → r = at_ * (cs.length : Int) + c) ∧ (¬ (RightP ep cs ∧ (0 ≤ c ∧ c < cs.length) ∧ (0 ≤ at_ ∧ at_ ≤ 4096)) → r = -1) := by
  have hsl := h.1
  refine plan_Address_ok _ _ _ _ ?_
  unfold plan_Address
  refine newS_mk (fun r3 w4 hr3 hb3 k4 hs4 => ?_)
  have o4 := ObjAt.new' hb3
  refine ⟨ep, s, o4.row, (Right_spec ep s cs w4 (h.keep k4) hcl).mono ?_⟩
  rintro e w8 ⟨b, rfl, hb, k8'⟩
  have k8 := k4.trans k8'
  have no : ¬ (RightP ep cs ∧ (0 ≤ c ∧ c < cs.length) ∧ (0 ≤ at_ ∧ at_ ≤ 4096)) → Keep w w8 ∧ ∃ r : Int, Ending.returned (Value.int .i64 (-1)) = .returned (.int .i64 r) ∧
      (RightP ep cs ∧ (0 ≤ c ∧ c < cs.length) ∧ (0 ≤ at_ ∧ at_ ≤ 4096) → r = at_ * (cs.length : Int) + c) ∧ (¬ (RightP ep cs ∧ (0 ≤ c ∧ c < cs.length) ∧ (0 ≤ at_ ∧ at_ ≤ 4096)) → r = -1) := fun hn => ⟨k8, -1, rfl, fun hh => absurd hh hn, fun _ => rfl⟩
  have o8 := o4.keep k8'
  refine ⟨b, rfl, BIf_mk (fun h1 => no (fun hh => by rw [hb.2 hh.1] at h1; cases h1)) (fun h1 => ?_)⟩
  have hr : RightP ep cs := hb.1 (by simpa using h1)
  have h5 := hr.2.1
  refine BIf_dec (fun h2 => no (fun hh => by have := hh.2.1; omega)) (fun h2 => ⟨s, o8.cell 1 (by simp), BIf_dec (fun h3 => no (fun hh => by have := hh.2.1; omega)) (fun h3 => ?_)⟩)
  refine BIf_dec (fun h4 => no (fun hh => by have := hh.2.2; omega)) (fun h4 => BIf_dec (fun h6 => no (fun hh => by have := hh.2.2; omega)) (fun h6 => ?_))
  have hm : at_ * ((s.l : Nat) : Int) ≤ 4096 * 3 := by
    refine Int.le_trans (Int.mul_le_mul_of_nonneg_right (show at_ ≤ 4096 by omega) (by omega)) ?_
    omega
  have hm0 : 0 ≤ at_ * ((s.l : Nat) : Int) := Int.mul_nonneg (by omega) (by omega)
  exact ⟨s, o8.cell 1 (by simp), inR64 (by omega), inR64 (by omega), k8, _, rfl, fun _ => by rw [hsl], fun hh => absurd ⟨hr, ⟨by omega, by omega⟩, by omega, by omega⟩ hh⟩

/-! ### the tail -/
def stepT (n c : Nat) (out t : Int) : Int :=
  if 0 < t then (if out < ((if 4096 < t then 4096 else t) - 1) * (n : Int) + c + 1 then ((if 4096 < t then 4096 else t) - 1) * (n : Int) + c + 1 else out) else out
def tl (n : Nat) (ts : List Int) : Nat → Int
  | 0 => 0
  | c + 1 => stepT n c (tl n ts c) (ts.getD c 0)
theorem tl_bd (n : Nat) (hn : n ≤ 3) (ts : List Int) (k : Nat) (hk : k ≤ 3) : 0 ≤ tl n ts k ∧ tl n ts k ≤ 20000 := by
  induction k with
  | zero => simp [tl]
  | succ k ih =>
    have ih := ih (by omega)
    rw [tl, stepT]
    generalize hT : (if 4096 < ts.getD k 0 then 4096 else ts.getD k 0) = T
    have hT2 : T ≤ 4096 ∧ (0 < ts.getD k 0 → 0 < T) := by
      rw [← hT]
      constructor
      · split <;> omega
      · intro h; split <;> omega
    by_cases h0 : 0 < ts.getD k 0
    · rw [if_pos h0]
      have h1 : 0 ≤ (T - 1) * (n : Int) := Int.mul_nonneg (by have := hT2.2 h0; omega) (by omega)
      have h2 : (T - 1) * (n : Int) ≤ 4096 * 3 := by
        refine Int.le_trans (Int.mul_le_mul_of_nonneg_right (show T - 1 ≤ (4096 : Int) by omega) (by omega)) ?_
        omega
      by_cases h3 : tl n ts k < (T - 1) * (n : Int) + k + 1
      · rw [if_pos h3]; omega
      · rw [if_neg h3]; exact ih
    · rw [if_neg h0]; exact ih
theorem Tail_spec (ep : Int) (s ts : Slc) (cs : List (List Int)) (l : List Int) (w : World) (h : Chs w s cs) (hcl : cs.length ≤ 2 ^ 40) (ht : intsAt w ts l) (htc : ts.l ≤ ts.c) (hll : l.length ≤ 1000) :
    Calls Tryd.prog fn_plan_Tail ⟨[.agg ⟨[.int .i64 ep, s.v]⟩, ts.v]⟩ w fun e w' => Keep w w' ∧ ∃ r : Int, e = .returned (.int .i64 r) ∧ (¬ RightP ep cs → r = 0) ∧ (RightP ep cs → r = tl cs.length l (min cs.length l.length)) := by
  have hsl := h.1
  have htl := ht.1
  refine plan_Tail_ok _ _ _ ?_
  unfold plan_Tail
  refine newS_mk (fun r3 w4 hr3 hb3 k4 hs4 => ?_)
  have o4 := ObjAt.new' hb3
  refine ⟨ep, s, o4.row, (Right_spec ep s cs w4 (h.keep k4) hcl).mono ?_⟩
  rintro e w8 ⟨b, rfl, hb, k8'⟩
  have k8 := k4.trans k8'
  have o8 := o4.keep k8'
  refine ⟨b, rfl, BIf_mk (fun h1 => ⟨k8, 0, rfl, fun _ => rfl, fun hh => by rw [hb.2 hh] at h1; cases h1⟩) (fun h1 => ?_)⟩
  have hr : RightP ep cs := hb.1 (by simpa using h1)
  have h5 := hr.2.1
  have em : (if ((s.l : Nat) : Int) < ((ts.l : Nat) : Int) then ((s.l : Nat) : Int) else ((ts.l : Nat) : Int)) = ((min cs.length l.length : Nat) : Int) := by split <;> omega
  refine ⟨s, o8.cell 1 (by simp), by omega, by rw [em]; omega, by rw [em]; omega, by omega, ?_⟩
  rw [em, show Int.toNat ((min cs.length l.length : Nat) : Int) = min cs.length l.length by omega]
  generalize hmm : min cs.length l.length = mm
  have hm3 : mm ≤ 3 := by omega
  have hms : mm ≤ l.length := by omega
  have hsub := intsAt_sub ht (lo := 0) (hi := mm) (c := ts.c) (by omega) hms (by omega)
  rw [List.drop_zero] at hsub
  have hsubl : (Slc.sub ts 1 0 mm ts.c).l = mm := by simp [Slc.sub]
  refine ⟨fun out i w2 => ∃ k : Nat, i = k ∧ k ≤ mm ∧ out = tl cs.length l k ∧ Keep w w2 ∧ ObjAt w2 r3 [.int .i64 ep, s.v], fun _ i _ => ((mm : Int) - i).toNat, ⟨0, rfl, by omega, rfl, k8, o8⟩, ?_⟩
  rintro out i w17 ⟨k, rfl, hk, rfl, k17, o17⟩
  intros
  refine BIf_dec (fun h2 => ?_) (fun h2 => ?_)
  · rw [hsubl] at h2
    have hkm : k < mm := by omega
    obtain ⟨a, ha, hc⟩ := intsAt_cell (intsAt_keep hsub k17) (i := k) (by simp; omega)
    have e1 : (l.take mm)[k]'(by simp; omega) = l.getD k 0 := by simp [List.getD, show k < l.length by omega]
    rw [e1] at hc
    have hbd := tl_bd cs.length (by omega) l k (by omega)
    have hbd2 := tl_bd cs.length (by omega) l (k + 1) (by omega)
    refine needSome_mk ha ⟨by omega, by rw [hsubl]; omega, _, by rw [show Int.toNat (k : Int) * 1 = k by omega]; exact hc, BIf_dec (fun h3 => ?_) (fun h3 => ?_)⟩
    · refine ⟨ep, s, o17.row, inR64 (by split <;> omega), ?_⟩
      refine (Address_spec ep s cs k _ w17 (h.keep k17) hcl).mono ?_
      rintro e w41 ⟨k41, r, rfl, hr1, _⟩
      have hre := hr1 ⟨hr, by omega, by split <;> omega⟩
      have e2 : (if (r + 1) > tl cs.length l k then r + 1 else tl cs.length l k) = tl cs.length l (k + 1) := by
        rw [tl, stepT, if_pos h3, hre]
      have hrb : -1 ≤ r ∧ r ≤ 100000 := by
        have h6 : 0 ≤ ((if 4096 < l.getD k 0 then 4096 else l.getD k 0) - 1) * (cs.length : Int) := Int.mul_nonneg (by split <;> omega) (by omega)
        have h7 : ((if 4096 < l.getD k 0 then 4096 else l.getD k 0) - 1) * (cs.length : Int) ≤ 4096 * 3 := by
          refine Int.le_trans (Int.mul_le_mul_of_nonneg_right (show _ ≤ (4096 : Int) by split <;> omega) (by omega)) ?_
          omega
        omega
      exact ⟨r, rfl, inR64 (by omega), inR64 (by omega), ⟨k + 1, rfl, by omega, e2, k17.trans k41, o17.keep k41⟩, by dsimp only; omega⟩
    · refine ⟨inR64 (by omega), ⟨k + 1, rfl, by omega, by rw [tl, stepT, if_neg h3], k17, o17⟩, by dsimp only; omega⟩
  · rw [hsubl] at h2
    obtain rfl : k = mm := by omega
    exact ⟨k17, _, rfl, fun hh => absurd hr hh, fun _ => rfl⟩
end Go.D
