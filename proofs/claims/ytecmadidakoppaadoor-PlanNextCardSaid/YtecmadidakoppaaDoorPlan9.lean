/-
  WHAT IS PROVED: contracts of functions, and the plain law, for this proof. No further conditions.
-/
import Derived.Test.YtecmadidakoppaaDoorPlan8
set_option linter.unusedVariables false
set_option linter.unusedSimpArgs false
namespace Go.D
open Go Go.Proofs

theorem IntsAt.snoc {T E : TypeId} {f : Nat × Nat} {w : World} {s : Slc} {l : List Int} {x : Int} {r : Nat} {K : Slc → World → Prop} (h : IntsAt w s l) (hb : w.heap[r]? = some (.cells ⟨[.int .i64 x]⟩ T f)) (hcf : clear f 1) (hlen : l.length < 2 ^ 30)
    (hK : ∀ s' w', IntsAt w' s' (l ++ [x]) → Ext (ownB s) w w' → (∀ k, ownB s' k → ownB s k ∨ w.heap.size ≤ k) → K s' w') : appendS 1 E [.int .i64 0] w s (.slc ⟨some ⟨r, 0, none⟩, 1, 1⟩) K := by
  have h2 : Rows IntR w s l (l.map intC) := h
  exact h2.snoc (cs := intC x) (x := x) (z := [.int .i64 0]) rfl rfl (fun k hk => (foot_int hk).elim) hb hcf hlen (fun s' w' g1 g2 g3 => hK s' w' (IntsAt.of (by simpa using g1)) g2 g3)

theorem Copy_spec (ep : Int) (s : Slc) (cs : List (List Int)) (w : World) (h : Chs w s cs) (hcl : cs.length ≤ 1000) (hll : ∀ c ∈ cs, c.length ≤ 1000) :
    Calls Tryd.prog fn_plan_Copy ⟨[.agg ⟨[.int .i64 ep, s.v]⟩]⟩ w fun e w' => ∃ (t : Slc) (ts : List Slc), e = .returned (.agg ⟨[.int .i64 ep, t.v]⟩) ∧ ChO w' t ts cs ∧ (∀ k, ChB t ts k → w.heap.size ≤ k) ∧ Keep w w' := by
  have hsl := h.1
  refine plan_Copy_ok _ _ ?_
  unfold plan_Copy
  refine newS_mk (fun r3 w4 hr3 hb3 k3 hs3 => newS_mk (fun r5 w6 hr5 hb5 k5 hs5 => ?_))
  have o3 := (ObjAt.new' hb3).keep k5
  have o5 : ObjAt w6 r5 [.int .i64 0, (⟨none, 0, 0⟩ : Slc).v] := ObjAt.new' hb5
  have z3 := k3.size
  refine ⟨ep, o3.cell 0 (by simp), var_mk (cs := [.int .i64 ep, (⟨none, 0, 0⟩ : Slc).v]) rfl rfl (fun r8 w10 hr8 o8 k8 hs8 => ?_)⟩
  have k10 := (k3.trans k5).trans k8
  have z5 := k5.size
  have h8lt := o8.lt
  have h5lt := o5.lt
  have z8 := k8.size
  refine ⟨s, (o3.keep k8).cell 1 (by simp), ?_⟩
  refine ⟨fun i w2 => ∃ (k : Nat) (t : Slc) (ts : List Slc), i = k ∧ k ≤ cs.length ∧ ObjAt w2 r8 [.int .i64 ep, t.v] ∧ ObjAt w2 r5 [.int .i64 0, (⟨none, 0, 0⟩ : Slc).v] ∧ ChO w2 t ts (cs.take k) ∧ (∀ j, ChB t ts j → w10.heap.size ≤ j) ∧ Keep w w2 ∧ w10.heap.size ≤ w2.heap.size, fun i _ => ((cs.length : Int) - i).toNat,
    ⟨0, _, [], rfl, by omega, o8, o5.keep k8, ChO.new (r := 0), (by rintro j (⟨a, ha, _⟩ | ⟨t, ht, _⟩); cases ha; cases ht), k10, Nat.le_refl _⟩, ?_⟩
  rintro i w15 ⟨k, t, ts, rfl, hk, o8, o5, hC, hB, k15, z15⟩
  intros
  refine BIf_dec (fun h1 => ?_) (fun h1 => ?_)
  · have hkl : k < cs.length := by omega
    obtain ⟨a, t0, ha, hc0, ht0, _⟩ := (h.keep k15).row hkl
    have kd : Keep w15 w15.drew := Ext.drew none0 _
    have hc1 := hll _ (List.getElem_mem hkl)
    have o8d := o8.keep kd
    refine needSome_mk ha ⟨by omega, h1, t0, by rw [Int.toNat_natCast]; exact hc0, t, o8d.cell 1 (by simp), ?_⟩
    refine (CloneP_spec t0 _ _ (intsAt_keep ht0 kd) (by omega)).mono ?_
    rintro e w32 ⟨s33, rfl, h33, k32, f33⟩
    have f33' : ∀ j, ownB s33 j → w15.heap.size ≤ j := f33
    have k1532 := kd.trans k32
    refine ⟨s33, rfl, ⟨t, (o8d.keep k32).cell 1 (by simp), rfl⟩, newS_mk (fun r35 w36 hr35 hb35 k35 hs35 => ?_)⟩
    have k1536 := k1532.trans k35
    have o8e := o8.keep k1536
    have z36 := k1536.size
    have hC36 := hC.keep k1536
    refine ⟨⟨t, o8e.cell 1 (by simp), rfl⟩, ?_⟩
    refine hC36.snoc (h33.keep k35) (fun j hj hh => by have := f33' j hj; have := hC.lt j hh; omega) hb35 (.inl (by simp)) (by rw [List.length_take]; omega) (fun s' w39 g1 g2 g3 => ?_)
    have hnr : ¬ ownB t r8 := fun hh => by have := hB _ (.inl hh); omega
    have hnr5 : ¬ ownB t r5 := fun hh => by have := hB _ (.inl hh); omega
    obtain ⟨c1, c2⟩ := (o8e.ext g2 hnr).setOne 1 (by simp) s'.v
    refine ⟨c1, fun w40 hw40 => ?_⟩
    obtain ⟨o8f, g4, g5⟩ := c2 w40 hw40
    have hB' : ∀ j, ChB s' (ts ++ [s33]) j → w10.heap.size ≤ j := by
      rintro j (hj | ⟨t', ht', hj⟩)
      · exact (g3 j hj).elim (fun h => hB j (.inl h)) (fun h => by omega)
      · rcases List.mem_append.1 ht' with h | h
        · exact hB j (.inr ⟨t', h, hj⟩)
        · rw [List.mem_singleton] at h; subst h; have := f33' j hj; omega
    have z39 := g2.size
    refine ⟨inR64 (by omega), ⟨k + 1, s', _, rfl, hkl, o8f, ((o5.keep k1536).ext g2 hnr5).ext g4 (fun hh => by omega), ?_, hB', ?_, by omega⟩, by first | (dsimp only; omega) | omega⟩
    · rw [List.take_succ_eq_append_getElem hkl]
      exact g1.ext g4 (fun j hj hh => by have := hB' j hj; omega)
    · exact ((k15.trans k1536).ext g2 (fun j hj => by have := hB j (.inl hj); have := k10.size; omega)).ext g4 (fun j hj => by have := (k3.trans k5).size; omega)
  · have hkn : k = cs.length := by omega
    subst hkn
    rw [List.take_length] at hC
    obtain ⟨c1, c2⟩ := o5.setAll (n := 2) rfl (cs := [.int .i64 ep, t.v]) rfl
    refine ⟨ep, t, o8.row, c1, fun w43 hw43 => ?_⟩
    obtain ⟨o43, g4, g5⟩ := c2 w43 hw43
    refine ⟨ep, t, o43.row, t, ts, rfl, hC.ext g4 (fun j hj hh => by have := hB j hj; omega), fun j hj => by have := hB j hj; have := k10.size; omega, k15.ext g4 (fun j hj => by omega)⟩

/-! ### where a new unit comes to -/
def shortN (was now : List (List Int)) : Nat → Option Nat
  | 0 => none
  | k + 1 => match shortN was now k with | some i => some i | none => if (now.getD k []).length < (was.getD k []).length then some k else none
def leastN (now : List (List Int)) : Nat → Nat
  | 0 => 0
  | k + 1 => if (now.getD k []).length < (now.getD (leastN now k) []).length then k else leastN now k
def homeN (was now : List (List Int)) : Nat := (shortN was now now.length).getD (leastN now now.length)
theorem shortN_mono {was now : List (List Int)} {i : Nat} : ∀ {k : Nat}, shortN was now k = some i → ∀ m, shortN was now (k + m) = some i
  | k, h, 0 => h
  | k, h, m + 1 => by rw [← Nat.add_assoc, shortN, shortN_mono h m]
theorem shortN_lt {was now : List (List Int)} {i : Nat} : ∀ {k : Nat}, shortN was now k = some i → i < k
  | 0, h => by cases h
  | k + 1, h => by
    rw [shortN] at h
    cases hs : shortN was now k with
    | some j => rw [hs] at h; cases h; have := shortN_lt hs; omega
    | none =>
      rw [hs] at h
      simp only at h
      split at h
      · cases h; omega
      · cases h
theorem leastN_lt (now : List (List Int)) : ∀ (k : Nat), 0 < k → leastN now k < k
  | 1, _ => by
    rw [leastN]
    split <;> simp [leastN]
  | k + 2, _ => by
    have := leastN_lt now (k + 1) (by omega)
    rw [leastN]
    split <;> omega
theorem homeN_lt {was now : List (List Int)} (h : 0 < now.length) : homeN was now < now.length := by
  unfold homeN
  cases hs : shortN was now now.length with
  | some i => exact shortN_lt hs
  | none => exact leastN_lt now _ h
theorem getD_eq {l : List (List Int)} {k : Nat} (h : k < l.length) : l.getD k [] = l[k] := by simp [List.getD, h]
theorem home_spec (s1 s2 : Slc) (was now : List (List Int)) (w : World) (h1 : Chs w s1 was) (h2 : Chs w s2 now) (hl : was.length = now.length) (h0 : 0 < now.length) (hm : now.length ≤ 1000) :
    Calls Tryd.prog fn_plan_home ⟨[s1.v, s2.v]⟩ w fun e w' => e = .returned (.int .i64 (homeN was now : Int)) ∧ Keep w w' := by
  have hs1 := h1.1
  have hs2 := h2.1
  refine plan_home_ok _ _ ?_
  unfold plan_home
  refine ⟨fun i w2 => ∃ k : Nat, i = k ∧ k ≤ now.length ∧ Keep w w2 ∧ shortN was now k = none, fun i _ => ((now.length : Int) - i).toNat, ⟨0, rfl, by omega, Ext.refl _ _, rfl⟩, ?_⟩
  rintro i w6 ⟨k, rfl, hk, k6, hno⟩
  intros
  refine BIf_dec (fun h3 => ?_) (fun h3 => ?_)
  · have hkl : k < now.length := by omega
    have hkw : k < was.length := by omega
    have kd := k6.drew
    obtain ⟨a, t, ha, hc, ht, _⟩ := (h2.keep kd).row hkl
    obtain ⟨a2, t2, ha2, hc2, ht2, _⟩ := (h1.keep kd).row hkw
    have htl := ht.1
    have htl2 := ht2.1
    have hs : shortN was now (k + 1) = if (now[k]).length < (was[k]).length then some k else none := by
      rw [shortN, hno, getD_eq hkl, getD_eq hkw]
    refine needSome_mk ha ⟨by omega, h3, t, by rw [Int.toNat_natCast]; exact hc, needSome_mk ha2 ⟨by omega, by omega, t2, by rw [Int.toNat_natCast]; exact hc2, BIf_dec (fun h4 => ⟨?_, kd⟩) (fun h4 => ⟨inR64 (by omega), ⟨k + 1, rfl, hkl, kd, by rw [hs, if_neg (by omega)]⟩, by first | (dsimp only; omega) | omega⟩)⟩⟩
    rw [if_pos (by omega)] at hs
    have := shortN_mono hs (now.length - (k + 1))
    rw [show k + 1 + (now.length - (k + 1)) = now.length by omega] at this
    unfold homeN
    rw [this]; rfl
  · have hkn : k = now.length := by omega
    subst hkn
    refine ⟨fun b i w2 => ∃ k : Nat, i = k ∧ k ≤ now.length ∧ b = (leastN now k : Int) ∧ Keep w w2, fun _ i _ => ((now.length : Int) - i).toNat, ⟨0, rfl, by omega, rfl, k6⟩, ?_⟩
    rintro b i w32 ⟨k, rfl, hk, rfl, k32⟩
    intros
    refine BIf_dec (fun h4 => ?_) (fun h4 => ?_)
    · have hkl : k < now.length := by omega
      have hb : leastN now k < now.length := by
        cases k with
        | zero => exact h0
        | succ k => have := leastN_lt now (k + 1) (by omega); omega
      have kd := k32.drew
      obtain ⟨a, t, ha, hc, ht, _⟩ := (h2.keep kd).row hkl
      obtain ⟨a2, t2, ha2, hc2, ht2, _⟩ := (h2.keep kd).row hb
      have htl := ht.1
      have htl2 := ht2.1
      have hs : leastN now (k + 1) = if (now[k]).length < (now[leastN now k]).length then k else leastN now k := by
        rw [leastN, getD_eq hkl, getD_eq hb]
      refine needSome_mk ha ⟨by omega, h4, t, by rw [Int.toNat_natCast]; exact hc, needSome_mk ha2 ⟨by omega, by omega, t2, by rw [Int.toNat_natCast]; exact hc2, BIf_dec (fun h5 => ?_) (fun h5 => ?_)⟩⟩
      · exact ⟨inR64 (by omega), ⟨k + 1, rfl, hkl, by rw [hs, if_pos (by omega)], kd⟩, by first | (dsimp only; omega) | omega⟩
      · exact ⟨inR64 (by omega), ⟨k + 1, rfl, hkl, by rw [hs, if_neg (by omega)], kd⟩, by first | (dsimp only; omega) | omega⟩
    · have hkn : k = now.length := by omega
      subst hkn
      refine ⟨?_, k32⟩
      unfold homeN
      rw [hno]; rfl
end Go.D
