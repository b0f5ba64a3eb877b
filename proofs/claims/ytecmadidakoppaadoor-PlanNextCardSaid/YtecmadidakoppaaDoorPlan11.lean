/-
  WHAT IS PROVED: contracts of functions, and the plain law, for this proof. No further conditions.
-/
import Derived.Test.YtecmadidakoppaaDoorPlan10
set_option linter.unusedVariables false
set_option linter.unusedSimpArgs false
set_option maxRecDepth 4000
namespace Go.D
open Go Go.Proofs

def homeI : Option Nat → Int
  | some j => (j : Int)
  | none => -1
theorem homeI_neg {o : Option Nat} : homeI o < 0 ↔ o = none := by
  cases o <;> simp [homeI]

theorem refReplace_spec (ep : Int) (s sg : Slc) (cs : List (List Int)) (g : List Int) (fresh : Int) (w : World) (h : Chs w s cs) (hcl : cs.length ≤ 1000) (hll : ∀ c ∈ cs, c.length ≤ 1000) (hg : intsAt w sg g) (hgl : g.length ≤ 1000) :
    Calls Tryd.prog fn_tidewaterref10_Replace ⟨[.agg ⟨[.int .i64 ep, s.v]⟩, sg.v, .int .i64 fresh]⟩ w fun x w' => ∃ rb : Bool, (rb = true ↔ RightP ep cs) ∧ Keep w w' ∧ match replP rb ep cs g fresh with
      | .ok (q, ds) => ∃ (t : Slc), x = .returned (.tuple ⟨[.agg ⟨[.int .i64 q, t.v]⟩, .int .i64 0]⟩) ∧ Chs w' t ds
      | .error k => x = .returned (.tuple ⟨[.agg ⟨[.int .i64 0, (⟨none, 0, 0⟩ : Slc).v]⟩, .int .i64 ((k + 1 : Nat) : Int)]⟩) := by
  have hsl := h.1
  refine tidewaterref10_Replace_ok _ _ _ _ ?_
  unfold tidewaterref10_Replace
  refine newS_mk (fun r5 w6 hr5 hb5 k5 hs5 => newS_mk (fun r7 w8 hr7 hb7 k7 hs7 => ?_))
  have z5 := k5.size
  have o5 := (ObjAt.new' hb5).keep k7
  have o7 : ObjAt w8 r7 [.int .i64 0, (⟨none, 0, 0⟩ : Slc).v] := ObjAt.new' hb7
  have k8 := k5.trans k7
  refine ⟨ep, s, o5.row, (refRight10_spec ep s cs w8 (h.keep k8) hcl).mono ?_⟩
  rintro e w12 ⟨rb, rfl, hrb, k12⟩
  have kk12 := k8.trans k12
  have o5 := o5.keep k12
  have o7 := o7.keep k12
  have h7lt := o7.lt
  -- an error is handed back
  have errRet : ∀ {w2 : World} (k : Nat) (n : Int), Keep w w2 → ObjAt w2 r7 [.int .i64 0, (⟨none, 0, 0⟩ : Slc).v] → n = ((k + 1 : Nat) : Int) → replP rb ep cs g fresh = .error k →
      canW w2 (⟨r7, 0, none⟩ : Addr) 2 ∧ ∀ w17 : World, w17 = setCells w2 (⟨r7, 0, none⟩ : Addr) 0 [(Value.int .i64 (0 : Int)), (Slc.v (⟨none, 0, 0⟩ : Slc))] →
        ∃ n19 : Int, ∃ s20 : Slc, rowAt w17 (⟨r7, 0, none⟩ : Addr) 0 [(Value.int .i64 n19), (Slc.v s20)] ∧
          ∃ rb : Bool, (rb = true ↔ RightP ep cs) ∧ Keep w w17 ∧ match replP rb ep cs g fresh with
            | .ok (q, ds) => ∃ (t : Slc), Ending.returned (Value.tuple ⟨[(Value.agg ⟨[(Value.int .i64 n19), (Slc.v s20)]⟩), .int .i64 n]⟩) = .returned (.tuple ⟨[.agg ⟨[.int .i64 q, t.v]⟩, .int .i64 0]⟩) ∧ Chs w17 t ds
            | .error k => Ending.returned (Value.tuple ⟨[(Value.agg ⟨[(Value.int .i64 n19), (Slc.v s20)]⟩), .int .i64 n]⟩) = .returned (.tuple ⟨[.agg ⟨[.int .i64 0, (⟨none, 0, 0⟩ : Slc).v]⟩, .int .i64 ((k + 1 : Nat) : Int)]⟩) := by
    intro w2 k n k2 o2 hn hres
    obtain ⟨c1, c2⟩ := o2.setAll (n := 2) rfl (cs := [.int .i64 0, (⟨none, 0, 0⟩ : Slc).v]) rfl
    refine ⟨c1, fun w17 hw17 => ?_⟩
    obtain ⟨o17, g4, g5⟩ := c2 w17 hw17
    refine ⟨0, _, o17.row, rb, hrb, k2.ext g4 (fun j hj => by omega), ?_⟩
    rw [hres, hn]
  refine ⟨rb, rfl, BIf_mk (fun h1 => ?_) (fun h1 => ?_)⟩
  · exact errRet 3 4 kk12 o7 rfl (by unfold replP; rw [if_pos (by simpa using h1)])
  have hrt : rb = true := by simpa using h1
  have hr : RightP ep cs := hrb.1 hrt
  refine ⟨_, o5.cell 0 (by simp), BIf_dec (fun h2 => ?_) (fun h2 => ?_)⟩
  · exact errRet 13 14 kk12 o7 rfl (by unfold replP; rw [if_neg (by rw [hrt]; simp), if_pos h2])
  have hc3 := hr.2.1
  have hcl3 : ∀ c ∈ cs, c.length ≤ 3 := fun c hc => (hr.2.2.1 c hc).2.1
  refine ⟨_, o5.cell 0 (by simp), inR64 (by have := hr.1; omega), var_mk (cs := [.int .i64 (ep + 1), (⟨none, 0, 0⟩ : Slc).v]) rfl rfl (fun r22 w24 hr22 o22 k22 hs22 => ?_)⟩
  have o5 := o5.keep k22
  have o7 := o7.keep k22
  have kk24 := kk12.trans k22
  have z24 := kk24.size
  have h22lt := o22.lt
  have h7lt' := o7.lt
  have h5lt' := o5.lt
  obtain ⟨ds, hds⟩ : ∃ ds, ds = cs.map (keepC g) := ⟨_, rfl⟩
  have hdl : ds.length = cs.length := by rw [hds, List.length_map]
  have hdk : ∀ k (hk : k < cs.length), ds[k]'(by omega) = keepC g cs[k] := fun k hk => by subst hds; simp
  refine ⟨s, o5.cell 1 (by simp), ?_⟩
  refine ⟨fun hm ls i w2 => ∃ (k : Nat) (t : Slc) (ts : List Slc), i = k ∧ k ≤ cs.length ∧ hm = homeI (shortN cs ds k) ∧ ls = (leastN ds k : Int) ∧ ObjAt w2 r22 [.int .i64 (ep + 1), t.v] ∧ ObjAt w2 r7 [.int .i64 0, (⟨none, 0, 0⟩ : Slc).v] ∧ ObjAt w2 r5 [.int .i64 ep, s.v] ∧ ChO w2 t ts (ds.take k) ∧ (∀ j, ChB t ts j → w24.heap.size ≤ j) ∧ Keep w w2 ∧ w24.heap.size ≤ w2.heap.size ∧ ∀ d ∈ ds.take k, d ≠ [], fun _ _ i _ => ((cs.length : Int) - i).toNat,
    ⟨0, _, [], rfl, by omega, rfl, rfl, o22, o7, o5, by simpa using ChO.new (r := 0), (by rintro j (⟨a, ha, _⟩ | ⟨t, ht, _⟩); cases ha; cases ht), kk24, Nat.le_refl _, fun d hd => by simp at hd⟩, ?_⟩
  rintro hm ls i w31 ⟨k, t, ts, rfl, hk, rfl, rfl, o22, o7, o5, hC, hB, k31, z31, hne⟩
  intros
  refine BIf_dec (fun h3 => ?_) (fun h3 => ?_)
  · have hkl : k < cs.length := by omega
    obtain ⟨a, t0, ha, hc0, ht0, _⟩ := h.row hkl
    have hck := hcl3 _ (List.getElem_mem hkl)
    have ht0l := ht0.1
    refine needSome_mk ha ⟨by omega, h3, t0, by rw [Int.toNat_natCast]; exact k31.cell hc0, newS_mk (fun r90 w91 hr90 hb90 k90 hs90 => ?_)⟩
    refine ⟨fun l i w2 => ∃ j : Nat, i = j ∧ j ≤ (cs[k]).length ∧ IntsAt w2 l (keepC g (cs[k].take j)) ∧ Fresh w31 l ∧ Keep w31 w2, fun _ i _ => (((cs[k]).length : Int) - i).toNat, ⟨0, rfl, by omega, by simpa [keepC] using IntsAt.new hb90, Fresh.at (by omega), k90⟩, ?_⟩
    rintro l94 i w96 ⟨j, rfl, hj, hI, hf, k96⟩
    intros
    have kk96 := k31.trans k96
    refine BIf_dec (fun h4 => ?_) (fun h4 => ?_)
    · have hjl : j < (cs[k]).length := by omega
      obtain ⟨p, hp, hcp⟩ := intsAt_cell (intsAt_keep ht0 kk96) hjl
      refine needSome_mk hp ⟨by omega, h4, _, by rw [show Int.toNat (j : Int) * 1 = j by omega]; exact hcp, ?_⟩
      refine (In_spec sg g _ w96 (intsAt_keep hg kk96) (by omega)).mono ?_
      rintro e w113 ⟨rfl, rfl⟩
      have hsp : keepC g (cs[k].take (j + 1)) = keepC g (cs[k].take j) ++ keepC g [cs[k][j]] := by
        rw [List.take_succ_eq_append_getElem hjl]; unfold keepC; rw [List.filter_append]
      have hkl2 := keepC_len g (cs[k].take j)
      have htk : (cs[k].take j).length ≤ 3 := by rw [List.length_take]; omega
      refine ⟨_, rfl, BIf_mk (fun h5 => ?_) (fun h5 => ?_)⟩
      · have h6 : ¬ cs[k][j] ∈ g := by simpa using h5
        refine hI.push hf k96 (by omega) (fun s' w' g1 g2 g3 g4 g5 => ?_)
        refine ⟨inR64 (by omega), ⟨j + 1, rfl, hjl, ?_, g2, g3⟩, by first | (dsimp only; omega) | omega⟩
        rw [hsp]; simpa [keepC, h6] using g1
      · have h6 : cs[k][j] ∈ g := by simpa using h5
        refine ⟨inR64 (by omega), ⟨j + 1, rfl, hjl, ?_, hf, k96⟩, by first | (dsimp only; omega) | omega⟩
        rw [hsp]; simpa [keepC, h6] using hI
    · have hjl : j = (cs[k]).length := by omega
      subst hjl
      rw [List.take_length, ← hdk k hkl] at hI
      have hIl := hI.sl
      have hdk2 := hdk k hkl
      refine BIf_dec (fun h5 => ?_) (fun h5 => ?_)
      · refine errRet 15 16 kk96 (o7.keep k96) rfl ?_
        unfold replP
        rw [if_neg (by rw [hrt]; simp), if_neg h2, if_pos]
        rw [List.any_eq_true]
        refine ⟨ds[k]'(by omega), by rw [← hds]; exact List.getElem_mem _, ?_⟩
        rw [List.isEmpty_iff, ← List.length_eq_zero_iff]; omega
      refine ⟨t, (o22.keep k96).cell 1 (by simp), newS_mk (fun r123 w124 hr123 hb123 k123 hs123 => ?_)⟩
      have k31124 := k96.trans k123
      have hC124 := hC.keep k31124
      have z96 := k96.size
      refine hC124.snoc (hI.keep k123) (fun j hj hh => by have := hf j hj; have := hC.lt j hh; omega) hb123 (.inl (by simp)) (by rw [List.length_take]; omega) (fun s' w126 g1 g2 g3 => ?_)
      have hBt : ∀ j, ownB t j → w24.heap.size ≤ j := fun j hj => hB j (.inl hj)
      obtain ⟨c1, c2⟩ := ((o22.keep k31124).ext g2 (fun hh => by have := hBt _ hh; omega)).setOne 1 (by simp) s'.v
      refine ⟨c1, fun w127 hw127 => ?_⟩
      obtain ⟨o127, g4, g5⟩ := c2 w127 hw127
      rw [← List.take_succ_eq_append_getElem] at g1
      have z123 := k123.size
      have hB' : ∀ j, ChB s' (ts ++ [l94]) j → w24.heap.size ≤ j := by
        rintro j (hj | ⟨t', ht', hj⟩)
        · exact (g3 j hj).elim (fun h => hB j (.inl h)) (fun h => by omega)
        · rcases List.mem_append.1 ht' with h | h
          · exact hB j (.inr ⟨t', h, hj⟩)
          · rw [List.mem_singleton] at h; subst h; have := hf j hj; omega
      have hC127 := g1.ext g4 (fun j hj hh => by have := hB' j hj; omega)
      have k127 : Keep w w127 := ((k31.trans k31124).ext g2 (fun j hj => by have := hBt j hj; omega)).ext g4 (fun j hj => by omega)
      have o7' := ((o7.keep k31124).ext g2 (fun hh => by have := hBt _ hh; omega)).ext g4 (fun hh => by omega)
      have o5' := ((o5.keep k31124).ext g2 (fun hh => by have := hBt _ hh; omega)).ext g4 (fun hh => by omega)
      have z126 := g2.size
      have hlk : leastN ds k < k + 1 := by
        cases k with
        | zero => simp [leastN]
        | succ k => have := leastN_lt ds (k + 1) (by omega); omega
      obtain ⟨a2, hi2, ha2, hcell2, hI2⟩ := hC127.get (i := leastN ds k) (by rw [List.length_take]; omega)
      have hI2l := hI2.sl
      have hsl127 := hC127.sl
      rw [List.length_take] at hsl127
      have hgt : (ds.take (k + 1))[leastN ds k]'(by rw [List.length_take]; omega) = ds[leastN ds k]'(by omega) := by simp
      rw [hgt] at hI2l
      generalize (ts ++ [l94])[leastN ds k] = tl2 at hcell2 hI2l
      have hsk : shortN cs ds (k + 1) = match shortN cs ds k with | some i => some i | none => if (ds[k]'(by omega)).length < (cs[k]).length then some k else none := by
        rw [shortN, getD_eq (by omega : k < ds.length), getD_eq hkl]
        cases shortN cs ds k <;> rfl
      have hlk2 : leastN ds (k + 1) = if (ds[k]'(by omega)).length < (ds[leastN ds k]'(by omega)).length then k else leastN ds k := by
        rw [leastN, getD_eq (by omega : k < ds.length), getD_eq (by omega : leastN ds k < ds.length)]
      have hnek : ∀ d ∈ ds.take (k + 1), d ≠ [] := by
        intro d hd
        rw [List.take_succ_eq_append_getElem (by omega : k < ds.length)] at hd
        rcases List.mem_append.1 hd with h6 | h6
        · exact hne d h6
        · rw [List.mem_singleton] at h6
          subst h6
          intro hh
          rw [hh] at hIl
          simp at hIl
          omega
      have fin : ∀ (hm2 ls2 : Int), hm2 = homeI (shortN cs ds (k + 1)) → ls2 = (leastN ds (k + 1) : Int) → inR .i64 ((k : Int) + 1) ∧ (∃ (k2 : Nat) (t : Slc) (ts : List Slc), ((k : Int) + 1) = k2 ∧ k2 ≤ cs.length ∧ hm2 = homeI (shortN cs ds k2) ∧ ls2 = (leastN ds k2 : Int) ∧ ObjAt w127 r22 [.int .i64 (ep + 1), t.v] ∧ ObjAt w127 r7 [.int .i64 0, (⟨none, 0, 0⟩ : Slc).v] ∧ ObjAt w127 r5 [.int .i64 ep, s.v] ∧ ChO w127 t ts (ds.take k2) ∧ (∀ j, ChB t ts j → w24.heap.size ≤ j) ∧ Keep w w127 ∧ w24.heap.size ≤ w127.heap.size ∧ ∀ d ∈ ds.take k2, d ≠ []) ∧ ((cs.length : Int) - ((k : Int) + 1)).toNat < ((cs.length : Int) - (k : Int)).toNat := by
        intro hm2 ls2 e1 e2
        exact ⟨inR64 (by omega), ⟨k + 1, s', _, rfl, hkl, e1, e2, o127, o7', o5', hC127, hB', k127, by omega, hnek⟩, by omega⟩
      refine BIf_dec (fun h6 => ?_) (fun h6 => ?_)
      · have hno := homeI_neg.1 h6
        rw [hno] at hsk
        simp only at hsk
        refine BIf_dec (fun h7 => ?_) (fun h7 => ?_)
        · rw [if_pos (by omega)] at hsk
          refine ⟨s', o127.cell 1 (by simp), needSome_mk ha2 ⟨by omega, by omega, tl2, by rw [Int.toNat_natCast]; exact hcell2, BIf_dec (fun h8 => fin _ _ (by rw [hsk]; rfl) (by rw [hlk2, if_pos (by omega)])) (fun h8 => fin _ _ (by rw [hsk]; rfl) (by rw [hlk2, if_neg (by omega)]))⟩⟩
        · rw [if_neg (by omega)] at hsk
          refine ⟨s', o127.cell 1 (by simp), needSome_mk ha2 ⟨by omega, by omega, tl2, by rw [Int.toNat_natCast]; exact hcell2, BIf_dec (fun h8 => fin _ _ (by rw [hsk, hno]) (by rw [hlk2, if_pos (by omega)])) (fun h8 => fin _ _ (by rw [hsk, hno]) (by rw [hlk2, if_neg (by omega)]))⟩⟩
      · obtain ⟨jj, hjj⟩ : ∃ jj, shortN cs ds k = some jj := by
          cases hh : shortN cs ds k with
          | some jj => exact ⟨jj, rfl⟩
          | none => exact absurd (homeI_neg.2 hh) h6
        rw [hjj] at hsk
        simp only at hsk
        refine ⟨s', o127.cell 1 (by simp), needSome_mk ha2 ⟨by omega, by omega, tl2, by rw [Int.toNat_natCast]; exact hcell2, BIf_dec (fun h8 => fin _ _ (by rw [hsk, hjj]) (by rw [hlk2, if_pos (by omega)])) (fun h8 => fin _ _ (by rw [hsk, hjj]) (by rw [hlk2, if_neg (by omega)]))⟩⟩
  · have hkn : k = cs.length := by omega
    subst hkn
    have htk : ds.take cs.length = ds := by rw [← hdl, List.take_length]
    rw [htk] at hC hne
    have hany : ¬ (cs.map (keepC g)).any (·.isEmpty) = true := by
      rw [← hds, List.any_eq_true]
      rintro ⟨d, hd, he⟩
      exact hne d hd (List.isEmpty_iff.1 he)
    have base : ∀ X, replP rb ep cs g fresh = X ↔ (if fresh < 0 then .ok (ep + 1, ds) else if 12 ≤ fresh then .error 0 else if fresh ∈ cs.flatten then .error 16 else if 3 ≤ (ds.getD (homeN cs ds) []).length then .error 12 else .ok (ep + 1, ds.set (homeN cs ds) (ds.getD (homeN cs ds) [] ++ [fresh]))) = X := by
      intro X
      unfold replP
      rw [if_neg (by rw [hrt]; simp), if_neg h2, if_neg hany, hds]
    -- a plan is handed back
    have okRet : ∀ {w2 : World} (t : Slc) (ts : List Slc) (fs : List (List Int)), Keep w w2 → ObjAt w2 r7 [.int .i64 0, (⟨none, 0, 0⟩ : Slc).v] → ObjAt w2 r22 [.int .i64 (ep + 1), t.v] → ChO w2 t ts fs → (∀ j, ChB t ts j → j ≠ r7) → replP rb ep cs g fresh = .ok (ep + 1, fs) →
        ∃ n84 : Int, ∃ s85 : Slc, rowAt w2 (⟨r22, 0, none⟩ : Addr) 0 [(Value.int .i64 n84), (Slc.v s85)] ∧ canW w2 (⟨r7, 0, none⟩ : Addr) 2 ∧ ∀ w86 : World, w86 = setCells w2 (⟨r7, 0, none⟩ : Addr) 0 [(Value.int .i64 n84), (Slc.v s85)] →
          ∃ n87 : Int, ∃ s88 : Slc, rowAt w86 (⟨r7, 0, none⟩ : Addr) 0 [(Value.int .i64 n87), (Slc.v s88)] ∧ ∃ rb : Bool, (rb = true ↔ RightP ep cs) ∧ Keep w w86 ∧ match replP rb ep cs g fresh with
            | .ok (q, ds) => ∃ (t : Slc), Ending.returned (Value.tuple ⟨[(Value.agg ⟨[(Value.int .i64 n87), (Slc.v s88)]⟩), .int .i64 0]⟩) = .returned (.tuple ⟨[.agg ⟨[.int .i64 q, t.v]⟩, .int .i64 0]⟩) ∧ Chs w86 t ds
            | .error k => Ending.returned (Value.tuple ⟨[(Value.agg ⟨[(Value.int .i64 n87), (Slc.v s88)]⟩), .int .i64 0]⟩) = .returned (.tuple ⟨[.agg ⟨[.int .i64 0, (⟨none, 0, 0⟩ : Slc).v]⟩, .int .i64 ((k + 1 : Nat) : Int)]⟩) := by
      intro w2 t ts fs k2 o2 o33 hC2 hB2 hres
      obtain ⟨c1, c2⟩ := o2.setAll (n := 2) rfl (cs := [.int .i64 (ep + 1), t.v]) rfl
      refine ⟨ep + 1, t, o33.row, c1, fun w86 hw86 => ?_⟩
      obtain ⟨o86, g4, g5⟩ := c2 w86 hw86
      refine ⟨ep + 1, t, o86.row, rb, hrb, k2.ext g4 (fun j hj => by omega), ?_⟩
      rw [hres]
      exact ⟨t, rfl, (hC2.ext g4 hB2).chs⟩
    have hB7 : ∀ j, ChB t ts j → j ≠ r7 := fun j hj => by have := hB j hj; omega
    refine BIf_dec (fun h4 => ?_) (fun h4 => BIf_dec (fun h5 => ?_) (fun h5 => ?_))
    · exact okRet t ts ds k31 o7 o22 hC hB7 ((base _).2 (by rw [if_pos h4]))
    · exact errRet 0 1 k31 o7 rfl ((base _).2 (by rw [if_neg h4, if_pos (by omega)]))
    · refine ⟨ep, s, o5.row, (refUnits10_spec ep s cs w31 (h.keep k31) hcl hll).mono ?_⟩
      rintro e w148 ⟨s149, rfl, hI149, k148⟩
      have hule := ul_le cs 12
      have hcs12 : 12 * cs.length ≤ 12 * 1000 := Nat.mul_le_mul_left _ hcl
      refine ⟨s149, rfl, (In_spec s149 _ fresh w148 hI149.ints (by omega)).mono ?_⟩
      rintro e w151 ⟨rfl, rfl⟩
      have hmem : fresh ∈ ul cs 12 ↔ fresh ∈ cs.flatten := by
        rw [(ul_law hr.2.2.2 12).2]
        exact ⟨fun hh => hh.2, fun hh => ⟨by omega, hh⟩⟩
      have kw151 := k31.trans k148
      have o7b := o7.keep k148
      have o22b := o22.keep k148
      refine ⟨_, rfl, BIf_dec (fun h6 => ?_) (fun h6 => ?_)⟩
      · exact errRet 16 17 kw151 o7b rfl ((base _).2 (by rw [if_neg h4, if_neg (by omega), if_pos (hmem.1 h6)]))
      have h6' : ¬ fresh ∈ cs.flatten := fun hh => h6 (hmem.2 hh)
      have hC151 := hC.keep k148
      have hhl := homeN_lt (was := cs) (now := ds) (by omega)
      refine ⟨fun hm w2 => w2 = w151 ∧ hm = (homeN cs ds : Int), ?_, ?_⟩
      · refine BIf_dec (fun h7 => ⟨rfl, ?_⟩) (fun h7 => ⟨rfl, ?_⟩)
        · unfold homeN
          rw [hdl, homeI_neg.1 h7]; rfl
        · unfold homeN
          rw [hdl]
          cases hh : shortN cs ds cs.length with
          | some jj => rfl
          | none => exact absurd (homeI_neg.2 hh) h7
      rintro hm w158 ⟨rfl, rfl⟩
      intros
      generalize hhh : homeN cs ds = hh at *
      obtain ⟨a, hi', ha, hcell, hI⟩ := hC151.get hhl
      have hIl := hI.sl
      have htl2 := hC151.sl
      refine ⟨t, o22b.cell 1 (by simp), needSome_mk ha ⟨by omega, by omega, ts[hh], by rw [Int.toNat_natCast]; exact hcell, BIf_dec (fun h7 => ?_) (fun h7 => ?_)⟩⟩
      · exact errRet 12 13 kw151 o7b rfl ((base _).2 (by rw [if_neg h4, if_neg (by omega), if_neg h6', getD_eq hhl, if_pos (by omega)]))
      have kd : Keep w158 w158.drew := Ext.drew none0 _
      have hcell2 := kd.cell hcell
      have o33d := o22b.keep kd
      have hmem2 : ts[hh] ∈ ts := List.getElem_mem hi'
      refine ⟨t, o33d.cell 1 (by simp), t, o33d.cell 1 (by simp), needSome_mk ha ⟨by omega, by omega, ts[hh], by rw [Int.toNat_natCast]; exact hcell2, newS_mk (fun r124 w125 hr124 hb124 k124 hs124 => ?_)⟩⟩
      have k125 := kd.trans k124
      have o33e := o22b.keep k125
      refine ⟨⟨_, by rw [Int.toNat_natCast]; exact k124.cell hcell2, rfl⟩, ⟨t, o33e.cell 1 (by simp), rfl⟩, ⟨t, o33e.cell 1 (by simp), rfl⟩, ?_⟩
      have hI125 := hI.keep k125
      have hC125 := hC151.keep k125
      refine hI125.snoc hb124 (.inl (by simp)) (by omega) (fun s129 w130 g1 g2 g3 => ?_)
      have hBt : ∀ j, ownB t j → w24.heap.size ≤ j := fun j hj => hB j (.inl hj)
      have hBc : ∀ j, ownB ts[hh] j → w24.heap.size ≤ j := fun j hj => hB j (.inr ⟨_, hmem2, hj⟩)
      have hn33 : ¬ ownB ts[hh] r22 := fun hx => by have := hBc _ hx; omega
      have o33f := o33e.ext g2 hn33
      obtain ⟨c3, c4⟩ := hC125.put hi' ha g2 g1 g3
      refine ⟨⟨t, o33f.cell 1 (by simp), rfl⟩, needSome_mk ha ⟨by omega, by omega, by rw [Int.toNat_natCast]; exact c3, fun w133 hw133 => ?_⟩⟩
      rw [Int.toNat_natCast] at hw133
      obtain ⟨hC133, x133, z133⟩ := c4 w133 hw133
      have kw125 := kw151.trans k125
      have kw133 : Keep w w133 := (kw125.ext g2 (fun j hj => by have := hBc j hj; omega)).ext x133 (fun j hj => by have := hBt j hj; omega)
      have o7f := ((o7b.keep k125).ext g2 (fun hx => by have := hBc _ hx; omega)).ext x133 (fun hx => by have := hBt _ hx; omega)
      refine okRet t (ts.set hh s129) _ kw133 o7f (o33f.ext x133 (fun hx => by have := hBt _ hx; omega)) hC133 ?_ ((base _).2 (by rw [if_neg h4, if_neg (by omega), if_neg h6', getD_eq hhl, if_neg (by omega)]))
      rintro j (hj | ⟨t', ht', hj⟩)
      · exact hB7 j (.inl hj)
      · rcases List.mem_or_eq_of_mem_set ht' with h8 | rfl
        · exact hB7 j (.inr ⟨t', h8, hj⟩)
        · rcases g3 j hj with h9 | h9
          · exact hB7 j (.inr ⟨_, hmem2, h9⟩)
          · have := o7b.lt
            have := k125.size
            omega

theorem refSame10_spec (ea eb : Int) (sa sb : Slc) (ca cb : List (List Int)) (w : World) (ha : Chs w sa ca) (hb : Chs w sb cb) (hca : ca.length ≤ 1000) (hla : ∀ c ∈ ca, c.length ≤ 1000) :
    Calls Tryd.prog fn_tidewaterref10_Same ⟨[.agg ⟨[.int .i64 ea, sa.v]⟩, .agg ⟨[.int .i64 eb, sb.v]⟩]⟩ w fun e w' => ∃ b : Bool, e = .returned (.bool b) ∧ (ea = eb → ca = cb → b = true) ∧ Keep w w' := by
  have hsa := ha.1
  have hsb := hb.1
  refine tidewaterref10_Same_ok _ _ _ _ ?_
  unfold tidewaterref10_Same
  refine newS_mk (fun r5 w6 hr5 hb5 k5 hs5 => newS_mk (fun r7 w8 hr7 hb7 k7 hs7 => ?_))
  have o5 := (ObjAt.new' hb5).keep k7
  have o7 := ObjAt.new' hb7
  have k8 := k5.trans k7
  refine ⟨fun w2 => w2 = w8 ∧ ca.length = cb.length, ?_, ?_⟩
  · refine ⟨_, o5.cell 0 (by simp), _, o7.cell 0 (by simp), BIf_ndec (fun h1 => ⟨false, rfl, fun h => (h1 h).elim, k8⟩) (fun h1 => ⟨sa, o5.cell 1 (by simp), sb, o7.cell 1 (by simp), BIf_ndec (fun h2 => ⟨false, rfl, fun _ h => by subst h; omega, k8⟩) (fun h2 => ⟨rfl, by omega⟩)⟩)⟩
  · rintro w14 ⟨rfl, hl⟩
    intros
    refine ⟨sa, o5.cell 1 (by simp), fun i w2 => ∃ k : Nat, i = k ∧ k ≤ ca.length ∧ Keep w14 w2, fun i _ => ((ca.length : Int) - i).toNat, ⟨0, rfl, by omega, Ext.refl _ _⟩, ?_⟩
    rintro i w34 ⟨k, rfl, hk, k34⟩
    intros
    refine BIf_dec (fun h1 => ?_) (fun h1 => ⟨true, rfl, fun _ _ => rfl, k8.trans k34⟩)
    have hkl : k < ca.length := by omega
    have kd := k34.drew
    have kk := k8.trans kd
    obtain ⟨a, t, ha', hc, ht, _⟩ := (ha.keep kk).row hkl
    obtain ⟨a2, t2, ha2, hc2, ht2, _⟩ := (hb.keep kk).row (k := k) (by omega)
    refine ⟨sa, (o5.keep kd).cell 1 (by simp), needSome_mk ha' ⟨by omega, by omega, t, by rw [Int.toNat_natCast]; exact hc, sb, (o7.keep kd).cell 1 (by simp), needSome_mk ha2 ⟨by omega, by omega, t2, by rw [Int.toNat_natCast]; exact hc2, ?_⟩⟩⟩
    have hlk := hla _ (List.getElem_mem hkl)
    refine (SameInts_spec t t2 _ _ _ ht ht2 (by omega)).mono ?_
    rintro e w59 ⟨rfl, k59⟩
    refine ⟨_, rfl, BIf_mk (fun h2 => ⟨false, rfl, fun _ h => ?_, kk.trans k59⟩) (fun h2 => ⟨inR64 (by omega), ⟨k + 1, rfl, hkl, kd.trans k59⟩, by first | (dsimp only; omega) | omega⟩)⟩
    subst h
    simp at h2
end Go.D
