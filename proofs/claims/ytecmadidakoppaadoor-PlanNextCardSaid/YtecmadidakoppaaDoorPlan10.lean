/-
  WHAT IS PROVED: contracts of functions, and the plain law, for this proof. No further conditions.
-/
import Derived.Test.YtecmadidakoppaaDoorPlan9
set_option linter.unusedVariables false
set_option linter.unusedSimpArgs false
namespace Go.D
open Go Go.Proofs

/-- The next plan. -/
def replP (rb : Bool) (ep : Int) (cs : List (List Int)) (g : List Int) (fresh : Int) : Except Nat (Int × List (List Int)) :=
  if rb = false then .error 3 else if ep = 1073741824 then .error 13 else
  if (cs.map (keepC g)).any (·.isEmpty) = true then .error 15 else if fresh < 0 then .ok (ep + 1, cs.map (keepC g)) else if 12 ≤ fresh then .error 0 else
  if fresh ∈ cs.flatten then .error 16 else
  if 3 ≤ ((cs.map (keepC g)).getD (homeN cs (cs.map (keepC g))) []).length then .error 12 else
  .ok (ep + 1, (cs.map (keepC g)).set (homeN cs (cs.map (keepC g))) ((cs.map (keepC g)).getD (homeN cs (cs.map (keepC g))) [] ++ [fresh]))
def rpG : List Nat := [gl_ErrForm, gl_ErrEpoch, gl_ErrNone, gl_ErrRange, gl_ErrState, gl_ErrFull]

def ReplRes (A : Nat → Addr) (w : World) (rb : Bool) (ep : Int) (cs : List (List Int)) (g : List Int) (fresh : Int) (x : Ending) (w' : World) : Prop :=
  Keep w w' ∧ match replP rb ep cs g fresh with
    | .ok (q, ds) => ∃ (t : Slc) (ts : List Slc), x = .returned (.tuple ⟨[.agg ⟨[.int .i64 q, t.v]⟩, .nilIface]⟩) ∧ ChO w' t ts ds
    | .error k => x = .returned (.tuple ⟨[.agg ⟨[.int .i64 0, (⟨none, 0, 0⟩ : Slc).v]⟩, errO A (some k)]⟩)

theorem keepC_len (g c : List Int) : (keepC g c).length ≤ c.length := List.length_filter_le _ _
theorem Replace_spec (A : Nat → Addr) {n0 : Nat} (ep : Int) (s sg : Slc) (cs : List (List Int)) (g : List Int) (fresh : Int) (w : World) (h : Chs w s cs) (hcl : cs.length ≤ 1000) (hg : intsAt w sg g) (hgl : g.length ≤ 1000) (hE : ErrsG rpG A n0 w) (hn0 : n0 ≤ w.heap.size) :
    Calls Tryd.prog fn_plan_Replace ⟨[.agg ⟨[.int .i64 ep, s.v]⟩, sg.v, .int .i64 fresh]⟩ w fun x w' => ∃ rb : Bool, (rb = true ↔ RightP ep cs) ∧ ReplRes A w rb ep cs g fresh x w' := by
  have hsl := h.1
  refine plan_Replace_ok _ _ _ _ ?_
  unfold plan_Replace
  refine newS_mk (fun r5 w6 hr5 hb5 k5 hs5 => newS_mk (fun r7 w8 hr7 hb7 k7 hs7 => newS_mk (fun r9 w10 hr9 hb9 k9 hs9 => ?_)))
  have z5 := k5.size
  have z7 := k7.size
  have o5 := ((ObjAt.new' hb5).keep k7).keep k9
  have o7 : ObjAt w10 r7 [sg.v] := (ObjAt.new' hb7).keep k9
  have o9 : ObjAt w10 r9 [.int .i64 0, (⟨none, 0, 0⟩ : Slc).v] := ObjAt.new' hb9
  have k10 := (k5.trans k7).trans k9
  refine ⟨ep, s, o5.row, (Right_spec ep s cs w10 (h.keep k10) (by omega)).mono ?_⟩
  rintro e w14 ⟨rb, rfl, hrb, k14⟩
  have kk14 := k10.trans k14
  have z14 := kk14.size
  have o5 := o5.keep k14
  have o7 := o7.keep k14
  have o9 := o9.keep k14
  have h9lt := o9.lt
  -- an error is handed back
  have errRet : ∀ {w2 : World} (k gv : Nat), Keep w w2 → ObjAt w2 r9 [.int .i64 0, (⟨none, 0, 0⟩ : Slc).v] → gv = errG.getD k 0 → gv ∈ rpG → replP rb ep cs g fresh = .error k →
      ∃ v16 : Value, World.cell? (World.drew w2) (⟨gv, 0, none⟩ : Addr) = some v16 ∧ canW (World.drew w2) (⟨r9, 0, none⟩ : Addr) 2 ∧ ∀ w17 : World, w17 = setCells (World.drew w2) (⟨r9, 0, none⟩ : Addr) 0 [(Value.int .i64 (0 : Int)), (Slc.v (⟨none, 0, 0⟩ : Slc))] →
        (∃ v18 : Value, World.cell? w17 (⟨gv, 0, none⟩ : Addr) = some v18 ∧ v18 = v16) ∧ ∃ n19 : Int, ∃ s20 : Slc, rowAt w17 (⟨r9, 0, none⟩ : Addr) 0 [(Value.int .i64 n19), (Slc.v s20)] ∧
          ∃ rb : Bool, (rb = true ↔ RightP ep cs) ∧ ReplRes A w rb ep cs g fresh (.returned (Value.tuple ⟨[(Value.agg ⟨[(Value.int .i64 n19), (Slc.v s20)]⟩), v16]⟩)) w17 := by
    intro w2 k gv k2 o2 hgv hm hres
    have kd : Keep w2 w2.drew := Ext.drew none0 _
    obtain ⟨c1, c2⟩ := (o2.keep kd).setAll (n := 2) rfl (cs := [.int .i64 0, (⟨none, 0, 0⟩ : Slc).v]) rfl
    have hc := errG_at (hE.keep (k2.trans kd)) k gv hgv hm
    refine ⟨_, hc, c1, fun w17 hw17 => ?_⟩
    obtain ⟨o17, g4, g5⟩ := c2 w17 hw17
    have hglt := hE.lt hm
    refine ⟨⟨_, g4.cell hc (fun hh => by have : gv = r9 := hh; omega), rfl⟩, 0, _, o17.row, rb, hrb, (k2.trans kd).ext g4 (fun j hj => by omega), ?_⟩
    rw [hres]
  refine ⟨rb, rfl, BIf_mk (fun h1 => ?_) (fun h1 => ?_)⟩
  · have hrf : rb = false := by simpa using h1
    exact errRet 3 gl_ErrForm kk14 o9 rfl (by simp [rpG]) (by unfold replP; rw [if_pos hrf])
  have hrt : rb = true := by simpa using h1
  have hr : RightP ep cs := hrb.1 hrt
  refine ⟨_, o5.cell 0 (by simp), BIf_dec (fun h2 => ?_) (fun h2 => ?_)⟩
  · exact errRet 13 gl_ErrEpoch kk14 o9 rfl (by simp [rpG]) (by unfold replP; rw [if_neg (by rw [hrt]; simp), if_pos h2])
  have hc3 := hr.2.1
  have hcl3 : ∀ c ∈ cs, c.length ≤ 3 := fun c hc => (hr.2.2.1 c hc).2.1
  refine ⟨ep, s, o5.row, (Copy_spec ep s cs w14 (h.keep kk14) hcl (fun c hc => by have := hcl3 c hc; omega)).mono ?_⟩
  rintro e w30 ⟨t, ts, rfl, hC, hB, k30⟩
  have kk30 := kk14.trans k30
  have hB' : ∀ j, ChB t ts j → w14.heap.size ≤ j := hB
  refine ⟨ep, t, rfl, var_mk (cs := [.int .i64 ep, t.v]) rfl rfl (fun r33 w35 hr33 o33 k33 hs33 => ⟨_, o33.cell 0 (by simp), inR64 (by have := hr.1; omega), ?_⟩)⟩
  have z30 := k30.size
  have h33lt := o33.lt
  obtain ⟨c1, c2⟩ := o33.setOne 0 (by simp) (.int .i64 (ep + 1))
  refine ⟨c1, fun w37 hw37 => ?_⟩
  obtain ⟨o37, x37, z37⟩ := c2 w37 hw37
  have hC37 := (hC.keep k33).ext x37 (fun j hj hh => by have := hC.lt j hj; omega)
  have k37 : Keep w14 w37 := (k30.trans k33).ext x37 (fun j hj => by omega)
  have o5 := o5.keep k37
  have o7 := o7.keep k37
  have o9 := o9.keep k37
  have hg37 : GoneAt w37 r7 sg g := ⟨o7.cell 0 (by simp), intsAt_keep hg (kk14.trans k37), hgl⟩
  have hglt : g ≠ [] → ∀ k, ownB sg k → k < w.heap.size := fun hne => intsAt_lt hg hne
  obtain ⟨ds, hds⟩ : ∃ ds, ds = cs.map (keepC g) := ⟨_, rfl⟩
  have hdl : ds.length = cs.length := by rw [hds, List.length_map]
  have hdk : ∀ k (hk : k < cs.length), ds[k]'(by omega) = keepC g cs[k] := fun k hk => by subst hds; simp
  have htl := hC.sl
  refine ⟨t, o37.cell 1 (by simp), ?_⟩
  refine ⟨fun i w2 => ∃ (k : Nat) (ts : List Slc), i = k ∧ k ≤ cs.length ∧ ObjAt w2 r33 [.int .i64 (ep + 1), t.v] ∧ ChO w2 t ts (ds.take k ++ cs.drop k) ∧ (∀ j, ChB t ts j → w14.heap.size ≤ j ∧ j ≠ r33) ∧ Ext (fun j => w14.heap.size ≤ j ∧ j ≠ r33) w37 w2 ∧ ∀ d ∈ ds.take k, d ≠ [], fun i _ => ((cs.length : Int) - i).toNat,
    ⟨0, ts, rfl, by omega, o37, by simpa using hC37, fun j hj => ⟨hB' j hj, by have := hC.lt j hj; omega⟩, Ext.refl _ _, fun d hd => by simp at hd⟩, ?_⟩
  rintro i w42 ⟨k, ts2, rfl, hk, o42, hC42, hB42, x42, hne⟩
  intros
  have kk42 : Keep w14 w42 := k37.ext x42 (fun j hj => hj.1)
  have kw42 := kk14.trans kk42
  have o5 := o5.ext x42 (fun hh => by omega)
  have o9 := o9.ext x42 (fun hh => by omega)
  have hg42 := hg37.ext x42 (fun hh => by omega) (fun hh k hk h2 => by have := hglt hh k hk; omega)
  have hLl : (ds.take k ++ cs.drop k).length = cs.length := by simp; omega
  refine BIf_dec (fun h3 => ?_) (fun h3 => ?_)
  · have hkl : k < cs.length := by omega
    obtain ⟨a, hi', ha, hcell, hI⟩ := hC42.get (i := k) (by omega)
    have hLk : (ds.take k ++ cs.drop k)[k]'(by omega) = cs[k] := by
      rw [List.getElem_append_right (by simp; omega)]; simp [hdl, show min k cs.length = k by omega]
    rw [hLk] at hI
    have kd : Keep w42 w42.drew := Ext.drew none0 _
    have hmem : ts2[k] ∈ ts2 := List.getElem_mem hi'
    have hck := hcl3 _ (List.getElem_mem hkl)
    refine needSome_mk ha ⟨by omega, h3, ts2[k], by rw [Int.toNat_natCast]; exact hcell, t, (o42.keep kd).cell 1 (by simp), ?_⟩
    refine (DeleteFunc_spec ts2[k] cs[k] r7 sg g _ (hI.keep kd) (by omega) (hg42.keep kd) (fun hh => by have := (hB42 _ (.inr ⟨_, hmem, hh⟩)).1; omega) (fun hh j hj h2 => by have := hglt hh j hj; have := (hB42 _ (.inr ⟨_, hmem, h2⟩)).1; omega)).mono ?_
    rintro e w71 ⟨s72, rfl, hs72, hI72, x71⟩
    have hB72 : ∀ j, ownB s72 j → ownB ts2[k] j := by
      rintro j ⟨b, hb, rfl⟩
      rw [hs72] at hb
      exact ⟨b, hb, rfl⟩
    have x4271 : Ext (ownB ts2[k]) w42 w71 := Ext.trans kd x71 (fun _ h => h.elim) (fun _ h => .inl h)
    have hn33 : ¬ ownB ts2[k] r33 := fun hh => (hB42 _ (.inr ⟨_, hmem, hh⟩)).2 rfl
    have o71 := o42.ext x4271 hn33
    obtain ⟨c3, c4⟩ := hC42.put hi' ha x4271 hI72 (fun j hj => .inl (hB72 j hj))
    refine ⟨s72, rfl, ⟨t, o71.cell 1 (by simp), rfl⟩, needSome_mk ha ⟨by omega, by omega, by rw [Int.toNat_natCast]; exact c3, fun w75 hw75 => ?_⟩⟩
    rw [Int.toNat_natCast] at hw75
    obtain ⟨hC75, x75, z75⟩ := c4 w75 hw75
    have hn33t : ¬ ownB t r33 := fun hh => (hB42 _ (.inl hh)).2 rfl
    have o75 := o71.ext x75 hn33t
    have hL75 : (ds.take k ++ cs.drop k).set k (keepC g cs[k]) = ds.take (k + 1) ++ cs.drop (k + 1) := by
      rw [List.set_append_right _ _ (by simp; omega), List.take_succ_eq_append_getElem (by omega : k < ds.length), List.drop_eq_getElem_cons hkl]
      simp [hdl, show min k cs.length = k by omega, hdk k hkl]
      rw [List.drop_eq_getElem_cons hkl]; rfl
    rw [hL75] at hC75
    have hB75 : ∀ j, ChB t (ts2.set k s72) j → w14.heap.size ≤ j ∧ j ≠ r33 := by
      rintro j (hj | ⟨t', ht', hj⟩)
      · exact hB42 j (.inl hj)
      · rcases List.mem_or_eq_of_mem_set ht' with h6 | rfl
        · exact hB42 j (.inr ⟨t', h6, hj⟩)
        · exact hB42 j (.inr ⟨_, hmem, hB72 j hj⟩)
    have x4275 : Ext (fun j => w14.heap.size ≤ j ∧ j ≠ r33) w42 w75 := (x4271.mono (fun j hj => hB42 j (.inr ⟨_, hmem, hj⟩))).trans x75 (fun _ h => h) (fun j hj => .inl (hB42 j (.inl hj)))
    obtain ⟨a2, hi2, ha2, hcell2, hI2⟩ := hC75.get (i := k) (by simp; omega)
    have hget : (ts2.set k s72)[k] = s72 := by simp
    rw [hget] at hcell2
    have hLl2 : s72.l = (keepC g cs[k]).length := by rw [hs72]
    refine ⟨t, o75.cell 1 (by simp), needSome_mk ha2 ⟨by omega, by omega, s72, by rw [Int.toNat_natCast]; exact hcell2, BIf_dec (fun h5 => ?_) (fun h5 => ⟨inR64 (by omega), ⟨k + 1, _, rfl, hkl, o75, hC75, hB75, x42.trans x4275 (fun _ h => h) (fun _ h => .inl h), ?_⟩, by first | (dsimp only; omega) | omega⟩)⟩⟩
    · refine errRet 15 gl_ErrNone (kw42.ext x4275 (fun j hj => by omega)) (o9.ext x4275 (fun hh => by omega)) rfl (by simp [rpG]) ?_
      unfold replP
      rw [if_neg (by rw [hrt]; simp), if_neg h2, if_pos]
      rw [List.any_eq_true]
      refine ⟨keepC g cs[k], List.mem_map.2 ⟨_, List.getElem_mem hkl, rfl⟩, ?_⟩
      rw [List.isEmpty_iff, ← List.length_eq_zero_iff]; omega
    · intro d hd
      rw [List.take_succ_eq_append_getElem (by omega : k < ds.length)] at hd
      rcases List.mem_append.1 hd with h6 | h6
      · exact hne d h6
      · rw [List.mem_singleton] at h6
        subst h6
        rw [hdk k hkl]
        intro hh
        rw [hh] at hLl2
        simp at hLl2
        omega
  · have hkn : k = cs.length := by omega
    subst hkn
    have hL : ds.take cs.length ++ cs.drop cs.length = ds := by rw [← hdl, List.take_length, List.drop_of_length_le (by omega), List.append_nil]
    rw [hL] at hC42
    rw [← hdl, List.take_length] at hne
    have hany : ¬ (cs.map (keepC g)).any (·.isEmpty) = true := by
      rw [← hds, List.any_eq_true]
      rintro ⟨d, hd, he⟩
      exact hne d hd (List.isEmpty_iff.1 he)
    have base : ∀ X, replP rb ep cs g fresh = X ↔ (if fresh < 0 then .ok (ep + 1, ds) else if 12 ≤ fresh then .error 0 else if fresh ∈ cs.flatten then .error 16 else if 3 ≤ (ds.getD (homeN cs ds) []).length then .error 12 else .ok (ep + 1, ds.set (homeN cs ds) (ds.getD (homeN cs ds) [] ++ [fresh]))) = X := by
      intro X
      unfold replP
      rw [if_neg (by rw [hrt]; simp), if_neg h2, if_neg hany, hds]
    -- a plan is handed back
    have okRet : ∀ {w2 : World} (ts : List Slc) (fs : List (List Int)), Keep w w2 → ObjAt w2 r9 [.int .i64 0, (⟨none, 0, 0⟩ : Slc).v] → ObjAt w2 r33 [.int .i64 (ep + 1), t.v] → ChO w2 t ts fs → (∀ j, ChB t ts j → j ≠ r9) → replP rb ep cs g fresh = .ok (ep + 1, fs) →
        ∃ n84 : Int, ∃ s85 : Slc, rowAt w2 (⟨r33, 0, none⟩ : Addr) 0 [(Value.int .i64 n84), (Slc.v s85)] ∧ canW w2 (⟨r9, 0, none⟩ : Addr) 2 ∧ ∀ w86 : World, w86 = setCells w2 (⟨r9, 0, none⟩ : Addr) 0 [(Value.int .i64 n84), (Slc.v s85)] →
          ∃ n87 : Int, ∃ s88 : Slc, rowAt w86 (⟨r9, 0, none⟩ : Addr) 0 [(Value.int .i64 n87), (Slc.v s88)] ∧ ∃ rb : Bool, (rb = true ↔ RightP ep cs) ∧ ReplRes A w rb ep cs g fresh (.returned (Value.tuple ⟨[(Value.agg ⟨[(Value.int .i64 n87), (Slc.v s88)]⟩), Value.nilIface]⟩)) w86 := by
      intro w2 ts fs k2 o2 o33 hC2 hB2 hres
      obtain ⟨c1, c2⟩ := o2.setAll (n := 2) rfl (cs := [.int .i64 (ep + 1), t.v]) rfl
      refine ⟨ep + 1, t, o33.row, c1, fun w86 hw86 => ?_⟩
      obtain ⟨o86, g4, g5⟩ := c2 w86 hw86
      refine ⟨ep + 1, t, o86.row, rb, hrb, k2.ext g4 (fun j hj => by omega), ?_⟩
      rw [hres]
      exact ⟨t, ts, rfl, hC2.ext g4 hB2⟩
    have hB9 : ∀ j, ChB t ts2 j → j ≠ r9 := fun j hj => by have := hB42 j hj; omega
    refine BIf_dec (fun h4 => ?_) (fun h4 => BIf_dec (fun h5 => ?_) (fun h5 => ?_))
    · exact okRet ts2 ds kw42 o9 o42 hC42 hB9 ((base _).2 (by rw [if_pos h4]))
    · exact errRet 0 gl_ErrRange kw42 o9 rfl (by simp [rpG]) ((base _).2 (by rw [if_neg h4, if_pos h5]))
    · refine ⟨ep, s, o5.row, ?_⟩
      have hfl := flat_le 3 cs hcl3
      refine (all_spec ep s cs w42 (h.keep kw42) (by omega) (by omega)).mono ?_
      rintro e w97 ⟨s98, l98, rfl, hp98, _, hI98, k97, _⟩
      have hll98 := hp98.length_eq
      refine ⟨s98, rfl, (Contains_spec s98 l98 fresh w97 hI98.ints (by omega)).mono ?_⟩
      rintro e w100 ⟨rfl, rfl⟩
      have hmem : fresh ∈ l98 ↔ fresh ∈ cs.flatten := hp98.mem_iff
      have kw97 := kw42.trans k97
      refine ⟨_, rfl, BIf_dec (fun h6 => ?_) (fun h6 => ?_)⟩
      · exact errRet 16 gl_ErrState kw97 (o9.keep k97) rfl (by simp [rpG]) ((base _).2 (by rw [if_neg h4, if_neg h5, if_pos (hmem.1 h6)]))
      have h6' : ¬ fresh ∈ cs.flatten := fun hh => h6 (hmem.2 hh)
      have o33' := o42.keep k97
      have hC97 := hC42.keep k97
      refine ⟨s, (o5.keep k97).cell 1 (by simp), t, o33'.cell 1 (by simp), ?_⟩
      refine (home_spec s t cs ds w100 (h.keep kw97) hC97.chs hdl.symm (by omega) (by omega)).mono ?_
      rintro e w110 ⟨rfl, k110⟩
      have kw110 := kw97.trans k110
      have o33'' := o33'.keep k110
      have o9'' := (o9.keep k97).keep k110
      have hC110 := hC97.keep k110
      have hhl := homeN_lt (was := cs) (now := ds) (by omega)
      generalize hhh : homeN cs ds = hh at *
      obtain ⟨a, hi', ha, hcell, hI⟩ := hC110.get hhl
      have hIl := hI.sl
      have htl2 := hC110.sl
      refine ⟨_, rfl, t, o33''.cell 1 (by simp), needSome_mk ha ⟨by omega, by omega, ts2[hh], by rw [Int.toNat_natCast]; exact hcell, BIf_dec (fun h7 => ?_) (fun h7 => ?_)⟩⟩
      · exact errRet 12 gl_ErrFull kw110 o9'' rfl (by simp [rpG]) ((base _).2 (by rw [if_neg h4, if_neg h5, if_neg h6', getD_eq hhl, if_pos (by omega)]))
      have kd : Keep w110 w110.drew := Ext.drew none0 _
      have hcell2 := kd.cell hcell
      have o33d := o33''.keep kd
      have hmem2 : ts2[hh] ∈ ts2 := List.getElem_mem hi'
      refine ⟨t, o33d.cell 1 (by simp), t, o33d.cell 1 (by simp), needSome_mk ha ⟨by omega, by omega, ts2[hh], by rw [Int.toNat_natCast]; exact hcell2, newS_mk (fun r124 w125 hr124 hb124 k124 hs124 => ?_)⟩⟩
      have k125 := kd.trans k124
      have o33e := o33''.keep k125
      refine ⟨⟨_, by rw [Int.toNat_natCast]; exact k124.cell hcell2, rfl⟩, ⟨t, o33e.cell 1 (by simp), rfl⟩, ⟨t, o33e.cell 1 (by simp), rfl⟩, ?_⟩
      have hI125 := hI.keep k125
      have hC125 := hC110.keep k125
      refine hI125.snoc hb124 (.inl (by simp)) (by omega) (fun s129 w130 g1 g2 g3 => ?_)
      have hn33 : ¬ ownB ts2[hh] r33 := fun hx => (hB42 _ (.inr ⟨_, hmem2, hx⟩)).2 rfl
      have o33f := o33e.ext g2 hn33
      obtain ⟨c3, c4⟩ := hC125.put hi' ha g2 g1 g3
      refine ⟨⟨t, o33f.cell 1 (by simp), rfl⟩, needSome_mk ha ⟨by omega, by omega, by rw [Int.toNat_natCast]; exact c3, fun w133 hw133 => ?_⟩⟩
      rw [Int.toNat_natCast] at hw133
      obtain ⟨hC133, x133, z133⟩ := c4 w133 hw133
      have hBt : ∀ j, ownB t j → w14.heap.size ≤ j ∧ j ≠ r33 := fun j hj => hB42 j (.inl hj)
      have hBc : ∀ j, ownB ts2[hh] j → w14.heap.size ≤ j ∧ j ≠ r33 := fun j hj => hB42 j (.inr ⟨_, hmem2, hj⟩)
      have kw125 := kw110.trans k125
      have z125 := kw125.size
      have kw133 : Keep w w133 := (kw125.ext g2 (fun j hj => by have := hBc j hj; omega)).ext x133 (fun j hj => by have := hBt j hj; omega)
      have o9f := ((o9''.keep k125).ext g2 (fun hx => by have := hBc _ hx; omega)).ext x133 (fun hx => by have := hBt _ hx; omega)
      refine okRet (ts2.set hh s129) _ kw133 o9f (o33f.ext x133 (fun hx => (hBt _ hx).2 rfl)) hC133 ?_ ((base _).2 (by rw [if_neg h4, if_neg h5, if_neg h6', getD_eq hhl, if_neg (by omega)]))
      rintro j (hj | ⟨t', ht', hj⟩)
      · exact hB9 j (.inl hj)
      · rcases List.mem_or_eq_of_mem_set ht' with h8 | rfl
        · exact hB9 j (.inr ⟨t', h8, hj⟩)
        · rcases g3 j hj with h9 | h9
          · exact hB9 j (.inr ⟨_, hmem2, h9⟩)
          · have := o9''.lt
            have := k125.size
            omega
end Go.D
