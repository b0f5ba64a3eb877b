/-
  WHAT IS PROVED: contracts of functions, and the plain law, for this proof. No further conditions.
-/
import Derived.Test.YtecmadidakoppaaDoorPlan11
set_option linter.unusedVariables false
set_option linter.unusedSimpArgs false
set_option maxRecDepth 4000
namespace Go.D
open Go Go.Proofs

theorem keepC_sub (g c : List Int) : (keepC g c).Sublist c := List.filter_sublist
theorem map_sub (g : List Int) : ∀ (cs : List (List Int)), ((cs.map (keepC g)).flatten).Sublist cs.flatten
  | [] => by simp
  | c :: cs => by
    rw [List.map_cons, List.flatten_cons, List.flatten_cons]
    exact (keepC_sub g c).append (map_sub g cs)
theorem flat_set (ds : List (List Int)) (i : Nat) (hi : i < ds.length) (u : Int) : ((ds.set i (ds[i] ++ [u])).flatten).Perm (u :: ds.flatten) := by
  rw [List.set_eq_take_append_cons_drop, if_pos hi]
  have e : ds.flatten = (ds.take i).flatten ++ (ds[i] ++ (ds.drop (i + 1)).flatten) := by
    conv => lhs; rw [← List.take_append_drop i ds, List.drop_eq_getElem_cons hi]
    rw [List.flatten_append, List.flatten_cons]
  rw [e, List.flatten_append, List.flatten_cons, List.append_assoc, ← List.append_assoc (ds.take i).flatten, ← List.append_assoc (ds.take i).flatten ds[i]]
  exact List.perm_middle
theorem replP_law {rb : Bool} {ep : Int} {cs : List (List Int)} {g : List Int} {fresh : Int} (hrb : rb = true ↔ RightP ep cs) :
    (∀ k, replP rb ep cs g fresh = .error k → k < 19) ∧ ∀ q ds, replP rb ep cs g fresh = .ok (q, ds) → RightP q ds := by
  unfold replP
  by_cases h1 : rb = false
  · rw [if_pos h1]; exact ⟨fun k h => (by cases h; omega), fun q ds h => by cases h⟩
  rw [if_neg h1]
  have hr : RightP ep cs := hrb.1 (by simpa using h1)
  by_cases h2 : ep = 1073741824
  · rw [if_pos h2]; exact ⟨fun k h => (by cases h; omega), fun q ds h => by cases h⟩
  rw [if_neg h2]
  obtain ⟨hep, hc, hch, hnd⟩ := hr
  obtain ⟨ds, hds⟩ : ∃ ds, ds = cs.map (keepC g) := ⟨_, rfl⟩
  rw [← hds]
  by_cases h3 : ds.any (·.isEmpty) = true
  · rw [if_pos h3]; exact ⟨fun k h => (by cases h; omega), fun q ds h => by cases h⟩
  rw [if_neg h3]
  have hdl : ds.length = cs.length := by rw [hds, List.length_map]
  have hsub : ds.flatten.Sublist cs.flatten := by rw [hds]; exact map_sub g cs
  have hds3 : ∀ d ∈ ds, chainOk d := by
    intro d hd
    have hne : ¬ d.isEmpty = true := fun hh => h3 (List.any_eq_true.2 ⟨d, hd, hh⟩)
    rw [hds] at hd
    obtain ⟨c, hc, rfl⟩ := List.mem_map.1 hd
    obtain ⟨q1, q2, q3⟩ := hch c hc
    have hl := keepC_len g c
    have hpos : 0 < (keepC g c).length := List.length_pos_iff.2 (fun hh => hne (by rw [hh]; rfl))
    exact ⟨by omega, by omega, fun u hu => q3 u ((keepC_sub g c).subset hu)⟩
  have hep2 : 0 ≤ ep + 1 ∧ ep + 1 ≤ 1073741824 := by omega
  by_cases h4 : fresh < 0
  · rw [if_pos h4]
    exact ⟨fun k h => (by cases h), fun q d h => by cases h; exact ⟨hep2, by omega, hds3, hsub.nodup hnd⟩⟩
  rw [if_neg h4]
  by_cases h5 : 12 ≤ fresh
  · rw [if_pos h5]; exact ⟨fun k h => (by cases h; omega), fun q ds h => by cases h⟩
  rw [if_neg h5]
  by_cases h6 : fresh ∈ cs.flatten
  · rw [if_pos h6]; exact ⟨fun k h => (by cases h; omega), fun q ds h => by cases h⟩
  rw [if_neg h6]
  have hhl := homeN_lt (was := cs) (now := ds) (by omega)
  generalize homeN cs ds = i at *
  rw [getD_eq hhl]
  by_cases h7 : 3 ≤ (ds[i]).length
  · rw [if_pos h7]; exact ⟨fun k h => (by cases h; omega), fun q ds h => by cases h⟩
  rw [if_neg h7]
  refine ⟨fun k h => (by cases h), fun q d h => ?_⟩
  cases h
  refine ⟨hep2, by rw [List.length_set]; omega, fun d hd => ?_, ?_⟩
  · rcases List.mem_or_eq_of_mem_set hd with h8 | rfl
    · exact hds3 d h8
    · obtain ⟨q1, q2, q3⟩ := hds3 _ (List.getElem_mem hhl)
      refine ⟨by simp, by simp; omega, fun u hu => ?_⟩
      rcases List.mem_append.1 hu with h9 | h9
      · exact q3 u h9
      · rw [List.mem_singleton] at h9; omega
  · rw [(flat_set ds i hhl fresh).nodup_iff, List.nodup_cons]
    exact ⟨fun hh => h6 (hsub.subset hh), hsub.nodup hnd⟩
theorem right_small {ep : Int} {cs : List (List Int)} (h : RightP ep cs) : cs.length ≤ 1000 ∧ ∀ c ∈ cs, c.length ≤ 1000 := ⟨by have := h.2.1; omega, fun c hc => by have := (h.2.2.1 c hc).2.1; omega⟩

theorem PlanNext_walk (ep : Int) (s sg : Slc) (cs : List (List Int)) (g : List Int) (fresh : Int) (w : World) (h : Chs w s cs) (hg : intsAt w sg g) (A : Nat → Addr) (hE0 : Errs A w) :
    Calls Tryd.prog fn_tidewaterlaw10_PlanNext ⟨[.agg ⟨[.int .i64 ep, s.v]⟩, sg.v, .int .i64 fresh]⟩ w fun e w' => e = .returned (.bool true) ∧ Keep w w' := by
  have hEB := hE0.b
  have hE := hEB.g.sub (H := plG) (by decide)
  have hE2 := hEB.g.sub (H := rpG) (by decide)
  have hgl := hg.1
  refine tidewaterlaw10_PlanNext_ok _ _ _ _ ?_
  unfold tidewaterlaw10_PlanNext
  refine newS_mk (fun r5 w6 hr5 hb5 k6 hs5 => ?_)
  have o6 := ObjAt.new' hb5
  refine (alive10_spec A _ w6 (hE.keep k6)).mono ?_
  rintro e w8 ⟨rfl, k8⟩
  have k68 := k6.trans k8
  have o8 := o6.keep k8
  refine ⟨_, rfl, BIf_mk (fun h => by cases h) (fun _ => ⟨fun w2 => Keep w8 w2 ∧ cs.length ≤ 10 ∧ (∀ c ∈ cs, c.length ≤ 10) ∧ g.length ≤ 20, ?_, ?_⟩)⟩
  · refine ⟨ep, s, o8.row, (long10_spec ep s cs w8 (h.keep k68)).mono ?_⟩
    rintro e w14 ⟨b, rfl, k14, hb⟩
    exact ⟨b, rfl, BIf_mk (fun _ => ⟨rfl, k68.trans k14⟩) (fun hb0 => BIf_dec (fun _ => ⟨rfl, k68.trans k14⟩) (fun h1 => ⟨k14, (hb (by simpa using hb0)).1, (hb (by simpa using hb0)).2, by omega⟩))⟩
  · rintro w16 ⟨k816, hcl, hcl2, hgl2⟩
    intros
    have k16 := k68.trans k816
    have o16 := o8.keep k816
    have hcl3 : ∀ c ∈ cs, c.length ≤ 1000 := fun c hc => by have := hcl2 c hc; omega
    refine ⟨ep, s, o16.row, (Copy_spec ep s cs w16 (h.keep k16) (by omega) hcl3).mono ?_⟩
    rintro e w28 ⟨t0, ts0, rfl, hC0, _, k28⟩
    have hC0 := hC0.chs
    have k1628 := k16.trans k28
    refine ⟨ep, t0, rfl, var_mk (cs := [.int .i64 ep, t0.v]) rfl rfl (fun r31 w33 hr31 o31 k31 hs31 => ?_)⟩
    have k33 := k1628.trans k31
    have o33 := (o16.keep k28).keep k31
    refine ⟨ep, s, o33.row, (Replace_spec A ep s sg cs g fresh w33 (h.keep k33) (by omega) (intsAt_keep hg k33) (by omega) (hE2.keep k33) k33.size).mono ?_⟩
    rintro x w37 ⟨rb, hrb, k37, hres⟩
    have k3337 := k33.trans k37
    -- what the plan's package hands back
    obtain ⟨q, t1, e40, ds, n50, rfl, hC1, hnum, hsame, hright, hsmall⟩ : ∃ (q : Int) (t1 : Slc) (e40 : Value) (ds : List (List Int)) (n50 : Int), x = .returned (.tuple ⟨[.agg ⟨[.int .i64 q, t1.v]⟩, e40]⟩) ∧ Chs w37 t1 ds ∧
        (∀ w2, Keep w w2 → Calls Tryd.prog fn_tidewaternum_Num ⟨[e40]⟩ w2 fun e w' => e = .returned (.int .i64 n50) ∧ Keep w2 w') ∧
        (∀ (x : Ending) (w' : World), (match replP rb ep cs g fresh with
            | .ok (q, ds) => ∃ (t : Slc), x = .returned (.tuple ⟨[.agg ⟨[.int .i64 q, t.v]⟩, .int .i64 0]⟩) ∧ Chs w' t ds
            | .error k => x = .returned (.tuple ⟨[.agg ⟨[.int .i64 0, (⟨none, 0, 0⟩ : Slc).v]⟩, .int .i64 ((k + 1 : Nat) : Int)]⟩)) → ∃ t : Slc, x = .returned (.tuple ⟨[.agg ⟨[.int .i64 q, t.v]⟩, .int .i64 n50]⟩) ∧ Chs w' t ds) ∧
        (n50 = 0 → RightP q ds) ∧ ds.length ≤ 1000 ∧ ∀ c ∈ ds, c.length ≤ 1000 := by
      obtain ⟨g1, g2⟩ := replP_law (g := g) (fresh := fresh) hrb
      cases hp : replP rb ep cs g fresh with
      | ok qd =>
        obtain ⟨q, ds⟩ := qd
        rw [hp] at hres
        obtain ⟨t, ts, rfl, hC⟩ := hres
        have hr := g2 q ds hp
        refine ⟨q, t, .nilIface, ds, 0, rfl, hC.chs, fun w2 k2 => ?_, fun x w' hx => hx, fun _ => hr, (right_small hr).1, (right_small hr).2⟩
        refine (Num_nil w2).mono ?_
        rintro e w3 ⟨rfl, rfl⟩
        exact ⟨rfl, Ext.refl _ _⟩
      | error k =>
        rw [hp] at hres
        have hk := g1 k hp
        refine ⟨0, ⟨none, 0, 0⟩, _, [], ((k + 1 : Nat) : Int), hres, ⟨rfl, fun i h => by simp at h⟩, fun w2 k2 => Num_spec A k hk w2 (hEB.keep k2).1, fun x w' hx => ⟨⟨none, 0, 0⟩, hx, rfl, fun i h => by simp at h⟩, fun hh => by omega, by simp, by simp⟩
    clear hres
    refine ⟨q, t1, e40, rfl, var_mk (cs := [.int .i64 q, t1.v]) rfl rfl (fun r41 w43 hr41 o41 k41 hs41 => ?_)⟩
    have k43 := k3337.trans k41
    have o43 := (o33.keep k37).keep k41
    refine ⟨ep, s, o43.row, (refReplace_spec ep s sg cs g fresh w43 (h.keep k43) (by omega) hcl3 (intsAt_keep hg k43) (by omega)).mono ?_⟩
    rintro x w47 ⟨rb2, hrb2, k47, hres2⟩
    have hrr : rb2 = rb := by
      cases rb2 <;> cases rb <;> simp_all
    subst hrr
    obtain ⟨t2, rfl, hC2⟩ := hsame x w47 hres2
    have k4347 := k43.trans k47
    refine ⟨q, t2, n50, rfl, var_mk (cs := [.int .i64 q, t2.v]) rfl rfl (fun r51 w53 hr51 o51 k51 hs51 => ?_)⟩
    have k53 := k4347.trans k51
    refine (hnum w53 k53).mono ?_
    rintro e w55 ⟨rfl, k55⟩
    have k3755 := ((k41.trans k47).trans k51).trans k55
    have o41' := ((o41.keep k47).keep k51).keep k55
    have o51' := o51.keep k55
    have k55' := k53.trans k55
    refine ⟨n50, rfl, BIf_dec (fun _ => ⟨q, t1, o41'.row, q, t2, o51'.row, ?_⟩) (fun h => absurd rfl h)⟩
    refine (refSame10_spec q q t1 t2 ds ds w55 (hC1.keep k3755) (hC2.keep (k51.trans k55)) hsmall.1 hsmall.2).mono ?_
    rintro e w62 ⟨b63, rfl, hb63, k62⟩
    have := hb63 rfl rfl
    subst this
    have k62' := k55'.trans k62
    have k3362 := ((k37.trans k3755).trans k62)
    refine ⟨_, rfl, BIf_mk (fun _ => ⟨ep, t0, (o31.keep k3362).row, ep, s, (o33.keep k3362).row, ?_⟩) (fun h => by cases h)⟩
    refine (refSame10_spec ep ep t0 s cs cs w62 (hC0.keep (k31.trans k3362)) (h.keep k62') (by omega) hcl3).mono ?_
    rintro e w69 ⟨b70, rfl, hb70, k69⟩
    have := hb70 rfl rfl
    subst this
    have k69' := k62'.trans k69
    refine ⟨_, rfl, BIf_mk (fun _ => BIf_ndec (fun _ => ⟨rfl, k69'⟩) (fun hz => ?_)) (fun h => by cases h)⟩
    have hr := hright hz
    refine ⟨q, t1, ((o41'.keep k62).keep k69).row, (Right_spec q t1 ds w69 (hC1.keep ((k3755.trans k62).trans k69)) (by omega)).mono ?_⟩
    rintro e w74 ⟨b75, rfl, hb75, k74⟩
    exact ⟨b75, rfl, by rw [hb75.2 hr], k69'.trans k74⟩
theorem PlanNext_fin (x : Array Value) (b : Int × (Slc × List (Slc × List Int))) (sg : Slc) (g : List Int) (fresh : Int) (w : World) (hx : rdPlan.R w b x.toList) (hg : intsAt w sg g) (A : Nat → Addr) (hE0 : Errs A w) :
    Calls Tryd.prog fn_tidewaterlaw10_PlanNext ⟨[.agg x, sg.v, .int .i64 fresh]⟩ w fun e w' => e = .returned (.bool true) ∧ Keep w w' := by
  obtain ⟨rfl, h, _⟩ := plan_args hx
  exact PlanNext_walk b.1 b.2.1 sg _ g fresh w h hg A hE0
end Go.D
