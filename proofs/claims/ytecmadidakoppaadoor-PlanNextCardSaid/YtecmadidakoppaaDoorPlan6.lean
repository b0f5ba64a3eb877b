/-
  WHAT IS PROVED: contracts of functions, and the plain law, for this proof. No further conditions.
-/
import Derived.Test.YtecmadidakoppaaDoorPlan5
import Derived.Test.YtecmadidakoppaaDoorSameInts
set_option linter.unusedVariables false
set_option linter.unusedSimpArgs false
namespace Go.D
open Go Go.Proofs

theorem PlanPlaces_walk (ep : Int) (s ts : Slc) (cs : List (List Int)) (l : List Int) (a : Int) (w : World) (h : Chs w s cs) (ht : intsAt w ts l) (htc : ts.l ≤ ts.c) (A : Nat → Addr) (hE0 : Errs A w) :
    Calls Tryd.prog fn_tidewaterlaw10_PlanPlaces ⟨[.agg ⟨[.int .i64 ep, s.v]⟩, .int .i64 a, ts.v]⟩ w fun e w' => e = .returned (.bool true) ∧ Keep w w' := by
  have hEB := hE0.b
  have hE := hEB.g.sub (H := plG) (by decide)
  have htl := ht.1
  have hsl := h.1
  refine tidewaterlaw10_PlanPlaces_ok _ _ _ _ ?_
  unfold tidewaterlaw10_PlanPlaces
  refine newS_mk (fun r5 w6 hr5 hb5 k6 hs5 => ?_)
  have o6 := ObjAt.new' hb5
  refine (alive10_spec A _ w6 (hE.keep k6)).mono ?_
  rintro e w8 ⟨rfl, k8⟩
  have k68 := k6.trans k8
  have o8 := o6.keep k8
  refine ⟨_, rfl, BIf_mk (fun h => by cases h) (fun _ => ⟨fun w2 => Keep w8 w2 ∧ cs.length ≤ 10 ∧ (∀ c ∈ cs, c.length ≤ 10) ∧ l.length ≤ 10, ?_, ?_⟩)⟩
  · refine ⟨ep, s, o8.row, (long10_spec ep s cs w8 (h.keep k68)).mono ?_⟩
    rintro e w14 ⟨b, rfl, k14, hb⟩
    exact ⟨b, rfl, BIf_mk (fun _ => ⟨rfl, k68.trans k14⟩) (fun hb0 => BIf_dec (fun _ => ⟨rfl, k68.trans k14⟩) (fun h1 => ⟨k14, (hb (by simpa using hb0)).1, (hb (by simpa using hb0)).2, by omega⟩))⟩
  · rintro w16 ⟨k816, hcl, hcl2, hll⟩
    intros
    have k16 := k68.trans k816
    have o16 := o8.keep k816
    refine ⟨ep, s, o16.row, var_mk (cs := [.int .i64 ep, s.v]) rfl rfl (fun r27 w29 hr27 o27 k27 hs27 => ⟨ep, s, o27.row, ?_⟩)⟩
    have k29 := k16.trans k27
    refine (refRight10_spec ep s cs w29 (h.keep k29) (by omega)).mono ?_
    rintro e w33 ⟨b34, rfl, hb34, k33⟩
    have kk33 := k29.trans k33
    have o5 := (o16.keep k27).keep k33
    have o27' := o27.keep k33
    refine ⟨b34, rfl, ep, s, o5.row, ?_⟩
    refine (Place_spec A _ ep s cs a w33 (h.keep kk33) (by omega) (hE.keep kk33)).mono ?_
    rintro e w38 ⟨k38, hpl⟩
    have kk38 := kk33.trans k38
    obtain ⟨n39, n40, e41, rfl, hpl2⟩ : ∃ (n39 n40 : Int) (e41 : Value), e = .returned (.tuple ⟨[.int .i64 n39, .int .i64 n40, e41]⟩) ∧
        ((¬ RightP ep cs ∧ n39 = 0 ∧ n40 = 0 ∧ e41 = errV A (errG.getD 3 0)) ∨ (RightP ep cs ∧ ¬ (0 ≤ a ∧ a < 4096) ∧ n39 = 0 ∧ n40 = 0 ∧ e41 = errV A (errG.getD 0 0)) ∨
         (RightP ep cs ∧ (0 ≤ a ∧ a < 4096) ∧ n39 = a % (cs.length : Int) ∧ n40 = a / (cs.length : Int) ∧ e41 = .nilIface)) := by
      rcases hpl with ⟨h1, rfl⟩ | ⟨h1, h2, rfl⟩ | ⟨h1, h2, rfl⟩
      · exact ⟨_, _, _, rfl, .inl ⟨h1, rfl, rfl, rfl⟩⟩
      · exact ⟨_, _, _, rfl, .inr (.inl ⟨h1, h2, rfl, rfl, rfl⟩)⟩
      · exact ⟨_, _, _, rfl, .inr (.inr ⟨h1, h2, rfl, rfl, rfl⟩)⟩
    clear hpl
    have o38 := o5.keep k38
    refine ⟨n39, n40, e41, rfl, ep, s, o38.row, ?_⟩
    refine (Right_spec ep s cs w38 (h.keep kk38) (by omega)).mono ?_
    rintro e w45 ⟨b46, rfl, hb46, k45⟩
    have kk45 := kk38.trans k45
    have o45 := o38.keep k45
    have o27b := (o27'.keep k38).keep k45
    have heq : b46 = b34 := by
      cases b46 <;> cases b34 <;> simp_all
    subst heq
    refine ⟨b46, rfl, BIf_mk (fun h => by cases b46 <;> cases h) (fun _ => BIf_mk (fun hn => ?_) (fun hy => ?_))⟩
    · -- none is right
      have hnr : ¬ RightP ep cs := fun hh => by rw [hb46.2 hh] at hn; cases hn
      rcases hpl2 with ⟨_, rfl, rfl, rfl⟩ | ⟨hr, _⟩ | ⟨hr, _⟩
      · refine BIf_dec (fun _ => BIf_dec (fun _ => ?_) (fun h => absurd rfl h)) (fun h => absurd rfl h)
        refine (Num_spec A 3 (by omega) w45 (hEB.keep kk45).1).mono ?_
        rintro e w48 ⟨rfl, k48⟩
        have kk48 := kk45.trans k48
        have o48 := o45.keep k48
        refine ⟨_, rfl, BIf_dec (fun _ => ⟨ep, s, o48.row, ?_⟩) (fun h => absurd rfl h)⟩
        refine (Address_spec ep s cs 0 0 w48 (h.keep kk48) (by omega)).mono ?_
        rintro e w53 ⟨k53, n54, rfl, _, h54⟩
        have := h54 (fun hh => hnr hh.1)
        subst this
        have kk53 := kk48.trans k53
        have o53 := o48.keep k53
        refine ⟨_, rfl, BIf_dec (fun _ => ⟨ep, s, o53.row, ?_⟩) (fun h => absurd rfl h)⟩
        refine (Tail_spec ep s ts cs l w53 (h.keep kk53) (by omega) (intsAt_keep ht kk53) htc (by omega)).mono ?_
        rintro e w58 ⟨k58, n59, rfl, h59, _⟩
        have := h59 hnr
        subst this
        have kk58 := kk53.trans k58
        refine ⟨_, rfl, BIf_dec (fun _ => ⟨ep, s, (o53.keep k58).row, ?_⟩) (fun h => absurd rfl h)⟩
        refine (Units_spec ep s cs w58 (h.keep kk58) (by omega)).mono ?_
        rintro e w63 ⟨t, ul, rfl, htu, k63, hu, _⟩
        have := hu hnr
        subst this
        have hl0 := htu.1
        refine ⟨t, rfl, ?_, kk58.trans k63⟩
        rw [decide_eq_true (by simp at hl0; omega)]
      · exact (hnr hr).elim
      · exact (hnr hr).elim
    · have hr : RightP ep cs := hb46.1 (by simpa using hy)
      have hn3 := hr.2.1
      have kd : Keep w45 w45.drew := Ext.drew none0 _
      refine ⟨fun w2 => Keep w45 w2, ?_, ?_⟩
      · refine ⟨ep, s, (o45.keep kd).row, ep, s, (o27b.keep kd).row, ?_⟩
        have kkd := kk45.trans kd
        refine (Units_spec ep s cs _ (h.keep kkd) (by omega)).mono ?_
        rintro e w71 ⟨t, ul1, rfl, htu, k71, _, hu⟩
        obtain ⟨hs1, hm1⟩ := hu hr
        have hul := ul_units hr hs1 hm1
        subst hul
        have k4571 := kd.trans k71
        refine ⟨t, rfl, ⟨ep, s, (o27b.keep k4571).row, rfl⟩, ?_⟩
        refine (refUnits10_spec ep s cs w71 (h.keep (kk45.trans k4571)) (by omega) (fun c hc => by have := hcl2 c hc; omega)).mono ?_
        rintro e w76 ⟨t2, rfl, ht2, k76⟩
        refine ⟨t2, rfl, ?_⟩
        have hule := ul_le cs 12
        refine (SameInts_spec t t2 _ _ w76 (intsAt_keep htu k76) ht2.ints (by omega)).mono ?_
        rintro e w79 ⟨rfl, k79⟩
        have k4579 := (k4571.trans k76).trans k79
        have kk79 := kk45.trans k4579
        refine ⟨_, rfl, BIf_mk (fun h => by simp at h) (fun _ => ⟨ep, s, (o45.keep k4579).row, ep, s, (o27b.keep k4579).row, ?_⟩)⟩
        refine (Tail_spec ep s ts cs l w79 (h.keep kk79) (by omega) (intsAt_keep ht kk79) htc (by omega)).mono ?_
        rintro e w86 ⟨k86, n87, rfl, _, h87⟩
        have := h87 hr
        subst this
        refine ⟨_, rfl, ⟨ep, s, (o27b.keep (k4579.trans k86)).row, rfl⟩, ?_⟩
        refine (refTail10_spec ep s ts cs l w86 (h.keep (kk79.trans k86)) (by omega) (intsAt_keep ht (kk79.trans k86)) (by omega)).mono ?_
        rintro e w91 ⟨rfl, k91⟩
        exact ⟨_, rfl, BIf_ndec (fun h => absurd rfl h) (fun _ => (k4579.trans k86).trans k91)⟩
      · intro w93 k93
        intros
        have kk93 := kk45.trans k93
        have bad : ¬ (0 ≤ a ∧ a < 4096) → n39 = 0 ∧ n40 = 0 ∧ Calls Tryd.prog fn_tidewaternum_Num ⟨[e41]⟩ w93 fun e111 w112 => ∃ n113 : Int, e111 = .returned (.int .i64 n113) ∧ (Ending.returned (Value.bool (decide (n113 = 1))) = .returned (.bool true) ∧ Keep w w112) := by
          intro hna
          rcases hpl2 with ⟨h1, _⟩ | ⟨_, _, rfl, rfl, rfl⟩ | ⟨_, h1, _⟩
          · exact (h1 hr).elim
          · refine ⟨rfl, rfl, (Num_spec A 0 (by omega) w93 (hEB.keep kk93).1).mono ?_⟩
            rintro e w48 ⟨rfl, k48⟩
            exact ⟨_, rfl, rfl, kk93.trans k48⟩
          · exact (hna h1).elim
        refine ⟨fun w2 => w2 = w93 ∧ 0 ≤ a ∧ a < 4096, ?_, ?_⟩
        · refine BIf_dec (fun h1 => ?_) (fun h1 => BIf_dec (fun h2 => ?_) (fun h2 => ⟨rfl, by omega, by omega⟩))
          · obtain ⟨g1, g2, g3⟩ := bad (by omega)
            exact BIf_dec (fun _ => BIf_dec (fun _ => g3) (fun h => absurd g2 h)) (fun h => absurd g1 h)
          · obtain ⟨g1, g2, g3⟩ := bad (by omega)
            exact BIf_dec (fun _ => BIf_dec (fun _ => g3) (fun h => absurd g2 h)) (fun h => absurd g1 h)
        · rintro w117 ⟨rfl, ha0, ha1⟩
          intros
          rcases hpl2 with ⟨h1, _⟩ | ⟨_, h1, _⟩ | ⟨_, _, rfl, rfl, rfl⟩
          · exact (h1 hr).elim
          · exact (h1 ⟨ha0, ha1⟩).elim
          have hm0 : 0 ≤ a % (cs.length : Int) := Int.emod_nonneg _ (by omega)
          have hmn : a % (cs.length : Int) < cs.length := Int.emod_lt_of_pos _ (by omega)
          have hq0 : 0 ≤ a / (cs.length : Int) := Int.ediv_nonneg ha0 (by omega)
          have hq1 : a / (cs.length : Int) ≤ 4096 := by
            have := Int.ediv_le_self (cs.length : Int) ha0
            omega
          have hback : a / (cs.length : Int) * (cs.length : Int) + a % (cs.length : Int) = a := by
            rw [Int.mul_comm]; exact Int.mul_ediv_add_emod a _
          refine ⟨s, (o45.keep k93).cell 1 (by simp), trivial, BIf_mk (fun _ => ⟨ha0, by omega, ?_⟩) (fun h => by cases h)⟩
          rw [hsl]
          refine BIf_dec (fun _ => ⟨ha0, by omega, inR64 (by omega), BIf_dec (fun _ => ?_) (fun h => absurd rfl h)⟩) (fun h => absurd rfl h)
          have adr : ∀ (c at_ v : Int) (w2 : World) (X : World → Prop) (F : World → Prop), Keep w45 w2 → (RightP ep cs ∧ (0 ≤ c ∧ c < cs.length) ∧ (0 ≤ at_ ∧ at_ ≤ 4096) → at_ * (cs.length : Int) + c = v) → (¬ (RightP ep cs ∧ (0 ≤ c ∧ c < cs.length) ∧ (0 ≤ at_ ∧ at_ ≤ 4096)) → v = -1) → (∀ w3, Keep w45 w3 → X w3) →
              ∃ (n137 : Int) (s138 : Slc), rowAt w2 (⟨r5, 0, none⟩ : Addr) 0 [.int .i64 n137, s138.v] ∧ Calls Tryd.prog fn_plan_Address ⟨[.agg ⟨[.int .i64 n137, s138.v]⟩, .int .i64 c, .int .i64 at_]⟩ w2 fun e139 w140 => ∃ n141 : Int, e139 = .returned (.int .i64 n141) ∧ BIf (decide (n141 = v)) (X w140) (F w140) := by
            intro c at_ v w2 X F k2 h1 h2 hX
            refine ⟨ep, s, (o45.keep k2).row, (Address_spec ep s cs c at_ w2 (h.keep (kk45.trans k2)) (by omega)).mono ?_⟩
            rintro e w140 ⟨k140, r, rfl, g1, g2⟩
            refine ⟨r, rfl, BIf_dec (fun _ => hX _ (k2.trans k140)) (fun hne => ?_)⟩
            by_cases hc : RightP ep cs ∧ (0 ≤ c ∧ c < cs.length) ∧ (0 ≤ at_ ∧ at_ ≤ 4096)
            · exact absurd ((g1 hc).trans (h1 hc)) hne
            · exact absurd ((g2 hc).trans (h2 hc).symm) hne
          refine adr _ _ a w117 _ _ k93 (fun _ => hback) (fun hn => (hn ⟨hr, ⟨hm0, hmn⟩, hq0, hq1⟩).elim) (fun w140 k140 => ?_)
          refine adr _ _ (-1) w140 _ _ k140 (fun hh => by have := hh.2.1; omega) (fun _ => rfl) (fun w145 k145 => ?_)
          refine adr _ _ (-1) w145 _ _ k145 (fun hh => by have := hh.2.1; omega) (fun _ => rfl) (fun w150 k150 => ?_)
          refine adr _ _ (-1) w150 _ _ k150 (fun hh => by have := hh.2.2; omega) (fun _ => rfl) (fun w155 k155 => ?_)
          refine ⟨ep, s, (o45.keep k155).row, (Address_spec ep s cs 0 4097 w155 (h.keep (kk45.trans k155)) (by omega)).mono ?_⟩
          rintro e w160 ⟨k160, r, rfl, g1, g2⟩
          have := g2 (fun hh => by have := hh.2.2; omega)
          subst this
          exact ⟨_, rfl, rfl, (kk45.trans k155).trans k160⟩
theorem PlanPlaces_fin (x : Array Value) (b : Int × (Slc × List (Slc × List Int))) (ts : Slc) (l : List Int) (a : Int) (w : World) (hx : rdPlan.R w b x.toList) (ht : intsAt w ts l) (htc : ts.l ≤ ts.c) (A : Nat → Addr) (hE0 : Errs A w) :
    Calls Tryd.prog fn_tidewaterlaw10_PlanPlaces ⟨[.agg x, .int .i64 a, ts.v]⟩ w fun e w' => e = .returned (.bool true) ∧ Keep w w' := by
  obtain ⟨rfl, h, _⟩ := plan_args hx
  exact PlanPlaces_walk b.1 b.2.1 ts _ l a w h ht htc A hE0
end Go.D
