/-
  WHAT IS PROVED: contracts of functions, and the plain law, for this proof. No further conditions.
-/
import Derived.Test.YtecmadidakoppaaDoorPlan3
import Derived.Test.YtecmadidakoppaaDoorVClaw10
set_option linter.unusedVariables false
set_option linter.unusedSimpArgs false
namespace Go.D
open Go Go.Proofs

theorem Chs.row {w : World} {s : Slc} {cs : List (List Int)} (h : Chs w s cs) {k : Nat} (hk : k < cs.length) : ∃ (a : Addr) (t : Slc), s.p = some a ∧ w.cell? (a.add (k * 1)) = some t.v ∧ intsAt w t cs[k] ∧ t.l ≤ t.c := by
  exact h.2 k hk

theorem alive10_spec (A : Nat → Addr) (n0 : Nat) (w : World) (hE : ErrsG plG A n0 w) : Calls Tryd.prog fn_tidewaterlaw10_alive ⟨[]⟩ w fun e w' => e = .returned (.bool true) ∧ Keep w w' := by
  refine tidewaterlaw10_alive_ok ?_
  unfold tidewaterlaw10_alive
  refine newS_mk (fun r1 w2 hr1 hb1 k1 hs1 => newS_mk (fun r3 w4 hr3 hb3 k3 hs3 => newS_mk (fun r5 w6 hr5 hb5 k5 hs5 => ?_)))
  have o1 : Own w6 ⟨some ⟨r1, 0, none⟩, 1, 1⟩ 1 (([0] : List Int).map intV) := Own.keep (Own.new (sz := 1) (n := 1) hb1 (.inl (by simp)) rfl) (k3.trans k5)
  have o3 : Own w6 ⟨some ⟨r3, 0, none⟩, 1, 1⟩ 1 (([1] : List Int).map intV) := Own.keep (Own.new (sz := 1) (n := 1) hb3 (.inl (by simp)) rfl) k5
  have o5 := ObjAt.new' hb5
  have kk := (k1.trans k3).trans k5
  have hC : Chs w6 ⟨some ⟨r5, 0, none⟩, 2, 2⟩ [[0], [1]] := by
    refine ⟨rfl, fun i hi => ?_⟩
    have hi2 : i = 0 ∨ i = 1 := by simp at hi; omega
    rcases hi2 with rfl | rfl
    · exact ⟨_, _, rfl, by rw [add_lit]; exact o5.cell 0 (by simp), o1.ints, Nat.le_refl _⟩
    · exact ⟨_, _, rfl, by rw [add_lit]; exact o5.cell 1 (by simp), o3.ints, Nat.le_refl _⟩
  have hR : RightP 0 [[0], [1]] := by
    refine ⟨by omega, by simp, ?_, by simp⟩
    intro c hc
    simp at hc
    rcases hc with rfl | rfl
    · exact ⟨by simp, by simp, fun u hu => by simp at hu; omega⟩
    · exact ⟨by simp, by simp, fun u hu => by simp at hu; omega⟩
  refine (Place_spec A n0 0 _ _ 5 w6 hC (by simp) (hE.keep kk)).mono ?_
  rintro e w8 ⟨k8, ⟨hn, _⟩ | ⟨_, hn, _⟩ | ⟨_, _, rfl⟩⟩
  · exact (hn hR).elim
  · omega
  · exact ⟨_, _, _, rfl, trivial, BIf_mk (fun _ => BIf_dec (fun _ => ⟨rfl, kk.trans k8⟩) (fun h => absurd rfl h)) (fun h => by cases h)⟩

theorem long10_spec (ep : Int) (s : Slc) (cs : List (List Int)) (w : World) (h : Chs w s cs) :
    Calls Tryd.prog fn_tidewaterlaw10_long ⟨[.agg ⟨[.int .i64 ep, s.v]⟩]⟩ w fun e w' => ∃ b : Bool, e = .returned (.bool b) ∧ Keep w w' ∧ (b = false → cs.length ≤ 10 ∧ ∀ c ∈ cs, c.length ≤ 10) := by
  have hsl := h.1
  refine tidewaterlaw10_long_ok _ _ ?_
  unfold tidewaterlaw10_long
  refine newS_mk (fun r3 w4 hr3 hb3 k4 hs4 => ?_)
  have o4 := ObjAt.new' hb3
  refine ⟨s, o4.cell 1 (by simp), BIf_dec (fun _ => ⟨true, rfl, k4, fun h => by cases h⟩) (fun h1 => ⟨s, o4.cell 1 (by simp), ?_⟩)⟩
  refine ⟨fun i w2 => ∃ k : Nat, i = k ∧ k ≤ cs.length ∧ Keep w w2 ∧ ∀ c ∈ cs.take k, c.length ≤ 10, fun i _ => ((cs.length : Int) - i).toNat, ⟨0, rfl, by omega, k4, fun c hc => by simp at hc⟩, ?_⟩
  rintro i w10 ⟨k, rfl, hk, k10, hall⟩
  intros
  refine BIf_dec (fun h2 => ?_) (fun h2 => ?_)
  · have hkl : k < cs.length := by omega
    obtain ⟨a, t, ha, hc, ht, _⟩ := (h.keep k10).row hkl
    have htl := ht.1
    refine needSome_mk ha ⟨by omega, h2, t, by rw [Int.toNat_natCast]; exact hc, BIf_dec (fun _ => ⟨true, rfl, k10, fun h => by cases h⟩) (fun h3 => ⟨inR64 (by omega), ⟨k + 1, rfl, hkl, k10, fun c hc => ?_⟩, by first | (dsimp only; omega) | omega⟩)⟩
    rw [List.take_succ_eq_append_getElem hkl] at hc
    rcases List.mem_append.1 hc with h | h
    · exact hall c h
    · rw [List.mem_singleton] at h; subst h; omega
  · have hkn : k = cs.length := by omega
    subst hkn
    rw [List.take_length] at hall
    exact ⟨false, rfl, k10, fun _ => ⟨by omega, hall⟩⟩

theorem below_spec (A : Nat → Addr) (n0 : Nat) (ep : Int) (s ts : Slc) (cs : List (List Int)) (l : List Int) (a : Int) (w : World) (h : Chs w s cs) (hcl : cs.length ≤ 2 ^ 40) (ht : intsAt w ts l) (hr : RightP ep cs) (hE : ErrsG plG A n0 w) :
    Calls Tryd.prog fn_tidewaterlaw10_below ⟨[.agg ⟨[.int .i64 ep, s.v]⟩, ts.v, .int .i64 a]⟩ w fun e w' => ∃ b : Bool, e = .returned (.bool b) ∧ Keep w w' ∧
      (b = true ↔ (0 ≤ a ∧ a < 4096) ∧ a % (cs.length : Int) < (l.length : Int) ∧ a / (cs.length : Int) < l.getD (a % (cs.length : Int)).toNat 0) := by
  have htl := ht.1
  refine tidewaterlaw10_below_ok _ _ _ _ ?_
  unfold tidewaterlaw10_below
  refine newS_mk (fun r3 w6 hr3 hb3 k6 hs4 => ?_)
  have o6 := ObjAt.new' hb3
  refine ⟨ep, s, o6.row, (Place_spec A n0 ep s cs a w6 (h.keep k6) hcl (hE.keep k6)).mono ?_⟩
  rintro e w10 ⟨k10, ⟨hn, _⟩ | ⟨_, hn, rfl⟩ | ⟨_, hn, rfl⟩⟩
  · exact (hn hr).elim
  · exact ⟨_, _, _, rfl, trivial, BIf_mk (fun h => by cases h) (fun _ => ⟨false, rfl, k6.trans k10, ⟨fun h => (by cases h), fun hh => (hn hh.1).elim⟩⟩)⟩
  · have kk := k6.trans k10
    have h5 := hr.2.1
    have hm0 : 0 ≤ a % (cs.length : Int) := Int.emod_nonneg _ (by omega)
    refine ⟨_, _, _, rfl, trivial, BIf_mk (fun _ => BIf_dec (fun h1 => ?_) (fun h1 => ⟨false, rfl, kk, ⟨fun h => (by cases h), fun hh => absurd hh.2.1 (by omega)⟩⟩)) (fun h => by cases h)⟩
    have hml : (a % (cs.length : Int)).toNat < l.length := by omega
    obtain ⟨p, hp, hc⟩ := intsAt_cell (intsAt_keep ht kk) hml
    refine needSome_mk hp ⟨hm0, h1, _, by rw [Nat.mul_one]; exact hc, _, rfl, kk, ?_⟩
    have e1 : l.getD (a % (cs.length : Int)).toNat 0 = l[(a % (cs.length : Int)).toNat] := by simp [List.getD, hml]
    rw [e1, decide_eq_true_eq]
    exact ⟨fun hh => ⟨hn, by omega, hh⟩, fun hh => hh.2.2⟩

/-- The tail, by definition. -/
theorem tl_law (n : Nat) (l : List Int) : ∀ (k : Nat), (∀ c, c < k → 0 < l.getD c 0 → ((if 4096 < l.getD c 0 then 4096 else l.getD c 0) - 1) * (n : Int) + c + 1 ≤ tl n l k) ∧
    (tl n l k = 0 ∨ ∃ c, c < k ∧ 0 < l.getD c 0 ∧ tl n l k = ((if 4096 < l.getD c 0 then 4096 else l.getD c 0) - 1) * (n : Int) + c + 1)
  | 0 => ⟨fun c hc => by omega, .inl rfl⟩
  | k + 1 => by
    obtain ⟨h1, h2⟩ := tl_law n l k
    rw [tl, stepT]
    by_cases h0 : 0 < l.getD k 0
    · rw [if_pos h0]
      by_cases h3 : tl n l k < ((if 4096 < l.getD k 0 then 4096 else l.getD k 0) - 1) * (n : Int) + k + 1
      · rw [if_pos h3]
        refine ⟨fun c hc hp => ?_, .inr ⟨k, by omega, h0, rfl⟩⟩
        by_cases hck : c = k
        · subst hck; exact Int.le_refl _
        · have := h1 c (by omega) hp; omega
      · rw [if_neg h3]
        refine ⟨fun c hc hp => ?_, h2.imp (fun h => h) (fun ⟨c, g1, g2, g3⟩ => ⟨c, by omega, g2, g3⟩)⟩
        by_cases hck : c = k
        · subst hck; omega
        · exact h1 c (by omega) hp
    · rw [if_neg h0]
      refine ⟨fun c hc hp => ?_, h2.imp (fun h => h) (fun ⟨c, g1, g2, g3⟩ => ⟨c, by omega, g2, g3⟩)⟩
      by_cases hck : c = k
      · subst hck; exact (h0 hp).elim
      · exact h1 c (by omega) hp
def Below (n : Nat) (l : List Int) (a : Int) : Prop := (0 ≤ a ∧ a < 4096) ∧ a % (n : Int) < (l.length : Int) ∧ a / (n : Int) < l.getD (a % (n : Int)).toNat 0
theorem tails_law {n : Nat} (hn : 1 ≤ n ∧ n ≤ 3) {l : List Int} (h3 : ∀ t ∈ l, t ≤ 300) {T : Int} (hT : T = tl n l (min n l.length)) :
    (∀ a : Int, Below n l a → a < T) ∧ (T = 0 ∨ Below n l (T - 1)) ∧ 0 ≤ T ∧ T ≤ 1000 := by
  obtain ⟨g1, g2⟩ := tl_law n l (min n l.length)
  rw [← hT] at g1 g2
  have hg : ∀ c : Nat, c < l.length → l.getD c 0 ≤ 300 := fun c hc => by
    have : l.getD c 0 = l[c] := by simp [List.getD, hc]
    rw [this]; exact h3 _ (List.getElem_mem hc)
  refine ⟨fun a ha => ?_, ?_, ?_⟩
  · obtain ⟨h0, h1, h2⟩ := ha
    generalize hc : (a % (n : Int)).toNat = c at h2
    have hc0 : 0 ≤ a % (n : Int) := Int.emod_nonneg _ (by omega)
    have hcn : a % (n : Int) < n := Int.emod_lt_of_pos _ (by omega)
    have hq : 0 ≤ a / (n : Int) := Int.ediv_nonneg (by omega) (by omega)
    have := g1 c (by omega) (by omega)
    have hle := hg c (by omega)
    generalize l.getD c 0 = t at *
    rw [if_neg (by omega)] at this
    obtain ⟨hn1, hn3⟩ := hn
    have hn : n = 1 ∨ n = 2 ∨ n = 3 := by omega
    rcases hn with rfl | rfl | rfl <;> omega
  · rcases g2 with g2 | ⟨c, hc, hp, g2⟩
    · exact .inl g2
    · right
      have hle := hg c (by omega)
      unfold Below
      generalize hct : l.getD c 0 = t at *
      rw [if_neg (by omega)] at g2
      have hc2 : (T - 1) % (n : Int) = c ∧ (T - 1) / (n : Int) = t - 1 ∧ 0 ≤ T - 1 ∧ T - 1 < 4096 := by
        have hn : n = 1 ∨ n = 2 ∨ n = 3 := by omega
        rcases hn with rfl | rfl | rfl <;> omega
      obtain ⟨q1, q2, q3, q4⟩ := hc2
      rw [q1, q2, Int.toNat_natCast, hct]
      omega
  · rcases g2 with g2 | ⟨c, hc, hp, g2⟩
    · omega
    · have hle := hg c (by omega)
      generalize hct : l.getD c 0 = t at *
      rw [if_neg (by omega)] at g2
      have hn : n = 1 ∨ n = 2 ∨ n = 3 := by omega
      rcases hn with rfl | rfl | rfl <;> omega

theorem PlanTails_walk (ep : Int) (s ts : Slc) (cs : List (List Int)) (l : List Int) (a : Int) (w : World) (h : Chs w s cs) (ht : intsAt w ts l) (htc : ts.l ≤ ts.c) (A : Nat → Addr) (hE0 : ErrsOn tyErr plG A w) :
    Calls Tryd.prog fn_tidewaterlaw10_PlanTails ⟨[.agg ⟨[.int .i64 ep, s.v]⟩, ts.v, .int .i64 a]⟩ w fun e w' => e = .returned (.bool true) ∧ Keep w w' := by
  have hE := hE0.g
  have htl := ht.1
  refine tidewaterlaw10_PlanTails_ok _ _ _ _ ?_
  unfold tidewaterlaw10_PlanTails
  refine newS_mk (fun r5 w6 hr5 hb5 k6 hs5 => ?_)
  have o6 := ObjAt.new' hb5
  refine (alive10_spec A _ w6 (hE.keep k6)).mono ?_
  rintro e w8 ⟨rfl, k8⟩
  have k68 := k6.trans k8
  have o8 := o6.keep k8
  refine ⟨_, rfl, BIf_mk (fun h => by cases h) (fun _ => ⟨fun w2 => Keep w8 w2 ∧ cs.length ≤ 10 ∧ l.length ≤ 10 ∧ RightP ep cs, ?_, ?_⟩)⟩
  · refine ⟨ep, s, o8.row, (long10_spec ep s cs w8 (h.keep k68)).mono ?_⟩
    rintro e w14 ⟨b, rfl, k14, hb⟩
    refine ⟨b, rfl, BIf_mk (fun _ => ⟨rfl, k68.trans k14⟩) (fun hb0 => BIf_dec (fun _ => ⟨rfl, k68.trans k14⟩) (fun h1 => ?_))⟩
    refine ⟨ep, s, (o8.keep k14).row, (Right_spec ep s cs w14 (h.keep (k68.trans k14)) (by have := (hb (by simpa using hb0)).1; omega)).mono ?_⟩
    rintro e w19 ⟨b2, rfl, hb2, k19⟩
    exact ⟨b2, rfl, BIf_mk (fun _ => ⟨rfl, (k68.trans k14).trans k19⟩) (fun hb3 => ⟨k14.trans k19, (hb (by simpa using hb0)).1, by omega, hb2.1 (by simpa using hb3)⟩)⟩
  · rintro w21 ⟨k21, hcl, hll, hr⟩
    intros
    refine ⟨fun i w2 => ∃ k : Nat, i = k ∧ k ≤ l.length ∧ Keep w8 w2 ∧ ∀ t ∈ l.take k, t ≤ 300, fun i _ => ((l.length : Int) - i).toNat, ⟨0, rfl, by omega, k21, fun c hc => by simp at hc⟩, ?_⟩
    rintro i w38 ⟨k, rfl, hk, k38, hall⟩
    intros
    have kk := k68.trans k38
    refine BIf_dec (fun h2 => ?_) (fun h2 => ?_)
    · have hkl : k < l.length := by omega
      obtain ⟨p, hp, hc⟩ := intsAt_cell (intsAt_keep ht kk) hkl
      refine needSome_mk hp ⟨by omega, h2, _, by rw [show Int.toNat (k : Int) * 1 = k by omega]; exact hc, BIf_dec (fun _ => ⟨rfl, kk⟩) (fun h3 => ⟨inR64 (by omega), ⟨k + 1, rfl, hkl, k38, fun c hc => ?_⟩, by first | (dsimp only; omega) | omega⟩)⟩
      rw [List.take_succ_eq_append_getElem hkl] at hc
      rcases List.mem_append.1 hc with h | h
      · exact hall c h
      · rw [List.mem_singleton] at h; subst h; omega
    · have hkn : k = l.length := by omega
      subst hkn
      rw [List.take_length] at hall
      refine ⟨ep, s, (o8.keep k38).row, (Tail_spec ep s ts cs l w38 (h.keep kk) (by omega) (intsAt_keep ht kk) htc (by omega)).mono ?_⟩
      rintro e w52 ⟨k52, T, rfl, _, hT⟩
      obtain ⟨g1, g2, g3⟩ := tails_law hr.2.1 hall (hT hr)
      have k852 := k38.trans k52
      have kk52 := k68.trans k852
      have hwr : 0 ≤ IntKind.wrap .u64 a := by
        simp [IntKind.wrap, IntKind.signed, IntKind.bits]; omega
      generalize IntKind.wrap .u64 a = u at hwr
      have hwi : IntKind.wrap .i64 (u % 2000) = u % 2000 := wrap_inR (inR64 (by omega))
      rw [hwi]
      have last : ∀ {w2 : World}, Keep w8 w2 → ¬ T = 0 → ∃ (n54 : Int) (s55 : Slc), rowAt w2 (⟨r5, 0, none⟩ : Addr) 0 [.int .i64 n54, s55.v] ∧ inR .i64 (T - 1) ∧
          Calls Tryd.prog fn_tidewaterlaw10_below ⟨[.agg ⟨[.int .i64 n54, s55.v]⟩, ts.v, .int .i64 (T - 1)]⟩ w2 fun e56 w57 => ∃ b58 : Bool, e56 = .returned (.bool b58) ∧ (Ending.returned (Value.bool b58) = .returned (.bool true) ∧ Keep w w57) := by
        intro w2 k2 hne
        have kk2 := k68.trans k2
        refine ⟨ep, s, (o8.keep k2).row, inR64 (by omega), (below_spec A _ ep s ts cs l (T - 1) w2 (h.keep kk2) (by omega) (intsAt_keep ht kk2) hr (hE.keep kk2)).mono ?_⟩
        rintro e w57 ⟨b, rfl, k57, hb⟩
        exact ⟨b, rfl, by rw [hb.2 (g2.resolve_left hne)], kk2.trans k57⟩
      refine ⟨T, rfl, hwr, by omega, BIf_dec (fun h3 => BIf_dec (fun h4 => ⟨rfl, kk52⟩) (fun h4 => last k852 h4)) (fun h3 => ?_)⟩
      refine ⟨ep, s, (o8.keep k852).row, (below_spec A _ ep s ts cs l (u % 2000) w52 (h.keep kk52) (by omega) (intsAt_keep ht kk52) hr (hE.keep kk52)).mono ?_⟩
      rintro e w62 ⟨b, rfl, k62, hb⟩
      have hbf : b = false := by
        cases b with
        | false => rfl
        | true => exact absurd (g1 _ (hb.1 rfl)) h3
      subst hbf
      exact ⟨_, rfl, BIf_mk (fun _ => BIf_dec (fun h4 => ⟨rfl, kk52.trans k62⟩) (fun h4 => last (k852.trans k62) h4)) (fun h => by cases h)⟩

abbrev rdPlan : Rd (Int × (Slc × List (Slc × List Int))) := Rd.pair (Rd.int .i64) (Rd.slice Rd.ints)
theorem plan_args {w : World} {x : Array Value} {b : Int × (Slc × List (Slc × List Int))} (h : rdPlan.R w b x.toList) : x = ⟨[.int .i64 b.1, b.2.1.v]⟩ ∧ Chs w b.2.1 (b.2.2.map (·.2)) ∧ inR .i64 b.1 ∧ b.2.1.l ≤ b.2.1.c := by
  obtain ⟨c1, c2, hx, ⟨rfl, hr⟩, ⟨rfl, h2⟩⟩ := h
  obtain ⟨l⟩ := x
  exact ⟨by rw [show l = _ from hx]; rfl, Chs.of h2, hr, h2.2.1⟩
theorem PlanTails_fin (x : Array Value) (b : Int × (Slc × List (Slc × List Int))) (ts : Slc) (l : List Int) (a : Int) (w : World) (hx : rdPlan.R w b x.toList) (ht : intsAt w ts l) (htc : ts.l ≤ ts.c) (A : Nat → Addr) (hE0 : ErrsOn tyErr plG A w) :
    Calls Tryd.prog fn_tidewaterlaw10_PlanTails ⟨[.agg x, ts.v, .int .i64 a]⟩ w fun e w' => e = .returned (.bool true) ∧ Keep w w' := by
  obtain ⟨rfl, h, _⟩ := plan_args hx
  exact PlanTails_walk b.1 b.2.1 ts _ l a w h ht htc A hE0
end Go.D
