/-
  WHAT IS PROVED: contracts of functions, and the plain law, for this proof. No further conditions.
-/
import Derived.Test.YtmfdpgjnmdlajaaDoorOrder4
import Derived.Test.YtmfdpgjnmdlajaaDoorErrB
set_option linter.unusedVariables false
set_option linter.unusedSimpArgs false
namespace Go.D
open Go Go.Proofs

theorem maps_Clone_spec (m : Nat) (t : Tab) (w : World) (h : MapAt MO w m t) :
    Calls Tryd.prog fn_maps_Clone_string ⟨[.map (some m)]⟩ w fun x w' => ∃ r, x = .returned (.map (some r)) ∧ MapAt MO w' r t ∧ Keep w w' ∧ w.heap.size ≤ r := by
  refine maps_Clone_string_ok _ ?_
  unfold maps_Clone_string
  obtain ⟨es, ck, h1, h2⟩ := h
  exact BIf_mk (fun h => by cases h) (fun _ => ⟨m, es, ck, rfl, h1, newS_mk (fun r w1 hr hb hk hs => ⟨some r, rfl, r, rfl, ⟨es, ck, hb, h2⟩, hk, by omega⟩)⟩)

/-! ### the search -/
def evD : Ev := ⟨0, 0, 0, [], [], [], false⟩
def evN (L : List Ev) (k : Nat) : Ev := L.getD k evD
theorem evN_eq {L : List Ev} {k : Nat} (h : k < L.length) : evN L k = L[k] := by simp [evN, h]
def mayB (L : List Ev) (pre : List Int) (k : Nat) : Bool :=
  !(decide ((k : Int) ∈ pre)) && (List.range L.length).all fun j => decide ((j : Int) ∈ pre) || !(decide ((evN L j).en < (evN L k).b))
def goP (L : List Ev) : Nat → List Int → Tab → Option (List Int)
  | 0, pre, _ => some pre
  | m + 1, pre, t => (List.range L.length).findSome? fun k => if mayB L pre k && (doB (evN L k) t).1 then goP L m (pre ++ [(k : Int)]) (doB (evN L k) t).2 else none

structure SrchAt (w : World) (r ru : Nat) (sl so : Slc) (L : List Ev) (pre : List Int) : Prop where
  o : ObjAt w r [sl.v, (⟨some ⟨ru, 0, none⟩, L.length, L.length⟩ : Slc).v, so.v]
  u : ObjAt w ru (usedOf L.length pre)
  od : Own w so 1 (pre.map intV)
  l : EvAt w sl L
  ne : ru ≠ r
  dr : ¬ ownB so r
  du : ¬ ownB so ru
  dl : 0 < L.length → ∀ k, ownB sl k → k ≠ r ∧ k ≠ ru ∧ ¬ ownB so k
def SM (r ru : Nat) (so : Slc) (k : Nat) : Prop := k = r ∨ k = ru ∨ ownB so k
section
variable {w w' : World} {r ru : Nat} {sl so : Slc} {L : List Ev} {pre : List Int}
theorem SrchAt.ext {M : Nat → Prop} (h : SrchAt w r ru sl so L pre) (he : Ext M w w') (h1 : ∀ k, SM r ru so k → ¬ M k) (h2 : 0 < L.length → ∀ k, ownB sl k → ¬ M k) : SrchAt w' r ru sl so L pre :=
  ⟨h.o.ext he (h1 r (.inl rfl)), h.u.ext he (h1 ru (.inr (.inl rfl))), h.od.ext he (fun k hk => h1 k (.inr (.inr hk))), h.l.ext he h2, h.ne, h.dr, h.du, h.dl⟩
theorem SrchAt.keep (h : SrchAt w r ru sl so L pre) (he : Keep w w') : SrchAt w' r ru sl so L pre := h.ext he (fun _ _ h => h) (fun _ _ _ h => h)
theorem SrchAt.lt (h : SrchAt w r ru sl so L pre) : ∀ k, SM r ru so k → k < w.heap.size := by
  rintro k (rfl | rfl | hk)
  · exact h.o.lt
  · exact h.u.lt
  · exact OwnLt h.od k hk
theorem SrchAt.c0 (h : SrchAt w r ru sl so L pre) : w.cell? ⟨r, 0, none⟩ = some sl.v := h.o.cell 0 (by simp)
theorem SrchAt.c1 (h : SrchAt w r ru sl so L pre) : w.cell? ((⟨r, 0, none⟩ : Addr).add 1) = some (⟨some ⟨ru, 0, none⟩, L.length, L.length⟩ : Slc).v := by rw [add_lit]; exact h.o.cell 1 (by simp)
theorem SrchAt.c2 (h : SrchAt w r ru sl so L pre) : w.cell? ((⟨r, 0, none⟩ : Addr).add 2) = some so.v := by rw [add_lit]; exact h.o.cell 2 (by simp)
theorem SrchAt.us (h : SrchAt w r ru sl so L pre) {k : Nat} (hk : k < L.length) : w.cell? (Addr.add (⟨ru, 0, none⟩ : Addr) ((Int.toNat (k : Int)) * 1)) = some (.bool (decide ((k : Int) ∈ pre))) := by
  rw [add_lit, show 0 + Int.toNat (k : Int) * 1 = k by omega, h.u.cell k (by rw [usedOf_len]; exact hk), usedOf_get hk]
end

theorem may_spec {w : World} {r ru : Nat} {sl so : Slc} {L : List Ev} {pre : List Int} (h : SrchAt w r ru sl so L pre) (k : Nat) (hk : k < L.length) (hl : L.length ≤ 2 ^ 40) :
    Calls Tryd.prog fn_order_search_may ⟨[.pointer (some ⟨r, 0, none⟩), .int .i64 (k : Int)]⟩ w fun x w' => x = .returned (.bool (mayB L pre k)) ∧ Keep w w' := by
  refine order_search_may_ok _ _ ?_
  unfold order_search_may
  have hsl := h.l.1
  refine needSome_mk rfl ⟨_, h.c1, needSome_mk rfl ⟨by omega, by simp only; omega, _, h.us hk, BIf_dec (fun h1 => ⟨?_, Ext.refl _ _⟩) (fun h1 => needSome_mk rfl ⟨_, h.c0, ?_⟩)⟩⟩
  · unfold mayB; rw [decide_eq_true h1]; rfl
  refine ⟨fun i w2 => ∃ j : Nat, i = j ∧ j ≤ L.length ∧ Keep w w2 ∧ ∀ j2 < j, (decide ((j2 : Int) ∈ pre) || !(decide ((evN L j2).en < (evN L k).b))) = true, fun i _ => ((L.length : Int) - i).toNat, ⟨0, rfl, by omega, Ext.refl _ _, fun j hj => by omega⟩, ?_⟩
  rintro i w12 ⟨j, rfl, hj, k12, hall⟩
  intros
  refine BIf_dec (fun h2 => ?_) (fun h2 => ?_)
  · have hjl : j < L.length := by omega
    obtain ⟨a, _, ha, hrow⟩ := (h.l.keep k12).row (n := (j : Int)) (by omega) (by omega)
    refine needSome_mk ha ⟨by omega, h2, _, _, _, _, _, _, _, hrow, ?_⟩
    simp only [Int.toNat_natCast]
    refine var_mk (cs := evC L[j]) rfl rfl (fun r50 w52 hr50 o50 k50 hs50 => ?_)
    have kd := (k12.trans k50).drew
    have hd := h.keep kd
    have od := o50.keep (Ext.drew none0 _)
    have step : ∀ {w2}, Keep w w2 → (decide ((j : Int) ∈ pre) || !(decide ((evN L j).en < (evN L k).b))) = true → inR .i64 ((j : Int) + 1) ∧ (∃ j2 : Nat, ((j : Int) + 1) = j2 ∧ j2 ≤ L.length ∧ Keep w w2 ∧ ∀ j3 < j2, (decide ((j3 : Int) ∈ pre) || !(decide ((evN L j3).en < (evN L k).b))) = true) ∧ ((L.length : Int) - ((j : Int) + 1)).toNat < ((L.length : Int) - (j : Int)).toNat := by
      intro w2 k2 hh
      refine ⟨inR64 (by omega), ⟨j + 1, rfl, hjl, k2, fun j3 h3 => ?_⟩, by omega⟩
      by_cases hjj : j3 = j
      · subst hjj; exact hh
      · exact hall j3 (by omega)
    refine needSome_mk rfl ⟨_, hd.c1, needSome_mk rfl ⟨by omega, by simp only; omega, _, by have := hd.us hjl; simpa using this, ?_⟩⟩
    refine BIf_ndec (fun h3 => ?_) (fun h3 => step kd (by rw [decide_eq_true h3]; rfl))
    obtain ⟨a2, _, ha2, hrow2⟩ := hd.l.row (n := (k : Int)) (by omega) (by omega)
    simp only [Int.toNat_natCast] at hrow2
    refine ⟨_, od.cell 1 (by simp [evC]), needSome_mk rfl ⟨_, hd.c0, needSome_mk ha2 ⟨by omega, by omega, _, by have := rowAt_c hrow2 0 (by simp [evC]); rw [add00] at this; exact this, BIf_dec (fun h4 => ⟨?_, kd⟩) (fun h4 => step kd ?_)⟩⟩⟩
    · unfold mayB
      rw [decide_eq_false h1]
      have : ((List.range L.length).all fun j => decide ((j : Int) ∈ pre) || !(decide ((evN L j).en < (evN L k).b))) = false := by
        rw [List.all_eq_false]
        refine ⟨j, by simpa using hjl, ?_⟩
        rw [decide_eq_false h3, evN_eq hjl, evN_eq hk, decide_eq_true h4]; simp
      rw [this]; rfl
    · rw [evN_eq hjl, evN_eq hk, decide_eq_false h4]; simp
  · have hjl : j = L.length := by omega
    subst hjl
    refine ⟨?_, k12⟩
    unfold mayB
    rw [decide_eq_false h1]
    have : ((List.range L.length).all fun j => decide ((j : Int) ∈ pre) || !(decide ((evN L j).en < (evN L k).b))) = true := List.all_eq_true.2 fun j hj => hall j (by simpa using hj)
    rw [this]; rfl

theorem Own.pop {w : World} {s : Slc} {vs : List Value} {v : Value} (h : Own w s 1 (vs ++ [v])) : Own w ⟨s.p, s.l - 1, s.c⟩ 1 vs := by
  obtain ⟨hl, ⟨hp, hv, hc⟩ | ⟨b, pad, T, f, hp, hb, h1, h2⟩⟩ := h
  · simp at hv
  · refine ⟨by simp at hl ⊢; omega, .inr ⟨b, [v] ++ pad, T, f, hp, by simpa using hb, by simpa using h1, by simpa using h2⟩⟩

theorem usedOf_unset {n : Nat} {pre : List Int} {k : Nat} (h : (k : Int) ∉ pre) : (usedOf n (pre ++ [(k : Int)])).set k (.bool false) = usedOf n pre := by
  refine List.ext_getElem (by simp [usedOf]) (fun i h1 h2 => ?_)
  have hi : i < n := by simpa [usedOf] using h2
  rw [usedOf_get hi, List.getElem_set]
  split
  · rename_i he
    subst he
    rw [decide_eq_false h]
  · rename_i he
    have : ¬ (i : Int) = k := by omega
    rw [usedOf_get hi]
    simp [this]

theorem findSome_range_none {α : Type} {f : Nat → Option α} {n : Nat} (h : ∀ j < n, f j = none) : (List.range n).findSome? f = none := by
  rw [List.findSome?_eq_none_iff]
  intro j hj
  exact h j (by simpa using hj)
theorem findSome_range_some {α : Type} {f : Nat → Option α} {n k : Nat} {a : α} (hk : k < n) (h : ∀ j < k, f j = none) (ha : f k = some a) : (List.range n).findSome? f = some a := by
  rw [show n = k + (n - k) by omega, List.range_add, List.findSome?_append, findSome_range_none h]
  obtain ⟨m, hm⟩ : ∃ m, n - k = m + 1 := ⟨n - k - 1, by omega⟩
  rw [hm, List.range_succ_eq_map]
  simp [ha]

theorem goOn_spec (L : List Ev) (r ru : Nat) (sl : Slc) (hl : L.length ≤ 2 ^ 20) : ∀ (m : Nat) (pre : List Int) (t : Tab) (mt : Nat) (so : Slc) (w : World), pre.length + m = L.length → SrchAt w r ru sl so L pre → MapAt MO w mt t → ¬ SM r ru so mt →
    Calls Tryd.prog fn_order_search_goOn ⟨[.pointer (some ⟨r, 0, none⟩), .map (some mt)]⟩ w fun x w' => ∃ so', x = .returned (.bool (goP L m pre t).isSome) ∧ SrchAt w' r ru sl so' L ((goP L m pre t).getD pre) ∧ Foot (SM r ru so) (SM r ru so') w w' := by
  intro m
  induction m with
  | zero =>
    intro pre t mt so w hm h hmt hsep
    refine order_search_goOn_ok _ _ ?_
    unfold order_search_goOn
    have hd := h.keep (Ext.drew none0 _)
    have h1 := hd.l.1
    have h2 := hd.od.1
    have h3 : so.l = pre.length := by simpa using h2
    refine needSome_mk rfl ⟨_, hd.c2, needSome_mk rfl ⟨_, hd.c0, BIf_dec (fun _ => ⟨so, rfl, hd, Ext.drew _ _, fun k hk => .inl hk⟩) (fun hne => by omega)⟩⟩
  | succ m ih =>
    intro pre t mt so w hm h hmt hsep
    refine order_search_goOn_ok _ _ ?_
    unfold order_search_goOn
    have hd := h.keep (Ext.drew none0 _)
    have h1 := hd.l.1
    have h2 := hd.od.1
    have h3 : so.l = pre.length := by simpa using h2
    refine needSome_mk rfl ⟨_, hd.c2, needSome_mk rfl ⟨_, hd.c0, BIf_dec (fun he => by omega) (fun _ => needSome_mk rfl ⟨_, hd.c0, ?_⟩)⟩⟩
    let F : Nat → Option (List Int) := fun k => if mayB L pre k && (doB (evN L k) t).1 then goP L m (pre ++ [(k : Int)]) (doB (evN L k) t).2 else none
    have hgo : goP L (m + 1) pre t = (List.range L.length).findSome? F := rfl
    refine ⟨fun i w2 => ∃ (k : Nat) (so2 : Slc), i = k ∧ k ≤ L.length ∧ SrchAt w2 r ru sl so2 L pre ∧ Foot (SM r ru so) (SM r ru so2) w w2 ∧ ∀ j < k, F j = none, fun i _ => ((L.length : Int) - i).toNat,
      ⟨0, so, rfl, by omega, hd, ⟨Ext.drew _ _, fun k hk => .inl hk⟩, fun j hj => by omega⟩, ?_⟩
    rintro i w12 ⟨k, so2, rfl, hk, h12, f12, hno⟩
    intros
    have hmtlt := hmt.lt
    have hmt2 : ∀ {w2 so3}, Foot (SM r ru so) (SM r ru so3) w w2 → MapAt MO w2 mt t ∧ ¬ SM r ru so3 mt := fun hf => ⟨hmt.ext hf.1 hsep, fun hh => (hf.2 _ hh).elim hsep (fun hh => by omega)⟩
    refine BIf_dec (fun h4 => ?_) (fun h4 => ?_)
    · have hkl : k < L.length := by omega
      obtain ⟨a, _, ha, hrow⟩ := h12.l.row (n := (k : Int)) (by omega) (by omega)
      refine needSome_mk ha ⟨by omega, h4, _, _, _, _, _, _, _, hrow, ?_⟩
      simp only [Int.toNat_natCast]
      refine var_mk (cs := evC L[k]) rfl rfl (fun r79 w81 hr79 o79 k79 hs79 => ?_)
      have h81 := h12.keep k79
      -- on to the next one
      have next : ∀ {w2 so3}, SrchAt w2 r ru sl so3 L pre → Foot (SM r ru so) (SM r ru so3) w w2 → F k = none → inR .i64 ((k : Int) + 1) ∧ (∃ (k2 : Nat) (so2 : Slc), ((k : Int) + 1) = k2 ∧ k2 ≤ L.length ∧ SrchAt w2 r ru sl so2 L pre ∧ Foot (SM r ru so) (SM r ru so2) w w2 ∧ ∀ j < k2, F j = none) ∧ ((L.length : Int) - ((k : Int) + 1)).toNat < ((L.length : Int) - (k : Int)).toNat := by
        intro w2 so3 hh hf hF
        refine ⟨inR64 (by omega), ⟨k + 1, so3, rfl, hkl, hh, hf, fun j hj => ?_⟩, by omega⟩
        by_cases hjk : j = k
        · subst hjk; exact hF
        · exact hno j (by omega)
      refine (may_spec h81 k hkl (by omega)).mono ?_
      rintro e w83 ⟨rfl, k83⟩
      have h83 := h81.keep k83
      have f83 := (f12.keep k79).keep k83
      refine ⟨_, rfl, BIf_mk (fun h5 => next h83 f83 ?_) (fun h5 => ?_)⟩
      · have : mayB L pre k = false := by simpa using h5
        simp [F, this]
      have hmay : mayB L pre k = true := by simpa using h5
      obtain ⟨m83, s83⟩ := hmt2 f83
      refine (maps_Clone_spec mt t w83 m83).mono ?_
      rintro e w86 ⟨rc, rfl, m86, k86, hrc⟩
      have h86 := h83.keep k86
      have f86 := f83.keep k86
      refine ⟨_, rfl, _, _, _, _, _, _, _, ((o79.keep k83).keep k86).row, ?_⟩
      refine (do_spec35 L[k] rc t w86 m86).mono ?_
      rintro e w96 ⟨rfl, m96, x96⟩
      have hrcn : ¬ SM r ru so2 rc := fun hh => by have := h83.lt rc hh; omega
      have hlist83 : ∀ j, ownB sl j → j ≠ rc := fun j hj hh => by
        have hlt := h83.l.lt (by omega) j hj
        omega
      have h96 := h86.ext x96 (fun j hj hh => hrcn (hh ▸ hj)) (fun _ j hj hh => hlist83 j hj hh)
      have f96 : Foot (SM r ru so) (SM r ru so2) w w96 := ⟨f86.1.trans x96 (fun _ h => h) (fun j hj => .inr (by have := f83.1.size; omega)), f86.2⟩
      have hev : evN L k = L[k] := evN_eq hkl
      refine ⟨_, rfl, BIf_mk (fun h6 => next h96 f96 ?_) (fun h6 => ?_)⟩
      · have : (doB L[k] t).1 = false := by simpa using h6
        simp only [F, hev, this, Bool.and_false]; rfl
      have hdo : (doB L[k] t).1 = true := by simpa using h6
      have hF : F k = goP L m (pre ++ [(k : Int)]) (doB L[k] t).2 := by simp only [F, hev, hmay, hdo, Bool.and_self, if_true]
      have hkn : (k : Int) ∉ pre := by
        unfold mayB at hmay
        simp only [Bool.and_eq_true] at hmay
        simpa using hmay.1
      -- taken
      obtain ⟨g1, g2⟩ := h96.u.setOne k (by rw [usedOf_len]; exact hkl) (.bool true)
      refine needSome_mk rfl ⟨_, h96.c1, needSome_mk rfl ⟨by omega, by simp only; omega, by rw [add_lit, show 0 + k * 1 = k by omega]; exact g1, fun w101 hw101 => ?_⟩⟩
      rw [add_lit, show 0 + k * 1 = k by omega] at hw101
      obtain ⟨g3, g4, g5⟩ := g2 w101 hw101
      have hus := usedOf_set (n := L.length) (pre := pre) (k := (k : Int)) (by omega)
      rw [Int.toNat_natCast] at hus
      rw [hus] at g3
      have o101 := h96.o.ext g4 (fun hh => h96.ne hh.symm)
      have od101 := h96.od.ext g4 (fun j hj hh => h96.du (hh ▸ hj))
      have l101 := h96.l.ext g4 (fun h0 j hj hh => (h96.dl h0 j hj).2.1 hh)
      have c2 : w101.cell? ((⟨r, 0, none⟩ : Addr).add 2) = some so2.v := by rw [add_lit]; exact o101.cell 2 (by simp)
      refine needSome_mk rfl ⟨_, c2, newS_mk (fun r104 w105 hr104 hb104 k104 hs104 => ?_)⟩
      have hb104' : Own w105 ⟨some ⟨r104, 0, none⟩, 1, 1⟩ 1 ([(k : Int)].map intV) := Own.new (sz := 1) (n := 1) hb104 (.inl (by simp)) rfl
      have hso2 : so2.l = pre.length := by have := h96.od.1; simpa using this
      refine appendS_own (od101.keep k104) (by omega) rfl (srcAt_slc hb104'.cells rfl) (one_ints _) (by simp only [Src.n]; omega) (fun so3 w107 e1 e2 e3 e4 => ?_)
      rw [← List.map_append] at e1
      have z96 : w101.heap.size = w96.heap.size := g5
      have z104 := k104.size
      have hr107 : ¬ ownB so3 r := fun hh => (e3 r hh).elim h96.dr (fun hh2 => by have := h96.o.lt; omega)
      have hu107 : ¬ ownB so3 ru := fun hh => (e3 ru hh).elim h96.du (fun hh2 => by have := h96.u.lt; omega)
      have o107 := (o101.keep k104).ext e2 (fun hh => h96.dr hh)
      obtain ⟨p1, p2⟩ := o107.setOne 2 (by simp) so3.v
      rw [show (⟨r, 2, none⟩ : Addr) = (⟨r, 0, none⟩ : Addr).add 2 by rw [add_lit]] at p1 p2
      refine needSome_mk rfl ⟨p1, fun w109 hw109 => ?_⟩
      obtain ⟨p3, p4, p5⟩ := p2 w109 hw109
      have hltl := h96.l.lt (by omega)
      have h109 : SrchAt w109 r ru sl so3 L (pre ++ [(k : Int)]) := ⟨p3, ((g3.keep k104).ext e2 (fun hh => h96.du hh)).ext p4 (fun hh => h96.ne hh), e1.ext p4 (fun j hj hh => hr107 (hh ▸ hj)),
        ((l101.keep k104).ext e2 (fun h0 j hj hh => (h96.dl h0 j hj).2.2 hh)).ext p4 (fun h0 j hj hh => (h96.dl h0 j hj).1 hh), h96.ne, hr107, hu107,
        fun h0 j hj => ⟨(h96.dl h0 j hj).1, (h96.dl h0 j hj).2.1, fun hh => (e3 j hh).elim (h96.dl h0 j hj).2.2 (fun hh2 => by have := hltl j hj; omega)⟩⟩
      have x109 : Ext (SM r ru so2) w96 w109 := ((g4.mono (fun j hj => .inr (.inl hj))).trans k104 (fun _ h => h) (fun _ h => h.elim) |>.trans e2 (fun _ h => h) (fun j hj => .inl (.inr (.inr hj)))).trans p4 (fun _ h => h) (fun j hj => .inl (.inl hj))
      have s109 : ∀ j, SM r ru so3 j → SM r ru so2 j ∨ w96.heap.size ≤ j := by
        rintro j (hj | hj | hj)
        · exact .inl (.inl hj)
        · exact .inl (.inr (.inl hj))
        · exact (e3 j hj).imp (fun h => .inr (.inr h)) (fun h => by omega)
      have f109 : Foot (SM r ru so) (SM r ru so3) w w109 := f96.trans ⟨x109, s109⟩
      have m109 : MapAt MO w109 rc (doB L[k] t).2 := m96.ext x109 hrcn
      have hrc3 : ¬ SM r ru so3 rc := fun hh => (s109 rc hh).elim hrcn (fun hh2 => by have := m96.lt; omega)
      refine (ih (pre ++ [(k : Int)]) (doB L[k] t).2 rc so3 w109 (by simp; omega) h109 m109 hrc3).mono ?_
      rintro e w111 ⟨so4, rfl, h111, f111⟩
      have f111' := f109.trans f111
      refine ⟨_, rfl, BIf_mk (fun h7 => ?_) (fun h7 => ?_)⟩
      · obtain ⟨o, ho⟩ := Option.isSome_iff_exists.1 h7
        rw [ho] at h111
        have hg : goP L (m + 1) pre t = some o := by rw [hgo]; exact findSome_range_some hkl hno (by rw [hF, ho])
        rw [hg]
        exact ⟨so4, rfl, h111, f111'⟩
      · have hnone : goP L m (pre ++ [(k : Int)]) (doB L[k] t).2 = none := by simpa using h7
        rw [hnone] at h111
        simp only [Option.getD_none] at h111
        obtain ⟨q1, q2⟩ := h111.u.setOne k (by rw [usedOf_len]; exact hkl) (.bool false)
        refine needSome_mk rfl ⟨_, h111.c1, needSome_mk rfl ⟨by omega, by simp only; omega, by rw [add_lit, show 0 + k * 1 = k by omega]; exact q1, fun w116 hw116 => ?_⟩⟩
        rw [add_lit, show 0 + k * 1 = k by omega] at hw116
        obtain ⟨q3, q4, q5⟩ := q2 w116 hw116
        rw [usedOf_unset hkn] at q3
        have o116 := (h111.o.ext q4 (fun hh => h111.ne hh.symm)).keep (Ext.drew none0 _)
        have c2' : w116.drew.cell? ((⟨r, 0, none⟩ : Addr).add 2) = some so4.v := by rw [add_lit]; exact o116.cell 2 (by simp)
        have hso4 : so4.l = pre.length + 1 := by have := h111.od.1; simpa using this
        have hso4c := h111.od.le (by omega)
        obtain ⟨v1, v2⟩ := o116.setOne 2 (by simp) (⟨so4.p, so4.l - 1, so4.c⟩ : Slc).v
        rw [show (⟨r, 2, none⟩ : Addr) = (⟨r, 0, none⟩ : Addr).add 2 by rw [add_lit]] at v1 v2
        refine needSome_mk rfl ⟨_, c2', needSome_mk rfl ⟨_, c2', inR64 (by omega), by omega, by omega, by omega, by omega, needSome_mk rfl ⟨v1, fun w123 hw123 => ?_⟩⟩⟩
        rw [sub0, show Int.toNat (((so4.l : Nat) : Int) - 1) = so4.l - 1 by omega] at hw123
        obtain ⟨v3, v4, v5⟩ := v2 w123 hw123
        have hpop := h111.od
        rw [List.map_append] at hpop
        have hown : ∀ j, ownB ⟨so4.p, so4.l - 1, so4.c⟩ j ↔ ownB so4 j := fun j => Iff.rfl
        have h123 : SrchAt w123 r ru sl ⟨so4.p, so4.l - 1, so4.c⟩ L pre := ⟨v3, (q3.keep (Ext.drew none0 _)).ext v4 (fun hh => h111.ne hh),
          (((Own.pop hpop).ext q4 (fun j hj hh => h111.du (hh ▸ hj))).keep (Ext.drew none0 _)).ext v4 (fun j hj hh => h111.dr (hh ▸ hj)),
          ((h111.l.ext q4 (fun h0 j hj hh => (h111.dl h0 j hj).2.1 hh)).keep (Ext.drew none0 _)).ext v4 (fun h0 j hj hh => (h111.dl h0 j hj).1 hh), h111.ne, h111.dr, h111.du, h111.dl⟩
        have f123 : Foot (SM r ru so4) (SM r ru ⟨so4.p, so4.l - 1, so4.c⟩) w111 w123 := ⟨((q4.mono (fun j hj => .inr (.inl hj))).trans (Ext.drew none0 _) (fun _ h => h) (fun _ h => h.elim)).trans v4 (fun _ h => h) (fun j hj => .inl (.inl hj)), fun j hj => .inl hj⟩
        exact next h123 (f111'.trans f123) (by rw [hF, hnone])
    · have hkl : k = L.length := by omega
      subst hkl
      have hg : goP L (m + 1) pre t = none := by rw [hgo]; exact findSome_range_none hno
      rw [hg]
      exact ⟨so2, rfl, h12, f12⟩
end Go.D
