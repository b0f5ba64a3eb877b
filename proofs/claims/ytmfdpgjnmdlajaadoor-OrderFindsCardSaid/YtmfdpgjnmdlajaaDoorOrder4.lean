/-
  WHAT IS PROVED: contracts of functions, and the plain law, for this proof. No further conditions.
-/
import Derived.Test.YtmfdpgjnmdlajaaDoorOrder3
set_option linter.unusedVariables false
set_option linter.unusedSimpArgs false
namespace Go.D
open Go Go.Proofs

/-- What the search of a key in the pairs has come to. -/
def AtK (t : Tab) (k : List UInt8) (i : Nat) (at_ : Int) : Prop := (at_ = -1 ∧ ∀ j (hj : j < t.length), j < i → t[j].1 ≠ k) ∨ ∃ (j : Nat) (hj : j < t.length), at_ = j ∧ t[j].1 = k

theorem early_some {L : List Ev} {e f : Ev} {m : Int} (h : idxE L m = some f) : early L e m = decide (f.en < e.b) := by unfold early; rw [h]

/-- A pair's value is laid. -/
theorem TabAt.setVal {w : World} {s : Slc} {t : Tab} (h : TabAt w s t) {j : Nat} (hj : j < t.length) (v : List UInt8) {a : Addr} (ha : s.p = some a) :
    canW w ((Addr.add a (j * 2)).add 1) 1 ∧ ∀ w', w' = World.setCell w ((Addr.add a (j * 2)).add 1) (strV v) → TabAt w' s (t.set j (t[j].1, v)) ∧ Ext (ownB s) w w' ∧ w'.heap.size = w.heap.size := by
  have hc : (t.map pairC)[j]'(by simpa using hj) = [strV t[j].1, strV t[j].2] := by simp [pairC]
  have h' : Rows PairR w s t (t.map pairC) := h
  obtain ⟨g1, g2⟩ := h'.set (i := j) (by simpa using hj) 1 [strV v] (by simp [PairR]) (t[j].1, v) ha (fun w' _ => by rw [hc]; rfl) (fun k hk => by rw [hc] at hk; exact (foot_pair hk).elim)
  refine ⟨g1, fun w' hw => ?_⟩
  have hw' : w' = setCells w ((a.add (j * PairR.n)).add 1) 0 [strV v] := by
    rw [hw]
    show World.setCell w ((Addr.add a (j * 2)).add 1) (strV v) = World.setCell w (((Addr.add a (j * 2)).add 1).add 0) (strV v)
    rw [add00]
  obtain ⟨g3, g4, g5⟩ := g2 w' hw'
  exact ⟨TabAt.mk g3, g4, g5⟩

theorem Stands_spec (s o : Slc) (L : List Ev) (ord : List Int) (w : World) (hs : EvAt w s L) (ho : intsAt w o ord) (hoc : o.l ≤ o.c) (hl : L.length ≤ 2 ^ 20) :
    Calls Tryd.prog fn_tidewaterref35_Stands ⟨[s.v, o.v]⟩ w fun x w' => x = .returned (.bool (standB L ord)) ∧ Keep w w' := by
  have hsl := hs.1
  have hol := ho.1
  refine tidewaterref35_Stands_ok _ _ ?_
  unfold tidewaterref35_Stands
  refine BIf_ndec (fun hne => ⟨by unfold standB; rw [decide_eq_false (by omega)]; rfl, Ext.refl _ _⟩) (fun heq => ?_)
  have hlen : ord.length = L.length := by omega
  have hst : standB L ord = (okL L [] ord && (pwL L ord && stL L ord [])) := by unfold standB; rw [decide_eq_true hlen]; rfl
  rw [hst]
  refine ⟨fun i w2 => ∃ k : Nat, i = k ∧ k ≤ ord.length ∧ Keep w w2 ∧ okL L [] ord = okL L (ord.take k) (ord.drop k), fun i _ => ((ord.length : Int) - i).toNat, ⟨0, rfl, by omega, Ext.refl _ _, rfl⟩, ?_⟩
  rintro i w6 ⟨k, rfl, hk, k6, hc⟩
  intros
  refine BIf_dec (fun h1 => ?_) (fun h1 => ?_)
  · -- the first pass
    have hkl : k < ord.length := by omega
    rw [drop_cons hkl] at hc
    obtain ⟨p, hp, hcp⟩ := intsAt_cell (intsAt_keep ho k6) hkl
    generalize hn : ord[k] = n at hc hcp
    have bad : ∀ {w2}, Keep w w2 → okL L (ord.take k) (n :: ord.drop (k + 1)) = false → (Ending.returned (Value.bool false) = .returned (.bool (okL L [] ord && (pwL L ord && stL L ord []))) ∧ Keep w w2) := by
      intro w2 k2 h
      rw [hc, h]
      exact ⟨rfl, k2⟩
    refine needSome_mk hp ⟨by omega, h1, n, by rw [show Int.toNat (k : Int) * 1 = k by omega]; exact hcp, BIf_dec (fun h2 => bad k6 (by rw [okL, idxE_none (.inl h2)])) (fun h2 => BIf_dec (fun h3 => bad k6 (by rw [okL, idxE_none (.inr (by omega))])) (fun h3 => ?_))⟩
    obtain ⟨hnl, hix⟩ := idxE_some (L := L) (n := n) (by omega) (by omega)
    obtain ⟨a, _, ha, hrow⟩ := (hs.keep k6).row (n := n) (by omega) (by omega)
    refine needSome_mk ha ⟨by omega, by omega, _, _, _, _, _, _, _, hrow, ?_⟩
    refine (Right_spec35 L[n.toNat] w6).mono ?_
    rintro e w49 ⟨rfl, k49⟩
    have k649 := k6.trans k49
    have bad1 : rightB L[n.toNat] = false → okL L (ord.take k) (n :: ord.drop (k + 1)) = false := fun h => by rw [okL, hix]; simp [h]
    refine ⟨_, rfl, BIf_mk (fun h4 => bad k649 (bad1 (by simpa using h4))) (fun h4 => ⟨by omega, by omega, by omega, by omega, ?_⟩)⟩
    rw [sub0, show Int.toNat (k : Int) = k by omega]
    refine (In_spec ⟨o.p, k, o.c⟩ (ord.take k) n w49 (intsAt_take (intsAt_keep ho k649) k (by omega)) (by simp; omega)).mono ?_
    rintro e w53 ⟨rfl, rfl⟩
    refine ⟨_, rfl, BIf_dec (fun h5 => bad k649 (by rw [okL, hix]; simp [h5])) (fun h5 => ⟨inR64 (by omega), ⟨k + 1, rfl, hkl, k649, ?_⟩, by dsimp only; omega⟩)⟩
    rw [hc, okL, hix, take_succ_get hkl, hn]
    have : rightB L[n.toNat] = true := by simpa using h4
    simp [this, h5]
  · have hkl : k = ord.length := by omega
    subst hkl
    rw [List.drop_length] at hc
    have hok : okL L [] ord = true := hc
    have hall : ∀ j (hj : j < ord.length), ∃ e, idxE L ord[j] = some e := fun j hj => okL_all hok _ (List.getElem_mem hj)
    rw [hok, Bool.true_and]
    -- the pairs of events
    refine ⟨fun i w2 => ∃ k : Nat, i = k ∧ k ≤ ord.length ∧ Keep w w2 ∧ pwL L ord = pwL L (ord.drop k), fun i _ => ((ord.length : Int) - i).toNat, ⟨0, rfl, by omega, k6, rfl⟩, ?_⟩
    rintro i w58 ⟨k, rfl, hk, k58, hcp⟩
    intros
    refine BIf_dec (fun h2 => ⟨inR64 (by omega), ?_⟩) (fun h2 => ?_)
    · have hkl : k < ord.length := by omega
      rw [drop_cons hkl] at hcp
      obtain ⟨e, he⟩ := hall k hkl
      obtain ⟨he0, he1, hel, hee⟩ := idxE_in he
      rw [pwL, he] at hcp
      simp only at hcp
      refine ⟨fun i w2 => ∃ j : Nat, i = ((k + 1 + j : Nat) : Int) ∧ j ≤ (ord.drop (k + 1)).length ∧ Keep w w2 ∧ ((ord.drop (k + 1)).take j).any (early L e) = false, fun i _ => ((ord.length : Int) - i).toNat, ⟨0, by omega, by omega, k58, rfl⟩, ?_⟩
      rintro i w93 ⟨j, rfl, hj, k93, hany⟩
      intros
      have hdl : (ord.drop (k + 1)).length = ord.length - (k + 1) := by simp
      refine BIf_dec (fun h3 => ?_) (fun h3 => ?_)
      · have hjl : j < (ord.drop (k + 1)).length := by omega
        have hjo : k + 1 + j < ord.length := by omega
        obtain ⟨f, hf⟩ := hall (k + 1 + j) hjo
        obtain ⟨hf0, hf1, hfl, hff⟩ := idxE_in hf
        have hdd := k93.drew
        obtain ⟨p2, hp2, hcp2⟩ := intsAt_cell (intsAt_keep ho hdd) hjo
        obtain ⟨p3, hp3, hcp3⟩ := intsAt_cell (intsAt_keep ho hdd) hkl
        obtain ⟨a, _, ha, hrow⟩ := (hs.keep hdd).row hf0 hf1
        obtain ⟨a2, _, ha2, hrow2⟩ := (hs.keep hdd).row he0 he1
        rw [hff] at hrow
        rw [hee] at hrow2
        have hget : (ord.drop (k + 1))[j] = ord[k + 1 + j] := by simp
        refine needSome_mk hp2 ⟨by omega, by omega, _, by rw [show Int.toNat ((k + 1 + j : Nat) : Int) * 1 = k + 1 + j by omega]; exact hcp2, needSome_mk ha ⟨hf0, by omega, _, rowAt_c hrow 1 (by simp [evC]), needSome_mk hp3 ⟨by omega, by omega, _, by rw [show Int.toNat (k : Int) * 1 = k by omega]; exact hcp3, needSome_mk ha2 ⟨he0, by omega, _, by have := rowAt_c hrow2 0 (by simp [evC]); rwa [add00] at this, ?_⟩⟩⟩⟩
        refine BIf_dec (fun h4 => ⟨?_, hdd⟩) (fun h4 => ⟨inR64 (by omega), ⟨j + 1, by omega, hjl, hdd, ?_⟩, by dsimp only; omega⟩)
        · have h5 : early L e ord[k + 1 + j] = true := by rw [early_some hf]; exact decide_eq_true h4
          have h6 : (ord.drop (k + 1)).any (early L e) = true := List.any_eq_true.2 ⟨_, hget ▸ List.getElem_mem hjl, h5⟩
          rw [hcp, h6]; rfl
        · rw [List.take_succ_eq_append_getElem hjl, List.any_append, hany, hget]
          have h5 : early L e ord[k + 1 + j] = false := by rw [early_some hf]; exact decide_eq_false h4
          simp [h5]
      · have hjl : j = (ord.drop (k + 1)).length := by omega
        rw [hjl, List.take_length] at hany
        refine ⟨inR64 (by omega), ⟨k + 1, rfl, hkl, k93, ?_⟩, by dsimp only; omega⟩
        rw [hcp, hany]; rfl
    · have hkl : k = ord.length := by omega
      subst hkl
      rw [List.drop_length] at hcp
      have hpw : pwL L ord = true := hcp
      rw [hpw, Bool.true_and]
      -- what is seen
      refine newS_mk (fun r126 w127 hr126 hb126 k126 hs126 => ?_)
      have t0 : TabAt w127 ⟨some ⟨r126, 0, none⟩, 0, 0⟩ [] := ⟨Own.new (sz := 2) (n := 0) hb126 (.inl (by simp)) rfl, rfl, fun i h => by simp at h, fun k ⟨_, h, _⟩ => by simp at h⟩
      have z58 := k58.size
      refine ⟨fun ts i w2 => ∃ (k : Nat) (t : Tab), i = k ∧ k ≤ ord.length ∧ TabAt w2 ts t ∧ Fresh w ts ∧ Keep w w2 ∧ Uniq t ∧ t.length ≤ k ∧ stL L ord [] = stL L (ord.drop k) t, fun _ i _ => ((ord.length : Int) - i).toNat,
        ⟨0, [], rfl, by omega, t0, Fresh.at (by omega), k58.trans k126, by simp [Uniq], by simp, rfl⟩, ?_⟩
      rintro ts i w132 ⟨k, t, rfl, hk, ht, hf, k132, hu, htl, hcs⟩
      intros
      refine BIf_dec (fun h3 => ?_) (fun h3 => ?_)
      · have hkl : k < ord.length := by omega
        rw [drop_cons hkl] at hcs
        obtain ⟨e, he⟩ := hall k hkl
        obtain ⟨he0, he1, hel, hee⟩ := idxE_in he
        rw [stL, he] at hcs
        simp only at hcs
        obtain ⟨p2, hp2, hcp2⟩ := intsAt_cell (intsAt_keep ho k132) hkl
        obtain ⟨a, _, ha, hrow⟩ := (hs.keep k132).row he0 he1
        rw [hee] at hrow
        refine needSome_mk hp2 ⟨by omega, by omega, _, by rw [show Int.toNat (k : Int) * 1 = k by omega]; exact hcp2, needSome_mk ha ⟨he0, by omega, _, _, _, _, _, _, _, hrow, ?_⟩⟩
        refine var_mk (cs := evC e) rfl rfl (fun r257 w259 hr257 o257 k257 hs257 => ?_)
        have hsl2 := Rows.sl ht
        have htlt := Rows.lt ht
        refine ⟨fun at_ i w2 => ∃ j : Nat, i = j ∧ j ≤ t.length ∧ Keep w259 w2 ∧ AtK t e.key j at_, fun _ i _ => ((t.length : Int) - i).toNat, ⟨0, rfl, by omega, Ext.refl _ _, .inl ⟨rfl, fun j hj h => by omega⟩⟩, ?_⟩
        rintro at_ i w264 ⟨j, rfl, hj, k264, hat⟩
        intros
        have k264' := k257.trans k264
        refine BIf_dec (fun h4 => ?_) (fun h4 => ?_)
        · have hjl : j < t.length := by omega
          obtain ⟨b, hb, _, hr⟩ := (ht.keep k264').get hjl
          refine needSome_mk hb ⟨by omega, h4, _, _, by rw [show Int.toNat (j : Int) * 2 = j * 2 by omega]; exact hr, ?_⟩
          refine var_mk (cs := [strV t[j].1, strV t[j].2]) rfl rfl (fun r281 w283 hr281 o281 k281 hs281 => ?_)
          refine ⟨_, o281.cell 0 (by simp), _, ((o257.keep k264).keep k281).cell 3 (by simp [evC]), BIf_dec (fun h5 => ⟨inR64 (by omega), ⟨j + 1, rfl, hjl, k264.trans k281, .inr ⟨j, hjl, rfl, h5⟩⟩, by dsimp only; omega⟩) (fun h5 => ⟨inR64 (by omega), ⟨j + 1, rfl, hjl, k264.trans k281, ?_⟩, by dsimp only; omega⟩)⟩
          rcases hat with ⟨q1, q2⟩ | q
          · refine .inl ⟨q1, fun j2 hj2 hlt => ?_⟩
            by_cases hjj : j2 = j
            · subst hjj; exact h5
            · exact q2 j2 hj2 (by omega)
          · exact .inr q
        · have hjl : j = t.length := by omega
          subst hjl
          have o264 := o257.keep k264
          have kw := k132.trans k264'
          have ht264 := ht.keep k264'
          have hz := k264'.size
          -- where the key is
          have hat2 : (at_ = -1 ∧ ∀ j (hj : j < t.length), t[j].1 ≠ e.key) ∨ ∃ (j : Nat) (hj : j < t.length), at_ = j ∧ t[j].1 = e.key := hat.imp (fun h => ⟨h.1, fun j hj => h.2 j hj hj⟩) (fun h => h)
          have hls : (lookL t e.key).isSome = decide (0 ≤ at_) := by
            rcases hat2 with ⟨q1, q2⟩ | ⟨j, hj, q1, q2⟩
            · rw [look_none q2, q1]; rfl
            · rw [(look_at hu hj q2).1, q1]; simp
          -- the next event
          have next : ∀ {ts2 w2 t2}, (doB e t).1 = true → t2 = (doB e t).2 → TabAt w2 ts2 t2 → Fresh w ts2 → Keep w w2 →
              inR .i64 ((k : Int) + 1) ∧ (∃ (k2 : Nat) (t : Tab), ((k : Int) + 1) = k2 ∧ k2 ≤ ord.length ∧ TabAt w2 ts2 t ∧ Fresh w ts2 ∧ Keep w w2 ∧ Uniq t ∧ t.length ≤ k2 ∧ stL L ord [] = stL L (ord.drop k2) t) ∧ ((ord.length : Int) - ((k : Int) + 1)).toNat < ((ord.length : Int) - (k : Int)).toNat := by
            intro ts2 w2 t2 hd h5 h6 h7 h8
            subst h5
            refine ⟨inR64 (by omega), ⟨k + 1, _, rfl, hkl, h6, h7, h8, hu.do e, by have := do_len (t := t) e; omega, ?_⟩, by omega⟩
            rw [hcs, hd]; rfl
          have stop : ∀ {w2}, Keep w w2 → (doB e t).1 = false → (Ending.returned (Value.bool false) = .returned (.bool (stL L ord [])) ∧ Keep w w2) := by
            intro w2 k2 hd
            rw [hcs, hd]
            exact ⟨rfl, k2⟩
          have ownf : ∀ {ts2}, Fresh w ts2 → ∀ j, ownB ts2 j → w.heap.size ≤ j := fun h j hj => h j hj
          refine ⟨_, o264.cell 2 (by simp [evC]), ?_⟩
          refine BIf_dec (fun h5 => ?_) (fun h5 => BIf_dec (fun h6 => ?_) (fun h6 => BIf_dec (fun h7 => ?_) (fun h7 => ?_)))
          · -- put
            have hd : doB e t = (true, putL t e.key e.val) := by unfold doB; rw [if_pos h5]
            refine BIf_dec (fun h8 => ?_) (fun h8 => ?_)
            · rcases hat2 with ⟨q1, q2⟩ | ⟨j, hj, rfl, q2⟩
              · omega
              · obtain ⟨b, hb, _, hr⟩ := ht264.get hj
                obtain ⟨g1, g2⟩ := ht264.setVal hj e.val hb
                refine ⟨_, o264.cell 4 (by simp [evC]), needSome_mk hb ⟨by omega, by omega, by rw [show Int.toNat (j : Int) * 2 = j * 2 by omega]; exact g1, fun w289 hw289 => ?_⟩⟩
                rw [show Int.toNat (j : Int) * 2 = j * 2 by omega] at hw289
                obtain ⟨g3, g4, g5⟩ := g2 w289 hw289
                refine next (by rw [hd]) rfl (by rw [hd]; simp only; rw [(look_at hu hj q2).2.1, ← q2]; exact g3) hf (kw.ext g4 (ownf hf))
            · rcases hat2 with ⟨q1, q2⟩ | ⟨j, hj, rfl, q2⟩
              · refine ⟨_, o264.cell 3 (by simp [evC]), _, o264.cell 4 (by simp [evC]), newS_mk (fun r292 w293 hr292 hb292 k292 hs292 => ?_)⟩
                have ht293 : Rows PairR w293 ts t (t.map pairC) := ht264.keep k292
                refine ht293.snoc (cs := [strV e.key, strV e.val]) (x := (e.key, e.val)) (z := [strV [], strV []]) rfl rfl (fun k hk => (foot_pair hk).elim) hb292 (.inl (by simp)) (by omega) (fun s' w' g1 g2 g3 => ?_)
                refine next (by rw [hd]) rfl (by rw [hd]; simp only; rw [put_none q2]; exact TabAt.mk g1) (fun j hj => (g3 j hj).elim (fun h => hf j h) (fun h => by have := kw.size; have := k292.size; omega)) ((kw.trans k292).ext g2 (ownf hf))
              · omega
          · -- delete
            have hd : doB e t = (e.yes == decide (0 ≤ at_), delL t e.key) := by unfold doB; rw [if_neg h5, if_pos h6, hls]
            refine ⟨_, o264.cell 6 (by simp [evC]), BIf_mk (fun h8 => stop kw (by rw [hd]; simpa using h8)) (fun h8 => ?_)⟩
            have hyes : (doB e t).1 = true := by rw [hd]; simpa using h8
            refine BIf_dec (fun h9 => ?_) (fun h9 => ?_)
            · rcases hat2 with ⟨q1, q2⟩ | ⟨j, hj, rfl, q2⟩
              · omega
              · have hcap := Rows.cap ht264
                refine ⟨by omega, by omega, by omega, by omega, inR64 (by omega), by omega, by omega, by omega, by omega, newS_mk (fun r299 w300 hr299 hb299 k299 hs299 => ?_)⟩
                have k300 : Keep w264 w300 := Keep.trans (Ext.drew _ _) k299
                have ow : Own w300 ts 2 (t.map pairC).flatten := (ht264.keep k300).own
                have hfl : (t.map pairC).flatten.length = t.length * 2 := by rw [flatM_len (n := 2) _ (fun c hc => by obtain ⟨p, _, rfl⟩ := List.mem_map.1 hc; rfl)]; simp
                have hone : ∀ v ∈ (t.map pairC).flatten, v.oneCell' = true := fun v hv => by
                  obtain ⟨c, hc, hv⟩ := List.mem_flatten.1 hv
                  obtain ⟨p, _, rfl⟩ := List.mem_map.1 hc
                  simp [pairC] at hv
                  rcases hv with rfl | rfl <;> rfl
                obtain ⟨c1, c2⟩ := ow.part (lo := 0) (hi := j) (c := ts.c) (by omega) (by omega) (by omega)
                rw [show Int.toNat (j : Int) = j by omega]
                refine appendS_own (vs := []) (Own.new (sz := 2) (n := 0) hb299 (.inl (by simp)) (by simp)) (by omega) rfl ⟨c2, c1⟩ (fun v hv => hone v (List.mem_of_mem_take (List.mem_of_mem_drop hv))) (by simp only [Src.n, Slc.sub]; omega) (fun s' w302 g1 g2 g3 g4 => ?_)
                have hr299' : ∀ k, ownB ⟨some ⟨r299, 0, none⟩, 0, 0⟩ k → k = r299 := by rintro k ⟨a, ha, rfl⟩; cases ha; rfl
                have z264 : w264.drew.heap.size = w264.heap.size := rfl
                have htl264 := Rows.lt ht264
                have ow2 : Own w302 ts 2 (t.map pairC).flatten := ow.ext g2 (fun k hk hh => by have := htl264 k hk; have := hr299' k hh; omega)
                obtain ⟨d1, d2⟩ := ow2.part (lo := j + 1) (hi := ts.l) (c := ts.c) (by omega) (by omega) (by omega)
                rw [show Int.toNat ((j : Int) + 1) = j + 1 by omega]
                have hs'l : s'.l = j := by rw [g4]; simp [Src.n, Slc.sub]
                have hs'f : ∀ k, ownB s' k → w264.heap.size ≤ k := fun k hk => (g3 k hk).elim (fun h => by have := hr299' k h; omega) (fun h => by omega)
                refine appendS_own g1 (by omega) rfl ⟨d2, d1⟩ (fun v hv => hone v (List.mem_of_mem_take (List.mem_of_mem_drop hv))) (by simp only [Src.n, Slc.sub]; omega) (fun s'' w304 f1 f2 f3 f4 => ?_)
                have kw304 : Keep w w304 := ((kw.trans k300).ext g2 (fun k hk => by have := hr299' k hk; have := kw.size; omega)).ext f2 (fun k hk => by have := hs'f k hk; have := kw.size; omega)
                have hcells : [] ++ ((t.map pairC).flatten.take (j * 2)).drop (0 * 2) ++ ((t.map pairC).flatten.take (ts.l * 2)).drop ((j + 1) * 2) = ((t.take j ++ t.drop (j + 1)).map pairC).flatten := by
                  have e1 : ((t.map pairC).flatten).take (j * 2) = ((t.take j).map pairC).flatten := by
                    have := flatM_split (n := 2) (t.map pairC) j (by simpa using hj)
                    rw [this, List.take_append_of_le_length (by rw [flatM_len (n := 2) _ (fun c hc => by obtain ⟨p, _, rfl⟩ := List.mem_map.1 (List.mem_of_mem_take hc); rfl)]; simp; omega), List.take_of_length_le (by rw [flatM_len (n := 2) _ (fun c hc => by obtain ⟨p, _, rfl⟩ := List.mem_map.1 (List.mem_of_mem_take hc); rfl)]; simp; omega), List.map_take]
                  have e2 : ((t.map pairC).flatten).drop ((j + 1) * 2) = ((t.drop (j + 1)).map pairC).flatten := by
                    have h1 : ∀ (l : List (List UInt8 × List UInt8)) (m : Nat), m ≤ l.length → ((l.map pairC).flatten).drop (m * 2) = ((l.drop m).map pairC).flatten := by
                      intro l
                      induction l with
                      | nil =>
                        intro m hm
                        have : m = 0 := by simpa using hm
                        subst this
                        rfl
                      | cons p l ih =>
                        intro m hm
                        cases m with
                        | zero => rfl
                        | succ m =>
                          rw [List.map_cons, List.flatten_cons, show (m + 1) * 2 = (pairC p).length + m * 2 by simp [pairC]; omega, ← List.drop_drop, List.drop_left', ih m (by simpa using hm)]
                          · rfl
                          · rfl
                    exact h1 t (j + 1) hj
                  rw [show ((t.map pairC).flatten).take (ts.l * 2) = (t.map pairC).flatten from List.take_of_length_le (by rw [hfl, hsl2]; exact Nat.le_refl _), e1, e2, List.map_append, List.flatten_append]
                  simp
                rw [hcells] at f1
                refine next hyes (by rw [hd]; simp only; rw [(look_at hu hj q2).2.2]) ⟨f1, by simp, fun i hi hi' => by rw [List.getElem_map]; rfl, fun k ⟨cs, hc, hk⟩ => by obtain ⟨p, _, rfl⟩ := List.mem_map.1 hc; exact (foot_pair hk).elim⟩ (fun k hk => (f3 k hk).elim (fun h => by have := hs'f k h; have := kw.size; omega) (fun h => by have := g2.size; have := k300.size; have := kw.size; omega)) kw304
            · rcases hat2 with ⟨q1, q2⟩ | ⟨j, hj, rfl, q2⟩
              · exact next hyes (by rw [hd]; simp only; rw [del_none q2]) ht264 hf kw
              · omega
          · -- compare and set
            have hld : lookL t e.key = if h : 0 ≤ at_ ∧ at_.toNat < t.length then some t[at_.toNat].2 else none := by
              rcases hat2 with ⟨q1, q2⟩ | ⟨j, hj, rfl, q2⟩
              · rw [look_none q2, dif_neg (by omega)]
              · rw [(look_at hu hj q2).1, dif_pos ⟨by omega, by simpa using hj⟩]; simp
            have hd : doB e t = (e.yes == doneB e t, if doneB e t then putL t e.key e.val else t) := by unfold doB; rw [if_neg h5, if_neg h6, if_pos h7]
            refine ⟨fun done w2 => done = doneB e t ∧ Keep w264 w2, ?_, ?_⟩
            · refine BIf_dec (fun h8 => ?_) (fun h8 => ⟨?_, Ext.drew _ _⟩)
              · rcases hat2 with ⟨q1, q2⟩ | ⟨j, hj, rfl, q2⟩
                · omega
                · obtain ⟨b, hb, _, hr⟩ := (ht264.keep (Ext.drew none0 _)).get hj
                  refine needSome_mk hb ⟨by omega, by omega, _, by rw [show Int.toNat (j : Int) * 2 = j * 2 by omega]; exact rowAt_c hr 1 (by simp), _, (o264.keep (Ext.drew none0 _)).cell 5 (by simp [evC]), ?_, Ext.drew _ _⟩
                  unfold doneB
                  rw [(look_at hu hj q2).1]; simp
              · unfold doneB; rw [hls, decide_eq_false h8]; rfl
            · rintro done w310 ⟨rfl, k310⟩
              intros
              have o310 := o264.keep k310
              have kw310 := kw.trans k310
              refine ⟨_, o310.cell 6 (by simp [evC]), BIf_mk (fun h8 => stop kw310 (by rw [hd]; simpa using h8)) (fun h8 => ?_)⟩
              have hyes : (doB e t).1 = true := by rw [hd]; simpa using h8
              refine BIf_mk (fun h9 => ?_) (fun h9 => ?_)
              · rcases hat2 with ⟨q1, q2⟩ | ⟨j, hj, rfl, q2⟩
                · exfalso
                  unfold doneB at h9
                  rw [look_none q2] at h9; cases h9
                · obtain ⟨b, hb, _, hr⟩ := (ht264.keep k310).get hj
                  obtain ⟨g1, g2⟩ := (ht264.keep k310).setVal hj e.val hb
                  refine ⟨_, o310.cell 4 (by simp [evC]), needSome_mk hb ⟨by omega, by omega, by rw [show Int.toNat (j : Int) * 2 = j * 2 by omega]; exact g1, fun w326 hw326 => ?_⟩⟩
                  rw [show Int.toNat (j : Int) * 2 = j * 2 by omega] at hw326
                  obtain ⟨g3, g4, g5⟩ := g2 w326 hw326
                  refine next hyes rfl (by rw [hd]; simp only [h9, if_true]; rw [(look_at hu hj q2).2.1, ← q2]; exact g3) hf (kw310.ext g4 (ownf hf))
              · exact next hyes (by rw [hd]; simp [h9]) (ht264.keep k310) hf kw310
          · -- a look
            have hrange : ∀ e', idxE L ord[k] = some e' → e'.kind = 4 ∨ ¬ (e'.kind = 4) := fun e' _ => Classical.em _
            have hd : doB e t = (e.yes == decide (0 ≤ at_) && (!decide (0 ≤ at_) || decide ((lookL t e.key).getD [] = e.val)), t) := by unfold doB; rw [if_neg h5, if_neg h6, if_neg h7, hls]
            have kd : Keep w w264.drew := kw.drew
            have dno : (e.yes == decide (0 ≤ at_)) = false → (doB e t).1 = false := fun h => by rw [hd]; simp only [h, Bool.false_and]
            have htd := ht264.keep (Ext.drew none0 _)
            refine BIf_dec (fun h8 => ?_) (fun h8 => ?_)
            · refine ⟨_, (o264.keep (Ext.drew none0 _)).cell 6 (by simp [evC]), BIf_mk (fun h9 => stop kd (dno (by simpa using h9))) (fun h9 => ?_)⟩
              have h10 : (e.yes == decide (0 ≤ at_)) = true := by simpa using h9
              refine BIf_dec (fun h11 => ?_) (fun h11 => ?_)
              · rcases hat2 with ⟨q1, q2⟩ | ⟨j, hj, rfl, q2⟩
                · omega
                · obtain ⟨b, hb, _, hr⟩ := htd.get hj
                  have hv : (lookL t e.key).getD [] = t[j].2 := by rw [(look_at hu hj q2).1]; rfl
                  refine needSome_mk hb ⟨by omega, by omega, _, by rw [show Int.toNat (j : Int) * 2 = j * 2 by omega]; exact rowAt_c hr 1 (by simp), _, (o264.keep (Ext.drew none0 _)).cell 4 (by simp [evC]), BIf_ndec (fun h12 => stop kd ?_) (fun h12 => next ?_ (by rw [hd]) htd hf kd)⟩
                  · rw [hd]; simp only [h10, hv]
                    rw [decide_eq_false (show ¬ t[j].2 = e.val from h12), decide_eq_true h11]; rfl
                  · rw [hd]; simp only [h10, hv]
                    rw [decide_eq_true (show t[j].2 = e.val from h12)]; simp
              · refine next ?_ (by rw [hd]) htd hf kd
                rw [hd]; simp only [h10]
                rw [decide_eq_false h11]; rfl
            · exfalso
              have hrt := okL_right hok (List.getElem_mem hkl) he
              unfold rightB at hrt
              simp only [Bool.and_eq_true, decide_eq_true_eq] at hrt
              have : e.kind = 1 ∨ e.kind = 2 ∨ e.kind = 3 ∨ e.kind = 4 := by omega
              rcases this with h | h | h | h
              · exact h5 h
              · exact h6 h
              · exact h7 h
              · exact h8 h
      · have : k = ord.length := by omega
        subst this
        rw [hcs, List.drop_length]
        exact ⟨rfl, k132⟩
end Go.D
