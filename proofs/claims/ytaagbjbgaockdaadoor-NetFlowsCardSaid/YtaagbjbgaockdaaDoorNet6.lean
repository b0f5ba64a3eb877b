/-
  WHAT IS PROVED: contracts of functions, and the plain law, for this proof. No further conditions.
-/
import Derived.Test.YtaagbjbgaockdaaDoorNet5
set_option linter.unusedVariables false
set_option linter.unusedSimpArgs false
namespace Go.D
open Go Go.Proofs
variable {w : World} {r : Nat} {p : RefP} {ns : List (Bool × Bool)} {all : List Rmsg}

def gone (x : Rmsg) : Rmsg := (x.1, x.2.1, x.2.2.1, true)
def goneAt (all : List Rmsg) (k : Nat) : List Rmsg := all.set k (gone (all.getD k (0, 0, [], true)))
theorem goneAt_eq (all : List Rmsg) (k : Nat) (h : k < all.length) : goneAt all k = all.set k (gone all[k]) := by
  simp [goneAt, List.getD, h]
theorem RefAt.setGone (h : RefAt w r p ns all) {k : Nat} (hk : k < all.length) : ∃ a, p.sa.p = some a ∧ canW w ((Addr.add a (k * 4)).add 3) 1 ∧ ∀ w', w' = World.setCell w ((Addr.add a (k * 4)).add 3) (.bool true) →
    ∃ p', RefAt w' r p' ns (goneAt all k) ∧ RefTo r p p' w w' := by
  obtain ⟨a, s, ha, hsp, hk', he, hrow, hb⟩ := h.msg hk
  have hcs : p.ass[k].take 3 ++ [Value.bool true] ++ p.ass[k].drop (3 + [Value.bool true].length) = rmC all[k].1 all[k].2.1 s true := by rw [he]; rfl
  have hfs : ∀ x, footV (rmC all[k].1 all[k].2.1 s true) x → RefF p x := fun x hx => ⟨p.ass[k], List.getElem_mem hk', by rw [he]; exact ⟨s, by simp [rmC], foot_rm hx⟩⟩
  obtain ⟨cw, g⟩ := h.a.set hk' 3 [.bool true] (show 3 + 1 ≤ 4 by omega) (gone all[k]) ha (fun w' he' => by
    rw [hcs]
    exact ⟨s, rfl, bytesAt_stay hb he' (fun h0 x hx hh => h.a.sep x ⟨p.ass[k], List.getElem_mem hk', by rw [he]; exact ⟨s, by simp [rmC], h0, hx⟩⟩ hh)⟩)
    (fun x hx hh => by rw [hcs] at hx; exact h.a.sep x (hfs x hx) hh)
  refine ⟨a, ha, cw, fun w' hw' => ?_⟩
  obtain ⟨g1, g2, g3⟩ := g w' (by rw [hw']; simp only [setCells, addr0]; rfl)
  rw [hcs] at g1
  have hff : ∀ x, footC (p.ass.set k (rmC all[k].1 all[k].2.1 s true)) x → RefF p x := by
    rintro x ⟨cs, hc, hx⟩
    rcases List.mem_or_eq_of_mem_set hc with h1 | rfl
    · exact ⟨cs, h1, hx⟩
    · exact hfs x hx
  refine ⟨⟨p.su, p.so, p.sa, p.us, p.vs, p.ass.set k (rmC all[k].1 all[k].2.1 s true)⟩, ⟨h.o.ext g2 h.da, h.u.boolExt g2 (fun x hx hh => h.ua x hx hh), h.v.boolExt g2 (fun x hx hh => h.va x hx hh), by rw [goneAt_eq all k hk]; exact g1, h.du, h.dv, h.da, h.uv, h.ua, h.va, fun x hx => h.df x (hff x hx)⟩, ⟨⟨g2.mono (fun x hx => .inr (.inr (.inr hx))), fun x hx => .inl hx⟩, fun x hx => .inl (hff x hx)⟩⟩

theorem refDrop_spec (h : RefAt w r p ns all) (n : Int) :
    Calls Tryd.prog fn_tidewaterref32_Net_Drop ⟨[ptrR r, .int .i64 n]⟩ w fun e w' =>
      (waitsR all n = false ∧ e = .returned (.int .i64 16) ∧ w' = w) ∨ (waitsR all n = true ∧ e = .returned (.int .i64 0) ∧ ∃ p', RefAt w' r p' ns (goneAt all n.toNat) ∧ RefTo r p p' w w') := by
  refine tidewaterref32_Net_Drop_ok _ _ ?_
  unfold tidewaterref32_Net_Drop
  refine (Waits_spec h n).mono ?_
  rintro e w4 ⟨rfl, rfl⟩
  have hl := h.a.sl
  refine ⟨_, rfl, BIf_mk (fun h1 => .inl ⟨by simpa using h1, rfl, rfl⟩) (fun h1 => ?_)⟩
  have h1 : waitsR all n = true := by simpa using h1
  obtain ⟨k, rfl, hk, hg⟩ := waitsR_iff.1 h1
  obtain ⟨a, ha, cw, g⟩ := h.setGone hk
  have ek : Int.toNat (k : Int) * 4 = k * 4 := by omega
  refine needSome_mk rfl ⟨_, h.c2, needSome_mk ha ⟨by omega, by omega, by rw [ek]; exact cw, fun w9 hw9 => ?_⟩⟩
  obtain ⟨p', h2, h3⟩ := g w9 (by rw [hw9, ek])
  exact .inr ⟨h1, rfl, p', by rw [show Int.toNat (k : Int) = k by omega]; exact h2, h3⟩

theorem refDeliver_spec (h : RefAt w r p ns all) (n : Int) :
    Calls Tryd.prog fn_tidewaterref32_Net_Deliver ⟨[ptrR r, .int .i64 n]⟩ w fun e w' =>
      (waitsR all n = false ∧ e = .returned (.int .i64 16) ∧ Keep w w') ∨
      (∃ (k : Nat) (hk : k < all.length), n = k ∧ all[k].2.2.2 = false ∧ ((reachN ns all[k].1 all[k].2.1 = false ∧ e = .returned (.int .i64 12) ∧ Keep w w') ∨
        (reachN ns all[k].1 all[k].2.1 = true ∧ e = .returned (.int .i64 0) ∧ ∃ p', RefAt w' r p' ns (goneAt all k) ∧ RefTo r p p' w w'))) := by
  refine tidewaterref32_Net_Deliver_ok _ _ ?_
  unfold tidewaterref32_Net_Deliver
  refine (Waits_spec h n).mono ?_
  rintro e w4 ⟨rfl, rfl⟩
  have hl := h.a.sl
  refine ⟨_, rfl, BIf_mk (fun h1 => .inl ⟨by simpa using h1, rfl, Ext.refl _ _⟩) (fun h1 => ?_)⟩
  have h1 : waitsR all n = true := by simpa using h1
  obtain ⟨k, rfl, hk, hg⟩ := waitsR_iff.1 h1
  have hd := h.keep (Ext.drew _ w4)
  obtain ⟨a, s, ha, hsp, hk', he, hrow, hb⟩ := hd.msg hk
  have ek : Int.toNat (k : Int) * 4 = k * 4 := by omega
  refine needSome_mk rfl ⟨_, hd.c2, needSome_mk ha ⟨by omega, by omega, all[k].1, by rw [ek]; have := hrow.1; rwa [addr0] at this, needSome_mk rfl ⟨_, hd.c2, needSome_mk ha ⟨by omega, by omega, all[k].2.1, by rw [ek]; exact hrow.2.1, ?_⟩⟩⟩⟩
  refine (refReach_spec hd _ _).mono ?_
  rintro e w15 ⟨rfl, k15'⟩
  have k15 := (Ext.drew none0 w4).trans k15' (fun _ h => h) (fun _ h => .inl h)
  refine ⟨_, rfl, BIf_mk (fun h2 => .inr ⟨k, hk, rfl, hg, .inl ⟨by simpa using h2, rfl, k15⟩⟩) (fun h2 => ?_)⟩
  have h15 := h.keep k15
  obtain ⟨a', ha', cw, g⟩ := h15.setGone hk
  rw [ha] at ha'
  cases ha'
  refine needSome_mk rfl ⟨_, h15.c2, needSome_mk ha ⟨by omega, by omega, by rw [ek]; exact cw, fun w9 hw9 => ?_⟩⟩
  obtain ⟨p', h4, h3⟩ := g w9 (by rw [hw9, ek])
  exact .inr ⟨k, hk, rfl, hg, .inr ⟨by simpa using h2, rfl, p', h4, Keep.refTo k15 h3⟩⟩

theorem refDouble_spec (h : RefAt w r p ns all) (n : Int) (hlen : all.length < 4096) :
    Calls Tryd.prog fn_tidewaterref32_Net_Double ⟨[ptrR r, .int .i64 n]⟩ w fun e w' =>
      (waitsR all n = false ∧ e = .returned (.tuple ⟨[.int .i64 0, .int .i64 16]⟩) ∧ Keep w w') ∨
      (∃ (k : Nat) (hk : k < all.length), n = k ∧ all[k].2.2.2 = false ∧ e = .returned (.tuple ⟨[.int .i64 (all.length : Int), .int .i64 0]⟩) ∧ ∃ p', RefAt w' r p' ns (all ++ [all[k]]) ∧ RefTo r p p' w w') := by
  refine tidewaterref32_Net_Double_ok _ _ ?_
  unfold tidewaterref32_Net_Double
  refine (Waits_spec h n).mono ?_
  rintro e w4 ⟨rfl, rfl⟩
  have hl := h.a.sl
  refine ⟨_, rfl, BIf_mk (fun h1 => .inl ⟨by simpa using h1, rfl, Ext.refl _ _⟩) (fun h1 => ?_)⟩
  have h1 : waitsR all n = true := by simpa using h1
  obtain ⟨k, rfl, hk, hg⟩ := waitsR_iff.1 h1
  refine (many_spec h (by omega)).mono ?_
  rintro e w7 ⟨m, rfl, hm, k7⟩
  refine ⟨m, rfl, BIf_dec (fun h6 => by omega) (fun _ => ?_)⟩
  have kd := k7.drew
  have hd := h.keep kd
  obtain ⟨a, s, ha, hsp, hk', he, hrow, hb⟩ := hd.msg hk
  have ek : Int.toNat (k : Int) * 4 = k * 4 := by omega
  refine needSome_mk rfl ⟨_, hd.c2, needSome_mk rfl ⟨_, hd.c2, needSome_mk ha ⟨by omega, by omega, _, _, s, _, by rw [ek]; exact hrow, newS_mk (fun r18 w19 hr18 hb18 k19' hs19 => ?_)⟩⟩⟩
  have k19 := kd.trans k19'
  have h19 := h.keep k19
  have hsf : ∀ x, 0 < s.l → ownB s x → RefF p x := fun x h0 hx => ⟨p.ass[k], List.getElem_mem hk', by rw [he]; exact ⟨s, by simp [rmC], h0, hx⟩⟩
  have hdf : ∀ x, RefF p x → ¬ RefM r p x := by
    rintro x hx (h1 | h1 | h1 | h1)
    · exact (h.df x hx).1 h1
    · exact (h.df x hx).2.1 h1
    · exact (h.df x hx).2.2 h1
    · exact h.a.sep x hx h1
  refine ⟨⟨_, h19.c2, rfl⟩, ?_⟩
  refine h19.push (f := all[k].1) (t := all[k].2.1) (s := s) (g := all[k].2.2.2) (b := all[k].2.2.1) rfl (bytesAt_keep hb k19') (fun h0 x hx => hdf x (hsf x h0 hx)) hb18 (by omega) (fun s43 w44 cw hg' => needSome_mk rfl ⟨cw, fun w46 hw46 => ?_⟩)
  obtain ⟨p', hp', hF, hf⟩ := hg' w46 hw46
  have hl' := hp'.a.sl
  rw [List.length_append, List.length_singleton] at hl'
  refine needSome_mk rfl ⟨_, hp'.c2, inR64 (by omega), .inr ⟨k, hk, rfl, hg, ?_, p', hp', Keep.foot k19 hF, fun x hx => (hf x hx).elim .inl (fun h2 => .inl (hsf x h2.1 h2.2))⟩⟩
  congr 4
  simp only [List.cons.injEq, Value.int.injEq, true_and, and_true]
  omega

theorem refFirst_spec (h : RefAt w r p ns all) (to : Int) (hl : all.length ≤ 2 ^ 40) :
    Calls Tryd.prog fn_tidewaterref32_Net_First ⟨[ptrR r, .int .i64 to]⟩ w fun e w' => ∃ n, e = .returned (.int .i64 n) ∧ FoundAt (fun m : Rmsg => m.2.2.2 = false ∧ m.2.1 = to ∧ reachN ns m.1 m.2.1 = true) all n ∧ Keep w w' := by
  refine tidewaterref32_Net_First_ok _ _ ?_
  unfold tidewaterref32_Net_First
  have hsl := h.a.sl
  refine needSome_mk rfl ⟨_, h.c2, fun i w2 => ∃ k : Nat, i = k ∧ k ≤ all.length ∧ Keep w w2 ∧ ∀ j (hj : j < all.length), j < k → ¬ (all[j].2.2.2 = false ∧ all[j].2.1 = to ∧ reachN ns all[j].1 all[j].2.1 = true), fun i _ => ((all.length : Int) - i).toNat, ⟨0, rfl, by omega, Ext.refl _ _, fun j _ hj => by omega⟩, ?_⟩
  rintro i w2 ⟨k, rfl, hk, k2, hno⟩
  intros
  refine BIf_dec (fun h1 => ?_) (fun h1 => ⟨_, rfl, .inr ⟨rfl, fun j hj => hno j hj (by omega)⟩, k2⟩)
  have hkl : k < all.length := by omega
  obtain ⟨a, s, ha, _, _, _, hrow, _⟩ := (h.keep k2).msg hkl
  refine needSome_mk ha ⟨by omega, h1, _, _, s, _, by rw [show Int.toNat (k : Int) * 4 = k * 4 by omega]; exact hrow, ?_⟩
  refine var_mk rfl rfl (fun r24 w26 hr24 o26 k26 hs26 => ?_)
  have k3 := k2.trans k26
  have next : ∀ w3, Keep w w3 → ¬ (all[k].2.2.2 = false ∧ all[k].2.1 = to ∧ reachN ns all[k].1 all[k].2.1 = true) → inR .i64 ((k : Int) + 1) ∧ (∃ k' : Nat, ((k : Int) + 1) = k' ∧ k' ≤ all.length ∧ Keep w w3 ∧ ∀ j (hj : j < all.length), j < k' → ¬ (all[j].2.2.2 = false ∧ all[j].2.1 = to ∧ reachN ns all[j].1 all[j].2.1 = true)) ∧ ((all.length : Int) - ((k : Int) + 1)).toNat < ((all.length : Int) - (k : Int)).toNat := by
    intro w3 hk3 hp
    refine ⟨inR64 (by omega), ⟨k + 1, rfl, hkl, hk3, fun j hj hjk => ?_⟩, by omega⟩
    by_cases hj2 : j = k
    · subst hj2; exact hp
    · exact hno j hj (by omega)
  refine ⟨_, o26.cell 3 (by simp), BIf_mk (fun hg => ?_) (fun hg => next _ k3 (fun hh => by rw [hh.1] at hg; cases hg))⟩
  have hg : all[k].2.2.2 = false := by simpa using hg
  refine ⟨_, o26.cell 1 (by simp), BIf_dec (fun ht => ?_) (fun ht => next _ k3 (fun hh => ht hh.2.1))⟩
  refine ⟨_, o26.cell 0 (by simp), _, o26.cell 1 (by simp), ?_⟩
  refine (refReach_spec (h.keep k3) _ _).mono ?_
  rintro e w48 ⟨rfl, k48⟩
  refine ⟨_, rfl, BIf_mk (fun hr => ⟨_, rfl, .inl ⟨k, rfl, hkl, ⟨hg, ht, hr⟩, fun j hj => hno j (by omega) hj⟩, k3.trans k48⟩) (fun hr => next _ (k3.trans k48) (fun hh => by rw [hh.2.2] at hr; cases hr))⟩

theorem nilOwn {k : Nat} : ¬ ownB ⟨none, 0, 0⟩ k := by rintro ⟨a, ha, _⟩; cases ha
theorem up_fst (n : Nat) : (upN n).map (·.1) = List.replicate n true := by simp [upN]
theorem up_snd (n : Nat) : (upN n).map (·.2) = List.replicate n false := by simp [upN]
theorem refNew_spec (n : Nat) (hn : n ≤ 16) (w : World) :
    Calls Tryd.prog fn_tidewaterref32_New ⟨[.int .i64 (n : Int)]⟩ w fun e w' => ∃ r p, e = .returned (ptrR r) ∧ RefAt w' r p (upN n) [] ∧ Keep w w' ∧ (∀ k, RefM r p k → w.heap.size ≤ k) ∧ ∀ k, ¬ RefF p k := by
  refine tidewaterref32_New_ok _ ?_
  unfold tidewaterref32_New
  refine newS_mk (fun r2 w3 hr2 hb2 k3 hs3 => ?_)
  refine ⟨fun i w7 => ∃ (k : Nat) (su so : Slc) (us vs : List (List Value)), i = k ∧ k ≤ n ∧ ObjAt w7 r2 [su.v, so.v, Slc.v ⟨none, 0, 0⟩] ∧ Rows BoolR w7 su (List.replicate k true) us ∧ Rows BoolR w7 so (List.replicate k false) vs ∧
      (∀ x, ownB su x → w.heap.size ≤ x ∧ x ≠ r2) ∧ (∀ x, ownB so x → w.heap.size ≤ x ∧ x ≠ r2) ∧ (∀ x, ownB su x → ¬ ownB so x) ∧ Keep w w7, fun i _ => ((n : Int) - i).toNat,
    ⟨0, ⟨none, 0, 0⟩, ⟨none, 0, 0⟩, [], [], rfl, by omega, ObjAt.new' hb2, Rows.nil _ _, Rows.nil _ _, fun x hx => (nilOwn hx).elim, fun x hx => (nilOwn hx).elim, fun x hx => (nilOwn hx).elim, k3⟩, ?_⟩
  rintro i w7 ⟨k, su, so, us, vs, rfl, hk, o7, u7, v7, hu, hv, huv, k7⟩
  intros
  refine BIf_dec (fun h1 => ?_) (fun h1 => ?_)
  · have hkn : k < n := by omega
    have ult := u7.lt
    have vlt := v7.lt
    have rlt := o7.lt
    have z7 := k7.size
    have rs : ∀ (b : Bool), List.replicate k b ++ [b] = List.replicate (k + 1) b := fun b => by rw [List.replicate_succ']
    -- the end of a round
    have fin : ∀ (s37 s43 : Slc) (us' vs' : List (List Value)) (w44 : World), ObjAt w44 r2 [su.v, so.v, Slc.v ⟨none, 0, 0⟩] → Rows BoolR w44 s37 (List.replicate k true ++ [true]) us' → Rows BoolR w44 s43 (List.replicate k false ++ [false]) vs' →
        (∀ x, ownB s37 x → ownB su x ∨ w7.heap.size ≤ x) → (∀ x, ownB s43 x → ownB so x ∨ (w7.heap.size ≤ x ∧ ¬ ownB s37 x)) → Keep w w44 →
        canW w44 (⟨r2, 0, none⟩ : Addr) 1 ∧ ∀ w45 : World, w45 = World.setCell w44 (⟨r2, 0, none⟩ : Addr) s37.v → canW w45 (⟨r2, 1, none⟩ : Addr) 1 ∧ ∀ w46 : World, w46 = World.setCell w45 (⟨r2, 1, none⟩ : Addr) s43.v →
        inR .i64 ((k : Int) + 1) ∧ (∃ (k' : Nat) (su so : Slc) (us vs : List (List Value)), ((k : Int) + 1) = k' ∧ k' ≤ n ∧ ObjAt w46 r2 [su.v, so.v, Slc.v ⟨none, 0, 0⟩] ∧ Rows BoolR w46 su (List.replicate k' true) us ∧ Rows BoolR w46 so (List.replicate k' false) vs ∧
          (∀ x, ownB su x → w.heap.size ≤ x ∧ x ≠ r2) ∧ (∀ x, ownB so x → w.heap.size ≤ x ∧ x ≠ r2) ∧ (∀ x, ownB su x → ¬ ownB so x) ∧ Keep w w46) ∧ ((n : Int) - ((k : Int) + 1)).toNat < ((n : Int) - (k : Int)).toNat := by
      intro s37 s43 us' vs' w44 o44 u44 v44 n37 n43 k44
      have hu' : ∀ x, ownB s37 x → w.heap.size ≤ x ∧ x ≠ r2 := fun x hx => (n37 x hx).elim (hu x) (fun h => ⟨by omega, by omega⟩)
      have hv' : ∀ x, ownB s43 x → w.heap.size ≤ x ∧ x ≠ r2 := fun x hx => (n43 x hx).elim (hv x) (fun h => ⟨by omega, by omega⟩)
      obtain ⟨c1, g1⟩ := o44.setOne 0 (by simp) s37.v
      refine ⟨c1, fun w45 hw45 => ?_⟩
      obtain ⟨o45, e45, z45⟩ := g1 w45 hw45
      obtain ⟨c2, g2⟩ := o45.setOne 1 (by simp) s43.v
      refine ⟨c2, fun w46 hw46 => ?_⟩
      obtain ⟨o46, e46, z46⟩ := g2 w46 hw46
      refine ⟨inR64 (by omega), ⟨k + 1, s37, s43, us', vs', rfl, hkn, o46, ?_, ?_, hu', hv', ?_, (k44.step (by omega) e45).step (by omega) e46⟩, by omega⟩
      · rw [← rs]; exact (u44.boolExt e45 (fun x hx hh => (hu' x hx).2 hh)).boolExt e46 (fun x hx hh => (hu' x hx).2 hh)
      · rw [← rs]; exact (v44.boolExt e45 (fun x hx hh => (hv' x hx).2 hh)).boolExt e46 (fun x hx hh => (hv' x hx).2 hh)
      · intro x hx hy
        rcases n43 x hy with h2 | h2
        · rcases n37 x hx with h3 | h3
          · exact huv x h3 h2
          · have := vlt x h2; omega
        · exact h2.2 hx
    have kd := k7.drew
    have od := o7.keep (Ext.drew _ w7)
    have ud := u7.keep (Ext.drew _ w7)
    have vd := v7.keep (Ext.drew _ w7)
    have zd : w7.drew.heap.size = w7.heap.size := rfl
    have lk : ∀ b : Bool, (List.replicate k b).length < 2 ^ 30 := fun b => by rw [List.length_replicate]; omega
    refine ⟨_, od.cell 0 (by simp), _, od.cell 1 (by simp), ⟨newS_mk (fun r33 w34 hr33 hb33 k34' hs34 => ?_), newS_mk (fun r58 w59 hr58 hb58 k59' hs59 => ?_)⟩⟩
    · have k34 := kd.trans k34'
      have o34 := od.keep k34'
      refine ⟨⟨_, o34.cell 1 (by simp), rfl⟩, ⟨_, o34.cell 0 (by simp), rfl⟩, ?_, newS_mk (fun r47 w48 hr47 hb47 k48' hs48 => ?_)⟩
      · refine (ud.keep k34').snoc (e := BoolR) (x := true) (cs := [.bool true]) rfl rfl (fun x hx => (foot_bool hx).elim) hb33 (.inl (by simp)) (lk _) (fun s37 w38 hR he hn => ?_)
        have o38 := o34.ext he (fun hh => (hu _ hh).2 rfl)
        have v38 := (vd.keep k34').boolExt he (fun x hx hh => huv x hh hx)
        refine ⟨⟨_, o38.cell 1 (by simp), rfl⟩, newS_mk (fun r40 w41 hr40 hb40 k41' hs41 => ?_)⟩
        have o41 := o38.keep k41'
        have k38 : Keep w w38 := k34.ext he (fun x hx => (hu x hx).1)
        have k41 := k38.trans k41'
        refine ⟨⟨_, o41.cell 1 (by simp), rfl⟩, ?_⟩
        have z34 := k34'.size
        have z38 := he.size
        have z41 := k41'.size
        have lt37 := hR.lt
        refine (v38.keep k41').snoc (e := BoolR) (x := false) (cs := [.bool false]) rfl rfl (fun x hx => (foot_bool hx).elim) hb40 (.inl (by simp)) (lk _) (fun s43 w44 hR2 he2 hn2 => ?_)
        refine fin s37 s43 _ _ w44 (o41.ext he2 (fun hh => (hv _ hh).2 rfl)) ((hR.keep k41').boolExt he2 (fun x hx hh => ?_)) hR2 (fun x hx => (hn x hx).imp (fun h => h) (fun h => by omega)) (fun x hx => ?_) (k41.ext he2 (fun x hx => (hv x hx).1))
        · rcases hn x hx with h2 | h2
          · exact huv x h2 hh
          · have := vlt x hh; omega
        · rcases hn2 x hx with h2 | h2
          · exact .inl h2
          · exact .inr ⟨by omega, fun h3 => by have := lt37 x h3; omega⟩
      · have k48 := k34.trans k48'
        have o48 := o34.keep k48'
        have kk := k34'.trans k48'
        have z34 := k34'.size
        have z48 := k48'.size
        refine ⟨⟨_, o48.cell 1 (by simp), rfl⟩, ⟨_, o48.cell 0 (by simp), rfl⟩, ?_⟩
        refine (ud.keep kk).snoc (e := BoolR) (x := true) (cs := [.bool true]) rfl rfl (fun x hx => (foot_bool hx).elim) (k48'.heap hb33) (.inl (by simp)) (lk _) (fun s51 w52 hR he hn => ?_)
        have o52 := o48.ext he (fun hh => (hu _ hh).2 rfl)
        have v52 := (vd.keep kk).boolExt he (fun x hx hh => huv x hh hx)
        have z52 := he.size
        have lt51 := hR.lt
        have hb47' := he.heap hb47 (fun hh => by have := ult _ hh; omega)
        refine ⟨⟨_, o52.cell 1 (by simp), rfl⟩, ?_⟩
        refine v52.snoc (e := BoolR) (x := false) (cs := [.bool false]) rfl rfl (fun x hx => (foot_bool hx).elim) hb47' (.inl (by simp)) (lk _) (fun s54 w55 hR2 he2 hn2 => ?_)
        refine fin s51 s54 _ _ w55 (o52.ext he2 (fun hh => (hv _ hh).2 rfl)) (hR.boolExt he2 (fun x hx hh => ?_)) hR2 (fun x hx => (hn x hx).imp (fun h => h) (fun h => by omega)) (fun x hx => ?_) ((k48.ext he (fun x hx => (hu x hx).1)).ext he2 (fun x hx => (hv x hx).1))
        · rcases hn x hx with h2 | h2
          · exact huv x h2 hh
          · have := vlt x hh; omega
        · rcases hn2 x hx with h2 | h2
          · exact .inl h2
          · exact .inr ⟨by omega, fun h3 => by have := lt51 x h3; omega⟩
    · have k59 := kd.trans k59'
      have o59 := od.keep k59'
      refine ⟨⟨_, o59.cell 1 (by simp), rfl⟩, ⟨_, o59.cell 0 (by simp), rfl⟩, newS_mk (fun r62 w63 hr62 hb62 k63' hs63 => ?_)⟩
      have k63 := k59.trans k63'
      have o63 := o59.keep k63'
      have kk := k59'.trans k63'
      have z59 := k59'.size
      have z63 := k63'.size
      refine ⟨⟨_, o63.cell 1 (by simp), rfl⟩, ⟨_, o63.cell 0 (by simp), rfl⟩, ?_⟩
      refine (ud.keep kk).snoc (e := BoolR) (x := true) (cs := [.bool true]) rfl rfl (fun x hx => (foot_bool hx).elim) hb62 (.inl (by simp)) (lk _) (fun s66 w67 hR he hn => ?_)
      have o67 := o63.ext he (fun hh => (hu _ hh).2 rfl)
      have v67 := (vd.keep kk).boolExt he (fun x hx hh => huv x hh hx)
      have z67 := he.size
      have lt66 := hR.lt
      have hb58' := he.heap (k63'.heap hb58) (fun hh => by have := ult _ hh; omega)
      refine ⟨⟨_, o67.cell 1 (by simp), rfl⟩, ?_⟩
      refine v67.snoc (e := BoolR) (x := false) (cs := [.bool false]) rfl rfl (fun x hx => (foot_bool hx).elim) hb58' (.inl (by simp)) (lk _) (fun s69 w70 hR2 he2 hn2 => ?_)
      refine fin s66 s69 _ _ w70 (o67.ext he2 (fun hh => (hv _ hh).2 rfl)) (hR.boolExt he2 (fun x hx hh => ?_)) hR2 (fun x hx => (hn x hx).imp (fun h => h) (fun h => by omega)) (fun x hx => ?_) ((k63.ext he (fun x hx => (hu x hx).1)).ext he2 (fun x hx => (hv x hx).1))
      · rcases hn x hx with h2 | h2
        · exact huv x h2 hh
        · have := vlt x hh; omega
      · rcases hn2 x hx with h2 | h2
        · exact .inl h2
        · exact .inr ⟨by omega, fun h3 => by have := lt66 x h3; omega⟩
  · obtain rfl : k = n := by omega
    refine ⟨r2, ⟨su, so, ⟨none, 0, 0⟩, us, vs, []⟩, rfl, ⟨o7, by rw [up_fst]; exact u7, by rw [up_snd]; exact v7, Rows.nil _ _, fun hh => (hu _ hh).2 rfl, fun hh => (hv _ hh).2 rfl, nilOwn, huv, fun x _ => nilOwn, fun x _ => nilOwn, fun x hx => by obtain ⟨_, hc, _⟩ := hx; cases hc⟩, k7, ?_, fun x hx => by obtain ⟨_, hc, _⟩ := hx; cases hc⟩
    rintro x (rfl | hx | hx | hx)
    · omega
    · exact (hu x hx).1
    · exact (hv x hx).1
    · exact (nilOwn hx).elim
end Go.D
