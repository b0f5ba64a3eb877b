/-
  WHAT IS PROVED: contracts of functions, and the plain law, for this proof. No further conditions.
-/
import Derived.Test.YtaagbjbgaockdaaDoorNet4
import Derived.Test.YtaagbjbgaockdaaDoorVCnet2
set_option linter.unusedVariables false
set_option linter.unusedSimpArgs false
namespace Go.D
open Go Go.Proofs

/-! ### the reference -/
abbrev Rmsg := Int × Int × List UInt8 × Bool
def BoolR : RowD Bool where
  n := 1
  pos := by omega
  R _ x cs := cs = [.bool x]
  len h := by rw [h]; rfl
  one h := by rw [h]; intro v hv; simp at hv; subst hv; rfl
  ext h _ _ := h
  lt h := by rw [h]; rintro k ⟨s, hs, _⟩; simp [Slc.v] at hs
theorem foot_bool {a : Bool} {k : Nat} : ¬ footV [.bool a] k := by rintro ⟨s, hs, _⟩; simp [Slc.v] at hs
theorem footC_bool {w : World} {s : Slc} {ns : List Bool} {nss : List (List Value)} (h : Rows BoolR w s ns nss) (k : Nat) : ¬ footC nss k := by
  rintro ⟨cs, hc, hk⟩
  obtain ⟨i, hi, rfl⟩ := List.getElem_of_mem hc
  have : nss[i] = _ := h.row i hi (by rw [← h.len]; exact hi)
  rw [this] at hk
  exact foot_bool hk
theorem Rows.boolExt {M : Nat → Prop} {w w' : World} {s : Slc} {ns : List Bool} {nss : List (List Value)} (h : Rows BoolR w s ns nss) (he : Ext M w w') (h1 : ∀ k, ownB s k → ¬ M k) : Rows BoolR w' s ns nss :=
  h.ext he h1 (fun k hk => (footC_bool h k hk).elim)
theorem Rows.boolAt {w : World} {s : Slc} {ns : List Bool} {nss : List (List Value)} (h : Rows BoolR w s ns nss) {i : Int} (hi : 0 ≤ i ∧ i < ns.length) : ∃ a, s.p = some a ∧ a.spot = none ∧ 0 ≤ i ∧ i < ((s.l : Nat) : Int) ∧
    World.cell? w (Addr.add a ((Int.toNat i) * 1)) = some (.bool (ns.getD i.toNat false)) := by
  have hl := h.sl
  have hlen := h.len
  have hi3 : i.toNat < nss.length := by omega
  have hi4 : i.toNat < ns.length := by omega
  obtain ⟨a, ha, hsp, hrow⟩ := h.get hi3
  have hR : nss[i.toNat] = [.bool ns[i.toNat]] := h.row i.toNat hi3 hi4
  rw [hR] at hrow
  have hnd : ns.getD i.toNat false = ns[i.toNat] := by simp [List.getD, hi4]
  rw [hnd]
  exact ⟨a, ha, hsp, hi.1, by omega, by have := hrow.1; rwa [addr0] at this⟩
theorem Rows.boolSet {w : World} {s : Slc} {ns : List Bool} {nss : List (List Value)} (h : Rows BoolR w s ns nss) {i : Int} (hi : 0 ≤ i ∧ i < ns.length) (v : Bool) : ∃ a, s.p = some a ∧ 0 ≤ i ∧ i < ((s.l : Nat) : Int) ∧
    canW w (Addr.add a ((Int.toNat i) * 1)) 1 ∧ ∀ w', w' = World.setCell w (Addr.add a ((Int.toNat i) * 1)) (.bool v) → ∃ nss', Rows BoolR w' s (ns.set i.toNat v) nss' ∧ Ext (ownB s) w w' := by
  have hl := h.sl
  have hlen := h.len
  have hi3 : i.toNat < nss.length := by omega
  have hi4 : i.toNat < ns.length := by omega
  obtain ⟨a, ha, hsp, hrow⟩ := h.get hi3
  have hR : nss[i.toNat] = [.bool ns[i.toNat]] := h.row i.toNat hi3 hi4
  have hcs : nss[i.toNat].take 0 ++ [Value.bool v] ++ nss[i.toNat].drop (0 + [Value.bool v].length) = [Value.bool v] := by rw [hR]; rfl
  obtain ⟨cw, g⟩ := h.set hi3 0 [.bool v] (Nat.le_refl 1) v ha (fun w' _ => by rw [hcs]; rfl) (fun k hk => by rw [hcs] at hk; exact (foot_bool hk).elim)
  rw [addr0] at cw g
  refine ⟨a, ha, hi.1, by omega, cw, fun w' hw' => ?_⟩
  obtain ⟨g1, g2, g3⟩ := g w' (by rw [hw']; simp only [setCells, addr0]; rfl)
  exact ⟨_, g1, g2⟩

def rmC (f t : Int) (s : Slc) (g : Bool) : List Value := [.int .i64 f, .int .i64 t, s.v, .bool g]
theorem foot_rm {f t : Int} {s : Slc} {g : Bool} {k : Nat} (h : footV (rmC f t s g) k) : 0 < s.l ∧ ownB s k := by
  obtain ⟨s', hs, h1, h2⟩ := h
  have : s' = s := by
    obtain ⟨p, l, c⟩ := s
    obtain ⟨p', l', c'⟩ := s'
    simp [rmC, Slc.v] at hs
    obtain ⟨rfl, rfl, rfl⟩ := hs
    rfl
  subst this
  exact ⟨h1, h2⟩
theorem rm_one (f t : Int) (s : Slc) (g : Bool) : ∀ v ∈ rmC f t s g, v.oneCell' = true := by
  intro v hv
  simp [rmC] at hv
  rcases hv with rfl | rfl | rfl | rfl <;> rfl
def RmR : RowD Rmsg where
  n := 4
  pos := by omega
  R w x cs := ∃ s : Slc, cs = rmC x.1 x.2.1 s x.2.2.2 ∧ bytesAt w s x.2.2.1
  len := by rintro w x cs ⟨s, rfl, _⟩; rfl
  one := by rintro w x cs ⟨s, rfl, _⟩; exact rm_one _ _ _ _
  ext := by
    rintro M w w' x cs ⟨s, rfl, h⟩ he hm
    exact ⟨s, rfl, bytesAt_stay h he (fun h0 k hk => hm k ⟨s, by simp [rmC], h0, hk⟩)⟩
  lt := by
    rintro w x cs ⟨s, rfl, h⟩ k hk
    obtain ⟨h0, hk⟩ := foot_rm hk
    exact bytesAt_lt h h0 k hk

structure RefP where
  su : Slc
  so : Slc
  sa : Slc
  us : List (List Value)
  vs : List (List Value)
  ass : List (List Value)
structure RefAt (w : World) (r : Nat) (p : RefP) (ns : List (Bool × Bool)) (all : List Rmsg) : Prop where
  o : ObjAt w r [p.su.v, p.so.v, p.sa.v]
  u : Rows BoolR w p.su (ns.map (·.1)) p.us
  v : Rows BoolR w p.so (ns.map (·.2)) p.vs
  a : Rows RmR w p.sa all p.ass
  du : ¬ ownB p.su r
  dv : ¬ ownB p.so r
  da : ¬ ownB p.sa r
  uv : ∀ k, ownB p.su k → ¬ ownB p.so k
  ua : ∀ k, ownB p.su k → ¬ ownB p.sa k
  va : ∀ k, ownB p.so k → ¬ ownB p.sa k
  df : ∀ k, footC p.ass k → k ≠ r ∧ ¬ ownB p.su k ∧ ¬ ownB p.so k
def RefM (r : Nat) (p : RefP) (k : Nat) : Prop := k = r ∨ ownB p.su k ∨ ownB p.so k ∨ ownB p.sa k
def RefF (p : RefP) (k : Nat) : Prop := footC p.ass k
def RefTo (r : Nat) (p p' : RefP) (w w' : World) : Prop := Foot (RefM r p) (RefM r p') w w' ∧ ∀ k, RefF p' k → RefF p k ∨ w.heap.size ≤ k
variable {w : World} {r : Nat} {p : RefP} {ns : List (Bool × Bool)} {all : List Rmsg}
theorem RefTo.keep {w w' : World} (h : Keep w w') : RefTo r p p w w' := ⟨⟨h.mono (fun _ h => h.elim), fun _ h => .inl h⟩, fun _ h => .inl h⟩
theorem Keep.refTo {p p' : RefP} {a b c : World} (h1 : Keep a b) (h2 : RefTo r p p' b c) : RefTo r p p' a c :=
  ⟨Keep.foot h1 h2.1, fun k hk => (h2.2 k hk).imp (fun h => h) (fun h => Nat.le_trans h1.size h)⟩
theorem RefTo.trans {p p1 p2 : RefP} {a b c : World} (h1 : RefTo r p p1 a b) (h2 : RefTo r p1 p2 b c) : RefTo r p p2 a c :=
  ⟨h1.1.trans h2.1, fun k hk => (h2.2 k hk).elim (h1.2 k) (fun h => .inr (Nat.le_trans h1.1.1.size h))⟩
theorem RefTo.keepR {p p' : RefP} {a b c : World} (h1 : RefTo r p p' a b) (h2 : Keep b c) : RefTo r p p' a c := ⟨h1.1.keep h2, h1.2⟩

theorem RefAt.ext {M : Nat → Prop} {w w' : World} (h : RefAt w r p ns all) (he : Ext M w w') (h1 : ∀ k, RefM r p k → ¬ M k) (h2 : ∀ k, RefF p k → ¬ M k) : RefAt w' r p ns all :=
  ⟨h.o.ext he (h1 r (.inl rfl)), h.u.boolExt he (fun k hk => h1 k (.inr (.inl hk))), h.v.boolExt he (fun k hk => h1 k (.inr (.inr (.inl hk)))), h.a.ext he (fun k hk => h1 k (.inr (.inr (.inr hk)))) h2, h.du, h.dv, h.da, h.uv, h.ua, h.va, h.df⟩
theorem RefAt.keep {w w' : World} (h : RefAt w r p ns all) (he : Keep w w') : RefAt w' r p ns all := h.ext he (fun _ _ h => h) (fun _ _ h => h)
theorem RefAt.c0 (h : RefAt w r p ns all) : w.cell? ⟨r, 0, none⟩ = some p.su.v := h.o.cell 0 (by simp)
theorem RefAt.c1 (h : RefAt w r p ns all) : w.cell? ((⟨r, 0, none⟩ : Addr).add 1) = some p.so.v := by rw [add_lit]; exact h.o.cell 1 (by simp)
theorem RefAt.c2 (h : RefAt w r p ns all) : w.cell? ((⟨r, 0, none⟩ : Addr).add 2) = some p.sa.v := by rw [add_lit]; exact h.o.cell 2 (by simp)
theorem RefAt.lt (h : RefAt w r p ns all) : ∀ k, RefM r p k → k < w.heap.size := by
  rintro k (rfl | hk | hk | hk)
  · exact h.o.lt
  · exact h.u.lt k hk
  · exact h.v.lt k hk
  · exact h.a.lt k hk
theorem RefAt.flt (h : RefAt w r p ns all) : ∀ k, RefF p k → k < w.heap.size := h.a.flt
theorem RefAt.msg (h : RefAt w r p ns all) {k : Nat} (hk : k < all.length) : ∃ (a : Addr) (s : Slc), p.sa.p = some a ∧ a.spot = none ∧ ∃ hk' : k < p.ass.length, p.ass[k] = rmC all[k].1 all[k].2.1 s all[k].2.2.2 ∧ rowAt w (Addr.add a (k * 4)) 0 (rmC all[k].1 all[k].2.1 s all[k].2.2.2) ∧ bytesAt w s all[k].2.2.1 := by
  have hk2 : k < p.ass.length := by rw [h.a.len]; exact hk
  obtain ⟨a, ha, hsp, hrow⟩ := h.a.get hk2
  obtain ⟨s, hs, hb⟩ := h.a.row k hk2 hk
  rw [hs] at hrow
  exact ⟨a, s, ha, hsp, hk2, hs, hrow, hb⟩

theorem refHas_spec (h : RefAt w r p ns all) (i : Int) :
    Calls Tryd.prog fn_tidewaterref32_Net_has ⟨[ptrR r, .int .i64 i]⟩ w fun e w' => e = .returned (.bool (hasN ns i)) ∧ w' = w := by
  refine tidewaterref32_Net_has_ok _ _ ?_
  unfold tidewaterref32_Net_has hasN
  have hl := h.u.sl
  rw [List.length_map] at hl
  refine BIf_dec (fun h0 => needSome_mk rfl ⟨_, h.c0, ?_, rfl⟩) (fun h0 => ⟨?_, rfl⟩)
  · congr 2; rw [hl]; simp [h0]
  · congr 2; simp; omega
theorem getD_fst (ns : List (Bool × Bool)) (i : Nat) : (ns.map (·.1)).getD i false = (ns.getD i (false, false)).1 := by
  simp [List.getD, List.getElem?_map]
  cases ns[i]? <;> rfl
theorem getD_snd (ns : List (Bool × Bool)) (i : Nat) : (ns.map (·.2)).getD i false = (ns.getD i (false, false)).2 := by
  simp [List.getD, List.getElem?_map]
  cases ns[i]? <;> rfl
theorem RefAt.up (h : RefAt w r p ns all) {i : Int} (hi : hasN ns i = true) : ∃ a, p.su.p = some a ∧ a.spot = none ∧ 0 ≤ i ∧ i < ((p.su.l : Nat) : Int) ∧ World.cell? w (Addr.add a ((Int.toNat i) * 1)) = some (.bool (ndAt ns i).1) := by
  have := h.u.boolAt (i := i) (by simpa [hasN] using hi)
  rw [getD_fst] at this
  exact this
theorem RefAt.ot (h : RefAt w r p ns all) {i : Int} (hi : hasN ns i = true) : ∃ a, p.so.p = some a ∧ a.spot = none ∧ 0 ≤ i ∧ i < ((p.so.l : Nat) : Int) ∧ World.cell? w (Addr.add a ((Int.toNat i) * 1)) = some (.bool (ndAt ns i).2) := by
  have := h.v.boolAt (i := i) (by simpa [hasN] using hi)
  rw [getD_snd] at this
  exact this
theorem refReach_spec (h : RefAt w r p ns all) (a b : Int) :
    Calls Tryd.prog fn_tidewaterref32_Net_Reach ⟨[ptrR r, .int .i64 a, .int .i64 b]⟩ w fun e w' => e = .returned (.bool (reachN ns a b)) ∧ Keep w w' := by
  refine tidewaterref32_Net_Reach_ok _ _ _ ?_
  unfold tidewaterref32_Net_Reach reachN
  have hd := h.keep (Ext.drew _ w)
  refine (refHas_spec hd a).mono ?_
  rintro e w5 ⟨rfl, rfl⟩
  refine ⟨_, rfl, BIf_mk (fun h1 => ?_) (fun h1 => ⟨by rw [h1]; rfl, Ext.drew _ _⟩)⟩
  refine (refHas_spec hd b).mono ?_
  rintro e w8 ⟨rfl, rfl⟩
  refine ⟨_, rfl, BIf_mk (fun h2 => ?_) (fun h2 => ⟨by rw [h2]; simp, Ext.drew _ _⟩)⟩
  obtain ⟨pa, hpa, _, a1, a2, a3⟩ := hd.up h1
  obtain ⟨pb, hpb, _, b1, b2, b3⟩ := hd.up h2
  obtain ⟨pc, hpc, _, c1, c2, c3⟩ := hd.ot h1
  obtain ⟨pd, hpd, _, d1, d2, d3⟩ := hd.ot h2
  refine needSome_mk rfl ⟨_, hd.c0, needSome_mk hpa ⟨a1, a2, _, a3, BIf_mk (fun h3 => ?_) (fun h3 => ⟨by rw [h3]; simp, Ext.drew _ _⟩)⟩⟩
  refine needSome_mk rfl ⟨_, hd.c0, needSome_mk hpb ⟨b1, b2, _, b3, BIf_mk (fun h4 => ?_) (fun h4 => ⟨by rw [h4]; simp, Ext.drew _ _⟩)⟩⟩
  refine needSome_mk rfl ⟨_, hd.c1, needSome_mk hpc ⟨c1, c2, _, c3, ?_⟩⟩
  refine needSome_mk rfl ⟨_, hd.c1, needSome_mk hpd ⟨d1, d2, _, d3, ?_⟩⟩
  exact ⟨by rw [h1, h2, h3, h4]; rfl, Ext.drew _ _⟩

def waitsR (all : List Rmsg) (n : Int) : Bool := decide (0 ≤ n ∧ n < all.length) && !(all.getD n.toNat (0, 0, [], true)).2.2.2
theorem waitsR_iff {all : List Rmsg} {n : Int} : waitsR all n = true ↔ ∃ k : Nat, n = k ∧ ∃ h : k < all.length, all[k].2.2.2 = false := by
  unfold waitsR
  constructor
  · intro h
    rw [Bool.and_eq_true, decide_eq_true_iff] at h
    obtain ⟨⟨h1, h2⟩, h3⟩ := h
    have h4 : n.toNat < all.length := by omega
    refine ⟨n.toNat, by omega, h4, ?_⟩
    simpa [List.getD, h4] using h3
  · rintro ⟨k, rfl, h, h2⟩
    simp [List.getD, h, h2]
theorem Waits_spec (h : RefAt w r p ns all) (n : Int) :
    Calls Tryd.prog fn_tidewaterref32_Net_Waits ⟨[ptrR r, .int .i64 n]⟩ w fun e w' => e = .returned (.bool (waitsR all n)) ∧ w' = w := by
  refine tidewaterref32_Net_Waits_ok _ _ ?_
  unfold tidewaterref32_Net_Waits waitsR
  have hl := h.a.sl
  refine BIf_dec (fun h0 => needSome_mk rfl ⟨_, h.c2, BIf_dec (fun h1 => ?_) (fun h1 => ⟨by rw [decide_eq_false (by omega)]; rfl, rfl⟩)⟩) (fun h0 => ⟨by rw [decide_eq_false (by omega)]; rfl, rfl⟩)
  have hk : n.toNat < all.length := by omega
  obtain ⟨a, s, ha, _, _, _, hrow, _⟩ := h.msg hk
  refine needSome_mk rfl ⟨_, h.c2, needSome_mk ha ⟨h0, h1, _, hrow.2.2.2.1, ?_, rfl⟩⟩
  rw [decide_eq_true (by omega)]
  simp [List.getD, hk]
theorem many_spec (h : RefAt w r p ns all) (hl : all.length ≤ 2 ^ 40) :
    Calls Tryd.prog fn_tidewaterref32_Net_many ⟨[ptrR r]⟩ w fun e w' => ∃ n : Int, e = .returned (.int .i64 n) ∧ n ≤ all.length ∧ Keep w w' := by
  refine tidewaterref32_Net_many_ok _ ?_
  unfold tidewaterref32_Net_many
  have hsl := h.a.sl
  refine needSome_mk rfl ⟨_, h.c2, fun n i w2 => ∃ k : Nat, i = k ∧ k ≤ all.length ∧ 0 ≤ n ∧ n ≤ k ∧ Keep w w2, fun _ i _ => ((all.length : Int) - i).toNat, ⟨0, rfl, by omega, by omega, by omega, Ext.refl _ _⟩, ?_⟩
  rintro n i w2 ⟨k, rfl, hk, hn0, hn, k2⟩
  intros
  refine BIf_dec (fun h1 => ?_) (fun h1 => ⟨n, rfl, by omega, k2⟩)
  have hkl : k < all.length := by omega
  obtain ⟨a, s, ha, _, _, _, hrow, _⟩ := (h.keep k2).msg hkl
  refine needSome_mk ha ⟨by omega, h1, _, _, s, _, by rw [show Int.toNat (k : Int) * 4 = k * 4 by omega]; exact hrow, ?_⟩
  refine var_mk rfl rfl (fun r24 w26 hr24 o26 k26 hs26 => ?_)
  have k3 := k2.trans k26
  exact ⟨_, o26.cell 3 (by simp), BIf_mk (fun _ => ⟨inR64 (by omega), inR64 (by omega), ⟨k + 1, rfl, hkl, by omega, by omega, k3⟩, by dsimp only; omega⟩) (fun _ => ⟨inR64 (by omega), ⟨k + 1, rfl, hkl, by omega, by omega, k3⟩, by dsimp only; omega⟩)⟩

/-- One more message is laid. -/
theorem RefAt.push (h : RefAt w r p ns all) {E : TypeId} {z : List Value} {f t : Int} {s : Slc} {g : Bool} {b : List UInt8} {rb : Nat} {T : TypeId} {K : Slc → World → Prop} (hz : z.length = 4) (hb : bytesAt w s b) (hs : 0 < s.l → ∀ k, ownB s k → ¬ RefM r p k)
    (hc : w.heap[rb]? = some (.cells ⟨rmC f t s g⟩ T)) (hl : all.length < 2 ^ 30)
    (hK : ∀ s' w', canW w' ((⟨r, 0, none⟩ : Addr).add 2) 1 → (∀ w2, w2 = World.setCell w' ((⟨r, 0, none⟩ : Addr).add 2) s'.v → ∃ p', RefAt w2 r p' ns (all ++ [(f, t, b, g)]) ∧ Foot (RefM r p) (RefM r p') w w2 ∧ (∀ k, RefF p' k → RefF p k ∨ (0 < s.l ∧ ownB s k))) → K s' w') :
    appendS 4 E z w p.sa (.slc ⟨some ⟨rb, 0, none⟩, 1, 1⟩) K := by
  refine h.a.snoc (e := RmR) (x := (f, t, b, g)) (cs := rmC f t s g) hz ⟨s, rfl, hb⟩ (fun k hk hh => hs (foot_rm hk).1 k (foot_rm hk).2 (.inr (.inr (.inr hh)))) hc (.inl (by simp)) hl (fun s' w' hR he hn => ?_)
  have hlt := h.lt
  have o' := h.o.ext he h.da
  obtain ⟨cw, g'⟩ := o'.setOne 2 (by simp) s'.v
  refine hK s' w' (by rw [add_lit]; exact cw) (fun w2 hw2 => ?_)
  rw [add_lit] at hw2
  obtain ⟨o2, e2, z2⟩ := g' w2 hw2
  have nr : ¬ ownB s' r := fun hh => (hn r hh).elim h.da (fun hh => by have := h.o.lt; omega)
  have sp : ∀ k, footC (p.ass ++ [rmC f t s g]) k → RefF p k ∨ (0 < s.l ∧ ownB s k) := by
    rintro k ⟨cs, hc, hk⟩
    rcases List.mem_append.1 hc with hc | hc
    · exact .inl ⟨cs, hc, hk⟩
    · rw [List.mem_singleton] at hc; subst hc; exact .inr (foot_rm hk)
  have sp2 : ∀ k, footC (p.ass ++ [rmC f t s g]) k → k ≠ r ∧ ¬ ownB p.su k ∧ ¬ ownB p.so k := fun k hk => (sp k hk).elim (h.df k) (fun ⟨h0, h1⟩ => ⟨fun e => hs h0 k h1 (.inl e), fun e => hs h0 k h1 (.inr (.inl e)), fun e => hs h0 k h1 (.inr (.inr (.inl e)))⟩)
  refine ⟨⟨p.su, p.so, s', p.us, p.vs, p.ass ++ [rmC f t s g]⟩, ⟨o2, (h.u.boolExt he (fun k hk => h.ua k hk)).boolExt e2 (fun k hk e => h.du (e ▸ hk)), (h.v.boolExt he (fun k hk => h.va k hk)).boolExt e2 (fun k hk e => h.dv (e ▸ hk)), hR.ext e2 (fun k hk e => nr (e ▸ hk)) (fun k hk e => (sp2 k hk).1 e), h.du, h.dv, nr, h.uv, fun k hk hh => ?_, fun k hk hh => ?_, sp2⟩, ⟨?_, fun k hk => ?_⟩, sp⟩
  · exact (hn k hh).elim (h.ua k hk) (fun h5 => by have := hlt k (.inr (.inl hk)); omega)
  · exact (hn k hh).elim (h.va k hk) (fun h5 => by have := hlt k (.inr (.inr (.inl hk))); omega)
  · exact Ext.trans (M := RefM r p) he e2 (fun k hk => .inr (.inr (.inr hk))) (fun k hk => .inl (.inl hk))
  · rcases hk with h1 | h1 | h1 | h1
    · exact .inl (.inl h1)
    · exact .inl (.inr (.inl h1))
    · exact .inl (.inr (.inr (.inl h1)))
    · exact (hn k h1).elim (fun h2 => .inl (.inr (.inr (.inr h2)))) .inr

theorem refSend_spec (h : RefAt w r p ns all) (f t : Int) (s : Slc) (b : List UInt8) (hb : bytesAt w s b) (hlen : all.length < 4096) :
    Calls Tryd.prog fn_tidewaterref32_Net_Send ⟨[ptrR r, .int .i64 f, .int .i64 t, s.v]⟩ w fun e w' => match sendE ns f t b with
      | some k => e = .returned (.tuple ⟨[.int .i64 0, .int .i64 ((k + 1 : Nat) : Int)]⟩) ∧ Keep w w'
      | none => e = .returned (.tuple ⟨[.int .i64 (all.length : Int), .int .i64 0]⟩) ∧ ∃ p', RefAt w' r p' ns (all ++ [(f, t, b, false)]) ∧ RefTo r p p' w w' := by
  refine tidewaterref32_Net_Send_ok _ _ _ _ ?_
  unfold tidewaterref32_Net_Send
  have hbl := hb.1
  refine ⟨fun w2 => (hasN ns f = true ∧ hasN ns t = true) ∧ w2 = w, ?_, ?_⟩
  · refine (refHas_spec h f).mono ?_
    rintro e w7 ⟨rfl, rfl⟩
    refine ⟨_, rfl, BIf_mk (fun h1 => ?_) (fun h1 => ?_)⟩
    · have h2 : hasN ns f = false := by simpa using h1
      rw [sendE, if_neg (fun hh => by rw [h2] at hh; cases hh.1)]
      exact ⟨rfl, Ext.refl _ _⟩
    have h1 : hasN ns f = true := by simpa using h1
    refine (refHas_spec h t).mono ?_
    rintro e w10 ⟨rfl, rfl⟩
    refine ⟨_, rfl, BIf_mk (fun h3 => ?_) (fun h3 => ⟨⟨h1, by simpa using h3⟩, rfl⟩)⟩
    have h2 : hasN ns t = false := by simpa using h3
    rw [sendE, if_neg (fun hh => by rw [h2] at hh; cases hh.2)]
    exact ⟨rfl, Ext.refl _ _⟩
  · rintro w12 ⟨h1, rfl⟩
    intros
    rw [sendE, if_pos h1]
    refine BIf_dec (fun h3 => ?_) (fun h3 => ?_)
    · rw [if_pos (by omega)]
      exact ⟨rfl, Ext.refl _ _⟩
    rw [if_neg (by omega)]
    obtain ⟨pa, hpa, _, a1, a2, a3⟩ := h.up h1.1
    refine needSome_mk rfl ⟨_, h.c0, needSome_mk hpa ⟨a1, a2, _, a3, BIf_mk (fun h4 => ?_) (fun h4 => ?_)⟩⟩
    · have h5 : (ndAt ns f).1 = false := by simpa using h4
      rw [h5, if_neg (by decide)]
      exact ⟨rfl, Ext.refl _ _⟩
    have h5 : (ndAt ns f).1 = true := by simpa using h4
    rw [h5, if_pos rfl]
    refine (many_spec h (by omega)).mono ?_
    rintro e w30 ⟨n, rfl, hn, k30⟩
    refine ⟨n, rfl, BIf_dec (fun h6 => by omega) (fun _ => ?_)⟩
    have kd := k30.drew
    have hd := h.keep kd
    refine needSome_mk rfl ⟨_, hd.c2, newS_mk (fun r34 w35 hr34 hb34 k35' hs35 => ?_)⟩
    have k35 := kd.trans k35'
    refine ⟨⟨_, (h.keep k35).c2, rfl⟩, ?_⟩
    have zd : w30.drew.heap.size = w30.heap.size := rfl
    have z30 := k30.size
    refine append_bytes (vs := []) (w0 := w12) (Own.new (sz := 1) (n := 0) hb34 (.inl (by simp)) rfl) rfl (Fresh.at (by omega)) k35 (srcAt_bytes (bytesAt_keep hb k35)) (by simp only [Src.n]; omega) (fun s37 w38 g1 g2 g3 g4 => ?_)
    rw [List.nil_append] at g1
    refine ⟨⟨_, (h.keep g2).c2, rfl⟩, newS_mk (fun r40 w41 hr40 hb40 k41' hs41 => ?_)⟩
    have k41 := g2.trans k41'
    have h41 := h.keep k41
    have hlt := h.lt
    refine ⟨⟨_, h41.c2, rfl⟩, ?_⟩
    refine h41.push (f := f) (t := t) (s := s37) (g := false) (b := b) rfl (g1.keep k41').bytes (fun h0 k hk hh => by have := g3 k hk; have := hlt k hh; omega) hb40 (by omega) (fun s43 w44 cw hg => needSome_mk rfl ⟨cw, fun w46 hw46 => ?_⟩)
    obtain ⟨p', hp', hF, hf⟩ := hg w46 hw46
    have hl' := hp'.a.sl
    rw [List.length_append, List.length_singleton] at hl'
    refine needSome_mk rfl ⟨_, hp'.c2, inR64 (by omega), ?_, p', hp', Keep.foot k41 hF, fun k hk => (hf k hk).imp (fun h => h) (fun h => g3 k h.2)⟩
    congr 4
    simp only [List.cons.injEq, Value.int.injEq, true_and, and_true]
    omega
end Go.D
