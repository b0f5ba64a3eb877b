/-
  WHAT IS PROVED: contracts of functions, and the plain law, for this proof. No further conditions.
-/
import Derived.Test.YtppbbkmjjpggkaaGreatDoorAll4
import Derived.Test.YtppbbkmjjpggkaaGreatDoorAll3
import Derived.Test.YtppbbkmjjpggkaaGreatDoorVCref34
import Derived.Test.YtppbbkmjjpggkaaGreatDoorVClaw34
import Derived.Test.YtppbbkmjjpggkaaGreatDoorVCnet
import Derived.Test.YtppbbkmjjpggkaaGreatDoorAll1
import Derived.Test.YtppbbkmjjpggkaaGreatDoorRowsM
import Derived.Test.YtppbbkmjjpggkaaGreatDoorMapM
set_option linter.unusedVariables false
set_option linter.unusedSimpArgs false
namespace Go.D
open Go Go.Proofs
section
variable {w w' : World} {r k m : Nat} {f : RuF} {P : List RuE} {top : Int} {s : UnS}
end
end Go.D
namespace Go.D
open Go Go.Proofs
section
variable {w w' : World} {r k m : Nat} {f : RuF} {P : List RuE} {top : Int} {s : UnS}
theorem zw (w : World) (k : Nat) :
  Calls Tryz.prog fk ⟨[.int .i64 (k : Int)]⟩ w fun e w' => ∃ r f, e = .returned (aA r) /\ RuS w' r k f [] 0 ⟨[], 0, 0, 0⟩ /\ (∀ j, RuW r f j -> w.heap.size <= j) /\ (∀ j, ¬ RuY f j) /\ ai w w' := by
 refine oc _ ?_
 unfold kg
 refine aq (fun r2 w3 hr2 hb2 k2 hs2 => aq (fun r4 w5 hr4 hb4 k4 hs4 => ?_))
 have nob : ∀ j, ¬ au (⟨none, 0, 0⟩ : Slc) j := by rintro j ⟨a, ha, _⟩; cases ha
 have R0 : vb w5 r2 k ⟨none, 0, 0⟩ [] := ⟨(ak.bO hb2).af k4, Rows.nil _ _, by simp, by simp, List.Pairwise.nil, nob _, by simp, by simp⟩
 have noW : ∀ j, RfW r2 ⟨none, 0, 0⟩ [] j -> j = r2 := by
  rintro j (hj | hj | ⟨z, hz, _⟩)
  ·exact hj
  ·exact (nob j hj).elim
  ·simp at hz
 have noY : ∀ j, ¬ RuY ⟨r2, ⟨none, 0, 0⟩, [], ⟨none, 0, 0⟩, ⟨none, 0, 0⟩, ⟨none, 0, 0⟩, []⟩ j := by
  rintro j (⟨z, hz, _⟩ | ⟨cs, hc, _⟩)
  ·simp at hz
  ·simp at hc
 have z2 := k2.size
 refine ⟨r4, ⟨r2, ⟨none, 0, 0⟩, [], ⟨none, 0, 0⟩, ⟨none, 0, 0⟩, ⟨none, 0, 0⟩, []⟩, rfl, ⟨⟨ak.bO hb4, R0, bC.nil _, Rows.nil _ _, bC.nil _, fun j => if j = r4 then 0 else 1, ?_, fun j hj => ?_, fun j hj => (nob j hj).elim, fun j hj => (nob j hj).elim, fun j hj => (nob j hj).elim, fun j hj => (noY j hj).elim⟩, rfl, CX.nil⟩, ?_, noY, k2.trans k4⟩
 ·rw [if_pos rfl]
 ·have := noW j hj
  rw [if_neg (by omega)]
 ·rintro j (hj | hj | hj | hj | hj)
  ·omega
  ·have := noW j hj; omega
  ·exact (nob j hj).elim
  ·exact (nob j hj).elim
  ·exact (nob j hj).elim
end
end Go.D
namespace Go.D
open Go Go.Proofs
section
variable {w0 w w' : World} {rd r r2 r' k m m' : Nat} {f f' : UnF} {d d' : aP} {fr fr' : RuF} {P P' : List RuE} {top top' : Int} {s s' : UnS}
end
end Go.D
namespace Go.D
open Go Go.Proofs
theorem Gm {t e n : Int} {s : Slc} {k : Nat} (h : jj (fT t e n s) k) : 0 < s.l /\ au s k := by
 obtain ⟨s', hs, h1, h2⟩ := h
 have : s' = s := by
  obtain ⟨p, l, c⟩ := s
  obtain ⟨p', l', c'⟩ := s'
  simp [fT, Slc.v] at hs
  obtain ⟨rfl, rfl, rfl⟩ := hs
  rfl
 subst this
 exact ⟨h1, h2⟩
theorem G4 (t e n : Int) (s : Slc) : ∀ v ∈ fT t e n s, v.oneCell' = true := by
 intro v hv
 simp [fT] at hv
 rcases hv with rfl | rfl | rfl | rfl <;> rfl
def RpR : uP NdE where
 n := 4
 pos := by omega
 R w x cs := ∃ s : Slc, cs = fT x.t (eN x.e) x.n s /\ ag w s x.d
 len := by rintro w x cs ⟨s, rfl, _⟩; rfl
 one := by rintro w x cs ⟨s, rfl, _⟩; exact G4 _ _ _ _
 ext := by
  rintro M w w' x cs ⟨s, rfl, h⟩ he hm
  exact ⟨s, rfl, aR h he (fun h0 k hk => hm k ⟨s, by simp [fT], h0, hk⟩)⟩
 lt := by
  rintro w x cs ⟨s, rfl, h⟩ k hk
  obtain ⟨h0, hk⟩ := Gm hk
  exact cX h h0 k hk
structure RdP where
 fs : Slc
 ts : Slc
 css : List (List Value)
def RdM (rn : Nat) (q : RdP) (j : Nat) : Prop := j = rn \/ au q.fs j \/ au q.ts j
def RdF (q : RdP) (j : Nat) : Prop := cc q.css j
structure HT (w : World) (rn r : Nat) (q : RdP) (T : List NdE) : Prop where
 o : ak w rn [aA r, q.fs.v, q.ts.v]
 f : bC w q.fs (T.map (·.f))
 t : Rows RpR w q.ts T q.css
 dn : ¬ au q.fs rn /\ ¬ au q.ts rn
 dd : ∀ j, au q.fs j -> ¬ au q.ts j
 df : ∀ j, cc q.css j -> j ≠ rn /\ ¬ au q.fs j
section
variable {w w' w2 : World} {rn r k m : Nat} {fr fr' : RuF} {P P' : List RuE} {top top' : Int} {s s' : UnS} {q q' : RdP} {T T' : List NdE}
structure HU (w : World) (rn r k : Nat) (fr : RuF) (P : List RuE) (top : Int) (s : UnS) (q : RdP) (T : List NdE) : Prop where
 R : RuS w r k fr P top s
 D : HT w rn r q T
 sm : ∀ j, RdM rn q j -> ¬ RuW r fr j /\ ¬ RuY fr j
 sf : ∀ j, RdF q j -> ¬ RuW r fr j
def RB (rn r : Nat) (fr : RuF) (q : RdP) (j : Nat) : Prop := RuW r fr j \/ RdM rn q j
def RY (fr : RuF) (q : RdP) (j : Nat) : Prop := RuY fr j \/ RdF q j
end
end Go.D
namespace Go.D
open Go Go.Proofs
section
variable {w161 : World} {rn r r4 r114 : Nat} {q : RdP} {T : List NdE}
variable {x : NdE} {u : Slc}
end
end Go.D
namespace Go.D
open Go Go.Proofs
section
variable {w wa w' w2 : World} {rn r k m r114 : Nat} {fr fr' : RuF} {P P' : List RuE} {top top' : Int} {s s' s2 : UnS} {q q' : RdP} {T T' : List NdE} {c : List Value}
end
end Go.D
namespace Go.D
open Go Go.Proofs
theorem ak.G5 {w : World} {r : Nat} {cs : List Value} (h : ak w r cs) (k : Nat) (l : List Value) (hl : ∀ j (hj : j < l.length), cs[k + j]? = some l[j]) : rowAt w ((⟨r, 0, none⟩ : Addr).add k) 0 l := by
 obtain ⟨T, f, hb, _⟩ := h
 refine lP fun j hj => ?_
 rw [add_lit, add_lit, cell_of hb, <- hl j hj]
 congr 1; omega
theorem uN : ∀ (cs : List Value) (k : Nat) (vs : List Value), (setFrom cs k vs).length = cs.length := by
 intro cs k vs
 induction vs generalizing cs k with
 | nil => rfl
 | cons v vs ih => show (setFrom (cs.set k v) (k + 1) vs).length = _; rw [ih]; simp
theorem ak.G6 {w : World} {r : Nat} {cs : List Value} (h : ak w r cs) (k n : Nat) (vs : List Value) (hn : vs.length = n) (hk : k + n <= cs.length) :
  az w ((⟨r, 0, none⟩ : Addr).add k) n /\ ∀ w2 : World, w2 = setCells w ((⟨r, 0, none⟩ : Addr).add k) 0 vs -> ak w2 r (setFrom cs k vs) /\ Ext (fun x => x = r) w w2 := by
 obtain ⟨T, f, hb, hf⟩ := h
 rw [add_lit, Nat.zero_add]
 refine ⟨gZ hb hf k n hk, ?_⟩
 rintro w2 rfl
 have hh := bW vs w cs k 0 hb
 rw [Nat.add_zero] at hh
 exact ⟨⟨T, f, hh, by rw [uN]; exact hf⟩, Ext.setCells (M := fun x => x = r) (a := (⟨r, k, none⟩ : Addr)) rfl vs 0 w⟩
structure AkS where
 nx : Int
 msg : Option (List UInt8)
 tag : Int
 rt : Int
 re : Int
 rn : Int
 rd : List UInt8
 has : Bool
def akV (a : AkS) (sm sd : Slc) : List Value := [.int .i64 a.nx, sm.v, .int .i64 a.tag, .int .i64 a.rt, .int .i64 a.re, .int .i64 a.rn, sd.v, .bool a.has]
structure jU (w : World) (ra : Nat) (sm sd : Slc) (a : AkS) : Prop where
 o : ak w ra (akV a sm sd)
 m : sm.p.isSome = a.msg.isSome
 b : ag w sm (a.msg.getD [])
 d : ag w sd a.rd
 nm : ¬ au sm ra
 nd : ¬ au sd ra
 ml : (a.msg.getD []).length <= 2 ^ 20 /\ a.rd.length <= 2 ^ 20
def AkB (ra : Nat) (sm sd : Slc) (j : Nat) : Prop := j = ra \/ au sm j \/ au sd j
section
variable {w w' : World} {ra : Nat} {sm sd : Slc} {a : AkS}
theorem jU.ext {M : Nat -> Prop} (h : jU w ra sm sd a) (he : Ext M w w') (h1 : ∀ j, AkB ra sm sd j -> ¬ M j) : jU w' ra sm sd a :=
 ⟨h.o.ext he (h1 _ (.inl rfl)), h.m, aE h.b he (fun j hj => h1 j (.inr (.inl hj))), aE h.d he (fun j hj => h1 j (.inr (.inr hj))), h.nm, h.nd, h.ml⟩
theorem jU.af (h : jU w ra sm sd a) (he : ai w w') : jU w' ra sm sd a := h.ext he (fun _ _ h => h)
theorem jU.c (h : jU w ra sm sd a) (k : Nat) (hk : k < 8) : w.cell? ((⟨ra, 0, none⟩ : Addr).add k) = some ((akV a sm sd)[k]'hk) := by
 rw [add_lit, Nat.zero_add]
 exact h.o.cell k hk
theorem mr (h : jU w ra sm sd a) : Calls Tryz.prog bM ⟨[aA ra]⟩ w fun e w' => e = .returned (.bool a.msg.isSome) /\ w' = w := by
 refine qF _ ?_
 unfold nG
 refine aa rfl ⟨_, h.c 1 (by omega), ?_, rfl⟩
 rw [<- h.m]
 cases sm.p <;> rfl
theorem qh (A : Nat -> Addr) (n : Int) (w : World) (hE : bA A w) :
  Calls Tryz.prog fW ⟨[.int .i64 n]⟩ w fun e w' => ai w w' /\ ((n < 0 \/ 1073741824 < n) /\ e = .returned (.tuple ⟨[.pointer none, cF A (some 0)]⟩) \/
   (0 <= n /\ n <= 1073741824) /\ ∃ ra, e = .returned (.tuple ⟨[aA ra, .nilIface]⟩) /\ jU w' ra ⟨none, 0, 0⟩ ⟨none, 0, 0⟩ ⟨n, none, 0, 0, 0, 0, [], false⟩ /\ ra = w.heap.size) := by
 refine tu _ ?_
 unfold pZ
 have nilO : ∀ x, ¬ au (⟨none, 0, 0⟩ : Slc) x := by rintro x ⟨a, ha, _⟩; cases ha
 refine ae (fun h1 => ⟨_, bA.at (hE.af (Ext.drew gP w)) 0 (by omega), Ext.drew _ _, .inl ⟨.inl h1, rfl⟩⟩) (fun h1 => ae (fun h2 => ⟨_, bA.at (hE.af (Ext.drew gP w)) 0 (by omega), Ext.drew _ _, .inl ⟨.inr h2, rfl⟩⟩) (fun h2 => aq (fun r4 w5 hr4 hb4 k4 hs4 => ⟨k4, .inr ⟨⟨by omega, by omega⟩, r4, rfl, ⟨ak.bO hb4, rfl, ⟨rfl, .inl rfl⟩, ⟨rfl, .inl rfl⟩, nilO _, nilO _, by simp, by simp⟩, hr4⟩⟩)))
def Be (a : AkS) (kd ep at' : Int) (l : Nat) : Option Nat := if a.msg.isSome then some 16 else if 1073741824 < a.nx then some 12 else if cP a.nx kd ep at' l then none else some 3
def G7 (a : AkS) (kd ep at' : Int) (d : List UInt8) : AkS := { a with nx := a.nx + 1, msg := some (bn (aU [1, a.nx, kd, ep, at'] d)), tag := a.nx, has := false }
theorem yu (b : List UInt8) : 0 < (bn b).length := by rw [bz]; omega
theorem yv (A : Nat -> Addr) (h : jU w ra sm sd a) (hE : aY A w.heap.size w) (kd ep at' : Int) (s : Slc) (d : List UInt8) (hd : ag w s d) :
  Calls Tryz.prog fw ⟨[aA ra, .int .i64 kd, .int .i64 ep, .int .i64 at', s.v]⟩ w fun e w' => ∃ f : Slc, e = .returned (.tuple ⟨[f.v, cF A (Be a kd ep at' d.length)]⟩) /\
   (Be a kd ep at' d.length ≠ none -> ai w w' /\ f = ⟨none, 0, 0⟩) /\
   (Be a kd ep at' d.length = none -> ag w' f (bn (aU [1, a.nx, kd, ep, at'] d)) /\ aF w f /\ f.l <= f.c /\ ∃ sm', jU w' ra sm' sd (G7 a kd ep at' d) /\ aF w sm' /\ Ext (fun j => j = ra) w w') := by
 refine rK _ _ _ _ _ ?_
 unfold oU Be
 refine (mr h).mono ?_
 rintro e w7 ⟨rfl, rfl⟩
 refine ⟨_, rfl, ao (fun hb => ?_) (fun hb => ?_)⟩
 ·rw [if_pos hb]
  have kd' : ai w7 (World.drew w7) := Ext.drew _ _
  exact ⟨_, bA.at (hE.af kd').1 16 (by omega), _, rfl, fun _ => ⟨kd', rfl⟩, fun hh => by cases hh⟩
 rw [if_neg (by rw [hb]; simp)]
 refine aa rfl ⟨_, h.c 0 (by omega), ae (fun h1 => ?_) (fun h1 => aa rfl ⟨_, h.c 0 (by omega), ?_⟩)⟩
 ·have h1' : 1073741824 < a.nx := h1
  rw [if_pos h1']
  have kd' : ai w7 (World.drew w7) := Ext.drew _ _
  exact ⟨_, bA.at (hE.af kd').1 12 (by omega), _, rfl, fun _ => ⟨kd', rfl⟩, fun hh => by cases hh⟩
 have h1' : ¬ 1073741824 < a.nx := h1
 rw [if_neg h1']
 refine (Fg A a.nx kd ep at' s d w7 hd hE).mono ?_
 rintro e w16 ⟨f, ev, rfl, k16, hcase⟩
 refine ⟨f, ev, rfl, ?_⟩
 rcases hcase with ⟨hr, rfl, ho, hf⟩ | ⟨hr, rfl, rfl⟩
 ·rw [if_pos hr]
  have h16 := h.af k16
  have hfp : f.p.isSome = true := by
   obtain ⟨a0, ha0, _⟩ := cI ho.bytes (yu _)
   rw [ha0]; rfl
  have hra : ra < w7.heap.size := h.o.lt
  have hfra : ∀ j, au f j -> j ≠ ra := fun j hj => by have := hf j hj; omega
  refine ⟨trivial, ao (fun hh => by cases hh) (fun _ => aa rfl ⟨_, h16.c 0 (by omega), aa rfl ?_⟩)⟩
  rw [add_lit]
  obtain ⟨c1, c2⟩ := h16.o.aM 1 (by simp [akV]) f.v
  refine ⟨c1, fun w22 hw => aa rfl ?_⟩
  obtain ⟨o22, e22, _⟩ := c2 w22 hw
  rw [add_lit]
  obtain ⟨c3, c4⟩ := o22.aM 2 (by simp [akV]) (.int .i64 a.nx)
  refine ⟨c3, fun w24 hw2 => aa rfl ?_⟩
  obtain ⟨o24, e24, _⟩ := c4 w24 hw2
  rw [add_lit]
  obtain ⟨c5, c6⟩ := o24.aM 7 (by simp [akV]) (.bool false)
  refine ⟨c5, fun w26 hw3 => aa rfl ?_⟩
  obtain ⟨o26, e26, _⟩ := c6 w26 hw3
  obtain ⟨c7, c8⟩ := o26.aM 0 (by simp [akV]) (.int .i64 (a.nx + 1))
  have hnx := hr.1
  refine ⟨a.nx, o26.cell 0 (by simp [akV]), aB (by omega), aa rfl ⟨c7, fun w30 hw4 => ?_⟩⟩
  obtain ⟨o30, e30, _⟩ := c8 w30 hw4
  have ee : Ext (fun j => j = ra) w16 w30 := ((e22.trans e24 (fun _ h => h) (fun _ h => .inl h)).trans e26 (fun _ h => h) (fun _ h => .inl h)).trans e30 (fun _ h => h) (fun _ h => .inl h)
  have hfb : ag w30 f (bn (aU [1, a.nx, kd, ep, at'] d)) := aE ho.bytes ee (fun j hj hh => hfra j hj hh)
  have hlen : (bn (aU [1, a.nx, kd, ep, at'] d)).length <= 2 ^ 20 := by
   rw [bz]; have := ky hr; omega
  have hfl := hfb.1
  refine (bx f _ w30 hfb (by omega)).mono ?_
  rintro e w32 ⟨u, rfl, hu, huf, k32⟩
  have e32 : Ext (fun j => j = ra) w7 w32 := (Ext.trans k16 ee (fun _ h => h.elim) (fun _ h => .inl h)).trans k32 (fun _ h => h) (fun _ h => h.elim)
  refine ⟨u, rfl, u, rfl, (fun hh => absurd rfl hh), fun _ => ⟨hu.bytes, huf.mono (by have := k16.size; have := ee.size; omega), hu.le (by omega), f, ⟨o30.af k32, hfp, aj hfb k32, aj (aE h16.d ee (fun j hj hh => h.nd ((show j = ra from hh) ▸ hj))) k32, (fun hh => hfra _ hh rfl), h.nd, hlen, h.ml.2⟩, hf, e32⟩⟩
 ·rw [if_neg hr]
  refine ⟨trivial, ao (fun _ => ⟨_, rfl, fun _ => ⟨k16, rfl⟩, fun hh => by cases hh⟩) (fun hh => by cases hh)⟩
theorem Cn (h : jU w ra sm sd a) :
  Calls Tryz.prog gi ⟨[aA ra]⟩ w fun e w' => ∃ f : Slc, e = .returned (.tuple ⟨[f.v, .bool a.msg.isSome]⟩) /\ ag w' f (a.msg.getD []) /\ aF w f /\ f.l <= f.c /\ ai w w' := by
 refine pO _ ?_
 unfold l7
 have hl := h.b.1
 have hml := h.ml.1
 refine aa rfl ⟨_, h.c 1 (by omega), (bx sm _ w h.b (by omega)).mono ?_⟩
 rintro e w5 ⟨u, rfl, hu, huf, k5⟩
 refine ⟨u, rfl, (mr (h.af k5)).mono ?_⟩
 rintro e w8 ⟨rfl, rfl⟩
 exact ⟨_, rfl, u, rfl, hu.bytes, huf, hu.le (by omega), k5⟩
def hearS (a : AkS) (b : List UInt8) : Option AkS :=
 match readR b with
 | .ok (.tell t e n d) => if a.msg.isSome = true /\ t = a.tag then some { a with msg := none, rt := t, re := e, rn := n, rd := d, has := true } else none
 | _ => none
theorem Co (most : Int) (hm : 0 <= most) (st : InS) : ((gW most st).1.length : Int) <= most := by
 unfold gW
 have h : (rNum most st).1 <= most := by
  by_cases h0 : 0 < (rNum most st).1
  ·exact DD most st (EP most st h0)
  ·omega
 generalize rNum most st = x at h ⊢
 obtain ⟨n, bs, er⟩ := x
 dsimp only at h
 cases er with
 | some j => simp [qV]; exact hm
 | none =>
  by_cases hh : (bs.length : Int) < n
  ·rw [jS hh]; simpa using hm
  ·rw [mm hh]; simp only [List.length_take]; omega
theorem Fs {b : List UInt8} {t e n : Int} {d : List UInt8} (h : readR b = .ok (.tell t e n d)) : d.length <= 2 ^ 20 := by
 unfold readR at h
 split at h
 ·cases h
 ·split at h
  ·cases h
  ·dsimp only at h
   split at h
   ·split at h
    ·cases h
    ·injection h with h; injection h with h1 h2 h3 h4
     rw [<- h4]
     have h9 : ∀ st, (gW 2000 st).1.length <= 2 ^ 20 := fun st => by
      have := Co 2000 (by omega) st
      omega
     exact h9 _
   ·split at h
    ·cases h
    ·split at h <;> cases h
theorem yw (A : Nat -> Addr) (h : jU w ra sm sd a) (hE : aY A w.heap.size w) (s : Slc) (b : List UInt8) (hb : ag w s b) (hl : s.l <= 2 ^ 20) (hc : s.l <= s.c) :
  Calls Tryz.prog eM ⟨[aA ra, s.v]⟩ w fun e w' => e = .returned (.bool (hearS a b).isSome) /\ (hearS a b = none -> ai w w') /\ (∀ a', hearS a b = some a' -> ∃ sd', jU w' ra ⟨none, 0, 0⟩ sd' a' /\ aF w sd' /\ Ext (fun j => j = ra) w w') := by
 refine qG _ _ ?_
 unfold nH
 refine (uJ A s b w hb hl hc hE).mono ?_
 rintro e w4 ⟨q, pp, is, ev, rfl, hres, k4⟩
 obtain ⟨t, kd, ep, at', sq, t2, e2, n2, sp, rfl, rfl, hev, hcase⟩ := hres.Gz
 refine ⟨_, _, _, _, _, _, _, _, _, _, _, rfl, ?_⟩
 refine aq (fun r16 w17 hr16 hb16 k16 hs16 => aq (fun r18 w19 hr18 hb18 k18 hs18 => ?_))
 obtain ⟨a1, a2⟩ := ((ak.bO hb16).af k18).cx (n := 5) (cs := pn t kd ep at' sq) rfl rfl
 refine ⟨a1, fun w20 hw20 => ?_⟩
 obtain ⟨o16, e16, z20⟩ := a2 w20 hw20
 obtain ⟨b1, b2⟩ := ((ak.bO hb18).ext e16 (by omega)).cx (n := 4) (cs := fT t2 e2 n2 sp) rfl rfl
 refine ⟨b1, fun w21 hw21 => ?_⟩
 obtain ⟨o18, e18, z21⟩ := b2 w21 hw21
 have z4 := k4.size
 have z17 := k16.size
 have z19 := k18.size
 have k21' : ai w4 w21 := ((k16.trans k18).ext e16 (fun j hj => by omega)).ext e18 (fun j hj => by omega)
 have k21 : ai w w21 := k4.trans k21'
 have kd21 : ai w21 (World.drew w21) := Ext.drew _ _
 have kkd := k21.trans kd21
 have none' : ∀ w2, ai w w2 -> hearS a b = none -> Ending.returned (Value.bool false) = .returned (.bool (hearS a b).isSome) /\ (hearS a b = none -> ai w w2) /\ (∀ a', hearS a b = some a' -> ∃ sd', jU w2 ra ⟨none, 0, 0⟩ sd' a' /\ aF w sd' /\ Ext (fun j => j = ra) w w2) := fun w2 hk hn => by
  rw [hn]
  exact ⟨rfl, fun _ => hk, fun a' hh => by cases hh⟩
 rcases hcase with ⟨hnil, rfl, db, hR, _⟩ | ⟨hnil, rfl, db, hR, hbq, hcq, hfq⟩ | ⟨hnil, j, hR⟩
 ·exact ⟨fun _ => False, ⟨hev, ao (fun hh => by rw [hnil] at hh; cases hh) (fun _ => ao (fun _ => none' _ kkd (by unfold hearS; rw [hR])) (fun hh => by cases hh))⟩, fun _ hh => hh.elim⟩
 rotate_left
 ·exact ⟨fun _ => False, ⟨hev, ao (fun _ => none' _ kkd (by unfold hearS; rw [hR])) (fun hh => by rw [hnil] at hh; cases hh)⟩, fun _ hh => hh.elim⟩
 have hd := h.af kkd
 refine ⟨fun w2 => w2 = World.drew w21 /\ a.msg.isSome = true /\ t2 = a.tag, ⟨hev, ao (fun hh => by rw [hnil] at hh; cases hh) (fun _ => ao (fun hh => by cases hh) (fun _ => (mr hd).mono ?_))⟩, ?_⟩
 ·rintro e w24 ⟨rfl, rfl⟩
  refine ⟨_, rfl, ao (fun hh => none' _ kkd (by unfold hearS; rw [hR]; dsimp only; rw [if_neg (fun g => by rw [g.1] at hh; cases hh)])) (fun hh => ⟨_, (o18.af kd21).cell 0 (by simp), aa rfl ⟨_, hd.c 2 (by omega), bg (fun g => none' _ kkd (by unfold hearS; rw [hR]; dsimp only; rw [if_neg (fun g2 => g g2.2)])) (fun g => ⟨rfl, by simpa using hh, g⟩)⟩⟩)⟩
 rintro w29 ⟨rfl, hbusy, heq⟩
 intros
 have hs : hearS a b = some { a with msg := none, rt := t2, re := e2, rn := n2, rd := db, has := true } := by
  unfold hearS; rw [hR]; dsimp only; rw [if_pos ⟨hbusy, heq⟩]
 have kdd : ai (World.drew w21) (World.drew (World.drew w21)) := Ext.drew _ _
 have h29 := hd.af kdd
 have o18d := (o18.af kd21).af kdd
 have hra : ra < w.heap.size := h.o.lt
 have hr18' : r18 ≠ ra := by omega
 refine ⟨_, _, _, _, o18d.row, aa rfl ?_⟩
 rw [add_lit]
 obtain ⟨c1, c2⟩ := h29.o.aM 1 (by simp [akV]) (⟨none, 0, 0⟩ : Slc).v
 refine ⟨c1, fun w55 hw => ?_⟩
 obtain ⟨o55, e55, _⟩ := c2 w55 hw
 refine ⟨⟨_, _, _, _, (o18d.ext e55 hr18').row, rfl⟩, aa rfl ?_⟩
 obtain ⟨c3, c4⟩ := o55.G6 3 4 (fT t2 e2 n2 sp) rfl (by simp [akV])
 refine ⟨c3, fun w61 hw2 => aa rfl ?_⟩
 obtain ⟨o61, e61⟩ := c4 w61 hw2
 rw [add_lit]
 obtain ⟨c5, c6⟩ := o61.aM 7 (by rw [uN]; simp [akV]) (.bool true)
 refine ⟨c5, fun w63 hw3 => ?_⟩
 obtain ⟨o63, e63, _⟩ := c6 w63 hw3
 rw [hs]
 have ee : Ext (fun j => j = ra) (World.drew (World.drew w21)) w63 := (e55.trans e61 (fun _ h => h) (fun _ h => .inl h)).trans e63 (fun _ h => h) (fun _ h => .inl h)
 have hf : ∀ j, au sp j -> j ≠ ra := fun j hj => by have := hfq j hj; omega
 refine ⟨rfl, (fun hh => by cases hh), fun a' hh => ?_⟩
 injection hh with hh
 subst hh
 exact ⟨sp, ⟨o63, rfl, ⟨rfl, .inl rfl⟩, aE (aj hbq ((k21'.trans kd21).trans kdd)) ee (fun j hj hh => hf j hj hh), (by rintro ⟨x, hx, _⟩; cases hx), (fun hh => hf _ hh rfl), by simp, Fs hR⟩, hfq, Ext.trans (kkd.trans kdd) ee (fun _ h => h.elim) (fun _ h => .inl h)⟩
theorem DR (h : jU w ra sm sd a) :
  Calls Tryz.prog gx ⟨[aA ra]⟩ w fun e w' => ∃ x : List Value, e = .returned (.tuple ⟨[.agg ⟨x⟩, .bool a.has]⟩) /\ ai w w' /\ ((a.has = false -> x = Z4) /\ (a.has = true -> ∃ u, x = fT a.rt a.re a.rn u /\ ag w' u a.rd)) := by
 refine qH _ ?_
 unfold nI
 refine aq (fun r2 w3 hr2 hb2 k2 hs2 => ?_)
 have h3 := h.af k2
 have o2 : ak w3 r2 Z4 := ak.bO hb2
 refine aa rfl ⟨_, h3.c 7 (by omega), ao (fun hh => ?_) (fun hh => ?_)⟩
 ·obtain ⟨c1, c2⟩ := o2.cx (n := 4) (cs := Z4) rfl rfl
  refine ⟨c1, fun w6 hw => ?_⟩
  obtain ⟨o6, e6, _⟩ := c2 w6 hw
  have hf : a.has = false := by
   have h1 : (!a.has) = true := hh
   simpa using h1
  rw [hf]
  exact ⟨_, _, _, _, o6.row, Z4, rfl, k2.ext e6 (fun j hj => by omega), fun _ => rfl, fun hh => by cases hh⟩
 ·have ht : a.has = true := by
   have h1 : (!a.has) = false := hh
   simpa using h1
  have hrow : rowAt w3 ((⟨ra, 0, none⟩ : Addr).add 3) 0 (fT a.rt a.re a.rn sd) := h3.o.G5 3 _ (fun j hj => by rcases j with _ | _ | _ | _ | j <;> first | rfl | (simp at hj; omega))
  have hml := h.ml.2
  have hdl := h.d.1
  refine aa rfl ⟨_, _, _, _, hrow, aq (fun r16 w17 hr16 hb16 k16 hs16 => ?_)⟩
  obtain ⟨c1, c2⟩ := (ak.bO hb16).cx (n := 4) (cs := fT a.rt a.re a.rn sd) rfl rfl
  refine ⟨c1, fun w18 hw => ?_⟩
  obtain ⟨o18, e18, _⟩ := c2 w18 hw
  have k18 : ai w3 w18 := k16.ext e18 (fun j hj => by omega)
  refine ⟨sd, o18.cell 3 (by simp), (bx sd _ w18 (aj h3.d k18) (by omega)).mono ?_⟩
  rintro e w21 ⟨u, rfl, hu, huf, k21⟩
  obtain ⟨c3, c4⟩ := (o18.af k21).aM 3 (by simp) u.v
  refine ⟨u, rfl, c3, fun w23 hw2 => ?_⟩
  obtain ⟨o23, e23, _⟩ := c4 w23 hw2
  have z18 := k18.size
  have l16 := o18.lt
  have z21 := k21.size
  have z3 := k2.size
  have k23 : ai w3 w23 := (k18.trans k21).ext e23 (fun j hj => by omega)
  obtain ⟨c5, c6⟩ := (o2.af k23).cx (n := 4) (cs := fT a.rt a.re a.rn u) rfl rfl
  refine ⟨_, _, _, _, o23.row, c5, fun w28 hw3 => ?_⟩
  obtain ⟨o28, e28, _⟩ := c6 w28 hw3
  rw [ht]
  exact ⟨_, _, _, _, o28.row, _, rfl, (k2.trans k23).ext e28 (fun j hj => by omega), (fun hh => by cases hh), fun _ => ⟨u, rfl, aE (aE hu.bytes e23 (fun j hj hh => by have := huf j hj; omega)) e28 (fun j hj hh => by have := huf j hj; omega)⟩⟩
end
end Go.D
namespace Go.D
open Go Go.Proofs
theorem zx (t k e a : Int) (s : Slc) (d : List UInt8) (w : World) (hd : ag w s d) (h : cP t k e a d.length) :
  Calls Tryz.prog fj ⟨[.agg ⟨pn t k e a s⟩]⟩ w fun x w' => ∃ f : Slc, x = .returned f.v /\ ai w w' /\ aF w f /\ f.l <= f.c /\ ag w' f (bn (aU [1, t, k, e, a] d)) := by
 refine nY _ _ _ _ _ ?_
 unfold ka
 refine aq (fun r6 w7 hr hb hk hs => ?_)
 have ho := ak.bO hb
 refine ⟨_, ho.cell 4 (by simp), _, ho.cell 0 (by simp), _, ho.cell 1 (by simp), _, ho.cell 2 (by simp), _, ho.cell 3 (by simp), aq (fun r13 w14 hr13 hb13 k13 hs13 => ?_)⟩
 have hi : jZ w14 ⟨some ⟨r13, 0, none⟩, 5, 5⟩ [1, t, k, e, a] := Own.ints (Own.new (sz := 1) hb13 (.inl (by simp)) rfl)
 refine (tR s _ d _ w14 (aj hd (hk.trans k13)) hi (by simp) (Gw h) (ky h)).mono ?_
 rintro x w16 ⟨f, rfl, g1, g2, g3, g4⟩
 exact ⟨f, rfl, f, rfl, (hk.trans k13).trans g3, g2.mono (hk.trans k13).size, g4, g1⟩
theorem gd (most n : Int) (rest : List UInt8) (h : 0 <= n /\ n <= 4611686018427387903) (hm : n <= most) : rNum most (bo n.toNat ++ rest, none) = (n, (rest, none)) := by
 rw [wR most n.toNat rest (by omega) (by omega), show ((n.toNat : Nat) : Int) = n by omega]
theorem sM (b : List UInt8) (hl : b.length <= 2048) : eI (bn b) = .ok (b, []) := by
 have := A7 b [] hl
 simpa using this
theorem tW {t k e a : Int} {d : List UInt8} (h : cP t k e a d.length) : readR (bn (aU [1, t, k, e, a] d)) = .ok (.ask t k e a d) := by
 have h0 := h
 obtain ⟨h1, h2, h3, h4, h5, h6⟩ := h
 rw [readR, sM _ (ky h0)]
 dsimp only
 rw [if_neg (by simp)]
 have e0 : aU [1, t, k, e, a] d = bo (1 : Int).toNat ++ (bo t.toNat ++ (bo k.toNat ++ (bo e.toNat ++ (bo a.toNat ++ (bo d.length ++ (d ++ [])))))) := by
  simp [aU, mq]
 have e1 : rNum 2 (aU [1, t, k, e, a] d, none) = (1, (bo t.toNat ++ (bo k.toNat ++ (bo e.toNat ++ (bo a.toNat ++ (bo d.length ++ (d ++ []))))), none)) := by
  rw [e0]; exact gd 2 1 _ (by omega) (by omega)
 rw [e1]
 have e2 : bB (bo t.toNat ++ (bo k.toNat ++ (bo e.toNat ++ (bo a.toNat ++ (bo d.length ++ (d ++ []))))), none) = ⟨t, k, e, a, d, ([], none)⟩ := by
  rw [bB]
  rw [gd 1073741824 t _ (by omega) (by omega), gd 5 k _ (by omega) (by omega), gd 1073741824 e _ (by omega) (by omega), gd 4096 a _ (by omega) (by omega), tM 2000 d [] (by omega) (by omega)]
 dsimp only
 rw [e2, if_neg (by omega)]
 dsimp only [lK]
 rw [if_neg (by simp)]
 dsimp only
 rw [if_pos ⟨rfl, h0⟩]
theorem na {t e n : Int} {d : List UInt8} (h : gl t e n d.length) : readR (bn (aU [2, t, e, n] d)) = .ok (.tell t e n d) := by
 have h0 := h
 obtain ⟨h1, h2, h3, h5⟩ := h
 rw [readR, sM _ (sK h0)]
 dsimp only
 rw [if_neg (by simp)]
 have e0 : aU [2, t, e, n] d = bo (2 : Int).toNat ++ (bo t.toNat ++ (bo e.toNat ++ (bo n.toNat ++ (bo d.length ++ (d ++ []))))) := by
  simp [aU, mq]
 have e1 : rNum 2 (aU [2, t, e, n] d, none) = (2, (bo t.toNat ++ (bo e.toNat ++ (bo n.toNat ++ (bo d.length ++ (d ++ [])))), none)) := by
  rw [e0]; exact gd 2 2 _ (by omega) (by omega)
 rw [e1]
 have e2 : bU (bo t.toNat ++ (bo e.toNat ++ (bo n.toNat ++ (bo d.length ++ (d ++ [])))), none) = ⟨t, e, n, d, ([], none)⟩ := by
  rw [bU]
  rw [gd 1073741824 t _ (by omega) (by omega), gd 19 e _ (by omega) (by omega), gd 4096 n _ (by omega) (by omega), tM 2000 d [] (by omega) (by omega)]
 dsimp only
 rw [e2, if_pos rfl]
 dsimp only [lK]
 rw [if_neg (by simp)]
end Go.D
namespace Go.D
open Go Go.Proofs
structure L34 (w0 w : World) (rn r rd rn2 r2 k m : Nat) (f : UnF) (d : aP) (p : NdP) (fr : RuF) (P : List RuE) (top : Int) (s : UnS) (q : RdP) (T : List NdE) : Prop where
 N : cj w w0.heap.size rn r rd f d s m p T
 R : HU w rn2 r2 k fr P top s q T
 k : d.n / 64 = k
 st : d.stops = false
 kp : ai w0 w
 wn : ∀ j, RB rn2 r2 fr q j -> w0.heap.size <= j
 ws : ∀ j, RB rn2 r2 fr q j -> ¬ NB rn r rd f p j /\ ¬ NY f p j
 ys : ∀ j, RY fr q j -> ¬ NB rn r rd f p j
 ok : ∀ x ∈ T, x.ok
section
variable {w0 w w' w2 : World} {rn r rd rn2 r2 k m m' : Nat} {f f' : UnF} {d d' : aP} {p p' : NdP} {fr fr' : RuF} {P P' : List RuE} {top top' : Int} {s s' : UnS} {q q' : RdP} {T T' : List NdE}
end
theorem zy {w : World} {rn r : Nat} {p : NdP} {L : List NdE} (h : lL w rn r p L) : Calls Tryz.prog gw ⟨[aA rn]⟩ w fun e w' => e = .returned (.int .i64 (L.length : Int)) /\ w' = w := by
 refine qE _ ?_
 unfold nF
 have hsl := h.t.sl
 exact aa rfl ⟨_, h.c1, by rw [hsl], rfl⟩
theorem sN (A : Nat -> Addr) (w0 w : World) (hE : bA A w0) (hk : ai w0 w) :
  Calls Tryz.prog cM ⟨[]⟩ w fun e w' => ∃ rn r rd rn2 r2 f d p fr q, e = .returned (.tuple ⟨[aA rn, aA rn2]⟩) /\ L34 w0 w' rn r rd rn2 r2 3 0 f d p fr [] 0 ⟨[], 0, 0, 0⟩ q [] /\ (∀ j, NB rn r rd f p j -> w.heap.size <= j) /\ ai w w' := by
 refine l8 ?_
 unfold jn
 have nilO : ∀ x, ¬ au (⟨none, 0, 0⟩ : Slc) x := by rintro x ⟨a, ha, _⟩; cases ha
 refine (AY A 3 (by omega) w0 w hE hk).mono ?_
 rintro e w2 ⟨rd, qd, d, rfl, k2, hdn, hds, hop⟩
 refine ⟨_, _, rfl, trivial, ao (fun h => by cases h) (fun _ => (hop w2 (Ext.refl _ _)).mono ?_)⟩
 rintro e w6 ⟨r, f, rfl, hU, hq, k6, hUB, hUY⟩
 refine ⟨_, _, rfl, trivial, ao (fun h => by cases h) (fun _ => ao (fun h => by cases h) (fun _ => ?_))⟩
 refine Calls.mono (R := fun e w' => ∃ rn, e = .returned (aA rn) /\ ai w6 w' /\ rn = w6.heap.size /\ ak w' rn [aA r, (⟨none, 0, 0⟩ : Slc).v, .bool false]) (Av _ ?_) ?_
 ·unfold Au
  exact aq (fun r2 w3 hr2 hb2 k2 hs2 => ⟨r2, rfl, k2, hr2, ak.bO hb2⟩)
 rintro e w10 ⟨rn, rfl, k10, hrn, on⟩
 refine ⟨_, rfl, (zw w10 3).mono ?_⟩
 rintro e w13 ⟨r2, fr, rfl, hR, hW, hY, k13⟩
 refine ⟨_, rfl, aq (fun r15 w16 hr15 hb15 k15 hs15 => ?_)⟩
 have lt := hU.lt
 have ltR := hR.A.lt
 have z0 := hk.size
 have z2 := k2.size
 have z6 := k6.size
 have z10 := k10.size
 have z13 := k13.size
 have l10 := on.lt
 have kk := (k10.trans k13).trans k15
 have noF : ∀ j, ¬ cc ([] : List (List Value)) j := by rintro j ⟨cs, hcs, _⟩; simp at hcs
 refine ⟨rn, r, rd, r15, r2, f, d, ⟨⟨none, 0, 0⟩, []⟩, fr, ⟨⟨none, 0, 0⟩, ⟨none, 0, 0⟩, []⟩, rfl, ⟨⟨hU.af kk, ⟨(on.af k13).af k15, Rows.nil _ _, nilO _, fun j hj => (noF j hj).elim⟩, ?_, fun j hj => (noF j hj).elim, ?_⟩, ⟨hR.af k15, ⟨ak.bO hb15, bC.nil _, Rows.nil _ _, ⟨nilO _, nilO _⟩, fun j hj => (nilO j hj).elim, fun j hj => (noF j hj).elim⟩, ?_, fun j hj => (noF j hj).elim⟩, hdn, hds, ((((hk.trans k2).trans k6).trans kk)), ?_, ?_, ?_, fun x hx => by simp at hx⟩, ?_, (k2.trans k6).trans kk⟩
 ·rintro j (rfl | hj)
  ·exact ⟨fun hh => by have := lt.1 _ hh; omega, fun hh => by have := lt.2 _ hh; omega⟩
  ·exact (nilO j hj).elim
 ·rintro j (rfl | hj)
  ·omega
  ·exact (nilO j hj).elim
 ·rintro j (rfl | hj | hj)
  ·exact ⟨fun hh => by have := ltR.1 _ hh; omega, fun hh => by have := ltR.2 _ hh; omega⟩
  ·exact (nilO j hj).elim
  ·exact (nilO j hj).elim
 ·rintro j (hj | rfl | hj | hj)
  ·have := hW j hj; omega
  ·omega
  ·exact (nilO j hj).elim
  ·exact (nilO j hj).elim
 ·have key : ∀ j, w10.heap.size <= j -> ¬ NB rn r rd f ⟨⟨none, 0, 0⟩, []⟩ j /\ ¬ NY f ⟨⟨none, 0, 0⟩, []⟩ j := by
   intro j hj
   refine ⟨?_, ?_⟩
   ·rintro (hh | rfl | hh)
    ·have := lt.1 _ hh; omega
    ·omega
    ·exact (nilO j hh).elim
   ·rintro (hh | hh)
    ·have := lt.2 _ hh; omega
    ·exact (noF j hh).elim
  rintro j (hj | rfl | hj | hj)
  ·exact key j (hW j hj)
  ·exact key _ (by omega)
  ·exact (nilO j hj).elim
  ·exact (nilO j hj).elim
 ·rintro j (hj | hj)
  ·exact (hY j hj).elim
  ·exact (noF j hj).elim
 ·rintro j (hj | rfl | hj)
  ·exact hUB j hj
  ·omega
  ·exact (nilO j hj).elim
theorem zD (A : Nat -> Addr) (w : World) (hE : bA A w) : Calls Tryz.prog ei ⟨[]⟩ w fun e w' => e = .returned (.bool true) /\ ai w w' := by
 refine l9 ?_
 unfold jo
 have hB : aY A w.heap.size w := hE.b
 refine (sN A w w hE (Ext.refl _ _)).mono ?_
 rintro e w2 ⟨rn, r, rd, rn2, r2, f, d, p, fr, q, rfl, hL, hNB, k2⟩
 refine ⟨_, _, rfl, (qh A 0 w2 (hE.af k2)).mono ?_⟩
 rintro e w6 ⟨k6, hc⟩
 rcases hc with ⟨hbad, _⟩ | ⟨_, ra, rfl, hA, hra⟩
 ·omega
 refine ⟨_, _, rfl, fun w3 => w3 = w6, ao (fun h => by cases h) (fun _ => ⟨trivial, ao (fun h => by cases h) (fun _ => ao (fun h => by cases h) (fun _ => rfl))⟩), ?_⟩
 rintro w10 rfl
 intros
 refine aq (fun r22 w23 hr22 hb22 k22 hs22 => ?_)
 rintro w25 rfl
 have hb25 : ag (markW w23 r22) (⟨some ⟨r22, 0, none⟩, 1, 1⟩ : Slc) [120] /\ Ext (fun k => k = r22) w23 (markW w23 r22) := by
  obtain ⟨hb30, e30⟩ := BB hb22
  refine ⟨⟨rfl, .inr ⟨_, rfl, fun i hi => ?_⟩⟩, e30⟩
  have : i = 0 := by simp at hi; omega
  subst this
  rw [add_lit, cell_of hb30]
  rfl
 have z6 := k6.size
 have k25 : ai w10 (markW w23 r22) := k22.ext hb25.2 (fun j hj => by omega)
 have kk25 := (k2.trans k6).trans k25
 refine (yv A (hA.af k25) ((hB.af kk25).up kk25.size) 1 0 3 _ [120] hb25.1).mono ?_
 rintro e w27 ⟨fm, rfl, _, hok⟩
 have hae : Be ⟨0, none, 0, 0, 0, 0, [], false⟩ 1 0 3 1 = none := by decide
 obtain ⟨hfb, hff, hfc, sm', hA27, hsm', e27⟩ := hok hae
 have hae' : Be ⟨0, none, 0, 0, 0, 0, [], false⟩ 1 0 3 ([120] : List UInt8).length = none := hae
 rw [hae']
 refine ⟨fm, _, rfl, trivial, ao (fun h => by cases h) (fun _ => ?_)⟩
 have lN := hL.N.lt
 have N27 : cj w27 w.heap.size rn r rd f d ⟨[], 0, 0, 0⟩ 0 p [] := ((hL.N.af k6).af k25).ext e27 (fun j hj hh => by have := lN.1 j hj; have e1 : j = ra := hh; omega) (fun j hj hh => by have := lN.2 j hj; have e1 : j = ra := hh; omega)
 have kk27 : ai w w27 := kk25.ext e27 (fun j hj => by have e1 : j = ra := hj; have := k2.size; omega)
 have z27 := kk27.size
 have hq : cP 0 1 0 3 [(120 : UInt8)].length := by decide
 have hfl : fm.l = (bn (aU [1, 0, 1, 0, 3] [120])).length := hfb.1
 have hfl2 : fm.l <= 2 ^ 20 := by rw [hfl, bz]; have := ky hq; omega
 have hR1 : readR (bn (aU [1, 0, 1, 0, 3] [120])) = .ok (.ask 0 1 0 3 [120]) := tW hq
 refine (lf A N27 (hB.af kk27) z27 (by omega) hL.st 1 fm _ hfb hfl2 hfc).mono ?_
 rintro e w31 ⟨u, rfl, hu, huf, huc, f', d', p', N31, hdn, hds, n31⟩
 have hP : dx (d.n / 64) ⟨[], 0, 0, 0⟩ 1 0 3 [120] = ((none, 0, []), ⟨[⟨0, 0, [.cW 3 [120]]⟩], 0, 0, 4⟩) := by rw [hL.k]; rfl
 have st1 : ndStep (d.n / 64) ⟨[], 0, 0, 0⟩ [] 1 (bn (aU [1, 0, 1, 0, 3] [120])) = (some ⟨1, 0, none, 0, []⟩, ⟨[⟨0, 0, [.cW 3 [120]]⟩], 0, 0, 4⟩, [⟨1, 0, none, 0, []⟩]) := by
  unfold ndStep
  rw [hR1]
  dsimp only
  rw [hP]
  rfl
 rw [st1] at hu N31 ⊢
 refine ⟨u, _, rfl, ?_⟩
 obtain ⟨n31, nu31⟩ := n31
 have z10 := k25.size
 have kk31 : ai w w31 := kk27.ext n31.1.1 N27.gB
 have hfb31 : ag w31 fm (bn (aU [1, 0, 1, 0, 3] [120])) := aE hfb n31.1.1 (fun j hj hh => by have := hff j hj; have := lN.1 j hh; omega)
 have st2 : ndStep (d'.n / 64) ⟨[⟨0, 0, [.cW 3 [120]]⟩], 0, 0, 4⟩ [⟨1, 0, none, 0, []⟩] 1 (bn (aU [1, 0, 1, 0, 3] [120])) = (some ⟨1, 0, none, 0, []⟩, ⟨[⟨0, 0, [.cW 3 [120]]⟩], 0, 0, 4⟩, [⟨1, 0, none, 0, []⟩]) := by
  unfold ndStep
  rw [hR1]
  rfl
 refine (lf A N31 (hB.af kk31) kk31.size (by omega) hds 1 fm _ hfb31 hfl2 hfc).mono ?_
 rintro e w35 ⟨u2, rfl, hu2, huf2, huc2, f2, d2, p2, N35, hdn2, hds2, n35, nu35⟩
 rw [st2] at hu2 N35 ⊢
 have hu35 : ag w35 u (xa (some ⟨1, 0, none, 0, []⟩)) := aE hu n35.1.1 nu31
 have kk35 : ai w w35 := kk31.ext n35.1.1 N31.gB
 have hrp : gl 0 (eN none) 0 ([] : List UInt8).length := by decide
 have hul : u.l = (NdE.msg ⟨1, 0, none, 0, []⟩).length := hu35.1
 have hml := CT (x := ⟨1, 0, none, 0, []⟩) hrp
 have lA : ra < w27.heap.size := hA27.o.lt
 have nA : ∀ j, AkB ra sm' ⟨none, 0, 0⟩ j -> ¬ NB rn r rd f p j := by
  rintro j (rfl | hj | ⟨x, hx, _⟩) hh
  ·have := lN.1 _ hh; omega
  ·have := hsm' j hj; have := lN.1 _ hh; omega
  ·cases hx
 have ltA : ∀ j, AkB ra sm' ⟨none, 0, 0⟩ j -> j < w27.heap.size := by
  rintro j (rfl | hj | ⟨x, hx, _⟩)
  ·exact lA
  ·exact cX hA27.b (by rw [hA27.b.1]; exact yu _) j hj
  ·cases hx
 have A31 := hA27.ext n31.1.1 nA
 have A35 := A31.ext n35.1.1 (fun j hj hh => (n31.1.2 j hh).elim (nA j hj) (fun g => by have := ltA j hj; omega))
 refine ⟨u2, _, rfl, ao (fun _ => ao (fun _ => ⟨_, hu35, _, hu2, ae (fun _ => ?_) (fun hh => absurd rfl hh)⟩) (fun hh => by cases hh)) (fun hh => by cases hh)⟩
 refine (yw A A35 ((hB.af kk35).up kk35.size) u _ hu35 (by rw [hul]; exact hml) huc).mono ?_
 have hR2 : readR (xa (some ⟨1, 0, none, 0, []⟩)) = .ok (.tell 0 0 0 []) := na (d := []) hrp
 have hh : hearS (G7 ⟨0, none, 0, 0, 0, 0, [], false⟩ 1 0 3 [120]) (xa (some ⟨1, 0, none, 0, []⟩)) = some { G7 ⟨0, none, 0, 0, 0, 0, [], false⟩ 1 0 3 [120] with msg := none, rt := 0, re := 0, rn := 0, rd := [], has := true } := by
  unfold hearS
  rw [hR2]
  rfl
 rintro e w41 ⟨rfl, _, hA'⟩
 obtain ⟨sd', hA41, _, e41⟩ := hA' _ hh
 rw [hh]
 refine ⟨_, rfl, ao (fun _ => (mr hA41).mono ?_) (fun g => by cases g)⟩
 rintro e w44 ⟨rfl, rfl⟩
 have lt35 := N35.lt
 have nra : ∀ j, j = ra -> ¬ NB rn r rd f2 p2 j /\ ¬ NY f2 p2 j := by
  rintro j rfl
  refine ⟨fun g => ?_, fun g => ?_⟩
  ·rcases n35.1.2 _ g with g | g
   ·exact (n31.1.2 _ g).elim (nA _ (.inl rfl)) (fun g2 => by omega)
   ·have := n31.1.1.size; omega
  ·rcases n35.2 _ g with g | g
   ·rcases n31.2 _ g with g | g
    ·have := lN.2 _ g; omega
    ·omega
   ·have := n31.1.1.size; omega
 have N44 := N35.ext e41 (fun j hj g => (nra j g).1 hj) (fun j hj g => (nra j g).2 hj)
 refine ⟨_, rfl, ao (fun _ => (zy N44.N).mono ?_) (fun g => by cases g)⟩
 rintro e w47 ⟨rfl, rfl⟩
 exact ⟨_, rfl, rfl, kk35.ext e41 (fun j hj => by have e1 : j = ra := hj; have := k2.size; omega)⟩
end Go.D
namespace Go.D
open Go Go.Proofs
end Go.D
set_option maxRecDepth 8000
namespace Go.D
open Go Go.Proofs
section
variable {w w2 w3 : World} {ra r41 : Nat} {tag : Int} {busy has : Bool} {ms sm sd : Slc} {a a' : AkS}
end
end Go.D
namespace Go.D
open Go Go.Proofs
theorem Ft (a : Addr) : a.add 0 = a := by simp [Addr.add]
theorem Cp {w : World} {s : Slc} {b : List UInt8} (h : ag w s b) (hl : 0 < s.l) : ∀ k, au s k -> k < w.heap.size := by
 rintro k ⟨a, ha, rfl⟩
 have hb : 0 < (b.map aJ).length := by rw [List.length_map, <- h.1]; exact hl
 obtain ⟨a', ha', hc⟩ := bm h.2 hb
 rw [ha] at ha'
 cases ha'
 have := World.block_lt_of_cell? w _ hc
 rwa [ef] at this
theorem gh {M : Nat -> Prop} {w w' : World} {s : Slc} {b : List UInt8} (h : ag w s b) (he : Ext M w w') (hm : 0 < s.l -> ∀ k, au s k -> ¬ M k) : ag w' s b := by
 rcases Nat.eq_zero_or_pos s.l with h0 | h0
 ·have : b = [] := by have := h.1; rw [h0] at this; exact List.length_eq_zero_iff.1 this.symm
  subst this
  exact ⟨h.1, .inl rfl⟩
 ·exact aE h he (hm h0)
abbrev jr := Int × Int × Int × List UInt8
def GB : uP (Bool × Bool) where
 n := 2
 pos := by omega
 R _ x cs := cs = [.bool x.1, .bool x.2]
 len h := by rw [h]; rfl
 one h := by rw [h]; intro v hv; simp at hv; rcases hv with rfl | rfl <;> rfl
 ext h _ _ := h
 lt h := by rw [h]; rintro k ⟨s, hs, _⟩; simp [Slc.v] at hs
theorem yx {a b : Bool} {k : Nat} : ¬ jj [.bool a, .bool b] k := by rintro ⟨s, hs, _⟩; simp [Slc.v] at hs
theorem gN {w : World} {s : Slc} {ns : List (Bool × Bool)} {nss : List (List Value)} (h : Rows GB w s ns nss) (k : Nat) : ¬ cc nss k := by
 rintro ⟨cs, hc, hk⟩
 obtain ⟨i, hi, rfl⟩ := List.getElem_of_mem hc
 have : nss[i] = _ := h.row i hi (by rw [<- h.len]; exact hi)
 rw [this] at hk
 exact yx hk
def gr (n f t : Int) (s : Slc) : List Value := [.int .i64 n, .int .i64 f, .int .i64 t, s.v]
theorem sO {n f t : Int} {s : Slc} {k : Nat} (h : jj (gr n f t s) k) : 0 < s.l /\ au s k := by
 obtain ⟨s', hs, h1, h2⟩ := h
 have : s' = s := by
  obtain ⟨p, l, c⟩ := s
  obtain ⟨p', l', c'⟩ := s'
  simp [gr, Slc.v] at hs
  obtain ⟨rfl, rfl, rfl⟩ := hs
  rfl
 subst this
 exact ⟨h1, h2⟩
theorem CY (n f t : Int) (s : Slc) : ∀ v ∈ gr n f t s, v.oneCell' = true := by
 intro v hv
 simp [gr] at hv
 rcases hv with rfl | rfl | rfl | rfl <;> rfl
def Fu : uP jr where
 n := 4
 pos := by omega
 R w x cs := ∃ s : Slc, cs = gr x.1 x.2.1 x.2.2.1 s /\ ag w s x.2.2.2 /\ x.2.2.2.length <= 4096 /\ s.l <= s.c
 len := by rintro w x cs ⟨s, rfl, _⟩; rfl
 one := by rintro w x cs ⟨s, rfl, _⟩; exact CY _ _ _ _
 ext := by
  rintro M w w' x cs ⟨s, rfl, h, h2⟩ he hm
  exact ⟨s, rfl, gh h he (fun h0 k hk => hm k ⟨s, by simp [gr], h0, hk⟩), h2⟩
 lt := by
  rintro w x cs ⟨s, rfl, h, _⟩ k hk
  obtain ⟨h0, hk⟩ := sO hk
  exact Cp h h0 k hk
structure jz where
 sn : Slc
 sw : Slc
 nss : List (List Value)
 mss : List (List Value)
structure bG (w : World) (r : Nat) (q : jz) (ns : List (Bool × Bool)) (ms : List jr) (nx : Int) : Prop where
 o : ak w r [q.sn.v, q.sw.v, .int .i64 nx]
 n : Rows GB w q.sn ns q.nss
 m : Rows Fu w q.sw ms q.mss
 dn : ¬ au q.sn r
 dw : ¬ au q.sw r
 dd : ∀ k, au q.sn k -> ¬ au q.sw k
 df : ∀ k, cc q.mss k -> k ≠ r /\ ¬ au q.sn k
def pQ (r : Nat) (q : jz) (k : Nat) : Prop := k = r \/ au q.sn k \/ au q.sw k
def tX (q : jz) (k : Nat) : Prop := cc q.mss k
theorem bG.ext {M : Nat -> Prop} {w w' : World} {r : Nat} {q : jz} {ns : List (Bool × Bool)} {ms : List jr} {nx : Int} (h : bG w r q ns ms nx) (he : Ext M w w') (h1 : ∀ k, pQ r q k -> ¬ M k) (h2 : ∀ k, tX q k -> ¬ M k) : bG w' r q ns ms nx :=
 ⟨h.o.ext he (h1 r (.inl rfl)), h.n.ext he (fun k hk => h1 k (.inr (.inl hk))) (fun k hk => (gN h.n k hk).elim), h.m.ext he (fun k hk => h1 k (.inr (.inr hk))) h2, h.dn, h.dw, h.dd, h.df⟩
theorem bG.af {w w' : World} {r : Nat} {q : jz} {ns : List (Bool × Bool)} {ms : List jr} {nx : Int} (h : bG w r q ns ms nx) (he : ai w w') : bG w' r q ns ms nx := h.ext he (fun _ _ h => h) (fun _ _ h => h)
theorem bG.c0 {w : World} {r : Nat} {q : jz} {ns : List (Bool × Bool)} {ms : List jr} {nx : Int} (h : bG w r q ns ms nx) : w.cell? ⟨r, 0, none⟩ = some q.sn.v := h.o.cell 0 (by simp)
theorem bG.c1 {w : World} {r : Nat} {q : jz} {ns : List (Bool × Bool)} {ms : List jr} {nx : Int} (h : bG w r q ns ms nx) : w.cell? ((⟨r, 0, none⟩ : Addr).add 1) = some q.sw.v := by rw [add_lit]; exact h.o.cell 1 (by simp)
theorem bG.c2 {w : World} {r : Nat} {q : jz} {ns : List (Bool × Bool)} {ms : List jr} {nx : Int} (h : bG w r q ns ms nx) : w.cell? ((⟨r, 0, none⟩ : Addr).add 2) = some (.int .i64 nx) := by rw [add_lit]; exact h.o.cell 2 (by simp)
theorem bG.lt {w : World} {r : Nat} {q : jz} {ns : List (Bool × Bool)} {ms : List jr} {nx : Int} (h : bG w r q ns ms nx) : ∀ k, pQ r q k -> k < w.heap.size := by
 rintro k (rfl | hk | hk)
 ·exact h.o.lt
 ·exact h.n.lt k hk
 ·exact h.m.lt k hk
theorem bG.flt {w : World} {r : Nat} {q : jz} {ns : List (Bool × Bool)} {ms : List jr} {nx : Int} (h : bG w r q ns ms nx) : ∀ k, tX q k -> k < w.heap.size := h.m.flt
theorem bG.fm {w : World} {r : Nat} {q : jz} {ns : List (Bool × Bool)} {ms : List jr} {nx : Int} (h : bG w r q ns ms nx) : ∀ k, tX q k -> ¬ pQ r q k := by
 rintro k hk (rfl | h1 | h1)
 ·exact (h.df k hk).1 rfl
 ·exact (h.df k hk).2 h1
 ·exact h.m.sep k hk h1
variable {w : World} {r : Nat} {q : jz} {ns : List (Bool × Bool)} {ms : List jr} {nx : Int}
abbrev nc (r : Nat) : Value := .pointer (some ⟨r, 0, none⟩)
def om (ns : List (Bool × Bool)) (i : Int) : Bool := decide (0 <= i /\ i < ns.length)
theorem sP (h : bG w r q ns ms nx) (i : Int) :
  Calls Tryz.prog eu ⟨[nc r, .int .i64 i]⟩ w fun e w' => e = .returned (.bool (om ns i)) /\ w' = w := by
 refine vZ _ _ ?_
 unfold uv om
 have hl := h.n.sl
 refine ae (fun h0 => aa rfl ⟨_, h.c0, ?_, rfl⟩) (fun h0 => ⟨?_, rfl⟩)
 ·congr 2; rw [hl]; simp [h0]
 ·congr 2; simp; omega
def xf (ns : List (Bool × Bool)) (i : Int) : Bool × Bool := ns.getD i.toNat (false, false)
def jA (ns : List (Bool × Bool)) (a b : Int) : Bool := om ns a && om ns b && (xf ns a).1 && (xf ns b).1 && ((xf ns a).2 == (xf ns b).2)
theorem bG.node (h : bG w r q ns ms nx) {i : Int} (hi : om ns i = true) : ∃ a, q.sn.p = some a /\ a.spot = none /\ 0 <= i /\ i < ((q.sn.l : Nat) : Int) /\
  World.cell? w (Addr.add a ((Int.toNat i) * 2)) = some (.bool (xf ns i).1) /\ World.cell? w ((Addr.add a ((Int.toNat i) * 2)).add 1) = some (.bool (xf ns i).2) := by
 have hi2 : 0 <= i /\ i < ns.length := by simpa [om] using hi
 have hl := h.n.sl
 have hlen := h.n.len
 have hi3 : i.toNat < q.nss.length := by omega
 have hi4 : i.toNat < ns.length := by omega
 obtain ⟨a, ha, hsp, hrow⟩ := h.n.get hi3
 have hR : q.nss[i.toNat] = [.bool ns[i.toNat].1, .bool ns[i.toNat].2] := h.n.row i.toNat hi3 hi4
 rw [hR] at hrow
 have hnd : xf ns i = ns[i.toNat] := by simp [xf, List.getD, hi4]
 rw [hnd]
 exact ⟨a, ha, hsp, hi2.1, by omega, by have := hrow.1; rwa [Ft] at this, hrow.2.1⟩
theorem xg (h : bG w r q ns ms nx) (a b : Int) :
  Calls Tryz.prog fY ⟨[nc r, .int .i64 a, .int .i64 b]⟩ w fun e w' => e = .returned (.bool (jA ns a b)) /\ ai w w' := by
 refine tw _ _ _ ?_
 unfold qb jA
 have hd := h.af (Ext.drew _ w)
 refine (sP hd a).mono ?_
 rintro e w5 ⟨rfl, rfl⟩
 refine ⟨_, rfl, ao (fun h1 => ?_) (fun h1 => ⟨by rw [h1]; rfl, Ext.drew _ _⟩)⟩
 refine (sP hd b).mono ?_
 rintro e w8 ⟨rfl, rfl⟩
 refine ⟨_, rfl, ao (fun h2 => ?_) (fun h2 => ⟨by rw [h2]; simp, Ext.drew _ _⟩)⟩
 obtain ⟨p, hp, _, a1, a2, a3, a4⟩ := hd.node h1
 obtain ⟨p', hp', _, b1, b2, b3, b4⟩ := hd.node h2
 rw [hp] at hp'
 cases hp'
 refine aa rfl ⟨_, hd.c0, aa hp ⟨a1, a2, _, a3, ao (fun h3 => ?_) (fun h3 => ⟨by rw [h3]; simp, Ext.drew _ _⟩)⟩⟩
 refine aa rfl ⟨_, hd.c0, aa hp ⟨b1, b2, _, b3, ao (fun h4 => ?_) (fun h4 => ⟨by rw [h4]; simp, Ext.drew _ _⟩)⟩⟩
 refine aa rfl ⟨_, hd.c0, aa hp ⟨a1, a2, _, a4, ?_⟩⟩
 refine aa rfl ⟨_, hd.c0, aa hp ⟨b1, b2, _, b4, ?_⟩⟩
 exact ⟨by rw [h1, h2, h3, h4]; rfl, Ext.drew _ _⟩
def zE {α : Type} (p : α -> Prop) (ms : List α) (i : Int) : Prop :=
 (∃ k : Nat, i = k /\ ∃ h : k < ms.length, p ms[k] /\ ∀ j (hj : j < k), ¬ p (ms[j]'(by omega))) \/ (i = -1 /\ ∀ j (hj : j < ms.length), ¬ p ms[j])
theorem bG.msg (h : bG w r q ns ms nx) {k : Nat} (hk : k < ms.length) : ∃ (a : Addr) (s : Slc), q.sw.p = some a /\ a.spot = none /\ ∃ hk' : k < q.mss.length, q.mss[k] = gr ms[k].1 ms[k].2.1 ms[k].2.2.1 s /\ rowAt w (Addr.add a (k * 4)) 0 (gr ms[k].1 ms[k].2.1 ms[k].2.2.1 s) /\ ag w s ms[k].2.2.2 /\ ms[k].2.2.2.length <= 4096 /\ s.l <= s.c := by
 have hk2 : k < q.mss.length := by rw [h.m.len]; exact hk
 obtain ⟨a, ha, hsp, hrow⟩ := h.m.get hk2
 obtain ⟨s, hs, hb, hb2⟩ := h.m.row k hk2 hk
 rw [hs] at hrow
 exact ⟨a, s, ha, hsp, hk2, hs, hrow, hb, hb2⟩
theorem Bf (m : jr) (s : Slc) (n : Int) (b : Nat) (w : World) (hc : w.cell? ⟨b, 0, none⟩ = some (.int .i64 n)) :
  Calls Tryz.prog fx ⟨[.agg ⟨gr m.1 m.2.1 m.2.2.1 s⟩, nc b]⟩ w fun e w' => e = .returned (.bool (decide (m.1 = n))) /\ ai w w' := by
 refine rL _ _ _ _ _ ?_
 unfold oV
 refine aq (fun r6 w7 hr6 hb6 k6 hs6 => ?_)
 exact ⟨m.1, (ak.bO hb6).cell 0 (by simp), aa rfl ⟨n, k6.cell hc, rfl, k6⟩⟩
theorem pR (h : bG w r q ns ms nx) (n : Int) (b : Nat) (hc : w.cell? ⟨b, 0, none⟩ = some (.int .i64 n)) (hl : ms.length <= 2 ^ 40) :
  Calls Tryz.prog bd ⟨[q.sw.v, .func (.func fx) ⟨[]⟩ ⟨[nc b]⟩]⟩ w fun e w' => ∃ i, e = .returned (.int .i64 i) /\ zE (fun m : jr => m.1 = n) ms i /\ ai w w' := by
 refine fb _ _ ?_
 unfold cH
 have hsl := h.m.sl
 refine ⟨fun i w2 => ∃ k : Nat, i = k /\ k <= ms.length /\ ai w w2 /\ ∀ j (hj : j < ms.length), j < k -> ¬ ms[j].1 = n, fun i _ => ((ms.length : Int) - i).toNat, ⟨0, rfl, by omega, Ext.refl _ _, fun j _ hj => by omega⟩, ?_⟩
 rintro i w2 ⟨k, rfl, hk, k2, hno⟩
 intros
 refine ae (fun h1 => ?_) (fun h1 => ⟨_, rfl, .inr ⟨rfl, fun j hj => hno j hj (by omega)⟩, k2⟩)
 have hkl : k < ms.length := by omega
 obtain ⟨a, s, ha, hsp, hk', he, hrow, hb, _⟩ := (h.af k2).msg hkl
 refine aa ha ⟨by omega, h1, _, _, _, _, by rw [show Int.toNat (k : Int) * 4 = k * 4 by omega]; exact hrow, ?_⟩
 refine (Bf ms[k] s n b w2 (k2.cell hc)).mono ?_
 rintro e w25 ⟨rfl, k25⟩
 refine ⟨_, rfl, ae (fun h2 => ⟨_, rfl, .inl ⟨k, rfl, hkl, h2, fun j hj => hno j (by omega) hj⟩, k2.trans k25⟩) (fun h2 => ?_)⟩
 refine ⟨aB (by omega), ⟨k + 1, rfl, hkl, k2.trans k25, fun j hj hjk => ?_⟩, by dsimp only; omega⟩
 by_cases hj2 : j = k
 ·subst hj2; exact h2
 ·exact hno j hj (by omega)
theorem find_spec (h : bG w r q ns ms nx) (n : Int) (hl : ms.length <= 2 ^ 40) :
  Calls Tryz.prog fg ⟨[nc r, .int .i64 n]⟩ w fun e w' => ∃ i, e = .returned (.int .i64 i) /\ zE (fun m : jr => m.1 = n) ms i /\ ai w w' := by
 refine uV _ _ ?_
 unfold rM
 refine aq (fun r3 w4 hr3 hb3 k3 hs3 => ?_)
 have h4 := h.af k3
 refine aa rfl ⟨_, h4.c1, ?_⟩
 refine (pR h4 n r3 ((ak.bO hb3).cell 0 (by simp)) hl).mono ?_
 rintro e w8 ⟨i, rfl, hf, k8⟩
 exact ⟨i, rfl, i, rfl, hf, k3.trans k8⟩
theorem zF (h : bG w r q ns ms nx) (m : jr) (s : Slc) (to : Int) (b b2 : Nat) (hc : w.cell? ⟨b, 0, none⟩ = some (.int .i64 to)) (hc2 : w.cell? ⟨b2, 0, none⟩ = some (nc r)) :
  Calls Tryz.prog eS ⟨[.agg ⟨gr m.1 m.2.1 m.2.2.1 s⟩, nc b, nc b2]⟩ w fun e w' => e = .returned (.bool (decide (m.2.2.1 = to) && jA ns m.2.1 m.2.2.1)) /\ ai w w' := by
 refine qK _ _ _ _ _ _ ?_
 unfold nL
 refine aq (fun r6 w7 hr6 hb6 k6 hs6 => ?_)
 have o6 := ak.bO hb6
 refine ⟨m.2.2.1, o6.cell 2 (by simp), aa rfl ⟨to, k6.cell hc, ae (fun h1 => ?_) (fun h1 => ⟨by rw [decide_eq_false h1]; rfl, k6⟩)⟩⟩
 refine aa rfl ⟨_, k6.cell hc2, m.2.1, o6.cell 1 (by simp), m.2.2.1, o6.cell 2 (by simp), ?_⟩
 refine (xg (h.af k6) m.2.1 m.2.2.1).mono ?_
 rintro e w8 ⟨rfl, k8⟩
 exact ⟨_, rfl, by rw [decide_eq_true h1]; rfl, k6.trans k8⟩
theorem pq (h : bG w r q ns ms nx) (to : Int) (b b2 : Nat) (hc : w.cell? ⟨b, 0, none⟩ = some (.int .i64 to)) (hc2 : w.cell? ⟨b2, 0, none⟩ = some (nc r)) (hl : ms.length <= 2 ^ 40) :
  Calls Tryz.prog bd ⟨[q.sw.v, .func (.func eS) ⟨[]⟩ ⟨[nc b, nc b2]⟩]⟩ w fun e w' => ∃ i, e = .returned (.int .i64 i) /\ zE (fun m : jr => m.2.2.1 = to /\ jA ns m.2.1 m.2.2.1 = true) ms i /\ ai w w' := by
 refine eD _ _ _ ?_
 unfold cE
 have hsl := h.m.sl
 refine ⟨fun i w2 => ∃ k : Nat, i = k /\ k <= ms.length /\ ai w w2 /\ ∀ j (hj : j < ms.length), j < k -> ¬ (ms[j].2.2.1 = to /\ jA ns ms[j].2.1 ms[j].2.2.1 = true), fun i _ => ((ms.length : Int) - i).toNat, ⟨0, rfl, by omega, Ext.refl _ _, fun j _ hj => by omega⟩, ?_⟩
 rintro i w2 ⟨k, rfl, hk, k2, hno⟩
 intros
 refine ae (fun h1 => ?_) (fun h1 => ⟨_, rfl, .inr ⟨rfl, fun j hj => hno j hj (by omega)⟩, k2⟩)
 have hkl : k < ms.length := by omega
 obtain ⟨a, s, ha, hsp, hk', he, hrow, hb, _⟩ := (h.af k2).msg hkl
 refine aa ha ⟨by omega, h1, _, _, _, _, by rw [show Int.toNat (k : Int) * 4 = k * 4 by omega]; exact hrow, ?_⟩
 refine (zF (h.af k2) ms[k] s to b b2 (k2.cell hc) (k2.cell hc2)).mono ?_
 rintro e w25 ⟨rfl, k25⟩
 refine ⟨_, rfl, ao (fun h2 => ⟨_, rfl, .inl ⟨k, rfl, hkl, by simpa using h2, fun j hj => hno j (by omega) hj⟩, k2.trans k25⟩) (fun h2 => ?_)⟩
 refine ⟨aB (by omega), ⟨k + 1, rfl, hkl, k2.trans k25, fun j hj hjk => ?_⟩, by dsimp only; omega⟩
 by_cases hj2 : j = k
 ·subst hj2; intro hh; rw [decide_eq_true hh.1, hh.2] at h2; cases h2
 ·exact hno j hj (by omega)
theorem xh (h : bG w r q ns ms nx) (to : Int) (hl : ms.length <= 2 ^ 40) :
    Calls Tryz.prog fX ⟨[nc r, .int .i64 to]⟩ w fun e w' => ∃ n, e = .returned (.int .i64 n) /\ ai w w' /\
      ((∃ k : Nat, ∃ hk : k < ms.length, n = ms[k].1 /\ (ms[k].2.2.1 = to /\ jA ns ms[k].2.1 ms[k].2.2.1 = true) /\ ∀ j (hj : j < k), ¬ ((ms[j]'(by omega)).2.2.1 = to /\ jA ns (ms[j]'(by omega)).2.1 (ms[j]'(by omega)).2.2.1 = true)) \/
       (n = -1 /\ ∀ j (hj : j < ms.length), ¬ (ms[j].2.2.1 = to /\ jA ns ms[j].2.1 ms[j].2.2.1 = true))) := by
  refine tx _ _ ?_
  unfold qc
  refine aq (fun r3 w4 hr3 hb3 k3 hs3 => aq (fun r5 w6 hr5 hb5 k5 hs5 => ?_))
  have k6 := k3.trans k5
  have h6 := h.af k6
  have o3 := (ak.bO hb3).af k5
  have o5 := ak.bO hb5
  refine ⟨_, o3.cell 0 (by simp), aa rfl ⟨_, h6.c1, ?_⟩⟩
  refine (pq h6 to r5 r3 (o5.cell 0 (by simp)) (o3.cell 0 (by simp)) hl).mono ?_
  rintro e w11 ⟨i, rfl, hf, k11⟩
  refine ⟨i, rfl, ae (fun h1 => ?_) (fun h1 => ?_)⟩
  · rcases hf with ⟨k, rfl, _⟩ | ⟨rfl, hn⟩
    · omega
    · exact ⟨_, rfl, k6.trans k11, .inr ⟨rfl, hn⟩⟩
  · rcases hf with ⟨k, rfl, hk, hp, hno⟩ | ⟨rfl, hn⟩
    · have h11 := h6.af k11
      have hsl := h11.m.sl
      obtain ⟨a, s, ha, hsp, hk', he, hrow, hb, _⟩ := h11.msg hk
      refine ⟨_, (o3.af k11).cell 0 (by simp), aa rfl ⟨_, h11.c1, aa ha ⟨by omega, by omega, ms[k].1, ?_, ?_⟩⟩⟩
      · have := hrow.1
        rw [Ft] at this
        rw [show Int.toNat (k : Int) * 4 = k * 4 by omega]; exact this
      · exact ⟨_, rfl, k6.trans k11, .inl ⟨k, hk, rfl, hp, hno⟩⟩
    · omega
end Go.D
namespace Go.D
open Go Go.Proofs
variable {w : World} {r : Nat} {q : jz} {ns : List (Bool × Bool)} {ms : List jr} {nx : Int}
def lh (r : Nat) (q q' : jz) (w w' : World) : Prop := bp (pQ r q) (pQ r q') w w' /\ ∀ k, tX q' k -> tX q k \/ w.heap.size <= k
theorem lh.trans {q q1 q2 : jz} {a b c : World} (h1 : lh r q q1 a b) (h2 : lh r q1 q2 b c) : lh r q q2 a c :=
 ⟨h1.1.trans h2.1, fun k hk => (h2.2 k hk).elim (h1.2 k) (fun h => .inr (Nat.le_trans h1.1.1.size h))⟩
theorem ai.Fv {q q' : jz} {a b c : World} (h1 : ai a b) (h2 : lh r q q' b c) : lh r q q' a c :=
 ⟨ai.iW h1 h2.1, fun k hk => (h2.2 k hk).imp (fun h => h) (fun h => Nat.le_trans h1.size h)⟩
theorem Bg (h : bG w r q ns ms nx) (m2 f t : Int) (s : Slc) (b : List UInt8) (hb : ag w s b) (hb2 : b.length <= 4096) (hlen : ms.length < 4096) (hnx : 0 <= nx /\ nx <= 2 ^ 40) :
  Calls Tryz.prog ib ⟨[nc r, .agg ⟨gr m2 f t s⟩]⟩ w fun e w' => e = .returned (.tuple ⟨[.int .i64 nx, .nilIface]⟩) /\ ∃ q', bG w' r q' ns (ms ++ [(nx, f, t, b)]) (nx + 1) /\ lh r q q' w w' := by
 refine we _ _ _ _ _ ?_
 unfold uw
 have hsl := h.m.sl
 have hbl := hb.1
 refine aq (fun r6 w7 hr6 hb6 k7 hs7 => ?_)
 have o7 := ak.bO hb6
 have h7 := h.af k7
 refine aa rfl ⟨_, h7.c1, ae (fun hh => by omega) (fun _ => ?_)⟩
 have kd := k7.drew
 have hd := h.af kd
 have od := o7.af (Ext.drew _ w7)
 refine aa rfl ⟨_, hd.c2, s, od.cell 3 (by simp), ?_⟩
 refine (bx s b _ (aj hb kd) (by omega)).mono ?_
 rintro e w15 ⟨s16, rfl, own16, fr16, k15'⟩
 have k15 := kd.trans k15'
 have h15 := h.af k15
 have o15 := od.af k15'
 have zd : w7.drew.heap.size = w7.heap.size := rfl
 have z15 := k15'.size
 obtain ⟨cw1, g1⟩ := o15.aM 0 (by simp) (.int .i64 nx)
 refine ⟨s16, rfl, ⟨_, h15.c2, rfl⟩, cw1, fun w18 hw18 => ?_⟩
 obtain ⟨o18, e18, z18⟩ := g1 w18 hw18
 obtain ⟨cw2, g2⟩ := o18.aM 3 (by simp) s16.v
 refine ⟨cw2, fun w19 hw19 => ?_⟩
 obtain ⟨o19, e19, z19⟩ := g2 w19 hw19
 have k18 : ai w w18 := k15.step (by omega) e18
 have k19 : ai w w19 := k18.step (by omega) e19
 have k19d := k19.drew
 have own19 : Own w19.drew s16 1 (b.map aJ) := (((own16.ext e18 (fun k hk hh => by have := fr16 k hk; omega)).ext e19 (fun k hk hh => by have := fr16 k hk; omega))).af (Ext.drew _ _)
 have h19 := h.af k19d
 have o19d := o19.af (Ext.drew _ w19)
 refine aa rfl ⟨_, h19.c1, nx, f, t, s16, o19d.row, aq (fun r26 w27 hr26 hb26 k27' hs27 => ?_)⟩
 have k27 := k19d.trans k27'
 have h27 := h.af k27
 have own27 := own19.af k27'
 have z19d : w19.drew.heap.size = w19.heap.size := rfl
 refine ⟨⟨_, h27.c1, rfl⟩, ?_⟩
 have f16 : ∀ k, au s16 k -> w.heap.size <= k := fun k hk => by have := fr16 k hk; have := k7.size; omega
 have f16l : ∀ k, au s16 k -> k < w27.heap.size := kG own27
 have hxl := h.lt
 refine h27.m.snoc (e := Fu) (cs := gr nx f t s16) (x := (nx, f, t, b)) rfl ⟨s16, rfl, own27.bytes, hb2, own27.le (by omega)⟩ (fun k hk => ?_) hb26 (.inl (by simp)) (by omega) (fun s29 w30 hR e30 hn30 => ?_)
 ·obtain ⟨_, hk⟩ := sO hk
  intro hh
  have := f16 k hk
  have := hxl k (.inr (.inr hh))
  omega
 have o30 := h27.o.ext e30 (fun hh => h.dw hh)
 have n30 := h27.n.ext e30 (fun k hk hh => h.dd k hk hh) (fun k hk => (gN h27.n k hk).elim)
 obtain ⟨cw3, g3⟩ := o30.aM 1 (by simp) s29.v
 refine aa rfl ?_
 rw [add_lit]
 refine ⟨cw3, fun w32 hw32 => ?_⟩
 obtain ⟨o32, e32, z32⟩ := g3 w32 hw32
 refine aa rfl ⟨nx, by rw [add_lit]; exact o32.cell 2 (by simp), aB (by omega), aa rfl ?_⟩
 obtain ⟨cw4, g4⟩ := o32.aM 2 (by simp) (.int .i64 (nx + 1))
 rw [add_lit]
 refine ⟨cw4, fun w36 hw36 => ?_⟩
 obtain ⟨o36, e36, z36⟩ := g4 w36 hw36
 have z27 := k27.size
 have z30 := e30.size
 have hrl := h.o.lt
 have o36r6 : ak w36 r6 _ := (((o19d.af k27').ext e30 (fun hh => by have := hxl r6 (.inr (.inr hh)); omega)).ext e32 (fun hh => by omega)).ext e36 (fun hh => by omega)
 refine ⟨nx, o36r6.cell 0 (by simp), rfl, ⟨q.sn, s29, q.nss, q.mss ++ [gr nx f t s16]⟩, ?_, ?_⟩
 ·have dw' : ¬ au s29 r := fun hh => (hn30 r hh).elim h.dw (fun hh => by omega)
  have rsep : ∀ k, cc (q.mss ++ [gr nx f t s16]) k -> tX q k \/ au s16 k := by
   rintro k ⟨cs, hc, hk⟩
   rcases List.mem_append.1 hc with hc | hc
   ·exact .inl ⟨cs, hc, hk⟩
   ·rw [List.mem_singleton] at hc; subst hc; exact .inr (sO hk).2
  have hfr : ∀ k, cc (q.mss ++ [gr nx f t s16]) k -> k ≠ r := fun k hk => (rsep k hk).elim (fun hh => (h.df k hh).1) (fun hh e => by have := f16 k hh; omega)
  refine ⟨o36, (n30.ext e32 (fun k hk hh => h.dn (hh ▸ hk)) (fun k hk => (gN n30 k hk).elim)).ext e36 (fun k hk hh => h.dn (hh ▸ hk)) (fun k hk => (gN n30 k hk).elim),
   (hR.ext e32 (fun k hk hh => dw' (hh ▸ hk)) (fun k hk hh => hfr k hk hh)).ext e36 (fun k hk hh => dw' (hh ▸ hk)) (fun k hk hh => hfr k hk hh), h.dn, dw', fun k hk hh => ?_, fun k hk => ⟨hfr k hk, ?_⟩⟩
  ·rcases hn30 k hh with h1 | h1
   ·exact h.dd k hk h1
   ·have := hxl k (.inr (.inl hk)); omega
  ·rcases rsep k hk with h1 | h1
   ·exact (h.df k h1).2
   ·intro hh; have := f16 k h1; have := hxl k (.inr (.inl hh)); omega
 ·refine ⟨⟨((k27.iW ⟨e30, fun _ h => .inl h⟩).1.mono (M' := pQ r q) (fun k hk => .inr (.inr hk))).trans (Ext.trans (M := fun x => x = r) e32 e36 (fun _ h => h) (fun _ h => .inl h)) (fun _ h => h) (fun k hk => .inl (.inl hk)), fun k hk => ?_⟩, fun k hk => ?_⟩
  ·rcases hk with h1 | h1 | h1
   ·exact .inl (.inl h1)
   ·exact .inl (.inr (.inl h1))
   ·rcases hn30 k h1 with h2 | h2
    ·exact .inl (.inr (.inr h2))
    ·exact .inr (by omega)
  ·obtain ⟨cs, hc, hk⟩ := hk
   rcases List.mem_append.1 hc with hc | hc
   ·exact .inl ⟨cs, hc, hk⟩
   ·rw [List.mem_singleton] at hc; subst hc; exact .inr (f16 k (sO hk).2)
theorem Bh {K : Prop} {w : World} {s : Slc} {xs : List jr} {css : List (List Value)} (h : Rows Fu w s xs css) {i : Nat} (hi : i < css.length) (hl : xs.length <= 2 ^ 30) :
  Calls Tryz.prog dM ⟨[s.v, .int .i64 (i : Int), .int .i64 ((i : Int) + 1)]⟩ w fun e w' => e = .returned (Slc.v ⟨s.p, s.l - 1, s.c⟩) /\ Rows Fu w' ⟨s.p, s.l - 1, s.c⟩ (xs.eraseIdx i) (css.eraseIdx i) /\ Ext (au s) w w' := by
 refine lH _ _ _ ?_
 unfold iQ
 have hsl := h.sl
 have hcl := h.len
 have hcap := h.cap
 refine ⟨by omega, by omega, by omega, by omega, ae (fun hh => by omega) (fun _ => ⟨by omega, by omega, by omega, by omega, by omega, by omega, by omega, by omega, ?_⟩)⟩
 have hd := h.af (Ext.drew _ w)
 rw [show Int.toNat (i : Int) = i by omega, show Int.toNat ((i : Int) + 1) = i + 1 by omega]
 obtain ⟨old, new, c1, c2, c3, c4, c5, c6, c7⟩ := hd.cut (z := [.int .i64 0, .int .i64 0, .int .i64 0, Slc.v ⟨none, 0, 0⟩]) (E := vM) (K := fun w' => Rows Fu w' ⟨s.p, s.l - 1, s.c⟩ (xs.eraseIdx i) (css.eraseIdx i) /\ Ext (au s) w.drew w') hi rfl (CY 0 0 0 ⟨none, 0, 0⟩) hl (fun w' g1 g2 g3 => ⟨g1, g2⟩)
 refine ⟨old, new, c1, c2, c3, c4, c5, c6, fun s7 w8 hA => ?_⟩
 obtain ⟨rfl, g⟩ := c7 s7 w8 hA
 refine ⟨by omega, ?_, ?_, ?_, ?_⟩
 ·show ((s.l - 1 : Nat) : Int) <= _; omega
 ·show ((s.l : Nat) : Int) <= ((s.c : Nat) : Int); omega
 ·exact Int.le_refl _
 exact g.mono (fun w1 hg => ⟨rfl, hg.1, (Ext.drew _ _).trans hg.2 (fun _ h => h) (fun _ h => .inl h)⟩)
theorem yy (h : bG w r q ns ms nx) {k : Nat} (hk : k < ms.length) (hl : ms.length <= 2 ^ 30) :
  Calls Tryz.prog gu ⟨[nc r, .int .i64 (k : Int)]⟩ w fun e w' => ∃ (s : Slc) (q' : jz), e = .returned (.agg ⟨gr ms[k].1 ms[k].2.1 ms[k].2.2.1 s⟩) /\ ag w' s ms[k].2.2.2 /\ (s.l <= s.c /\ ∀ x, 0 < s.l -> au s x -> tX q x) /\ bG w' r q' ns (ms.eraseIdx k) nx /\ lh r q q' w w' := by
 refine uW _ _ ?_
 unfold rN
 have hsl := h.m.sl
 have hxl := h.lt
 have hrl := h.o.lt
 refine aq (fun r3 w4 hr3 hb3 k4 hs4 => ?_)
 have h4 := h.af k4
 have o4 := ak.bO hb3
 obtain ⟨a, s, ha, hsp, hk', he, hrow, hb, hb2⟩ := h4.msg hk
 refine aa rfl ⟨_, h4.c1, aa ha ⟨by omega, by omega, _, _, _, s, by rw [show Int.toNat (k : Int) * 4 = k * 4 by omega]; exact hrow, ?_⟩⟩
 have hsf : ∀ x, 0 < s.l -> au s x -> tX q x := fun x h0 hx => ⟨q.mss[k], List.getElem_mem hk', by rw [he]; exact ⟨s, by simp [gr], h0, hx⟩⟩
 refine aq (fun r12 w13 hr12 hb12 k13' hs13 => ?_)
 have k13 := k4.trans k13'
 obtain ⟨cw1, g1⟩ := (ak.bO hb12).cx (cs := gr ms[k].1 ms[k].2.1 ms[k].2.2.1 s) rfl rfl
 refine ⟨cw1, fun w14 hw14 => ?_⟩
 obtain ⟨o14, e14, z14⟩ := g1 w14 hw14
 have k14 : ai w w14 := k13.step (by have := k4.size; omega) e14
 have h14 := h.af k14
 refine aa rfl ⟨_, h14.c1, aB (by omega), ?_⟩
 refine (Bh (K := True) h14.m hk' hl).mono ?_
 rintro e w18 ⟨rfl, hR, e18⟩
 have z18 := e18.size
 have z4 := k4.size
 have o18 := h14.o.ext e18 (fun hh => h.dw hh)
 have n18 := h14.n.ext e18 (fun k hk hh => h.dd k hk hh) (fun k hk => (gN h14.n k hk).elim)
 have o18r12 := o14.ext e18 (fun hh => by have := hxl _ (.inr (.inr hh)); omega)
 obtain ⟨cw2, g2⟩ := o18.aM 1 (by simp) (Slc.v ⟨q.sw.p, q.sw.l - 1, q.sw.c⟩)
 refine ⟨_, rfl, aa rfl ?_⟩
 rw [add_lit]
 refine ⟨cw2, fun w21 hw21 => ?_⟩
 obtain ⟨o21, e21, z21⟩ := g2 w21 hw21
 have o21r12 := o18r12.ext e21 (fun hh => by omega)
 refine ⟨_, _, _, s, o21r12.row, ?_⟩
 have o3 : ak w21 r3 _ := ((((o4.af k13').ext e14 (fun hh => by omega)).ext e18 (fun hh => by have := hxl _ (.inr (.inr hh)); omega))).ext e21 (fun hh => by omega)
 obtain ⟨cw3, g3⟩ := o3.cx (cs := gr ms[k].1 ms[k].2.1 ms[k].2.2.1 s) rfl rfl
 refine ⟨cw3, fun w26 hw26 => ?_⟩
 obtain ⟨o26, e26, z26⟩ := g3 w26 hw26
 have ownE : ∀ x, au ⟨q.sw.p, q.sw.l - 1, q.sw.c⟩ x ↔ au q.sw x := fun x => Iff.rfl
 have hfs : ∀ x, cc (q.mss.eraseIdx k) x -> tX q x := fun x ⟨cs, hc, hx⟩ => ⟨cs, List.mem_of_mem_eraseIdx hc, hx⟩
 have hflt := h.flt
 have hbb : ag w26 s ms[k].2.2.2 := by
  refine gh (gh (gh (gh (aj hb k13') e14 (fun h0 x hx hh => ?_)) e18 (fun h0 x hx hh => ?_)) e21 (fun h0 x hx hh => ?_)) e26 (fun h0 x hx hh => ?_)
  ·have := hflt x (hsf x h0 hx); omega
  ·exact h.m.sep x (hsf x h0 hx) hh
  ·exact (h.df x (hsf x h0 hx)).1 hh
  ·have := hflt x (hsf x h0 hx); omega
 refine ⟨_, _, _, s, o26.row, s, ⟨q.sn, ⟨q.sw.p, q.sw.l - 1, q.sw.c⟩, q.nss, q.mss.eraseIdx k⟩, rfl, hbb, ⟨hb2.2, hsf⟩, ⟨o21.ext e26 (fun hh => by omega), (n18.ext e21 (fun x hx hh => h.dn (hh ▸ hx)) (fun x hx => (gN n18 x hx).elim)).ext e26 (fun x hx hh => by have := hxl x (.inr (.inl hx)); omega) (fun x hx => (gN n18 x hx).elim),
  (hR.ext e21 (fun x hx hh => h.dw (hh ▸ hx)) (fun x hx hh => (h.df x (hfs x hx)).1 hh)).ext e26 (fun x hx hh => by have := hxl x (.inr (.inr hx)); omega) (fun x hx hh => by have := hflt x (hfs x hx); omega), h.dn, h.dw, h.dd, fun x hx => h.df x (hfs x hx)⟩, ⟨⟨?_, fun x hx => .inl hx⟩, fun x hx => .inl (hfs x hx)⟩⟩
 have E1 : Ext (pQ r q) w w18 := (Ext.trans (M := pQ r q) k14 e18 (fun _ h => h.elim) (fun x hx => .inl (.inr (.inr hx))))
 have E2 : Ext (pQ r q) w w21 := E1.trans e21 (fun _ h => h) (fun x hx => .inl (.inl hx))
 exact E2.trans e26 (fun _ h => h) (fun x hx => .inr (by omega))
end Go.D
namespace Go.D
open Go Go.Proofs
variable {w : World} {r : Nat} {q : jz} {ns : List (Bool × Bool)} {ms : List jr} {nx : Int}
def Bi (ns : List (Bool × Bool)) (f t : Int) (b : List UInt8) : Option Nat :=
 if om ns f = true /\ om ns t = true then if 4096 < b.length then some 2 else if (xf ns f).1 then none else some 11 else some 0
theorem DS (A : Nat -> Addr) (n0 : Nat) (h : bG w r q ns ms nx) (f t : Int) (s : Slc) (b : List UInt8) (hb : ag w s b) (hlen : ms.length < 4096) (hnx : 0 <= nx /\ nx <= 2 ^ 40) (hE : aY A n0 w) :
  Calls Tryz.prog dE ⟨[nc r, .int .i64 f, .int .i64 t, s.v]⟩ w fun e w' => match Bi ns f t b with
   | some k => e = .returned (.tuple ⟨[.int .i64 0, fQ A (dt.getD k 0)]⟩) /\ ai w w'
   | none => e = .returned (.tuple ⟨[.int .i64 nx, .nilIface]⟩) /\ ∃ q', bG w' r q' ns (ms ++ [(nx, f, t, b)]) (nx + 1) /\ lh r q q' w w' := by
 refine uX _ _ _ _ ?_
 unfold rO
 refine ⟨fun x w2 => x = !(om ns f && om ns t) /\ w2 = w, ?_, ?_⟩
 ·refine (sP h f).mono ?_
  rintro e w7 ⟨rfl, rfl⟩
  refine ⟨_, rfl, ao (fun h1 => ⟨?_, rfl⟩) (fun h1 => ?_)⟩
  ·have h2 : om ns f = false := by simpa using h1
   rw [h2]; rfl
  have h1 : om ns f = true := by simpa using h1
  refine (sP h t).mono ?_
  rintro e w10 ⟨rfl, rfl⟩
  exact ⟨_, rfl, by rw [h1]; rfl, rfl⟩
 ·rintro x w13 ⟨rfl, rfl⟩
  intros
  have hEd := hE.af (Ext.drew _ w13)
  have hbl := hb.1
  refine ao (fun h1 => ?_) (fun h1 => ?_)
  ·have : ¬ (om ns f = true /\ om ns t = true) := by
    rintro ⟨h2, h3⟩; rw [h2, h3] at h1; cases h1
   rw [Bi, if_neg this]
   exact ⟨_, bA.at hEd.1 0 (by omega), rfl, Ext.drew _ _⟩
  ·have h2 : om ns f = true /\ om ns t = true := by
    cases h3 : om ns f <;> cases h4 : om ns t <;> rw [h3, h4] at h1 <;> simp_all
   rw [Bi, if_pos h2]
   refine ae (fun h3 => ?_) (fun h3 => ?_)
   ·rw [if_pos (by omega)]
    exact ⟨_, bA.at hEd.1 2 (by omega), rfl, Ext.drew _ _⟩
   ·rw [if_neg (by omega)]
    obtain ⟨p, hp, _, a1, a2, a3, _⟩ := h.node h2.1
    refine aa rfl ⟨_, h.c0, aa hp ⟨a1, a2, _, a3, ao (fun h4 => ?_) (fun h4 => ?_)⟩⟩
    ·have h5 : (xf ns f).1 = false := by simpa using h4
     rw [h5, if_neg (by decide)]
     exact ⟨_, bA.at hEd.1 11 (by omega), rfl, Ext.drew _ _⟩
    ·have h5 : (xf ns f).1 = true := by simpa using h4
     rw [h5, if_pos rfl]
     refine (Bg h 0 f t s b hb (by omega) hlen hnx).mono ?_
     rintro e w32 ⟨rfl, hq⟩
     exact ⟨_, _, rfl, rfl, hq⟩
theorem Bj (A : Nat -> Addr) (n0 : Nat) (h : bG w r q ns ms nx) (n : Int) (hlen : ms.length < 4096) (hnx : 0 <= nx /\ nx <= 2 ^ 40) (hE : aY A n0 w) :
  Calls Tryz.prog hZ ⟨[nc r, .int .i64 n]⟩ w fun e w' =>
   ((∀ j (hj : j < ms.length), ms[j].1 ≠ n) /\ e = .returned (.tuple ⟨[.int .i64 0, fQ A (dt.getD 15 0)]⟩) /\ ai w w') \/
   (∃ (k : Nat) (hk : k < ms.length), ms[k].1 = n /\ e = .returned (.tuple ⟨[.int .i64 nx, .nilIface]⟩) /\ ∃ q', bG w' r q' ns (ms ++ [(nx, ms[k].2)]) (nx + 1) /\ lh r q q' w w') := by
 refine rQ _ _ ?_
 unfold oW
 refine (find_spec h n (by omega)).mono ?_
 rintro e w4 ⟨i, rfl, hf, k4⟩
 have h4 := h.af k4
 have hsl := h4.m.sl
 refine ⟨i, rfl, ae (fun h1 => ?_) (fun h1 => ?_)⟩
 ·rcases hf with ⟨k, rfl, _⟩ | ⟨rfl, hn⟩
  ·omega
  ·exact ⟨_, bA.at (hE.af k4.drew).1 15 (by omega), .inl ⟨hn, rfl, k4.drew⟩⟩
 ·rcases hf with ⟨k, rfl, hk, hp, _⟩ | ⟨rfl, hn⟩
  ·obtain ⟨a, s, ha, hsp, hk', he, hrow, hb, hb2⟩ := h4.msg hk
   refine aa rfl ⟨_, h4.c1, aa ha ⟨by omega, by omega, _, _, _, s, by rw [show Int.toNat (k : Int) * 4 = k * 4 by omega]; exact hrow, ?_⟩⟩
   refine (Bg h4 _ _ _ s _ hb hb2.1 hlen hnx).mono ?_
   rintro e w15 ⟨rfl, q', hN, hT⟩
   exact ⟨_, _, rfl, .inr ⟨k, hk, hp, rfl, q', hN, k4.Fv hT⟩⟩
  ·omega
theorem DT (A : Nat -> Addr) (n0 : Nat) (h : bG w r q ns ms nx) (n : Int) (hlen : ms.length < 4096) (hE : aY A n0 w) :
  Calls Tryz.prog jw ⟨[nc r, .int .i64 n]⟩ w fun e w' =>
   ((∀ j (hj : j < ms.length), ms[j].1 ≠ n) /\ e = .returned (fQ A (dt.getD 15 0)) /\ ai w w') \/
   (∃ (k : Nat) (hk : k < ms.length), ms[k].1 = n /\ e = .returned .nilIface /\ ∃ q', bG w' r q' ns (ms.eraseIdx k) nx /\ lh r q q' w w') := by
 refine uY _ _ ?_
 unfold rP
 refine (find_spec h n (by omega)).mono ?_
 rintro e w4 ⟨i, rfl, hf, k4⟩
 have h4 := h.af k4
 refine ⟨i, rfl, ae (fun h1 => ?_) (fun h1 => ?_)⟩
 ·rcases hf with ⟨k, rfl, _⟩ | ⟨rfl, hn⟩
  ·omega
  ·exact ⟨_, bA.at (hE.af k4).1 15 (by omega), .inl ⟨hn, rfl, k4⟩⟩
 ·rcases hf with ⟨k, rfl, hk, hp, _⟩ | ⟨rfl, hn⟩
  ·refine (yy h4 hk (by omega)).mono ?_
   rintro e w8 ⟨s, q', rfl, _, _, hN, hT⟩
   exact ⟨_, _, _, s, rfl, .inr ⟨k, hk, hp, rfl, q', hN, k4.Fv hT⟩⟩
  ·omega
def G8 : Value := .agg ⟨gr 0 0 0 ⟨none, 0, 0⟩⟩
theorem sQ (A : Nat -> Addr) (n0 : Nat) (h : bG w r q ns ms nx) (n : Int) (hlen : ms.length < 4096) (hE : aY A n0 w) (hn0 : n0 <= w.heap.size) :
  Calls Tryz.prog eO ⟨[nc r, .int .i64 n]⟩ w fun e w' =>
   ((∀ j (hj : j < ms.length), ms[j].1 ≠ n) /\ e = .returned (.tuple ⟨[G8, fQ A (dt.getD 15 0)]⟩) /\ ai w w') \/
   (∃ (k : Nat) (hk : k < ms.length), ms[k].1 = n /\ jA ns ms[k].2.1 ms[k].2.2.1 = false /\ e = .returned (.tuple ⟨[G8, fQ A (dt.getD 11 0)]⟩) /\ ai w w') \/
   (∃ (k : Nat) (hk : k < ms.length), ms[k].1 = n /\ jA ns ms[k].2.1 ms[k].2.2.1 = true /\ ∃ (s : Slc) (q' : jz), e = .returned (.tuple ⟨[.agg ⟨gr ms[k].1 ms[k].2.1 ms[k].2.2.1 s⟩, .nilIface]⟩) /\ ag w' s ms[k].2.2.2 /\ (s.l <= s.c /\ ∀ x, 0 < s.l -> au s x -> tX q x) /\ bG w' r q' ns (ms.eraseIdx k) nx /\ lh r q q' w w') := by
 refine qJ _ _ ?_
 unfold nK
 refine aq (fun r3 w4 hr3 hb3 k4 hs4 => ?_)
 have h4 := h.af k4
 refine (find_spec h4 n (by omega)).mono ?_
 rintro e w6 ⟨i, rfl, hf, k6'⟩
 have k6 := k4.trans k6'
 have k6d := k6.drew
 have h6 := h.af k6d
 have o6 := ((ak.bO hb3).af k6').af (Ext.drew _ w6)
 have hsl := h6.m.sl
 have z6 := k6'.size
 have hEr : ∀ {w9 : World} {wx : World}, Ext (fun x => x = r3) wx w9 -> aY A n0 wx -> aY A n0 w9 := fun e9 hx => hx.ext e9 (fun k hk => by omega)
 refine ⟨i, rfl, ae (fun h1 => ?_) (fun h1 => ?_)⟩
 ·rcases hf with ⟨k, rfl, _⟩ | ⟨rfl, hn⟩
  ·omega
  ·obtain ⟨cw, g⟩ := o6.cx (cs := gr 0 0 0 ⟨none, 0, 0⟩) rfl rfl
   refine ⟨_, bA.at (hE.af k6d).1 15 (by omega), cw, fun w9 hw9 => ?_⟩
   obtain ⟨o9, e9, z9⟩ := g w9 hw9
   exact ⟨⟨_, bA.at (hEr e9 (hE.af k6d)).1 15 (by omega), rfl⟩, 0, 0, 0, ⟨none, 0, 0⟩, o9.row, .inl ⟨hn, rfl, k6d.step (by omega) e9⟩⟩
 ·rcases hf with ⟨k, rfl, hk, hp, _⟩ | ⟨rfl, hn⟩
  ·obtain ⟨a, s, ha, hsp, hk', he, hrow, hb, hb2⟩ := h6.msg hk
   have ek : Int.toNat (k : Int) * 4 = k * 4 := by omega
   refine aa rfl ⟨_, h6.c1, aa ha ⟨by omega, by omega, ms[k].2.1, by rw [ek]; exact hrow.2.1, aa rfl ⟨_, h6.c1, aa ha ⟨by omega, by omega, ms[k].2.2.1, by rw [ek]; exact hrow.2.2.1, ?_⟩⟩⟩⟩
   refine (xg h6 _ _).mono ?_
   rintro e w24 ⟨rfl, k24'⟩
   have k24 := k6d.trans k24'
   have o24 := o6.af k24'
   refine ⟨_, rfl, ao (fun h2 => ?_) (fun h2 => ?_)⟩
   ·have h3 : jA ns ms[k].2.1 ms[k].2.2.1 = false := by simpa using h2
    obtain ⟨cw, g⟩ := (o24.af (Ext.drew _ w24)).cx (cs := gr 0 0 0 ⟨none, 0, 0⟩) rfl rfl
    refine ⟨_, bA.at (hE.af k24.drew).1 11 (by omega), cw, fun w9 hw9 => ?_⟩
    obtain ⟨o9, e9, z9⟩ := g w9 hw9
    exact ⟨⟨_, bA.at (hEr e9 (hE.af k24.drew)).1 11 (by omega), rfl⟩, 0, 0, 0, ⟨none, 0, 0⟩, o9.row, .inr (.inl ⟨k, hk, hp, h3, rfl, k24.drew.step (by omega) e9⟩)⟩
   ·have h3 : jA ns ms[k].2.1 ms[k].2.2.1 = true := by simpa using h2
    refine (yy (h.af k24) hk (by omega)).mono ?_
    rintro e w34 ⟨s', q', rfl, hbs, hsf, hN, hT⟩
    have z24 := k24'.size
    have zd6 : w6.drew.heap.size = w6.heap.size := rfl
    have o34 := o24.ext hT.1.1 (fun hh => by have := h.lt _ hh; omega)
    obtain ⟨cw, g⟩ := o34.cx (cs := gr ms[k].1 ms[k].2.1 ms[k].2.2.1 s') rfl rfl
    refine ⟨_, _, _, s', rfl, cw, fun w39 hw39 => ?_⟩
    obtain ⟨o39, e39, z39⟩ := g w39 hw39
    have hT2 : lh r q q' w w34 := k24.Fv hT
    refine ⟨_, _, _, s', o39.row, .inr (.inr ⟨k, hk, hp, h3, s', q', rfl, ?_, hsf, ?_, ?_⟩)⟩
    ·exact gh hbs e39 (fun h0 x hx hh => by have := h.flt x (hsf.2 x h0 hx); omega)
    ·have nr3 : ∀ x, pQ r q' x -> x ≠ r3 := fun x hx hh => by
      subst hh
      rcases hT.1.2 x hx with h5 | h5
      ·have := h.lt x h5; omega
      ·omega
     have nf3 : ∀ x, tX q' x -> x ≠ r3 := fun x hx hh => by
      subst hh
      rcases hT.2 x hx with h5 | h5
      ·have := h.flt x h5; omega
      ·omega
     exact hN.ext e39 nr3 nf3
    ·exact ⟨⟨hT2.1.1.trans e39 (fun _ h => h) (fun x hx => .inr (by omega)), hT2.1.2⟩, hT2.2⟩
  ·omega
end Go.D
namespace Go.D
open Go Go.Proofs
theorem DU (n : Int) (hn : 1 <= n /\ n <= 16) (w : World) :
  Calls Tryz.prog gE ⟨[.int .u64 1, .int .u64 n]⟩ w fun e w' => e = .returned (.tuple ⟨[.int .u64 0, .int .u64 n]⟩) /\ w' = w := by
 refine qI _ _ ?_
 have : n = 1 \/ n = 2 \/ n = 3 \/ n = 4 \/ n = 5 \/ n = 6 \/ n = 7 \/ n = 8 \/ n = 9 \/ n = 10 \/ n = 11 \/ n = 12 \/ n = 13 \/ n = 14 \/ n = 15 \/ n = 16 := by omega
 unfold nJ
 rcases this with rfl | rfl | rfl | rfl | rfl | rfl | rfl | rfl | rfl | rfl | rfl | rfl | rfl | rfl | rfl | rfl <;>
 exact ⟨by decide, by decide, oB (by decide), oB (by decide), by decide, by decide, by decide, by decide, oB (by decide), oB (by decide), by decide, by decide, by decide, by decide, by decide, by decide, oB (by decide), oB (by decide), by decide, by decide, by decide, by decide, rfl, rfl⟩
theorem xi (a b : Nat) (z : List Value) : aZ (a + b) z = aZ a z ++ aZ b z := by
 simp only [aZ, <- List.replicate_append_replicate, List.flatten_append]
def upC : List Value := [.bool true, .bool false]
def dnC : List Value := [.bool false, .bool false]
theorem Bk (r : Nat) (n : Nat) (hn : 1 <= n /\ n <= 16) (w : World) (h : ak w r upC) :
  Calls Tryz.prog fl ⟨[Slc.v ⟨some ⟨r, 0, none⟩, 1, 1⟩, .int .i64 (n : Int)]⟩ w fun e w' => ∃ b, e = .returned (Slc.v ⟨some ⟨b, 0, none⟩, n, n⟩) /\ ak w' b (aZ n upC) /\ ai w w' /\ w.heap.size <= b := by
 refine oe _ _ ?_
 unfold ki
 refine ⟨fun w2 => w2 = w, ae (fun h1 => by omega) (fun _ => rfl), ?_⟩
 rintro w4 rfl
 intros
 have ew : IntKind.wrap .u64 (((1 : Nat) : Nat) : Int) = 1 := by decide
 have en : IntKind.wrap .u64 (n : Int) = n := ea (oB (by omega))
 have en2 : IntKind.wrap .i64 (n : Int) = n := ea (aB (by omega))
 rw [show ((⟨some ⟨r, 0, none⟩, 1, 1⟩ : Slc).l) = 1 from rfl, ew, en]
 have hmul : Calls Tryz.prog iY ⟨[.int .u64 1, .int .u64 (n : Int)]⟩ w4 fun e w' => e = .returned (.tuple ⟨[.int .u64 0, .int .u64 (n : Int)]⟩) /\ w' = w4 := by
  refine tv _ _ ?_
  unfold qa
  refine (DU n (by omega) w4).mono ?_
  rintro e w' ⟨rfl, rfl⟩
  exact ⟨_, _, rfl, rfl, rfl⟩
 refine hmul.mono ?_
 rintro e w9 ⟨rfl, rfl⟩
 refine ⟨_, _, rfl, fun w2 => w2 = w9, ae (fun h1 => by omega) (fun _ => ae (fun h1 => by omega) (fun _ => rfl)), ?_⟩
 rintro w13 rfl
 intros
 rw [en2, show Int.toNat (n : Int) = n by omega]
 refine ⟨by omega, by omega, by omega, aq (fun b w22 hb22 hbb k22 hs22 => ?_)⟩
 obtain ⟨T0, hbb'⟩ : ∃ T, w22.heap[b]? = some (.cells ⟨aZ n dnC⟩ T) := ⟨_, hbb⟩
 have ul : ∀ m, (aZ m upC).length = m * 2 := fun m => eF m upC
 have dl : ∀ m, (aZ m dnC).length = m * 2 := fun m => eF m dnC
 have uone : ∀ m, ∀ v ∈ aZ m upC, v.oneCell' = true := by
  intro m v hv
  obtain ⟨y, hy, hv⟩ := List.mem_flatten.1 hv
  rw [(List.mem_replicate.1 hy).2] at hv
  simp [upC] at hv
  rcases hv with rfl | rfl <;> rfl
 have step : ∀ (k m : Nat) (T : TypeId) (w2 : World), k + m <= n -> w2.heap[b]? = some (.cells ⟨aZ k upC ++ aZ (n - k) dnC⟩ T) ->
   az w2 ⟨b, k * 2, none⟩ (m * 2) /\ ∀ w1, w1 = setCells w2 ⟨b, k * 2, none⟩ 0 (aZ m upC) -> w1.heap[b]? = some (.cells ⟨aZ (k + m) upC ++ aZ (n - (k + m)) dnC⟩ T) /\ Ext (fun x => x = b) w2 w1 := by
  intro k m T w2 hkm hb2
  refine ⟨gZ hb2 (.inl (by simp)) _ _ (by rw [List.length_append, ul, dl]; omega), ?_⟩
  rintro w1 rfl
  refine ⟨?_, Ext.setCells (M := fun x => x = b) (a := (⟨b, k * 2, none⟩ : Addr)) rfl _ 0 w2⟩
  have hh := bW (aZ m upC) w2 _ (k * 2) 0 hb2
  have e1 : k * 2 + 0 = (aZ k upC).length := by rw [ul]; omega
  rw [e1, dG _ _ _ (by rw [ul, dl]; omega), <- xi] at hh
  have e2 : (aZ (n - k) dnC).drop (aZ m upC).length = aZ (n - (k + m)) dnC := by
   rw [ul, show n - k = m + (n - (k + m)) by omega, xi, List.drop_append_of_le_length (by rw [dl]; omega), List.drop_of_length_le (by rw [dl]; omega), List.nil_append]
  rw [e2] at hh
  exact hh
 have hrb : r ≠ b := by have := h.lt; omega
 obtain ⟨cw, g⟩ := step 0 1 T0 w22 (by omega) (by simpa [aZ] using hbb')
 have h22 := h.af k22
 refine ⟨upC, ?_, ?_, ?_, ?_, ?_⟩
 ·show 2 = min 1 n * 2; omega
 ·refine .inr ⟨_, rfl, fun i hi => ?_⟩
  rw [add_lit, Nat.zero_add]; exact h22.cell i hi
 ·exact fun v hv => uone 1 v (by simpa [aZ] using hv)
 ·rintro a ha
  cases ha
  have : upC.length = 1 * 2 := rfl
  rw [this]
  simpa using cw
 intro w24 hw24
 obtain ⟨g1, g2⟩ := g w24 (by rw [hw24]; simp [aZ])
 have e1 : (min ((Src.slc ⟨some ⟨r, 0, none⟩, 1, 1⟩).n) n : Nat) = 1 := by show min 1 n = 1; omega
 dsimp only
 rw [e1]
 refine ⟨fun i w2 => ∃ k : Nat, i = k /\ 1 <= k /\ k <= n /\ w2.heap[b]? = some (.cells ⟨aZ k upC ++ aZ (n - k) dnC⟩ T0) /\ ai w13 w2, fun i _ => ((n : Int) - i).toNat, ⟨1, rfl, by omega, by omega, g1, k22.step (by omega) g2⟩, ?_⟩
 rintro i w28 ⟨k, rfl, hk1, hk, hb28, k28⟩
 intros
 refine ae (fun h1 => ?_) (fun h1 => ?_)
 ·have hkn : k < n := by omega
  refine ⟨by omega, by omega, by omega, by omega, by omega, by omega, by omega, by omega, ?_⟩
  rw [show Int.toNat (k : Int) = k by omega]
  have hd : w28.drew.heap[b]? = some (.cells ⟨aZ k upC ++ aZ (n - k) dnC⟩ T0) := hb28
  obtain ⟨cw, g⟩ := step k (min k (n - k)) T0 w28.drew (by omega) hd
  have hs1 : Slc.sub (⟨some ⟨b, 0, none⟩, n, n⟩ : Slc) 2 k n n = ⟨some ⟨b, k * 2, none⟩, n - k, n - k⟩ := by
   unfold Slc.sub
   rw [if_neg (by omega)]
   simp only [Option.map_some, add_lit, Nat.zero_add]
  have hs2 : Slc.sub (⟨some ⟨b, 0, none⟩, n, n⟩ : Slc) 2 0 k n = ⟨some ⟨b, 0, none⟩, k, n⟩ := by
   unfold Slc.sub
   split
   ·simp
   ·simp only [Option.map_some, add_lit, Nat.zero_mul, Nat.zero_add, Nat.sub_zero]
  rw [hs1, hs2]
  refine ⟨aZ (min k (n - k)) upC, ?_, ?_, uone _, ?_, ?_⟩
  ·rw [ul]; rfl
  ·refine .inr ⟨_, rfl, fun i hi => ?_⟩
   rw [ul] at hi
   rw [add_lit, Nat.zero_add, cell_of hd, List.getElem?_append_left (by rw [ul]; omega)]
   rw [List.getElem?_eq_getElem (by rw [ul]; omega)]
   congr 1
   have e3 : aZ k upC = aZ (min k (n - k)) upC ++ aZ (k - min k (n - k)) upC := by rw [<- xi]; congr 1; omega
   simp only [e3]
   rw [List.getElem_append_left]
  ·rintro a ha
   cases ha
   rw [ul]; exact cw
  ·intro w45 hw45
   obtain ⟨g3, g4⟩ := g w45 hw45
   have e4 : (min (Src.slc ⟨some ⟨b, 0, none⟩, k, n⟩).n (n - k) : Nat) = min k (n - k) := rfl
   dsimp only
   rw [e4]
   refine ⟨aB (by omega), ⟨k + min k (n - k), by omega, by omega, by omega, g3, k28.drew.step (by omega) g4⟩, by omega⟩
 ·obtain rfl : k = n := by omega
  rw [Nat.sub_self] at hb28
  refine ⟨b, rfl, ⟨T0, (0, 0), by simpa [aZ] using hb28, yO _⟩, k28, by omega⟩
def upN (n : Nat) : List (Bool × Bool) := List.replicate n (true, false)
theorem Fw (A : Nat -> Addr) (n0 : Nat) (n : Int) (w : World) (hE : aY A n0 w) :
  Calls Tryz.prog qm ⟨[.int .i64 n]⟩ w fun e w' => (¬ (1 <= n /\ n <= 16) /\ e = .returned (.tuple ⟨[.pointer none, fQ A (dt.getD 0 0)]⟩) /\ ai w w') \/
   (1 <= n /\ n <= 16 /\ ∃ r q, e = .returned (.tuple ⟨[nc r, .nilIface]⟩) /\ bG w' r q (upN n.toNat) [] 0 /\ ai w w' /\ (∀ k, pQ r q k -> w.heap.size <= k) /\ ∀ k, ¬ tX q k) := by
 refine BI _ ?_
 unfold CG
 refine ae (fun h1 => ?_) (fun h1 => ae (fun h2 => ?_) (fun h2 => ?_))
 ·exact ⟨_, bA.at (hE.af (Ext.drew _ w)).1 0 (by omega), .inl ⟨by omega, rfl, Ext.drew _ _⟩⟩
 ·exact ⟨_, bA.at (hE.af (Ext.drew _ w)).1 0 (by omega), .inl ⟨by omega, rfl, Ext.drew _ _⟩⟩
 ·obtain ⟨m, rfl⟩ : ∃ m : Nat, n = m := ⟨n.toNat, by omega⟩
  refine aq (fun r4 w5 hr4 hb4 k5 hs5 => ?_)
  refine (Bk r4 m (by omega) w5 (ak.bO hb4)).mono ?_
  rintro e w7 ⟨b, rfl, hb, k7', hbn⟩
  have k7 := k5.trans k7'
  refine ⟨_, rfl, aq (fun r9 w10 hr9 hb9 k10' hs10 => ?_)⟩
  have k10 := k7.trans k10'
  have hb10 := hb.af k10'
  have z7 := k7.size
  have z5 := k5.size
  have hbl := hb.lt
  have hown : ∀ k, au ⟨some ⟨b, 0, none⟩, m, m⟩ k -> k = b := by rintro k ⟨a, ha, rfl⟩; cases ha; rfl
  have hnone : ∀ k, ¬ au ⟨none, 0, 0⟩ k := by rintro k ⟨a, ha, _⟩; cases ha
  rw [show Int.toNat (m : Int) = m by omega]
  refine .inr ⟨by omega, by omega, r9, ⟨⟨some ⟨b, 0, none⟩, m, m⟩, ⟨none, 0, 0⟩, List.replicate m upC, []⟩, rfl, ⟨ak.bO hb9, ?_, Rows.nil _ _, fun hh => by have := hown _ hh; omega, hnone _, fun k _ hh => hnone k hh, fun k hk => by obtain ⟨_, hc, _⟩ := hk; cases hc⟩, k10, ?_, fun k hk => by obtain ⟨_, hc, _⟩ := hk; cases hc⟩
  ·obtain ⟨T, f, g1, g2⟩ := hb10
   refine ⟨Own.new (sz := 2) (n := m) g1 g2 (eF m upC), by simp [upN], fun i hi hi' => ?_, fun k hk => ?_⟩
   ·simp only [List.getElem_replicate, upN]; rfl
   ·obtain ⟨c, hc, hk⟩ := hk
    rw [(List.mem_replicate.1 hc).2] at hk
    exact (yx hk).elim
  ·rintro k (rfl | hk | hk)
   ·omega
   ·have := hown k hk; omega
   ·exact (hnone k hk).elim
end Go.D
namespace Go.D
open Go Go.Proofs
def vc (W : List (Nat × UInt8)) : List Rc := W.map fun x => .cW x.1 [x.2]
def Fx (W : List (Nat × UInt8)) : Nat := W.foldl (fun m x => max m (x.1 + 1)) 0
def cS (W : List (Nat × UInt8)) : UnS := ⟨if W = [] then [] else [⟨0, 0, vc W⟩], 0, 0, Fx W⟩
def pgW (W : List (Nat × UInt8)) (a : Nat) : Option UInt8 := (W.find? fun x => x.1 == a).map (·.2)
theorem DV (W : List (Nat × UInt8)) : pagesOf (vc W) = W.map fun x => (x.1, [x.2]) := by
 induction W with
 | nil => rfl
 | cons x W ih => show (x.1, [x.2]) :: pagesOf (vc W) = _; rw [ih]; rfl
theorem Hz (W : List (Nat × UInt8)) : pgU (cS W).U = W.map fun x => (x.1, [x.2]) := by
 unfold cS
 by_cases h : W = []
 ·subst h; rfl
 ·simp only [if_neg h]
  show pagesOf (eE [⟨0, 0, vc W⟩]) = _
  have : eE [⟨0, 0, vc W⟩] = vc W := by simp [eE]
  rw [this, DV]
theorem Fy (W : List (Nat × UInt8)) (a : Nat) : pgM (cS W).U 0 (a : Int) = (pgW W a).map fun b => [b] := by
 unfold pgM pgW
 rw [if_neg (by omega), Hz, Int.toNat_natCast]
 unfold dD
 rw [List.find?_map]
 have e : ((fun x : Nat × List UInt8 => x.1 == a) ∘ fun x : Nat × UInt8 => (x.1, [x.2])) = fun x : Nat × UInt8 => x.1 == a := rfl
 rw [e]
 cases W.find? fun x => x.1 == a <;> rfl
theorem Gn {W : List (Nat × UInt8)} {a : Nat} {b : UInt8} (h : pgW W a = some b) : (a, b) ∈ W := by
 unfold pgW at h
 obtain ⟨x, hx, rfl⟩ := Option.map_eq_some_iff.1 h
 have h1 := List.mem_of_find?_eq_some hx
 have h2 := List.find?_some hx
 have : x.1 = a := by simpa using h2
 rw [<- this]; exact h1
theorem Fz {W : List (Nat × UInt8)} {a : Nat} (h : ∀ x ∈ W, x.1 ≠ a) : pgW W a = none := by
 unfold pgW
 rw [List.find?_eq_none.2 (fun x hx => by simpa using h x hx)]; rfl
theorem FA {W : List (Nat × UInt8)} {a : Nat} {x : Nat × UInt8} (hx : x ∈ W) (h : x.1 = a) : (pgW W a).isSome = true := by
 unfold pgW
 have : (W.find? fun x => x.1 == a).isSome = true := List.find?_isSome.2 ⟨x, hx, by simpa using h⟩
 simpa using this
theorem FB {W : List (Nat × UInt8)} {a : Nat} {b : UInt8} (h : pgW W a = some b) (z : Nat × UInt8) : pgW (W ++ [z]) a = some b := by
 unfold pgW at h ⊢
 obtain ⟨x, hx, rfl⟩ := Option.map_eq_some_iff.1 h
 rw [List.find?_append, hx]; rfl
theorem Gp {W : List (Nat × UInt8)} {a : Nat} {b : UInt8} (h : ∀ x ∈ W, x.1 ≠ a) : pgW (W ++ [(a, b)]) a = some b := by
 unfold pgW
 rw [List.find?_append, List.find?_eq_none.2 (fun x hx => by simpa using h x hx)]
 simp
theorem Bl (a : Nat) (b : UInt8) (h : a < 128) : (encR (.cW a [b])).length = 4 := by
 have h0 : ∀ n : Nat, n < 128 -> (bo n).length = 1 := fun n hn => by rw [bo, dif_pos hn]; rfl
 have h1 : (mf 1).length = 1 := h0 _ (by decide)
 have h2 : (mf (a : Int)).length = 1 := h0 _ (by omega)
 have h3 : (pa [b]).length = 2 := by
  unfold pa
  rw [List.length_append, h0 _ (by simp)]; rfl
 show (mf 1 ++ (mf (a : Int) ++ pa [b])).length = 4
 rw [List.length_append, List.length_append, h1, h2, h3]
theorem G9 (W : List (Nat × UInt8)) (h : ∀ x ∈ W, x.1 < 128) : sumN ((vc W).map encR) = W.length * fq 4 := by
 induction W with
 | nil => simp [vc, sumN]
 | cons x W ih =>
  show fq (encR (.cW x.1 [x.2])).length + sumN ((vc W).map encR) = _
  rw [ih (fun y hy => h y (by simp [hy])), Bl _ _ (h x (by simp)), List.length_cons, Nat.add_mul]; omega
theorem Cq {W : List (Nat × UInt8)} {a : Nat} {b : UInt8} (ha : a < 4096) (h : (pgW W a).isSome = true) : writeP 3 (cS W) 0 (a : Int) [b] = (some 8, cS W) := by
 have hc : dT (cS W).ep 0 (a : Int) 4095 = none := by
  show dT 0 0 (a : Int) 4095 = none
  unfold dT
  rw [if_neg (by omega), if_neg (by omega)]
 unfold writeP
 rw [hc]
 dsimp only
 have hp : (pgM (cS W).U (cS W).tr (a : Int)).isSome = true := by
  show (pgM (cS W).U 0 (a : Int)).isSome = true
  rw [Fy]; simpa using h
 rw [if_neg (by simp), if_neg (by show ¬ (a : Int) < ((0 : Nat) : Int); omega), if_pos hp]
theorem Cr {W : List (Nat × UInt8)} {a : Nat} {b : UInt8} (ha : a < 128) (h : ∀ x ∈ W, x.1 ≠ a) (hl : W.length <= 20) (h128 : ∀ x ∈ W, x.1 < 128) : writeP 3 (cS W) 0 (a : Int) [b] = (none, cS (W ++ [(a, b)])) := by
 have hc : dT (cS W).ep 0 (a : Int) 4095 = none := by
  show dT 0 0 (a : Int) 4095 = none
  unfold dT
  rw [if_neg (by omega), if_neg (by omega)]
 unfold writeP
 rw [hc]
 dsimp only
 have hp : ¬ (pgM (cS W).U (cS W).tr (a : Int)).isSome = true := by
  show ¬ (pgM (cS W).U 0 (a : Int)).isSome = true
  rw [Fy, Fz h]; simp
 rw [if_neg (by simp), if_neg (by show ¬ (a : Int) < ((0 : Nat) : Int); omega), if_neg hp]
 have hne : W ++ [(a, b)] ≠ [] := by simp
 have happ : appU 3 (cS W).U (.cW (a : Int).toNat [b]) = some (0, (cS (W ++ [(a, b)])).U) := by
  rw [Int.toNat_natCast]
  unfold appU cS
  simp only [if_neg hne]
  by_cases hW : W = []
  ·subst hW
   simp only [if_true]
   rfl
  ·simp only [if_neg hW]
   have hf : nM (sU [⟨0, 0, vc W⟩]) (encR (.cW a [b])).length = true := by
    rw [Bl a b ha]
    show decide ((1 + sumN ((vc W).map encR)) + fq 4 <= 64) = true
    rw [G9 W h128]
    have : fq 4 = 2 := by decide
    rw [this]
    exact decide_eq_true (by omega)
   rw [if_pos hf, dif_pos (by simp)]
   simp [vc]
 rw [happ]
 show (none, (⟨(cS (W ++ [(a, b)])).U, 0, 0, max (Fx W) ((a : Int).toNat + 1)⟩ : UnS)) = (none, cS (W ++ [(a, b)]))
 have : max (Fx W) ((a : Int).toNat + 1) = Fx (W ++ [(a, b)]) := by simp [Fx]
 rw [this]
 rfl
theorem HA {W : List (Nat × UInt8)} {a : Nat} {b : UInt8} (ha : a < 4096) (h : pgW W a = some b) : dx 3 (cS W) 2 0 (a : Int) [] = ((none, 0, [b]), cS W) := by
 have hc : dT (cS W).ep 0 (a : Int) 4095 = none := by
  show dT 0 0 (a : Int) 4095 = none
  unfold dT
  rw [if_neg (by omega), if_neg (by omega)]
 have hp : pgM (cS W).U (cS W).tr (a : Int) = some [b] := by
  show pgM (cS W).U 0 (a : Int) = some [b]
  rw [Fy, h]; rfl
 have hE : readE (cS W).tr (cS W).ep (pgM (cS W).U (cS W).tr) 0 (a : Int) = none := by
  unfold readE
  rw [hc]
  dsimp only
  rw [if_neg (by show ¬ (a : Int) < ((0 : Nat) : Int); omega), if_pos (by rw [hp]; rfl)]
 have hB : uK (cS W) 0 (a : Int) = [b] := by
  unfold uK
  rw [hE, hp]; rfl
 unfold dx
 rw [if_neg (by omega), if_pos rfl, hB, hE, if_neg (by simp)]
end Go.D

