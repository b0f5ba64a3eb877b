/-
  WHAT IS PROVED: contracts of functions, and the plain law, for this proof. No further conditions.
-/
import Derived.Test.YtppbbkmjjpggkaaGreatDoorAll4
import Derived.Test.YtppbbkmjjpggkaaGreatDoorAll3
import Derived.Test.YtppbbkmjjpggkaaGreatDoorVCref34
import Derived.Test.YtppbbkmjjpggkaaGreatDoorVClaw34
set_option linter.unusedVariables false
set_option linter.unusedSimpArgs false
namespace Go.D
open Go Go.Proofs
section
variable {w w' : World} {r k m : Nat} {f : RuF} {P : List RuE} {top : Int} {s : UnS}
end
end Go.D
namespace Go.D
open Go Go.Proofs
section
variable {w w' : World} {r k m : Nat} {f : RuF} {P : List RuE} {top : Int} {s : UnS}
theorem xi (w : World) (k : Nat) :
  Calls Tryz.prog eM ⟨[.int .i64 (k : Int)]⟩ w fun e w' => ∃ r f, e = .returned (aw r) /\ RuS w' r k f [] 0 ⟨[], 0, 0, 0⟩ /\ (∀ j, RuW r f j -> w.heap.size <= j) /\ (∀ j, ¬ RuY f j) /\ aj w w' := by
 refine mE _ ?_
 unfold jx
 refine aq (fun r2 w3 hr2 hb2 k2 hs2 => aq (fun r4 w5 hr4 hb4 k4 hs4 => ?_))
 have nob : ∀ j, ¬ au (⟨none, 0, 0⟩ : Slc) j := by rintro j ⟨a, ha, _⟩; cases ha
 have R0 : sO w5 r2 k ⟨none, 0, 0⟩ [] := ⟨(ak.cF hb2).af k4, Rows.nil _ _, by simp, by simp, List.Pairwise.nil, nob _, by simp, by simp⟩
 have noW : ∀ j, RfW r2 ⟨none, 0, 0⟩ [] j -> j = r2 := by
  rintro j (hj | hj | ⟨z, hz, _⟩)
  ·exact hj
  ·exact (nob j hj).elim
  ·simp at hz
 have noY : ∀ j, ¬ RuY ⟨r2, ⟨none, 0, 0⟩, [], ⟨none, 0, 0⟩, ⟨none, 0, 0⟩, ⟨none, 0, 0⟩, []⟩ j := by
  rintro j (⟨z, hz, _⟩ | ⟨cs, hc, _⟩)
  ·simp at hz
  ·simp at hc
 have z2 := k2.size
 refine ⟨r4, ⟨r2, ⟨none, 0, 0⟩, [], ⟨none, 0, 0⟩, ⟨none, 0, 0⟩, ⟨none, 0, 0⟩, []⟩, rfl, ⟨⟨ak.cF hb4, R0, bB.nil _, Rows.nil _ _, bB.nil _, fun j => if j = r4 then 0 else 1, ?_, fun j hj => ?_, fun j hj => (nob j hj).elim, fun j hj => (nob j hj).elim, fun j hj => (nob j hj).elim, fun j hj => (noY j hj).elim⟩, rfl, AZ.nil⟩, ?_, noY, k2.trans k4⟩
 ·rw [if_pos rfl]
 ·have := noW j hj
  rw [if_neg (by omega)]
 ·rintro j (hj | hj | hj | hj | hj)
  ·omega
  ·have := noW j hj; omega
  ·exact (nob j hj).elim
  ·exact (nob j hj).elim
  ·exact (nob j hj).elim
end
end Go.D
namespace Go.D
open Go Go.Proofs
section
variable {w0 w w' : World} {rd r r2 r' k m m' : Nat} {f f' : UnF} {d d' : aP} {fr fr' : RuF} {P P' : List RuE} {top top' : Int} {s s' : UnS}
end
end Go.D
namespace Go.D
open Go Go.Proofs
theorem D0 {t e n : Int} {s : Slc} {k : Nat} (h : jm (dN t e n s) k) : 0 < s.l /\ au s k := by
 obtain ⟨s', hs, h1, h2⟩ := h
 have : s' = s := by
  obtain ⟨p, l, c⟩ := s
  obtain ⟨p', l', c'⟩ := s'
  simp [dN, Slc.v] at hs
  obtain ⟨rfl, rfl, rfl⟩ := hs
  rfl
 subst this
 exact ⟨h1, h2⟩
theorem EB (t e n : Int) (s : Slc) : ∀ v ∈ dN t e n s, v.oneCell' = true := by
 intro v hv
 simp [dN] at hv
 rcases hv with rfl | rfl | rfl | rfl <;> rfl
def RpR : uY NdE where
 n := 4
 pos := by omega
 R w x cs := ∃ s : Slc, cs = dN x.t (eN x.e) x.n s /\ ag w s x.d
 len := by rintro w x cs ⟨s, rfl, _⟩; rfl
 one := by rintro w x cs ⟨s, rfl, _⟩; exact EB _ _ _ _
 ext := by
  rintro M w w' x cs ⟨s, rfl, h⟩ he hm
  exact ⟨s, rfl, aY h he (fun h0 k hk => hm k ⟨s, by simp [dN], h0, hk⟩)⟩
 lt := by
  rintro w x cs ⟨s, rfl, h⟩ k hk
  obtain ⟨h0, hk⟩ := D0 hk
  exact ef h h0 k hk
structure RdP where
 fs : Slc
 ts : Slc
 css : List (List Value)
def RdM (rn : Nat) (q : RdP) (j : Nat) : Prop := j = rn \/ au q.fs j \/ au q.ts j
def RdF (q : RdP) (j : Nat) : Prop := cM q.css j
structure Fm (w : World) (rn r : Nat) (q : RdP) (T : List NdE) : Prop where
 o : ak w rn [aw r, q.fs.v, q.ts.v]
 f : bB w q.fs (T.map (·.f))
 t : Rows RpR w q.ts T q.css
 dn : ¬ au q.fs rn /\ ¬ au q.ts rn
 dd : ∀ j, au q.fs j -> ¬ au q.ts j
 df : ∀ j, cM q.css j -> j ≠ rn /\ ¬ au q.fs j
section
variable {w w' w2 : World} {rn r k m : Nat} {fr fr' : RuF} {P P' : List RuE} {top top' : Int} {s s' : UnS} {q q' : RdP} {T T' : List NdE}
structure Fo (w : World) (rn r k : Nat) (fr : RuF) (P : List RuE) (top : Int) (s : UnS) (q : RdP) (T : List NdE) : Prop where
 R : RuS w r k fr P top s
 D : Fm w rn r q T
 sm : ∀ j, RdM rn q j -> ¬ RuW r fr j /\ ¬ RuY fr j
 sf : ∀ j, RdF q j -> ¬ RuW r fr j
def RB (rn r : Nat) (fr : RuF) (q : RdP) (j : Nat) : Prop := RuW r fr j \/ RdM rn q j
def RY (fr : RuF) (q : RdP) (j : Nat) : Prop := RuY fr j \/ RdF q j
end
theorem An.AT {w w' : World} {q p : List Value} {kind e : Int} {R : Except Nat Msg} (h : An w w' q p kind e R) :
    ∃ (t k ep a : Int) (sq : Slc) (t2 e2 n2 : Int) (sp : Slc), q = lj t k ep a sq /\ p = dN t2 e2 n2 sp /\
      ((e = 0 /\ kind = 1 /\ ∃ d, R = .ok (.ask t k ep a d) /\ ag w' sq d /\ sq.l <= sq.c /\ aD w sq) \/
       (e = 0 /\ kind = 2 /\ ∃ d, R = .ok (.tell t2 e2 n2 d) /\ ag w' sp d /\ sp.l <= sp.c /\ aD w sp) \/
       (e ≠ 0 /\ kind = 0 /\ ∃ j, R = .error j)) := by
  cases R with
  | error j =>
    obtain ⟨rfl, rfl, rfl, rfl⟩ := h
    exact ⟨0, 0, 0, 0, ⟨none, 0, 0⟩, 0, 0, 0, ⟨none, 0, 0⟩, rfl, rfl, .inr (.inr ⟨by omega, rfl, j, rfl⟩)⟩
  | ok x =>
    cases x with
    | ask t k ep a d =>
      obtain ⟨s, rfl, h1, h2, h3, rfl, rfl, rfl⟩ := h
      exact ⟨t, k, ep, a, s, 0, 0, 0, ⟨none, 0, 0⟩, rfl, rfl, .inl ⟨rfl, rfl, d, rfl, h1, h2, h3⟩⟩
    | tell t e2 n d =>
      obtain ⟨s, rfl, h1, h2, h3, rfl, rfl, rfl⟩ := h
      exact ⟨0, 0, 0, 0, ⟨none, 0, 0⟩, t, e2, n, s, rfl, rfl, .inr (.inl ⟨rfl, rfl, d, rfl, h1, h2, h3⟩)⟩
end Go.D
namespace Go.D
open Go Go.Proofs
section
variable {w161 : World} {rn r r4 r114 : Nat} {q : RdP} {T : List NdE}
variable {x : NdE} {u : Slc}
end
end Go.D
namespace Go.D
open Go Go.Proofs
section
variable {w wa w' w2 : World} {rn r k m r114 : Nat} {fr fr' : RuF} {P P' : List RuE} {top top' : Int} {s s' s2 : UnS} {q q' : RdP} {T T' : List NdE} {c : List Value}
end
end Go.D
namespace Go.D
open Go Go.Proofs
theorem ak.EC {w : World} {r : Nat} {cs : List Value} (h : ak w r cs) (k : Nat) (l : List Value) (hl : ∀ j (hj : j < l.length), cs[k + j]? = some l[j]) : rowAt w ((⟨r, 0, none⟩ : Addr).add k) 0 l := by
 obtain ⟨T, f, hb, _⟩ := h
 refine kG fun j hj => ?_
 rw [add_lit, add_lit, cell_of hb, <- hl j hj]
 congr 1; omega
theorem sA : ∀ (cs : List Value) (k : Nat) (vs : List Value), (setFrom cs k vs).length = cs.length := by
 intro cs k vs
 induction vs generalizing cs k with
 | nil => rfl
 | cons v vs ih => show (setFrom (cs.set k v) (k + 1) vs).length = _; rw [ih]; simp
theorem ak.ED {w : World} {r : Nat} {cs : List Value} (h : ak w r cs) (k n : Nat) (vs : List Value) (hn : vs.length = n) (hk : k + n <= cs.length) :
  az w ((⟨r, 0, none⟩ : Addr).add k) n /\ ∀ w2 : World, w2 = setCells w ((⟨r, 0, none⟩ : Addr).add k) 0 vs -> ak w2 r (setFrom cs k vs) /\ Ext (fun x => x = r) w w2 := by
 obtain ⟨T, f, hb, hf⟩ := h
 rw [add_lit, Nat.zero_add]
 refine ⟨iu hb hf k n hk, ?_⟩
 rintro w2 rfl
 have hh := cA vs w cs k 0 hb
 rw [Nat.add_zero] at hh
 exact ⟨⟨T, f, hh, by rw [sA]; exact hf⟩, Ext.setCells (M := fun x => x = r) (a := (⟨r, k, none⟩ : Addr)) rfl vs 0 w⟩
structure AkS where
 nx : Int
 msg : Option (List UInt8)
 tag : Int
 rt : Int
 re : Int
 rn : Int
 rd : List UInt8
 has : Bool
def akV (a : AkS) (sm sd : Slc) : List Value := [.int .i64 a.nx, sm.v, .int .i64 a.tag, .int .i64 a.rt, .int .i64 a.re, .int .i64 a.rn, sd.v, .bool a.has]
structure lq (w : World) (ra : Nat) (sm sd : Slc) (a : AkS) : Prop where
 o : ak w ra (akV a sm sd)
 m : sm.p.isSome = a.msg.isSome
 b : ag w sm (a.msg.getD [])
 d : ag w sd a.rd
 nm : ¬ au sm ra
 nd : ¬ au sd ra
 ml : (a.msg.getD []).length <= 2 ^ 20 /\ a.rd.length <= 2 ^ 20
def AkB (ra : Nat) (sm sd : Slc) (j : Nat) : Prop := j = ra \/ au sm j \/ au sd j
section
variable {w w' : World} {ra : Nat} {sm sd : Slc} {a : AkS}
theorem lq.ext {M : Nat -> Prop} (h : lq w ra sm sd a) (he : Ext M w w') (h1 : ∀ j, AkB ra sm sd j -> ¬ M j) : lq w' ra sm sd a :=
 ⟨h.o.ext he (h1 _ (.inl rfl)), h.m, aC h.b he (fun j hj => h1 j (.inr (.inl hj))), aC h.d he (fun j hj => h1 j (.inr (.inr hj))), h.nm, h.nd, h.ml⟩
theorem lq.af (h : lq w ra sm sd a) (he : aj w w') : lq w' ra sm sd a := h.ext he (fun _ _ h => h)
theorem lq.c (h : lq w ra sm sd a) (k : Nat) (hk : k < 8) : w.cell? ((⟨ra, 0, none⟩ : Addr).add k) = some ((akV a sm sd)[k]'hk) := by
 rw [add_lit, Nat.zero_add]
 exact h.o.cell k hk
theorem lu (h : lq w ra sm sd a) : Calls Tryz.prog bf ⟨[aw ra]⟩ w fun e w' => e = .returned (.bool a.msg.isSome) /\ w' = w := by
 refine pn _ ?_
 unfold mo
 refine aa rfl ⟨_, h.c 1 (by omega), ?_, rfl⟩
 rw [<- h.m]
 cases sm.p <;> rfl
theorem oO (A : Nat -> Addr) (n : Int) (w : World) (hE : ba A w) :
  Calls Tryz.prog fv ⟨[.int .i64 n]⟩ w fun e w' => aj w w' /\ ((n < 0 \/ 1073741824 < n) /\ e = .returned (.tuple ⟨[.pointer none, cj A (some 0)]⟩) \/
   (0 <= n /\ n <= 1073741824) /\ ∃ ra, e = .returned (.tuple ⟨[aw ra, .nilIface]⟩) /\ lq w' ra ⟨none, 0, 0⟩ ⟨none, 0, 0⟩ ⟨n, none, 0, 0, 0, 0, [], false⟩ /\ ra = w.heap.size) := by
 refine q7 _ ?_
 unfold oJ
 have nilO : ∀ x, ¬ au (⟨none, 0, 0⟩ : Slc) x := by rintro x ⟨a, ha, _⟩; cases ha
 refine ae (fun h1 => ⟨_, ba.at (hE.af (Ext.drew gb w)) 0 (by omega), Ext.drew _ _, .inl ⟨.inl h1, rfl⟩⟩) (fun h1 => ae (fun h2 => ⟨_, ba.at (hE.af (Ext.drew gb w)) 0 (by omega), Ext.drew _ _, .inl ⟨.inr h2, rfl⟩⟩) (fun h2 => aq (fun r4 w5 hr4 hb4 k4 hs4 => ⟨k4, .inr ⟨⟨by omega, by omega⟩, r4, rfl, ⟨ak.cF hb4, rfl, ⟨rfl, .inl rfl⟩, ⟨rfl, .inl rfl⟩, nilO _, nilO _, by simp, by simp⟩, hr4⟩⟩)))
def rF (a : AkS) (kd ep at' : Int) (l : Nat) : Option Nat := if a.msg.isSome then some 16 else if 1073741824 < a.nx then some 12 else if cJ a.nx kd ep at' l then none else some 3
def BP (a : AkS) (kd ep at' : Int) (d : List UInt8) : AkS := { a with nx := a.nx + 1, msg := some (bz (aV [1, a.nx, kd, ep, at'] d)), tag := a.nx, has := false }
theorem vX (b : List UInt8) : 0 < (bz b).length := by rw [bU]; omega
theorem vY (A : Nat -> Addr) (h : lq w ra sm sd a) (hE : bh A w.heap.size w) (kd ep at' : Int) (s : Slc) (d : List UInt8) (hd : ag w s d) :
  Calls Tryz.prog eU ⟨[aw ra, .int .i64 kd, .int .i64 ep, .int .i64 at', s.v]⟩ w fun e w' => ∃ f : Slc, e = .returned (.tuple ⟨[f.v, cj A (rF a kd ep at' d.length)]⟩) /\
   (rF a kd ep at' d.length ≠ none -> aj w w' /\ f = ⟨none, 0, 0⟩) /\
   (rF a kd ep at' d.length = none -> ag w' f (bz (aV [1, a.nx, kd, ep, at'] d)) /\ aD w f /\ f.l <= f.c /\ ∃ sm', lq w' ra sm' sd (BP a kd ep at' d) /\ aD w sm' /\ Ext (fun j => j = ra) w w') := by
 refine qg _ _ _ _ _ ?_
 unfold nw rF
 refine (lu h).mono ?_
 rintro e w7 ⟨rfl, rfl⟩
 refine ⟨_, rfl, ao (fun hb => ?_) (fun hb => ?_)⟩
 ·rw [if_pos hb]
  have kd' : aj w7 (World.drew w7) := Ext.drew _ _
  exact ⟨_, ba.at (hE.af kd').1 16 (by omega), _, rfl, fun _ => ⟨kd', rfl⟩, fun hh => by cases hh⟩
 rw [if_neg (by rw [hb]; simp)]
 refine aa rfl ⟨_, h.c 0 (by omega), ae (fun h1 => ?_) (fun h1 => aa rfl ⟨_, h.c 0 (by omega), ?_⟩)⟩
 ·have h1' : 1073741824 < a.nx := h1
  rw [if_pos h1']
  have kd' : aj w7 (World.drew w7) := Ext.drew _ _
  exact ⟨_, ba.at (hE.af kd').1 12 (by omega), _, rfl, fun _ => ⟨kd', rfl⟩, fun hh => by cases hh⟩
 have h1' : ¬ 1073741824 < a.nx := h1
 rw [if_neg h1']
 refine (C8 A a.nx kd ep at' s d w7 hd hE).mono ?_
 rintro e w16 ⟨f, ev, rfl, k16, hcase⟩
 refine ⟨f, ev, rfl, ?_⟩
 rcases hcase with ⟨hr, rfl, ho, hf⟩ | ⟨hr, rfl, rfl⟩
 ·rw [if_pos hr]
  have h16 := h.af k16
  have hfp : f.p.isSome = true := by
   obtain ⟨a0, ha0, _⟩ := cB ho.bytes (vX _)
   rw [ha0]; rfl
  have hra : ra < w7.heap.size := h.o.lt
  have hfra : ∀ j, au f j -> j ≠ ra := fun j hj => by have := hf j hj; omega
  refine ⟨trivial, ao (fun hh => by cases hh) (fun _ => aa rfl ⟨_, h16.c 0 (by omega), aa rfl ?_⟩)⟩
  rw [add_lit]
  obtain ⟨c1, c2⟩ := h16.o.aN 1 (by simp [akV]) f.v
  refine ⟨c1, fun w22 hw => aa rfl ?_⟩
  obtain ⟨o22, e22, _⟩ := c2 w22 hw
  rw [add_lit]
  obtain ⟨c3, c4⟩ := o22.aN 2 (by simp [akV]) (.int .i64 a.nx)
  refine ⟨c3, fun w24 hw2 => aa rfl ?_⟩
  obtain ⟨o24, e24, _⟩ := c4 w24 hw2
  rw [add_lit]
  obtain ⟨c5, c6⟩ := o24.aN 7 (by simp [akV]) (.bool false)
  refine ⟨c5, fun w26 hw3 => aa rfl ?_⟩
  obtain ⟨o26, e26, _⟩ := c6 w26 hw3
  obtain ⟨c7, c8⟩ := o26.aN 0 (by simp [akV]) (.int .i64 (a.nx + 1))
  have hnx := hr.1
  refine ⟨a.nx, o26.cell 0 (by simp [akV]), aA (by omega), aa rfl ⟨c7, fun w30 hw4 => ?_⟩⟩
  obtain ⟨o30, e30, _⟩ := c8 w30 hw4
  have ee : Ext (fun j => j = ra) w16 w30 := ((e22.trans e24 (fun _ h => h) (fun _ h => .inl h)).trans e26 (fun _ h => h) (fun _ h => .inl h)).trans e30 (fun _ h => h) (fun _ h => .inl h)
  have hfb : ag w30 f (bz (aV [1, a.nx, kd, ep, at'] d)) := aC ho.bytes ee (fun j hj hh => hfra j hj hh)
  have hlen : (bz (aV [1, a.nx, kd, ep, at'] d)).length <= 2 ^ 20 := by
   rw [bU]; have := nM hr; omega
  have hfl := hfb.1
  refine (bD f _ w30 hfb (by omega)).mono ?_
  rintro e w32 ⟨u, rfl, hu, huf, k32⟩
  have e32 : Ext (fun j => j = ra) w7 w32 := (Ext.trans k16 ee (fun _ h => h.elim) (fun _ h => .inl h)).trans k32 (fun _ h => h) (fun _ h => h.elim)
  refine ⟨u, rfl, u, rfl, (fun hh => absurd rfl hh), fun _ => ⟨hu.bytes, huf.mono (by have := k16.size; have := ee.size; omega), hu.le (by omega), f, ⟨o30.af k32, hfp, ai hfb k32, ai (aC h16.d ee (fun j hj hh => h.nd ((show j = ra from hh) ▸ hj))) k32, (fun hh => hfra _ hh rfl), h.nd, hlen, h.ml.2⟩, hf, e32⟩⟩
 ·rw [if_neg hr]
  refine ⟨trivial, ao (fun _ => ⟨_, rfl, fun _ => ⟨k16, rfl⟩, fun hh => by cases hh⟩) (fun hh => by cases hh)⟩
theorem Ao (h : lq w ra sm sd a) :
  Calls Tryz.prog fC ⟨[aw ra]⟩ w fun e w' => ∃ f : Slc, e = .returned (.tuple ⟨[f.v, .bool a.msg.isSome]⟩) /\ ag w' f (a.msg.getD []) /\ aD w f /\ f.l <= f.c /\ aj w w' := by
 refine oz _ ?_
 unfold kS
 have hl := h.b.1
 have hml := h.ml.1
 refine aa rfl ⟨_, h.c 1 (by omega), (bD sm _ w h.b (by omega)).mono ?_⟩
 rintro e w5 ⟨u, rfl, hu, huf, k5⟩
 refine ⟨u, rfl, (lu (h.af k5)).mono ?_⟩
 rintro e w8 ⟨rfl, rfl⟩
 exact ⟨_, rfl, u, rfl, hu.bytes, huf, hu.le (by omega), k5⟩
def hearS (a : AkS) (b : List UInt8) : Option AkS :=
 match readR b with
 | .ok (.tell t e n d) => if a.msg.isSome = true /\ t = a.tag then some { a with msg := none, rt := t, re := e, rn := n, rd := d, has := true } else none
 | _ => none
theorem Ap (most : Int) (hm : 0 <= most) (st : InS) : ((gm most st).1.length : Int) <= most := by
 unfold gm
 have h : (rNum most st).1 <= most := by
  by_cases h0 : 0 < (rNum most st).1
  ·exact BB most st (CM most st h0)
  ·omega
 generalize rNum most st = x at h ⊢
 obtain ⟨n, bs, er⟩ := x
 dsimp only at h
 cases er with
 | some j => simp [pE]; exact hm
 | none =>
  by_cases hh : (bs.length : Int) < n
  ·rw [jf hh]; simpa using hm
  ·rw [lf hh]; simp only [List.length_take]; omega
theorem Di {b : List UInt8} {t e n : Int} {d : List UInt8} (h : readR b = .ok (.tell t e n d)) : d.length <= 2 ^ 20 := by
 unfold readR at h
 split at h
 ·cases h
 ·split at h
  ·cases h
  ·dsimp only at h
   split at h
   ·split at h
    ·cases h
    ·injection h with h; injection h with h1 h2 h3 h4
     rw [<- h4]
     have h9 : ∀ st, (gm 2000 st).1.length <= 2 ^ 20 := fun st => by
      have := Ap 2000 (by omega) st
      omega
     exact h9 _
   ·split at h
    ·cases h
    ·split at h <;> cases h
theorem rG (A : Nat -> Addr) (h : lq w ra sm sd a) (hE : bh A w.heap.size w) (s : Slc) (b : List UInt8) (hb : ag w s b) (hl : s.l <= 2 ^ 20) (hc : s.l <= s.c) :
  Calls Tryz.prog bq ⟨[aw ra, s.v]⟩ w fun e w' => e = .returned (.bool (hearS a b).isSome) /\ (hearS a b = none -> aj w w') /\ (∀ a', hearS a b = some a' -> ∃ sd', lq w' ra ⟨none, 0, 0⟩ sd' a' /\ aD w sd' /\ Ext (fun j => j = ra) w w') := by
 refine po _ _ ?_
 unfold mq
 refine (ss A s b w hb hl hc hE).mono ?_
 rintro e w4 ⟨q, pp, is, ev, rfl, hres, k4⟩
 obtain ⟨t, kd, ep, at', sq, t2, e2, n2, sp, rfl, rfl, hev, hcase⟩ := hres.AT
 refine ⟨_, _, _, _, _, _, _, _, _, _, _, rfl, ?_⟩
 refine aq (fun r16 w17 hr16 hb16 k16 hs16 => aq (fun r18 w19 hr18 hb18 k18 hs18 => ?_))
 obtain ⟨a1, a2⟩ := ((ak.cF hb16).af k18).cO (n := 5) (cs := lj t kd ep at' sq) rfl rfl
 refine ⟨a1, fun w20 hw20 => ?_⟩
 obtain ⟨o16, e16, z20⟩ := a2 w20 hw20
 obtain ⟨b1, b2⟩ := ((ak.cF hb18).ext e16 (by omega)).cO (n := 4) (cs := dN t2 e2 n2 sp) rfl rfl
 refine ⟨b1, fun w21 hw21 => ?_⟩
 obtain ⟨o18, e18, z21⟩ := b2 w21 hw21
 have z4 := k4.size
 have z17 := k16.size
 have z19 := k18.size
 have k21' : aj w4 w21 := ((k16.trans k18).ext e16 (fun j hj => by omega)).ext e18 (fun j hj => by omega)
 have k21 : aj w w21 := k4.trans k21'
 have kd21 : aj w21 (World.drew w21) := Ext.drew _ _
 have kkd := k21.trans kd21
 have none' : ∀ w2, aj w w2 -> hearS a b = none -> Ending.returned (Value.bool false) = .returned (.bool (hearS a b).isSome) /\ (hearS a b = none -> aj w w2) /\ (∀ a', hearS a b = some a' -> ∃ sd', lq w2 ra ⟨none, 0, 0⟩ sd' a' /\ aD w sd' /\ Ext (fun j => j = ra) w w2) := fun w2 hk hn => by
  rw [hn]
  exact ⟨rfl, fun _ => hk, fun a' hh => by cases hh⟩
 rcases hcase with ⟨hnil, rfl, db, hR, _⟩ | ⟨hnil, rfl, db, hR, hbq, hcq, hfq⟩ | ⟨hnil, j, hR⟩
 ·exact ⟨fun _ => False, ⟨hev, ao (fun hh => by rw [hnil] at hh; cases hh) (fun _ => ao (fun _ => none' _ kkd (by unfold hearS; rw [hR])) (fun hh => by cases hh))⟩, fun _ hh => hh.elim⟩
 rotate_left
 ·exact ⟨fun _ => False, ⟨hev, ao (fun _ => none' _ kkd (by unfold hearS; rw [hR])) (fun hh => by rw [hnil] at hh; cases hh)⟩, fun _ hh => hh.elim⟩
 have hd := h.af kkd
 refine ⟨fun w2 => w2 = World.drew w21 /\ a.msg.isSome = true /\ t2 = a.tag, ⟨hev, ao (fun hh => by rw [hnil] at hh; cases hh) (fun _ => ao (fun hh => by cases hh) (fun _ => (lu hd).mono ?_))⟩, ?_⟩
 ·rintro e w24 ⟨rfl, rfl⟩
  refine ⟨_, rfl, ao (fun hh => none' _ kkd (by unfold hearS; rw [hR]; dsimp only; rw [if_neg (fun g => by rw [g.1] at hh; cases hh)])) (fun hh => ⟨_, (o18.af kd21).cell 0 (by simp), aa rfl ⟨_, hd.c 2 (by omega), aQ (fun g => none' _ kkd (by unfold hearS; rw [hR]; dsimp only; rw [if_neg (fun g2 => g g2.2)])) (fun g => ⟨rfl, by simpa using hh, g⟩)⟩⟩)⟩
 rintro w29 ⟨rfl, hbusy, heq⟩
 intros
 have hs : hearS a b = some { a with msg := none, rt := t2, re := e2, rn := n2, rd := db, has := true } := by
  unfold hearS; rw [hR]; dsimp only; rw [if_pos ⟨hbusy, heq⟩]
 have kdd : aj (World.drew w21) (World.drew (World.drew w21)) := Ext.drew _ _
 have h29 := hd.af kdd
 have o18d := (o18.af kd21).af kdd
 have hra : ra < w.heap.size := h.o.lt
 have hr18' : r18 ≠ ra := by omega
 refine ⟨_, _, _, _, o18d.row, aa rfl ?_⟩
 rw [add_lit]
 obtain ⟨c1, c2⟩ := h29.o.aN 1 (by simp [akV]) (⟨none, 0, 0⟩ : Slc).v
 refine ⟨c1, fun w55 hw => ?_⟩
 obtain ⟨o55, e55, _⟩ := c2 w55 hw
 refine ⟨⟨_, _, _, _, (o18d.ext e55 hr18').row, rfl⟩, aa rfl ?_⟩
 obtain ⟨c3, c4⟩ := o55.ED 3 4 (dN t2 e2 n2 sp) rfl (by simp [akV])
 refine ⟨c3, fun w61 hw2 => aa rfl ?_⟩
 obtain ⟨o61, e61⟩ := c4 w61 hw2
 rw [add_lit]
 obtain ⟨c5, c6⟩ := o61.aN 7 (by rw [sA]; simp [akV]) (.bool true)
 refine ⟨c5, fun w63 hw3 => ?_⟩
 obtain ⟨o63, e63, _⟩ := c6 w63 hw3
 rw [hs]
 have ee : Ext (fun j => j = ra) (World.drew (World.drew w21)) w63 := (e55.trans e61 (fun _ h => h) (fun _ h => .inl h)).trans e63 (fun _ h => h) (fun _ h => .inl h)
 have hf : ∀ j, au sp j -> j ≠ ra := fun j hj => by have := hfq j hj; omega
 refine ⟨rfl, (fun hh => by cases hh), fun a' hh => ?_⟩
 injection hh with hh
 subst hh
 exact ⟨sp, ⟨o63, rfl, ⟨rfl, .inl rfl⟩, aC (ai hbq ((k21'.trans kd21).trans kdd)) ee (fun j hj hh => hf j hj hh), (by rintro ⟨x, hx, _⟩; cases hx), (fun hh => hf _ hh rfl), by simp, Di hR⟩, hfq, Ext.trans (kkd.trans kdd) ee (fun _ h => h.elim) (fun _ h => .inl h)⟩
theorem BQ (h : lq w ra sm sd a) :
  Calls Tryz.prog fO ⟨[aw ra]⟩ w fun e w' => ∃ x : List Value, e = .returned (.tuple ⟨[.agg ⟨x⟩, .bool a.has]⟩) /\ aj w w' /\ ((a.has = false -> x = Z4) /\ (a.has = true -> ∃ u, x = dN a.rt a.re a.rn u /\ ag w' u a.rd)) := by
 refine pq _ ?_
 unfold mr
 refine aq (fun r2 w3 hr2 hb2 k2 hs2 => ?_)
 have h3 := h.af k2
 have o2 : ak w3 r2 Z4 := ak.cF hb2
 refine aa rfl ⟨_, h3.c 7 (by omega), ao (fun hh => ?_) (fun hh => ?_)⟩
 ·obtain ⟨c1, c2⟩ := o2.cO (n := 4) (cs := Z4) rfl rfl
  refine ⟨c1, fun w6 hw => ?_⟩
  obtain ⟨o6, e6, _⟩ := c2 w6 hw
  have hf : a.has = false := by
   have h1 : (!a.has) = true := hh
   simpa using h1
  rw [hf]
  exact ⟨_, _, _, _, o6.row, Z4, rfl, k2.ext e6 (fun j hj => by omega), fun _ => rfl, fun hh => by cases hh⟩
 ·have ht : a.has = true := by
   have h1 : (!a.has) = false := hh
   simpa using h1
  have hrow : rowAt w3 ((⟨ra, 0, none⟩ : Addr).add 3) 0 (dN a.rt a.re a.rn sd) := h3.o.EC 3 _ (fun j hj => by rcases j with _ | _ | _ | _ | j <;> first | rfl | (simp at hj; omega))
  have hml := h.ml.2
  have hdl := h.d.1
  refine aa rfl ⟨_, _, _, _, hrow, aq (fun r16 w17 hr16 hb16 k16 hs16 => ?_)⟩
  obtain ⟨c1, c2⟩ := (ak.cF hb16).cO (n := 4) (cs := dN a.rt a.re a.rn sd) rfl rfl
  refine ⟨c1, fun w18 hw => ?_⟩
  obtain ⟨o18, e18, _⟩ := c2 w18 hw
  have k18 : aj w3 w18 := k16.ext e18 (fun j hj => by omega)
  refine ⟨sd, o18.cell 3 (by simp), (bD sd _ w18 (ai h3.d k18) (by omega)).mono ?_⟩
  rintro e w21 ⟨u, rfl, hu, huf, k21⟩
  obtain ⟨c3, c4⟩ := (o18.af k21).aN 3 (by simp) u.v
  refine ⟨u, rfl, c3, fun w23 hw2 => ?_⟩
  obtain ⟨o23, e23, _⟩ := c4 w23 hw2
  have z18 := k18.size
  have l16 := o18.lt
  have z21 := k21.size
  have z3 := k2.size
  have k23 : aj w3 w23 := (k18.trans k21).ext e23 (fun j hj => by omega)
  obtain ⟨c5, c6⟩ := (o2.af k23).cO (n := 4) (cs := dN a.rt a.re a.rn u) rfl rfl
  refine ⟨_, _, _, _, o23.row, c5, fun w28 hw3 => ?_⟩
  obtain ⟨o28, e28, _⟩ := c6 w28 hw3
  rw [ht]
  exact ⟨_, _, _, _, o28.row, _, rfl, (k2.trans k23).ext e28 (fun j hj => by omega), (fun hh => by cases hh), fun _ => ⟨u, rfl, aC (aC hu.bytes e23 (fun j hj hh => by have := huf j hj; omega)) e28 (fun j hj hh => by have := huf j hj; omega)⟩⟩
end
end Go.D
namespace Go.D
open Go Go.Proofs
theorem xj (t k e a : Int) (s : Slc) (d : List UInt8) (w : World) (hd : ag w s d) (h : cJ t k e a d.length) :
  Calls Tryz.prog eL ⟨[.agg ⟨lj t k e a s⟩]⟩ w fun x w' => ∃ f : Slc, x = .returned f.v /\ aj w w' /\ aD w f /\ f.l <= f.c /\ ag w' f (bz (aV [1, t, k, e, a] d)) := by
 refine mB _ _ _ _ _ ?_
 unfold jt
 refine aq (fun r6 w7 hr hb hk hs => ?_)
 have ho := ak.cF hb
 refine ⟨_, ho.cell 4 (by simp), _, ho.cell 0 (by simp), _, ho.cell 1 (by simp), _, ho.cell 2 (by simp), _, ho.cell 3 (by simp), aq (fun r13 w14 hr13 hb13 k13 hs13 => ?_)⟩
 have hi : iL w14 ⟨some ⟨r13, 0, none⟩, 5, 5⟩ [1, t, k, e, a] := Own.ints (Own.new (sz := 1) hb13 (.inl (by simp)) rfl)
 refine (ln s _ d _ w14 (ai hd (hk.trans k13)) hi (by simp) (D5 h) (nM h)).mono ?_
 rintro x w16 ⟨f, rfl, g1, g2, g3, g4⟩
 exact ⟨f, rfl, f, rfl, (hk.trans k13).trans g3, g2.mono (hk.trans k13).size, g4, g1⟩
theorem vl (t e n : Int) (s : Slc) (d : List UInt8) (w : World) (hd : ag w s d) (h : gR t e n d.length) :
  Calls Tryz.prog ew ⟨[.agg ⟨dN t e n s⟩]⟩ w fun x w' => ∃ f : Slc, x = .returned f.v /\ aj w w' /\ aD w f /\ f.l <= f.c /\ ag w' f (bz (aV [2, t, e, n] d)) := by
 refine lM _ _ _ _ ?_
 unfold iW
 refine aq (fun r6 w7 hr hb hk hs => ?_)
 have ho := ak.cF hb
 refine ⟨_, ho.cell 3 (by simp), _, ho.cell 0 (by simp), _, ho.cell 1 (by simp), _, ho.cell 2 (by simp), aq (fun r13 w14 hr13 hb13 k13 hs13 => ?_)⟩
 have hi : iL w14 ⟨some ⟨r13, 0, none⟩, 4, 4⟩ [2, t, e, n] := Own.ints (Own.new (sz := 1) hb13 (.inl (by simp)) rfl)
 refine (ln s _ d _ w14 (ai hd (hk.trans k13)) hi (by simp) (D6 h) (nN h)).mono ?_
 rintro x w16 ⟨f, rfl, g1, g2, g3, g4⟩
 exact ⟨f, rfl, f, rfl, (hk.trans k13).trans g3, g2.mono (hk.trans k13).size, g4, g1⟩
theorem fz (most n : Int) (rest : List UInt8) (h : 0 <= n /\ n <= 4611686018427387903) (hm : n <= most) : rNum most (bx n.toNat ++ rest, none) = (n, (rest, none)) := by
 rw [uI most n.toNat rest (by omega) (by omega), show ((n.toNat : Nat) : Int) = n by omega]
theorem qM (b : List UInt8) (hl : b.length <= 2048) : ei (bz b) = .ok (b, []) := by
 have := yR b [] hl
 simpa using this
theorem BR {t k e a : Int} {d : List UInt8} (h : cJ t k e a d.length) : readR (bz (aV [1, t, k, e, a] d)) = .ok (.ask t k e a d) := by
 have h0 := h
 obtain ⟨h1, h2, h3, h4, h5, h6⟩ := h
 rw [readR, qM _ (nM h0)]
 dsimp only
 rw [if_neg (by simp)]
 have e0 : aV [1, t, k, e, a] d = bx (1 : Int).toNat ++ (bx t.toNat ++ (bx k.toNat ++ (bx e.toNat ++ (bx a.toNat ++ (bx d.length ++ (d ++ [])))))) := by
  simp [aV, ll]
 have e1 : rNum 2 (aV [1, t, k, e, a] d, none) = (1, (bx t.toNat ++ (bx k.toNat ++ (bx e.toNat ++ (bx a.toNat ++ (bx d.length ++ (d ++ []))))), none)) := by
  rw [e0]; exact fz 2 1 _ (by omega) (by omega)
 rw [e1]
 have e2 : bA (bx t.toNat ++ (bx k.toNat ++ (bx e.toNat ++ (bx a.toNat ++ (bx d.length ++ (d ++ []))))), none) = ⟨t, k, e, a, d, ([], none)⟩ := by
  rw [bA]
  rw [fz 1073741824 t _ (by omega) (by omega), fz 5 k _ (by omega) (by omega), fz 1073741824 e _ (by omega) (by omega), fz 4096 a _ (by omega) (by omega), ry 2000 d [] (by omega) (by omega)]
 dsimp only
 rw [e2, if_neg (by omega)]
 dsimp only [kB]
 rw [if_neg (by simp)]
 dsimp only
 rw [if_pos ⟨rfl, h0⟩]
theorem Aq {t e n : Int} {d : List UInt8} (h : gR t e n d.length) : readR (bz (aV [2, t, e, n] d)) = .ok (.tell t e n d) := by
 have h0 := h
 obtain ⟨h1, h2, h3, h5⟩ := h
 rw [readR, qM _ (nN h0)]
 dsimp only
 rw [if_neg (by simp)]
 have e0 : aV [2, t, e, n] d = bx (2 : Int).toNat ++ (bx t.toNat ++ (bx e.toNat ++ (bx n.toNat ++ (bx d.length ++ (d ++ []))))) := by
  simp [aV, ll]
 have e1 : rNum 2 (aV [2, t, e, n] d, none) = (2, (bx t.toNat ++ (bx e.toNat ++ (bx n.toNat ++ (bx d.length ++ (d ++ [])))), none)) := by
  rw [e0]; exact fz 2 2 _ (by omega) (by omega)
 rw [e1]
 have e2 : bS (bx t.toNat ++ (bx e.toNat ++ (bx n.toNat ++ (bx d.length ++ (d ++ [])))), none) = ⟨t, e, n, d, ([], none)⟩ := by
  rw [bS]
  rw [fz 1073741824 t _ (by omega) (by omega), fz 19 e _ (by omega) (by omega), fz 4096 n _ (by omega) (by omega), ry 2000 d [] (by omega) (by omega)]
 dsimp only
 rw [e2, if_pos rfl]
 dsimp only [kB]
 rw [if_neg (by simp)]
end Go.D
namespace Go.D
open Go Go.Proofs
structure L34 (w0 w : World) (rn r rd rn2 r2 k m : Nat) (f : UnF) (d : aP) (p : NdP) (fr : RuF) (P : List RuE) (top : Int) (s : UnS) (q : RdP) (T : List NdE) : Prop where
 N : cK w w0.heap.size rn r rd f d s m p T
 R : Fo w rn2 r2 k fr P top s q T
 k : d.n / 64 = k
 st : d.stops = false
 kp : aj w0 w
 wn : ∀ j, RB rn2 r2 fr q j -> w0.heap.size <= j
 ws : ∀ j, RB rn2 r2 fr q j -> ¬ NB rn r rd f p j /\ ¬ NY f p j
 ys : ∀ j, RY fr q j -> ¬ NB rn r rd f p j
 ok : ∀ x ∈ T, x.ok
section
variable {w0 w w' w2 : World} {rn r rd rn2 r2 k m m' : Nat} {f f' : UnF} {d d' : aP} {p p' : NdP} {fr fr' : RuF} {P P' : List RuE} {top top' : Int} {s s' : UnS} {q q' : RdP} {T T' : List NdE}
end
theorem xk {w : World} {rn r : Nat} {p : NdP} {L : List NdE} (h : kC w rn r p L) : Calls Tryz.prog fN ⟨[aw rn]⟩ w fun e w' => e = .returned (.int .i64 (L.length : Int)) /\ w' = w := by
 refine pk _ ?_
 unfold mn
 have hsl := h.t.sl
 exact aa rfl ⟨_, h.c1, by rw [hsl], rfl⟩
theorem xl (A : Nat -> Addr) (w0 w : World) (hE : ba A w0) (hk : aj w0 w) :
  Calls Tryz.prog dU ⟨[]⟩ w fun e w' => ∃ rn r rd rn2 r2 f d p fr q, e = .returned (.tuple ⟨[aw rn, aw rn2]⟩) /\ L34 w0 w' rn r rd rn2 r2 3 0 f d p fr [] 0 ⟨[], 0, 0, 0⟩ q [] /\ (∀ j, NB rn r rd f p j -> w.heap.size <= j) /\ aj w w' := by
 refine kT ?_
 unfold iF
 have nilO : ∀ x, ¬ au (⟨none, 0, 0⟩ : Slc) x := by rintro x ⟨a, ha, _⟩; cases ha
 refine (yI A 3 (by omega) w0 w hE hk).mono ?_
 rintro e w2 ⟨rd, qd, d, rfl, k2, hdn, hds, hop⟩
 refine ⟨_, _, rfl, trivial, ao (fun h => by cases h) (fun _ => (hop w2 (Ext.refl _ _)).mono ?_)⟩
 rintro e w6 ⟨r, f, rfl, hU, hq, k6, hUB, hUY⟩
 refine ⟨_, _, rfl, trivial, ao (fun h => by cases h) (fun _ => ao (fun h => by cases h) (fun _ => ?_))⟩
 refine Calls.mono (R := fun e w' => ∃ rn, e = .returned (aw rn) /\ aj w6 w' /\ rn = w6.heap.size /\ ak w' rn [aw r, (⟨none, 0, 0⟩ : Slc).v, .bool false]) (yf _ ?_) ?_
 ·unfold ye
  exact aq (fun r2 w3 hr2 hb2 k2 hs2 => ⟨r2, rfl, k2, hr2, ak.cF hb2⟩)
 rintro e w10 ⟨rn, rfl, k10, hrn, on⟩
 refine ⟨_, rfl, (xi w10 3).mono ?_⟩
 rintro e w13 ⟨r2, fr, rfl, hR, hW, hY, k13⟩
 refine ⟨_, rfl, aq (fun r15 w16 hr15 hb15 k15 hs15 => ?_)⟩
 have lt := hU.lt
 have ltR := hR.A.lt
 have z0 := hk.size
 have z2 := k2.size
 have z6 := k6.size
 have z10 := k10.size
 have z13 := k13.size
 have l10 := on.lt
 have kk := (k10.trans k13).trans k15
 have noF : ∀ j, ¬ cM ([] : List (List Value)) j := by rintro j ⟨cs, hcs, _⟩; simp at hcs
 refine ⟨rn, r, rd, r15, r2, f, d, ⟨⟨none, 0, 0⟩, []⟩, fr, ⟨⟨none, 0, 0⟩, ⟨none, 0, 0⟩, []⟩, rfl, ⟨⟨hU.af kk, ⟨(on.af k13).af k15, Rows.nil _ _, nilO _, fun j hj => (noF j hj).elim⟩, ?_, fun j hj => (noF j hj).elim, ?_⟩, ⟨hR.af k15, ⟨ak.cF hb15, bB.nil _, Rows.nil _ _, ⟨nilO _, nilO _⟩, fun j hj => (nilO j hj).elim, fun j hj => (noF j hj).elim⟩, ?_, fun j hj => (noF j hj).elim⟩, hdn, hds, ((((hk.trans k2).trans k6).trans kk)), ?_, ?_, ?_, fun x hx => by simp at hx⟩, ?_, (k2.trans k6).trans kk⟩
 ·rintro j (rfl | hj)
  ·exact ⟨fun hh => by have := lt.1 _ hh; omega, fun hh => by have := lt.2 _ hh; omega⟩
  ·exact (nilO j hj).elim
 ·rintro j (rfl | hj)
  ·omega
  ·exact (nilO j hj).elim
 ·rintro j (rfl | hj | hj)
  ·exact ⟨fun hh => by have := ltR.1 _ hh; omega, fun hh => by have := ltR.2 _ hh; omega⟩
  ·exact (nilO j hj).elim
  ·exact (nilO j hj).elim
 ·rintro j (hj | rfl | hj | hj)
  ·have := hW j hj; omega
  ·omega
  ·exact (nilO j hj).elim
  ·exact (nilO j hj).elim
 ·have key : ∀ j, w10.heap.size <= j -> ¬ NB rn r rd f ⟨⟨none, 0, 0⟩, []⟩ j /\ ¬ NY f ⟨⟨none, 0, 0⟩, []⟩ j := by
   intro j hj
   refine ⟨?_, ?_⟩
   ·rintro (hh | rfl | hh)
    ·have := lt.1 _ hh; omega
    ·omega
    ·exact (nilO j hh).elim
   ·rintro (hh | hh)
    ·have := lt.2 _ hh; omega
    ·exact (noF j hh).elim
  rintro j (hj | rfl | hj | hj)
  ·exact key j (hW j hj)
  ·exact key _ (by omega)
  ·exact (nilO j hj).elim
  ·exact (nilO j hj).elim
 ·rintro j (hj | hj)
  ·exact (hY j hj).elim
  ·exact (noF j hj).elim
 ·rintro j (hj | rfl | hj)
  ·exact hUB j hj
  ·omega
  ·exact (nilO j hj).elim
theorem xm (A : Nat -> Addr) (w : World) (hE : ba A w) : Calls Tryz.prog dT ⟨[]⟩ w fun e w' => e = .returned (.bool true) /\ aj w w' := by
 refine kU ?_
 unfold iG
 have hB : bh A w.heap.size w := hE.b
 refine (xl A w w hE (Ext.refl _ _)).mono ?_
 rintro e w2 ⟨rn, r, rd, rn2, r2, f, d, p, fr, q, rfl, hL, hNB, k2⟩
 refine ⟨_, _, rfl, (oO A 0 w2 (hE.af k2)).mono ?_⟩
 rintro e w6 ⟨k6, hc⟩
 rcases hc with ⟨hbad, _⟩ | ⟨_, ra, rfl, hA, hra⟩
 ·omega
 refine ⟨_, _, rfl, fun w3 => w3 = w6, ao (fun h => by cases h) (fun _ => ⟨trivial, ao (fun h => by cases h) (fun _ => ao (fun h => by cases h) (fun _ => rfl))⟩), ?_⟩
 rintro w10 rfl
 intros
 refine aq (fun r22 w23 hr22 hb22 k22 hs22 => ?_)
 rintro w25 rfl
 have hb25 : ag (markW w23 r22) (⟨some ⟨r22, 0, none⟩, 1, 1⟩ : Slc) [120] /\ Ext (fun k => k = r22) w23 (markW w23 r22) := by
  obtain ⟨hb30, e30⟩ := zk hb22
  refine ⟨⟨rfl, .inr ⟨_, rfl, fun i hi => ?_⟩⟩, e30⟩
  have : i = 0 := by simp at hi; omega
  subst this
  rw [add_lit, cell_of hb30]
  rfl
 have z6 := k6.size
 have k25 : aj w10 (markW w23 r22) := k22.ext hb25.2 (fun j hj => by omega)
 have kk25 := (k2.trans k6).trans k25
 refine (vY A (hA.af k25) ((hB.af kk25).up kk25.size) 1 0 3 _ [120] hb25.1).mono ?_
 rintro e w27 ⟨fm, rfl, _, hok⟩
 have hae : rF ⟨0, none, 0, 0, 0, 0, [], false⟩ 1 0 3 1 = none := by decide
 obtain ⟨hfb, hff, hfc, sm', hA27, hsm', e27⟩ := hok hae
 have hae' : rF ⟨0, none, 0, 0, 0, 0, [], false⟩ 1 0 3 ([120] : List UInt8).length = none := hae
 rw [hae']
 refine ⟨fm, _, rfl, trivial, ao (fun h => by cases h) (fun _ => ?_)⟩
 have lN := hL.N.lt
 have N27 : cK w27 w.heap.size rn r rd f d ⟨[], 0, 0, 0⟩ 0 p [] := ((hL.N.af k6).af k25).ext e27 (fun j hj hh => by have := lN.1 j hj; have e1 : j = ra := hh; omega) (fun j hj hh => by have := lN.2 j hj; have e1 : j = ra := hh; omega)
 have kk27 : aj w w27 := kk25.ext e27 (fun j hj => by have e1 : j = ra := hj; have := k2.size; omega)
 have z27 := kk27.size
 have hq : cJ 0 1 0 3 [(120 : UInt8)].length := by decide
 have hfl : fm.l = (bz (aV [1, 0, 1, 0, 3] [120])).length := hfb.1
 have hfl2 : fm.l <= 2 ^ 20 := by rw [hfl, bU]; have := nM hq; omega
 have hR1 : readR (bz (aV [1, 0, 1, 0, 3] [120])) = .ok (.ask 0 1 0 3 [120]) := BR hq
 refine (sv A N27 (hB.af kk27) z27 (by omega) hL.st 1 fm _ hfb hfl2 hfc).mono ?_
 rintro e w31 ⟨u, rfl, hu, huf, huc, f', d', p', N31, hdn, hds, n31⟩
 have hP : dz (d.n / 64) ⟨[], 0, 0, 0⟩ 1 0 3 [120] = ((none, 0, []), ⟨[⟨0, 0, [.dy 3 [120]]⟩], 0, 0, 4⟩) := by rw [hL.k]; rfl
 have st1 : ndStep (d.n / 64) ⟨[], 0, 0, 0⟩ [] 1 (bz (aV [1, 0, 1, 0, 3] [120])) = (some ⟨1, 0, none, 0, []⟩, ⟨[⟨0, 0, [.dy 3 [120]]⟩], 0, 0, 4⟩, [⟨1, 0, none, 0, []⟩]) := by
  unfold ndStep
  rw [hR1]
  dsimp only
  rw [hP]
  rfl
 rw [st1] at hu N31 ⊢
 refine ⟨u, _, rfl, ?_⟩
 obtain ⟨n31, nu31⟩ := n31
 have z10 := k25.size
 have kk31 : aj w w31 := kk27.ext n31.1.1 N27.gB
 have hfb31 : ag w31 fm (bz (aV [1, 0, 1, 0, 3] [120])) := aC hfb n31.1.1 (fun j hj hh => by have := hff j hj; have := lN.1 j hh; omega)
 have st2 : ndStep (d'.n / 64) ⟨[⟨0, 0, [.dy 3 [120]]⟩], 0, 0, 4⟩ [⟨1, 0, none, 0, []⟩] 1 (bz (aV [1, 0, 1, 0, 3] [120])) = (some ⟨1, 0, none, 0, []⟩, ⟨[⟨0, 0, [.dy 3 [120]]⟩], 0, 0, 4⟩, [⟨1, 0, none, 0, []⟩]) := by
  unfold ndStep
  rw [hR1]
  rfl
 refine (sv A N31 (hB.af kk31) kk31.size (by omega) hds 1 fm _ hfb31 hfl2 hfc).mono ?_
 rintro e w35 ⟨u2, rfl, hu2, huf2, huc2, f2, d2, p2, N35, hdn2, hds2, n35, nu35⟩
 rw [st2] at hu2 N35 ⊢
 have hu35 : ag w35 u (uQ (some ⟨1, 0, none, 0, []⟩)) := aC hu n35.1.1 nu31
 have kk35 : aj w w35 := kk31.ext n35.1.1 N31.gB
 have hrp : gR 0 (eN none) 0 ([] : List UInt8).length := by decide
 have hul : u.l = (NdE.msg ⟨1, 0, none, 0, []⟩).length := hu35.1
 have hml := AU (x := ⟨1, 0, none, 0, []⟩) hrp
 have lA : ra < w27.heap.size := hA27.o.lt
 have nA : ∀ j, AkB ra sm' ⟨none, 0, 0⟩ j -> ¬ NB rn r rd f p j := by
  rintro j (rfl | hj | ⟨x, hx, _⟩) hh
  ·have := lN.1 _ hh; omega
  ·have := hsm' j hj; have := lN.1 _ hh; omega
  ·cases hx
 have ltA : ∀ j, AkB ra sm' ⟨none, 0, 0⟩ j -> j < w27.heap.size := by
  rintro j (rfl | hj | ⟨x, hx, _⟩)
  ·exact lA
  ·exact ef hA27.b (by rw [hA27.b.1]; exact vX _) j hj
  ·cases hx
 have A31 := hA27.ext n31.1.1 nA
 have A35 := A31.ext n35.1.1 (fun j hj hh => (n31.1.2 j hh).elim (nA j hj) (fun g => by have := ltA j hj; omega))
 refine ⟨u2, _, rfl, ao (fun _ => ao (fun _ => ⟨_, hu35, _, hu2, ae (fun _ => ?_) (fun hh => absurd rfl hh)⟩) (fun hh => by cases hh)) (fun hh => by cases hh)⟩
 refine (rG A A35 ((hB.af kk35).up kk35.size) u _ hu35 (by rw [hul]; exact hml) huc).mono ?_
 have hR2 : readR (uQ (some ⟨1, 0, none, 0, []⟩)) = .ok (.tell 0 0 0 []) := Aq (d := []) hrp
 have hh : hearS (BP ⟨0, none, 0, 0, 0, 0, [], false⟩ 1 0 3 [120]) (uQ (some ⟨1, 0, none, 0, []⟩)) = some { BP ⟨0, none, 0, 0, 0, 0, [], false⟩ 1 0 3 [120] with msg := none, rt := 0, re := 0, rn := 0, rd := [], has := true } := by
  unfold hearS
  rw [hR2]
  rfl
 rintro e w41 ⟨rfl, _, hA'⟩
 obtain ⟨sd', hA41, _, e41⟩ := hA' _ hh
 rw [hh]
 refine ⟨_, rfl, ao (fun _ => (lu hA41).mono ?_) (fun g => by cases g)⟩
 rintro e w44 ⟨rfl, rfl⟩
 have lt35 := N35.lt
 have nra : ∀ j, j = ra -> ¬ NB rn r rd f2 p2 j /\ ¬ NY f2 p2 j := by
  rintro j rfl
  refine ⟨fun g => ?_, fun g => ?_⟩
  ·rcases n35.1.2 _ g with g | g
   ·exact (n31.1.2 _ g).elim (nA _ (.inl rfl)) (fun g2 => by omega)
   ·have := n31.1.1.size; omega
  ·rcases n35.2 _ g with g | g
   ·rcases n31.2 _ g with g | g
    ·have := lN.2 _ g; omega
    ·omega
   ·have := n31.1.1.size; omega
 have N44 := N35.ext e41 (fun j hj g => (nra j g).1 hj) (fun j hj g => (nra j g).2 hj)
 refine ⟨_, rfl, ao (fun _ => (xk N44.N).mono ?_) (fun g => by cases g)⟩
 rintro e w47 ⟨rfl, rfl⟩
 exact ⟨_, rfl, rfl, kk35.ext e41 (fun j hj => by have e1 : j = ra := hj; have := k2.size; omega)⟩
end Go.D
namespace Go.D
open Go Go.Proofs
structure A0 where
 fr : Int
 t : Int
 kd : Int
 ep : Int
 a : Int
 d : List UInt8
 raw : Bool
 b : List UInt8
def jI (x : A0) (sq sb : Slc) : List Value := [.int .i64 x.fr, .int .i64 x.t, .int .i64 x.kd, .int .i64 x.ep, .int .i64 x.a, sq.v, .bool x.raw, sb.v]
def yZ (w : World) (s : Slc) (xs : List A0) : Prop := s.l = xs.length /\ ∀ i (h : i < xs.length), ∃ (a : Addr) (sq sb : Slc), s.p = some a /\ rowAt w (a.add (i * 8)) 0 (jI xs[i] sq sb) /\ ag w sq xs[i].d /\ ag w sb xs[i].b /\ sb.l <= sb.c
abbrev EE : Rd (Int × Int × Int × Int × (Slc × List UInt8)) := Rd.pair (Rd.int .i64) (Rd.pair (Rd.int .i64) (Rd.pair (Rd.int .i64) (Rd.pair (Rd.int .i64) Rd.bytes)))
abbrev A1 : Rd (Int × (Int × Int × Int × Int × (Slc × List UInt8)) × Bool × (Slc × List UInt8)) := Rd.pair (Rd.int .i64) (Rd.pair EE (Rd.pair Rd.bool Rd.bytes))
def D1 (x : Int × (Int × Int × Int × Int × (Slc × List UInt8)) × Bool × (Slc × List UInt8)) : A0 := ⟨x.1, x.2.1.1, x.2.1.2.1, x.2.1.2.2.1, x.2.1.2.2.2.1, x.2.1.2.2.2.2.2, x.2.2.1, x.2.2.2.2⟩
theorem BS {w : World} {s : Slc} {xs : List (Int × (Int × Int × Int × Int × (Slc × List UInt8)) × Bool × (Slc × List UInt8))} (h : xP A1 w s xs) : yZ w s (xs.map D1) := by
 obtain ⟨h1, h2, _, h3⟩ := h
 refine ⟨by rw [h1, List.length_map], fun i hi => ?_⟩
 have hi2 : i < xs.length := by simpa using hi
 obtain ⟨a, cs, ha, ⟨_, _, hcs, ⟨rfl, _⟩, ⟨_, _, rfl, ⟨_, _, rfl, ⟨rfl, _⟩, ⟨_, _, rfl, ⟨rfl, _⟩, ⟨_, _, rfl, ⟨rfl, _⟩, ⟨_, _, rfl, ⟨rfl, _⟩, ⟨rfl, hD, hDc, _⟩⟩⟩⟩⟩, ⟨_, _, rfl, rfl, ⟨rfl, hB, hBc, _⟩⟩⟩⟩, hrow⟩ := h3 i hi2
 subst hcs
 refine ⟨a, xs[i].2.1.2.2.2.2.1, xs[i].2.2.2.1, ha, ?_, ?_, ?_, hBc⟩
 ·rw [List.getElem_map]; exact hrow
 ·rw [List.getElem_map]; exact hD
 ·rw [List.getElem_map]; exact hB
end Go.D
set_option maxRecDepth 8000
namespace Go.D
open Go Go.Proofs
structure AI (w w2 : World) (ra r41 : Nat) (tag : Int) (busy has : Bool) (ms : Slc) (a : AkS) (sm sd : Slc) : Prop where
 A : lq w2 ra sm sd a
 nx : a.nx = tag
 hb : a.msg.isSome = busy
 hh : a.has = has
 tg : busy = true -> a.tag = tag - 1 /\ 0 <= a.tag /\ a.tag <= 1073741824
 bd : 0 <= tag /\ tag <= 1073741825
 ms : busy = true -> ag w2 ms (a.msg.getD []) /\ ∀ j, au ms j -> r41 < j
 o : ∃ (y1 y2 y3 : Int) (u : Slc), ak w2 r41 (dN y1 y2 y3 u) /\ (has = true -> y1 = a.rt /\ y2 = a.re /\ y3 = a.rn /\ ag w2 u a.rd /\ ∀ j, au u j -> r41 < j)
 fm : ∀ j, au sm j -> r41 < j
 fd : ∀ j, au sd j -> r41 < j
 kp : aj w w2
 lo : w.heap.size <= ra /\ ra < r41 /\ r41 < w2.heap.size
section
variable {w w2 w3 : World} {ra r41 : Nat} {tag : Int} {busy has : Bool} {ms sm sd : Slc} {a a' : AkS}
theorem AI.af (h : AI w w2 ra r41 tag busy has ms a sm sd) (hk : aj w2 w3) : AI w w3 ra r41 tag busy has ms a sm sd := by
 obtain ⟨y1, y2, y3, u, o, hu⟩ := h.o
 exact ⟨h.A.af hk, h.nx, h.hb, h.hh, h.tg, h.bd, fun g => ⟨ai (h.ms g).1 hk, (h.ms g).2⟩, ⟨y1, y2, y3, u, o.af hk, fun g => by obtain ⟨g1, g2, g3, g4, g5⟩ := hu g; exact ⟨g1, g2, g3, ai g4 hk, g5⟩⟩, h.fm, h.fd, h.kp.trans hk, h.lo.1, h.lo.2.1, Nat.lt_of_lt_of_le h.lo.2.2 hk.size⟩
theorem uT {a : AkS} {b : List UInt8} (h : ∀ t e n d, readR b ≠ .ok (.tell t e n d)) : hearS a b = none := by
 unfold hearS
 split
 ·rename_i t e n d hR; exact absurd hR (h t e n d)
 ·rfl
theorem BT {a : AkS} {b : List UInt8} (h : a.msg.isSome = false) : hearS a b = none := by
 unfold hearS
 split
 ·rw [if_neg (fun g => by rw [g.1] at h; cases h)]
 ·rfl
end
theorem AI.heard {w w1 w2 : World} {ra r41 : Nat} {tag : Int} {has : Bool} {ms sm sd sd' : Slc} {a a' : AkS} (h : AI w w1 ra r41 tag true has ms a sm sd) (hA : lq w2 ra ⟨none, 0, 0⟩ sd' a') (hx : Ext (fun j => j = ra) w1 w2) (hf : aD w1 sd') (e1 : a'.nx = a.nx) (e2 : a'.msg = none) (e3 : a'.has = true)
  {y1 y2 y3 : Int} {u : Slc} {w3 : World} (hy : y1 = a'.rt /\ y2 = a'.re /\ y3 = a'.rn) (hu : ag w2 u a'.rd) (huf : ∀ j, au u j -> r41 < j) (ho : ak w3 r41 (dN y1 y2 y3 u)) (hx3 : Ext (fun j => j = r41) w2 w3) : AI w w3 ra r41 tag false true ms a' ⟨none, 0, 0⟩ sd' := by
 have hlo := h.lo
 have nilO : ∀ x, ¬ au (⟨none, 0, 0⟩ : Slc) x := by rintro x ⟨a, ha, _⟩; cases ha
 refine ⟨hA.ext hx3 ?_, by rw [e1, h.nx], by rw [e2]; rfl, e3, (fun g => by cases g), h.bd, (fun g => by cases g), ⟨y1, y2, y3, u, ho, fun _ => ⟨hy.1, hy.2.1, hy.2.2, aC hu hx3 (fun j hj hh => by have := huf j hj; have e : j = r41 := hh; omega), huf⟩⟩, fun j hj => (nilO j hj).elim, fun j hj => by have := hf j hj; omega, (h.kp.ext hx (fun j hj => by have e : j = ra := hj; omega)).ext hx3 (fun j hj => by have e : j = r41 := hj; omega), hlo.1, hlo.2.1, by have := hx.size; have := hx3.size; omega⟩
 rintro j (rfl | hj | hj) hh
 ·have e : j = r41 := hh
  omega
 ·exact nilO j hj
 ·have := hf j hj; have e : j = r41 := hh; omega
theorem AI.asked {w w1 w2 : World} {ra r41 : Nat} {tag : Int} {busy has : Bool} {ms ms' sm sm' sd : Slc} {a : AkS} {kd ep at' : Int} {d : List UInt8} (h : AI w w1 ra r41 tag busy has ms a sm sd) (hr : cJ a.nx kd ep at' d.length) (hA : lq w2 ra sm' sd (BP a kd ep at' d)) (hf : aD w1 sm') (hx : Ext (fun j => j = ra) w1 w2)
  (hm : ag w2 ms' (bz (aV [1, a.nx, kd, ep, at'] d))) (hmf : ∀ j, au ms' j -> r41 < j) : AI w w2 ra r41 (tag + 1) true false ms' (BP a kd ep at' d) sm' sd := by
 have hlo := h.lo
 have hnx := h.nx
 have hr1 := hr.1
 obtain ⟨y1, y2, y3, u, o, hu⟩ := h.o
 refine ⟨hA, by show a.nx + 1 = tag + 1; rw [hnx], rfl, rfl, fun _ => ⟨by show a.nx = tag + 1 - 1; omega, hr1⟩, by omega, fun _ => ⟨hm, hmf⟩, ⟨y1, y2, y3, u, o.ext hx (fun hh => by have e : r41 = ra := hh; omega), (fun g => by cases g)⟩, fun j hj => by have := hf j hj; omega, h.fd, h.kp.ext hx (fun j hj => by have e : j = ra := hj; omega), hlo.1, hlo.2.1, by have := hx.size; omega⟩
theorem vm (A : Nat -> Addr) (first : Int) (sl0 : Slc) (xs : List A0) (w : World) (hl : yZ w sl0 xs) (hE : ba A w) :
  Calls Tryz.prog cW ⟨[.int .i64 first, sl0.v]⟩ w fun e w' => e = .returned (.bool true) /\ aj w w' := by
 refine jy _ _ ?_
 unfold gl
 have hB : bh A w.heap.size w := hE.b
 have hll := hl.1
 refine (xm A w hE).mono ?_
 rintro e w3 ⟨rfl, k3⟩
 refine ⟨_, rfl, ao (fun h => by cases h) (fun _ => ae (fun h60 => ⟨rfl, k3⟩) (fun h60 => (oO A first w3 (hE.af k3)).mono ?_))⟩
 rintro e w7 ⟨k7, hc⟩
 have kk7 := k3.trans k7
 rcases hc with ⟨hbad, rfl⟩ | ⟨hgood, ra, rfl, hA, hra⟩
 ·have num : Calls Tryz.prog bm ⟨[cj A (some 0)]⟩ w7 fun e w' => ∃ n : Int, e = .returned (.int .i64 n) /\ (Ending.returned (Value.bool (decide (n = (1 : Int)))) = .returned (.bool true) /\ aj w w') :=
   (uB A (some 0) (fun j hj => by cases hj; omega) w7 (hE.af kk7)).mono (by
    rintro e w12 ⟨rfl, k12⟩
    exact ⟨_, rfl, rfl, kk7.trans k12⟩)
  refine ⟨_, _, rfl, fun _ => False, ae (fun _ => ao (fun _ => num) (fun hh => by cases hh)) (fun g => ae (fun _ => ao (fun _ => num) (fun hh => by cases hh)) (fun g2 => by omega)), fun _ hh => hh.elim⟩
 refine ⟨_, _, rfl, fun w2 => w2 = w7, ae (fun g => by omega) (fun g => ae (fun g2 => by omega) (fun _ => rfl)), ?_⟩
 rintro w17 rfl
 intros
 refine ⟨fun w2 => w2 = w17, ⟨trivial, ao (fun hh => by cases hh) (fun _ => ao (fun hh => by cases hh) (fun _ => rfl))⟩, ?_⟩
 rintro w33 rfl
 intros
 refine aq (fun r41 w42 hr41 hb41 k41 hs41 => ?_)
 have z3 := k3.size
 have z7 := k7.size
 have z42 := k41.size
 have lra := hA.o.lt
 have nilO : ∀ x, ¬ au (⟨none, 0, 0⟩ : Slc) x := by rintro x ⟨a, ha, _⟩; cases ha
 have I0 : AI w w42 ra r41 first false false ⟨none, 0, 0⟩ ⟨first, none, 0, 0, 0, 0, [], false⟩ ⟨none, 0, 0⟩ ⟨none, 0, 0⟩ :=
  ⟨hA.af k41, rfl, rfl, rfl, (fun g => by cases g), by omega, (fun g => by cases g), ⟨0, 0, 0, ⟨none, 0, 0⟩, ak.cF hb41, (fun g => by cases g)⟩, fun j hj => (nilO j hj).elim, fun j hj => (nilO j hj).elim, kk7.trans k41, by omega, by omega, by omega⟩
 refine ⟨fun tag busy has ms i w2 => ∃ t : Nat, i = t /\ t <= xs.length /\ ∃ a sm sd, AI w w2 ra r41 tag busy has ms a sm sd, fun _ _ _ _ i _ => ((xs.length : Int) - i).toNat, ⟨0, rfl, by omega, _, _, _, I0⟩, ?_⟩
 rintro tag busy has ms i w50 ⟨t, rfl, ht, a, sm, sd, I⟩
 intros
 refine ae (fun h1 => ?_) (fun h1 => ⟨rfl, I.kp⟩)
 have htl : t < xs.length := by omega
 obtain ⟨a1, sq, sb, ha1, hrow, hq0, hb0, hc0⟩ := hl.2 t htl
 generalize hact : xs[t] = x at hrow hq0 hb0
 refine aa ha1 ⟨by omega, h1, _, _, _, _, _, _, _, _, by rw [Int.toNat_natCast]; exact tH hrow I.kp, ?_⟩
 refine qU (cs := jI x sq sb) rfl rfl (fun r254 w256 hr254 o254 k254 hs254 => ?_)
 have I256 := I.af k254
 have hbl := hb0.1
 have hql := hq0.1
 refine ⟨fun w2 => w2 = w256 /\ x.b.length <= 3000, ⟨sb, o254.cell 7 (by simp [jI]), ae (fun g => ⟨rfl, I256.kp⟩) (fun g => ⟨sq, o254.cell 5 (by simp [jI]), ae (fun g2 => ⟨rfl, I256.kp⟩) (fun g2 => ⟨rfl, by omega⟩)⟩)⟩, ?_⟩
 rintro w260 ⟨rfl, hb3⟩
 intros
 refine ⟨_, o254.cell 2 (by simp [jI]), _, o254.cell 3 (by simp [jI]), _, o254.cell 4 (by simp [jI]), sq, o254.cell 5 (by simp [jI]), ?_⟩
 refine qU (cs := lj tag x.kd x.ep x.a sq) rfl rfl (fun r277 w279 hr277 o277 k277 hs277 => ?_)
 have I279 := I256.af k277
 have o254' := o254.af k277
 have hq := ai hq0 I279.kp
 have hbb := ai hb0 I279.kp
 have hE279 := (hB.af I279.kp).up I279.kp.size
 have l41 := I279.lo
 refine ⟨fun tag busy has ms w2 => ∃ a sm sd, AI w w2 ra r41 tag busy has ms a sm sd, ⟨_, o254'.cell 0 (by simp [jI]), ae (fun g0 => ?_) (fun g0 => ae (fun g1 => ?_) (fun g1 => ?_))⟩, ?_⟩
 ·-- something is asked
  refine ⟨_, o277.cell 1 (by simp), _, o277.cell 2 (by simp), _, o277.cell 3 (by simp), sq, o277.cell 4 (by simp), (vY A I279.A hE279 x.kd x.ep x.a sq x.d hq).mono ?_⟩
  rintro e w287 ⟨f, rfl, hno, hok⟩
  refine ⟨f, _, rfl, ?_⟩
  have hra277 : r277 ≠ ra := by have := o277.lt; omega
  have x287 : Ext (fun j => j = ra) w279 w287 := by
   by_cases hn : rF a x.kd x.ep x.a x.d.length = none
   ·obtain ⟨_, _, _, _, _, _, g⟩ := hok hn; exact g
   ·exact (hno hn).1.mono (fun _ h => h.elim)
  have o277' := o277.ext x287 hra277
  have kp287 : aj w w287 := I279.kp.ext x287 (fun j hj => by have e : j = ra := hj; omega)
  have hnx := I279.nx
  refine ⟨fun want w2 => want = eN (rF a x.kd x.ep x.a x.d.length) /\ aj w287 w2, ?_, ?_⟩
  ·unfold rF
   rw [I279.hb, hnx]
   refine ao (fun hb => ?_) (fun hb => ?_)
   ·rw [if_pos hb]; exact ⟨rfl, Ext.refl _ _⟩
   rw [if_neg (by rw [hb]; simp)]
   refine ae (fun g => ?_) (fun g => ?_)
   ·rw [if_pos g]; exact ⟨rfl, Ext.refl _ _⟩
   rw [if_neg g]
   refine ⟨_, _, _, _, _, o277'.row, (oN _ _ _ _ sq w287).mono ?_⟩
   rintro e w297 ⟨rfl, k297⟩
   rw [hql]
   refine ⟨_, rfl, aQ (fun g2 => ?_) (fun g2 => ?_)⟩
   ·rw [if_neg g2]; exact ⟨rfl, k297⟩
   ·rw [if_pos g2]; exact ⟨rfl, k297⟩
  ·rintro want w300 ⟨rfl, k300⟩
   intros
   have hlt : ∀ j, rF a x.kd x.ep x.a x.d.length = some j -> j < 19 := by
    intro j hj
    unfold rF at hj
    split at hj
    ·cases hj; omega
    ·split at hj
     ·cases hj; omega
     ·split at hj
      ·cases hj
      ·cases hj; omega
   refine (uB A _ hlt w300 (hE.af (kp287.trans k300))).mono ?_
   rintro e w311 ⟨rfl, k311⟩
   have k311' := k300.trans k311
   refine ⟨_, rfl, aQ (fun hh => absurd rfl hh) (fun _ => ae (fun hz => ?_) (fun hz => ?_))⟩
   ·have hn := AX hz
    obtain ⟨hfb, hff, hfc, sm', hA', hsm', hx'⟩ := hok hn
    have hr : cJ a.nx x.kd x.ep x.a x.d.length := by
     unfold rF at hn
     split at hn
     ·cases hn
     ·split at hn
      ·cases hn
      ·split at hn
       ·assumption
       ·cases hn
    have hr' := hr
    rw [hnx] at hr'
    refine ⟨_, _, _, _, _, (o277'.af k311').row, (xj _ _ _ _ sq x.d w311 (ai hq0 (kp287.trans k311')) hr').mono ?_⟩
    rintro e w319 ⟨s320, rfl, k319, hf3, hc3, hb3'⟩
    have kk := k311'.trans k319
    have hz279 := hx'.size
    have hz311 := k311'.size
    rw [<- hnx] at hb3'
    have bd := I279.bd
    refine ⟨s320, rfl, aA (by omega), _, ai hfb kk, _, hb3', aQ (fun hh => absurd rfl hh) (fun _ => ⟨BP a x.kd x.ep x.a x.d, sm', sd, ?_⟩)⟩
    exact AI.asked I279 hr (hA'.af kk) hsm' (hx'.trans kk (fun _ h => h) (fun _ h => h.elim)) hb3' (fun j hj => by have := hf3 j hj; omega)
   ·have hn : rF a x.kd x.ep x.a x.d.length ≠ none := fun hh => hz (by rw [hh]; rfl)
    exact ⟨a, sm, sd, (I279.af (hno hn).1).af k311'⟩
 ·-- asked again
  refine (Ao I279.A).mono ?_
  rintro e w324 ⟨f, rfl, hfb, hff, hfc, k324⟩
  have I324 := I279.af k324
  refine ⟨f, _, rfl, ?_⟩
  rw [I279.hb]
  refine ao (fun hh => by simp at hh) (fun _ => ao (fun hb => ⟨_, hfb, _, (I324.ms hb).1, aQ (fun hh => absurd rfl hh) (fun _ => ⟨a, sm, sd, I324⟩)⟩) (fun _ => ⟨a, sm, sd, I324⟩))
 ·-- something is heard
  refine ⟨sb, o254'.cell 7 (by simp [jI]), fun b w2 => (∃ bs, ag w2 b bs) /\ b.l <= 2 ^ 20 /\ b.l <= b.c /\ aj w279 w2, ⟨_, o254'.cell 6 (by simp [jI]), ?_⟩, ?_⟩
  ·have same : (∃ bs, ag w279 sb bs) /\ sb.l <= 2 ^ 20 /\ sb.l <= sb.c /\ aj w279 w279 := ⟨⟨_, hbb⟩, by omega, hc0, Ext.refl _ _⟩
   refine ao (fun _ => ao (fun hb => ?_) (fun _ => same)) (fun _ => same)
   obtain ⟨g1, g2, g3⟩ := I279.tg hb
   have bd := I279.bd
   have hr : gR (tag - 1) 0 5 ([] : List UInt8).length := ⟨⟨by omega, by omega⟩, ⟨by omega, by omega⟩, ⟨by omega, by omega⟩, by simp⟩
   refine ⟨aA (by omega), (vl (tag - 1) 0 5 ⟨none, 0, 0⟩ [] w279 ⟨rfl, .inl rfl⟩ hr).mono ?_⟩
   rintro e w333 ⟨s334, rfl, k333, _, hc3, hb3'⟩
   have hl3 := hb3'.1
   exact ⟨s334, rfl, ⟨_, hb3'⟩, by rw [hl3, bU]; have := nN hr; omega, hc3, k333⟩
  ·rintro b w336 ⟨⟨bs, hbs⟩, hbl2, hbc, k336⟩
   intros
   have I336 := I279.af k336
   refine (uS b bs w336 hbs hbl2 hbc).mono ?_
   rintro e w347 ⟨qv, pv, kind, ec, rfl, hres, k347⟩
   obtain ⟨tq, kd, ep, at', sq2, t2, e2, n2, sp, rfl, rfl, hcase⟩ := hres.AT
   refine ⟨_, _, _, _, _, _, _, _, _, _, _, rfl, ?_⟩
   refine aq (fun r359 w360 hr359 hb359 k359 hs359 => aq (fun r361 w362 hr361 hb361 k361 hs361 => ?_))
   obtain ⟨a1', a2'⟩ := ((ak.cF hb359).af k361).cO (n := 5) (cs := lj tq kd ep at' sq2) rfl rfl
   refine ⟨a1', fun w363 hw363 => ?_⟩
   obtain ⟨o359, e359, _⟩ := a2' w363 hw363
   obtain ⟨b1', b2'⟩ := ((ak.cF hb361).ext e359 (by omega)).cO (n := 4) (cs := dN t2 e2 n2 sp) rfl rfl
   refine ⟨b1', fun w364 hw364 => ?_⟩
   obtain ⟨o361, e361, _⟩ := b2' w364 hw364
   have z336 := k336.size
   have z347 := k347.size
   have z360 := k359.size
   have k364' : aj w347 w364 := ((k359.trans k361).ext e359 (fun j hj => by omega)).ext e361 (fun j hj => by omega)
   have k364 := k347.trans k364'
   have I364 := I336.af k364
   have hbs364 := ai hbs k364
   have hE364 := (hB.af I364.kp).up I364.kp.size
   have quiet : hearS a bs = none -> Calls Tryz.prog bq ⟨[aw ra, b.v]⟩ w364 fun e w' => ∃ b376 : Bool, e = .returned (.bool b376) /\ BIf (!(b376 == false)) (Ending.returned (Value.bool false) = .returned (.bool true) /\ aj w w') (∃ a sm sd, AI w w' ra r41 tag busy has ms a sm sd) := fun hn =>
    (rG A I364.A hE364 b bs hbs364 hbl2 hbc).mono (by
     rintro e w375 ⟨rfl, hk, _⟩
     rw [hn]
     exact ⟨_, rfl, ao (fun hh => by cases hh) (fun _ => ⟨a, sm, sd, I364.af (hk hn)⟩)⟩)
   rcases hcase with ⟨rfl, rfl, db, hR, _⟩ | ⟨rfl, rfl, db, hR, hbq, hcq, hfq⟩ | ⟨hne, rfl, j, hR⟩
   ·exact ae (fun _ => ae (fun hh => absurd hh (by decide)) (fun _ => quiet (uT (fun t e n d hh => by rw [hR] at hh; cases hh)))) (fun hh => absurd rfl hh)
   rotate_left
   ·exact ae (fun hh => absurd hh hne) (fun _ => quiet (uT (fun t e n d hh => by rw [hR] at hh; cases hh)))
   refine ae (fun _ => ae (fun _ => ao (fun hb => ?_) (fun hb => quiet (BT (by rw [I364.hb]; exact hb)))) (fun hh => absurd rfl hh)) (fun hh => absurd rfl hh)
   obtain ⟨g1', g2', g3'⟩ := I364.tg hb
   have bd := I364.bd
   refine ⟨_, o361.cell 0 (by simp), aA (by omega), (rG A I364.A hE364 b bs hbs364 hbl2 hbc).mono ?_⟩
   rintro e w367 ⟨rfl, hk, hy⟩
   have hms : a.msg.isSome = true := by rw [I364.hb]; exact hb
   by_cases heq : t2 = tag - 1
   ·have hS : hearS a bs = some { a with msg := none, rt := t2, re := e2, rn := n2, rd := db, has := true } := by
     unfold hearS; rw [hR]; dsimp only; rw [if_pos ⟨hms, by omega⟩]
    obtain ⟨sd', hA', hf', hx'⟩ := hy _ hS
    rw [hS]
    refine ⟨_, rfl, ao (fun hh => by simp [heq] at hh) (fun _ => ae (fun _ => ?_) (fun hh => absurd heq hh))⟩
    have kd : aj w367 (World.drew w367) := Ext.drew _ _
    have l361 := o361.lt
    have lo := I364.lo
    have lo336 := I336.lo
    have or := (o361.ext hx' (fun hh => by have e : r361 = ra := hh; omega)).af kd
    obtain ⟨y1, y2, y3, u, o41, _⟩ := I364.o
    have o41d := (o41.ext hx' (fun hh => by have e : r41 = ra := hh; omega)).af kd
    obtain ⟨c1, c2⟩ := o41d.cO (n := 4) (cs := dN t2 e2 n2 sp) rfl rfl
    refine ⟨_, _, _, _, or.row, c1, fun w373 hw => ?_⟩
    obtain ⟨o373, e373, _⟩ := c2 w373 hw
    have hsp : ∀ j, au sp j -> r41 < j := fun j hj => by have := hfq j hj; omega
    have hspb : ag (World.drew w367) sp db := ai (aC (ai hbq k364') hx' (fun j hj hh => by have := hsp j hj; have e : j = ra := hh; omega)) kd
    subst hb
    exact ⟨_, _, sd', AI.heard I364 (hA'.af kd) (hx'.trans kd (fun _ h => h) (fun _ h => h.elim)) hf' rfl rfl rfl ⟨rfl, rfl, rfl⟩ hspb hsp o373 e373⟩
   ·have hS : hearS a bs = none := by
     unfold hearS; rw [hR]; dsimp only; rw [if_neg (fun g => heq (by have := g.2; omega))]
    rw [hS]
    exact ⟨_, rfl, ao (fun hh => by simp [heq] at hh) (fun _ => ae (fun hh => absurd hh heq) (fun _ => ⟨a, sm, sd, I364.af (hk hS)⟩))⟩
 ·rintro tag' busy' has' ms' w387 ⟨a', sm', sd', I'⟩
  intros
  refine (BQ I'.A).mono ?_
  rintro e w503 ⟨xv, rfl, k503, hno, hyes⟩
  obtain ⟨z1, z2, z3', zs, rfl⟩ : ∃ (z1 z2 z3' : Int) (zs : Slc), xv = dN z1 z2 z3' zs := by
   cases hh : a'.has with
   | false => exact ⟨0, 0, 0, ⟨none, 0, 0⟩, hno hh⟩
   | true => obtain ⟨u, g, _⟩ := hyes hh; exact ⟨_, _, _, u, g⟩
  refine ⟨_, _, _, _, _, rfl, ?_⟩
  refine qU (cs := dN z1 z2 z3' zs) rfl rfl (fun r509 w511 hr509 o509 k509 hs509 => ?_)
  have kk := k503.trans k509
  have I511 := I'.af kk
  have fin : ∀ {X : World -> Prop}, Calls Tryz.prog bf ⟨[aw ra]⟩ w511 fun e w' => ∃ b524 : Bool, e = .returned (.bool b524) /\ BIf (!(b524 == busy')) (X w') (inR .i64 ((t : Int) + 1) /\ ((∃ t' : Nat, ((t : Int) + 1) = t' /\ t' <= xs.length /\ ∃ a sm sd, AI w w' ra r41 tag' busy' has' ms' a sm sd) /\ ((xs.length : Int) - ((t : Int) + 1)).toNat < ((xs.length : Int) - (t : Int)).toNat)) := fun {X} =>
   (lu I511.A).mono (by
    rintro e w523 ⟨rfl, rfl⟩
    rw [I511.hb]
    exact ⟨_, rfl, ao (fun hh => by simp at hh) (fun _ => ⟨aA (by omega), ⟨t + 1, by omega, htl, a', sm', sd', I511⟩, by omega⟩)⟩)
  rw [I511.hh]
  refine ao (fun hh => by simp at hh) (fun _ => ao (fun hh => ?_) (fun hh => fin))
  obtain ⟨u, hxu, hbu⟩ := hyes (by rw [I511.hh]; exact hh)
  obtain ⟨y1, y2, y3, u2, o41, hu2⟩ := I511.o
  obtain ⟨q1, q2, q3, q4, _⟩ := hu2 hh
  rw [hxu] at o509
  have hz1 : z1 = a'.rt /\ z2 = a'.re /\ z3' = a'.rn := by
   have := hxu
   simp [dN] at this
   exact ⟨this.1, this.2.1, this.2.2.1⟩
  subst q1 q2 q3
  refine ⟨_, o509.cell 0 (by simp), _, o41.cell 0 (by simp), aQ (fun g => absurd rfl g) (fun _ => ⟨_, o509.cell 1 (by simp), _, o41.cell 1 (by simp), aQ (fun g => absurd rfl g) (fun _ => ⟨_, o509.cell 2 (by simp), _, o41.cell 2 (by simp), aQ (fun g => absurd rfl g) (fun _ => ⟨u, o509.cell 3 (by simp), _, ai hbu k509, u2, o41.cell 3 (by simp), _, q4, aQ (fun g => absurd rfl g) (fun _ => fin)⟩)⟩)⟩)⟩
theorem wM (first : Int) (sl0 : Slc) (xs : List (Int × (Int × Int × Int × Int × (Slc × List UInt8)) × Bool × (Slc × List UInt8))) (w : World) (hl : xP A1 w sl0 xs) (A : Nat -> Addr) (hE : ba A w) :
  Calls Tryz.prog cW ⟨[.int .i64 first, sl0.v]⟩ w fun e w' => e = .returned (.bool true) /\ aj w w' := vm A first sl0 _ w (BS hl) hE
end Go.D

