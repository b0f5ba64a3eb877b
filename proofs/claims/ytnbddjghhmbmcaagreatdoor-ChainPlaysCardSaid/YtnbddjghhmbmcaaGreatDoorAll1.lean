/-
  WHAT IS PROVED: contracts of functions, and the plain law, for this proof. No further conditions.
-/
import Derived.Test.YtnbddjghhmbmcaaGreatDoorVCsums
import Derived.Test.YtnbddjghhmbmcaaGreatDoorRd
import Derived.Test.YtnbddjghhmbmcaaGreatDoorMem
import Derived.Test.YtnbddjghhmbmcaaGreatDoorVCnum
import Derived.Test.YtnbddjghhmbmcaaGreatDoorIsFacts
import Derived.Test.YtnbddjghhmbmcaaGreatDoorLaid
import Derived.Test.YtnbddjghhmbmcaaGreatDoorVCdisk
import Derived.Test.YtnbddjghhmbmcaaGreatDoorRowsM
import Derived.Test.YtnbddjghhmbmcaaGreatDoorRangeM
import Derived.Test.YtnbddjghhmbmcaaGreatDoorCopyM
import Derived.Test.YtnbddjghhmbmcaaGreatDoorVCsegs1
import Derived.Test.YtnbddjghhmbmcaaGreatDoorVCsegs3
import Derived.Test.YtnbddjghhmbmcaaGreatDoorVCsegs4
import Derived.Test.YtnbddjghhmbmcaaGreatDoorVCsegs2
import Derived.Test.YtnbddjghhmbmcaaGreatDoorVCchunk
import Derived.Test.YtnbddjghhmbmcaaGreatDoorSub
set_option linter.unusedVariables false
set_option linter.unusedSimpArgs false
namespace Go.D
open Go Go.Proofs
theorem fO (s : Slc) (b : List UInt8) (w : World) (hb : au w s b) (hl : s.l <= 2 ^ 30) :
  Calls Tryz.prog aQ ⟨[s.v]⟩ w fun e w' => ∃ t : Slc, e = .returned t.v /\ Own w' t 1 (b.map aS) /\ aN w t /\ ah w w' := by
 refine qn _ ?_
 unfold mz
 refine aj (fun h => ?_) (fun h => ?_)
 ·have hp : s.p = none := by simpa using h
  have hb0 : b = [] := by
   rcases hb.2 with h0 | ⟨a, ha, _⟩
   ·simpa using h0
   ·rw [hp] at ha; cases ha
  subst hb0
  exact ⟨_, rfl, Own.nil _ _, aN.nil _ _ _, Ext.refl _ _⟩
 ·refine ao (fun r w1 hr hb1 hk hs => ?_)
  refine fx (vs := []) (w0 := w) (Own.new (sz := 1) (n := 0) hb1 (.inl (by simp)) rfl) rfl (aN.at (by omega)) hk (eD (aG hb hk)) (by simp only [Src.n]; omega) (fun s' w' h1 h2 h3 h4 => ?_)
  exact ⟨s', rfl, by simpa using h1, h3, h2⟩
end Go.D
namespace Go.D
open Go
theorem fu {w : World} {s : Slc} {b : List UInt8} (h : au w s b) (hl : 0 < s.l) : ∀ k, ai s k -> k < w.heap.size := by
 rintro k ⟨a, ha, rfl⟩
 have hb : 0 < (b.map aS).length := by rw [List.length_map, <- h.1]; exact hl
 obtain ⟨a', ha', hc⟩ := bc h.2 hb
 rw [ha] at ha'
 cases ha'
 have := World.block_lt_of_cell? w _ hc
 rwa [ew] at this
theorem aZ {M : Nat -> Prop} {w w' : World} {s : Slc} {b : List UInt8} (h : au w s b) (he : Ext M w w') (hm : 0 < s.l -> ∀ k, ai s k -> ¬ M k) : au w' s b := by
 rcases Nat.eq_zero_or_pos s.l with h0 | h0
 ·have : b = [] := by have := h.1; rw [h0] at this; exact List.length_eq_zero_iff.1 this.symm
  subst this
  exact ⟨h.1, .inl rfl⟩
 ·exact cC h he (hm h0)
abbrev av (r : Nat) : Value := .pointer (some ⟨r, 0, none⟩)
theorem jk {w : World} {a : Addr} {cs : List Value} (h : rowAt w a 0 cs) (j : Nat) (hj : j < cs.length) : w.cell? (a.add j) = some cs[j] := by
 have := qT h j hj
 rwa [Nat.zero_add] at this
end Go.D
namespace Go.D
open Go Go.Proofs
def gw : List Nat := [aD, iQ, jJ, aH, zM, xo, xp, fN, eK, ez, eL, dW, lG, jX, vh, lH, iR, vi, vj]
abbrev mj (A : Nat -> Addr) (g : Nat) : Value := .iface BF (.pointer (some (A g)))
abbrev cP (A : Nat -> Addr) (w : World) : Prop := nc BF gw A w
theorem lT {k : Nat} (hk : k < 19) : gw.getD k 0 ∈ gw := by
 have : gw.getD k 0 = gw[k]'(by simpa [gw] using hk) := by
  simp only [List.getD]
  rw [List.getElem?_eq_getElem (by simpa [gw] using hk)]
  rfl
 rw [this]
 exact List.getElem_mem _
theorem Fm {i j : Nat} (hi : i < 19) (hj : j < 19) (h : gw.getD i 0 = gw.getD j 0) : i = j := by
 have : ∀ i < 19, ∀ j < 19, gw.getD i 0 = gw.getD j 0 -> i = j := by decide
 exact this i hi j hj h
theorem cP.at {A : Nat -> Addr} {w : World} (h : cP A w) (k : Nat) (hk : k < 19) : w.cell? (⟨gw.getD k 0, 0, none⟩ : Addr) = some (mj A (gw.getD k 0)) := (h.1 _ (lT hk)).1
theorem cP.is {A : Nat -> Addr} {w : World} (h : cP A w) {i j : Nat} (hi : i < 19) (hj : j < 19) :
  Calls Tryz.prog gK ⟨[mj A (gw.getD i 0), mj A (gw.getD j 0)]⟩ w fun e w' => e = .returned (.bool (decide (i = j))) /\ w' = w := by
 by_cases hij : i = j
 ·subst hij
  rw [decide_eq_true rfl]
  exact GL _ _
 ·rw [decide_eq_false hij]
  obtain ⟨_, c1, t1, h1⟩ := h.1 _ (lT hi)
  obtain ⟨_, c2, t2, h2⟩ := h.1 _ (lT hj)
  exact Fi _ _ c1 c2 t1 t2 _ (fun he => hij (Fm hi hj (h.2 _ (lT hi) _ (lT hj) he))) h1 h2
theorem GO (w : World) : Calls Tryz.prog az ⟨[.nilIface]⟩ w fun e w' => e = .returned (.int .i64 0) /\ w' = w := by
 refine kH _ ?_
 exact ⟨trivial, aj (fun _ => ⟨rfl, rfl⟩) (fun h => by cases h)⟩
theorem Fo (A : Nat -> Addr) (k : Nat) (hk : k < 19) (w : World) (h : cP A w) :
  Calls Tryz.prog az ⟨[mj A (gw.getD k 0)]⟩ w fun e w' => e = .returned (.int .i64 ((k + 1 : Nat) : Int)) /\ ah w w' := by
 refine kH _ ?_
 unfold nK
 refine ⟨trivial, aj (fun h => by cases h) (fun _ => ?_)⟩
 refine ⟨_, cP.at h 0 (by omega), _, cP.at h 1 (by omega), _, cP.at h 2 (by omega), _, cP.at h 3 (by omega), _, cP.at h 4 (by omega), _, cP.at h 5 (by omega), _, cP.at h 6 (by omega), _, cP.at h 7 (by omega), _, cP.at h 8 (by omega), _, cP.at h 9 (by omega), _, cP.at h 10 (by omega), _, cP.at h 11 (by omega), _, cP.at h 12 (by omega), _, cP.at h 13 (by omega), _, cP.at h 14 (by omega), _, cP.at h 15 (by omega), _, cP.at h 16 (by omega), _, cP.at h 17 (by omega), _, cP.at h 18 (by omega), ?_⟩
 refine ao (fun r w1 hr hb hkp hs => ?_)
 refine ⟨fun i w2 => w2 = w1 /\ ∃ n : Nat, i = n /\ n <= k, fun i _ => (19 - i).toNat, ⟨rfl, 0, rfl, by omega⟩, ?_⟩
 rintro i w2 ⟨rfl, n, rfl, hn⟩
 intros
 refine af (fun h1 => ?_) (fun h1 => by omega)
 refine ⟨by omega, h1, mj A (gw.getD n 0), ?_, ?_⟩
 ·have e : (Int.toNat (n : Int)) * 1 = n := by omega
  rw [e, add_lit, Nat.zero_add, cell_of hb]
  have : n < 19 := by omega
  show ((List.range 19).map fun k => mj A (gw.getD k 0))[n]? = _
  simp [this]
 ·refine (cP.is (h.ae hkp) hk (by omega)).mono ?_
  rintro e w3 ⟨rfl, rfl⟩
  refine ⟨_, rfl, aj (fun h2 => ?_) (fun h2 => ?_)⟩
  ·have : k = n := by simpa using h2
   subst this
   exact ⟨ar (by omega), by simp, hkp⟩
  ·have : k ≠ n := by simpa using h2
   exact ⟨ar (by omega), ⟨rfl, n + 1, rfl, by omega⟩, by dsimp only; omega⟩
end Go.D
namespace Go.D
open Go Go.Proofs
def dL (A : Nat -> Addr) (n0 : Nat) (w : World) : Prop := cP A w /\ ∀ g ∈ gw, g < n0 /\ (A g).block < n0
abbrev Old (n0 : Nat) := Ext (fun k => n0 <= k)
theorem Old.trans {n0 : Nat} {a b c : World} (h1 : Old n0 a b) (h2 : Old n0 b c) : Old n0 a c := Ext.trans h1 h2 (fun _ h => h) (fun _ h => .inl h)
theorem cP.b {A : Nat -> Addr} {w : World} (h : cP A w) : dL A w.heap.size w := by
 refine ⟨h, fun g hg => ?_⟩
 obtain ⟨h1, c, t, h2⟩ := h.1 g hg
 refine ⟨?_, bL h2⟩
 have := World.block_lt_of_cell? w _ h1
 exact this
theorem dL.ext {A : Nat -> Addr} {n0 : Nat} {M : Nat -> Prop} {w w' : World} (h : dL A n0 w) (he : Ext M w w') (hm : ∀ k, M k -> n0 <= k) : dL A n0 w' := by
 refine ⟨⟨fun g hg => ?_, h.1.2⟩, h.2⟩
 obtain ⟨h1, c, t, h2⟩ := h.1.1 g hg
 obtain ⟨b1, b2⟩ := h.2 g hg
 exact ⟨he.cell h1 (fun hh => by have := hm _ hh; simp only at this; omega), c, t, he.heap h2 (fun hh => by have := hm _ hh; omega)⟩
theorem dL.ae {A : Nat -> Addr} {n0 : Nat} {w w' : World} (h : dL A n0 w) (he : ah w w') : dL A n0 w' := h.ext he (fun _ h => h.elim)
def bK (G : List Nat) (A : Nat -> Addr) (n0 : Nat) (w : World) : Prop := nc BF G A w /\ ∀ g ∈ G, g < n0 /\ (A g).block < n0
theorem bK.ext {G : List Nat} {A : Nat -> Addr} {n0 : Nat} {M : Nat -> Prop} {w w' : World} (h : bK G A n0 w) (he : Ext M w w') (hm : ∀ k, M k -> n0 <= k) : bK G A n0 w' := by
 refine ⟨⟨fun g hg => ?_, h.1.2⟩, h.2⟩
 obtain ⟨h1, c, t, h2⟩ := h.1.1 g hg
 obtain ⟨b1, b2⟩ := h.2 g hg
 exact ⟨he.cell h1 (fun hh => by have := hm _ hh; simp only at this; omega), c, t, he.heap h2 (fun hh => by have := hm _ hh; omega)⟩
theorem bK.ae {G : List Nat} {A : Nat -> Addr} {n0 : Nat} {w w' : World} (h : bK G A n0 w) (he : ah w w') : bK G A n0 w' := h.ext he (fun _ h => h.elim)
theorem bK.sub {G H : List Nat} {A : Nat -> Addr} {n0 : Nat} {w : World} (h : bK G A n0 w) (k : ∀ g ∈ H, g ∈ G) : bK H A n0 w := ⟨h.1.sub k, fun g hg => h.2 g (k g hg)⟩
theorem bK.at {G : List Nat} {A : Nat -> Addr} {n0 : Nat} {w : World} (h : bK G A n0 w) {g : Nat} (hg : g ∈ G) : w.cell? (⟨g, 0, none⟩ : Addr) = some (mj A g) := (h.1.1 g hg).1
theorem bK.lt {G : List Nat} {A : Nat -> Addr} {n0 : Nat} {w : World} (h : bK G A n0 w) {g : Nat} (hg : g ∈ G) : g < n0 := (h.2 g hg).1
theorem dL.g {A : Nat -> Addr} {n0 : Nat} {w : World} (h : dL A n0 w) : bK gw A n0 w := h
def cm (A : Nat -> Addr) : Option Nat -> Value
 | none => .nilIface
 | some k => mj A (gw.getD k 0)
theorem aF (A : Nat -> Addr) (e : Option Nat) : isI (cm A e) := by cases e <;> trivial
theorem tP (A : Nat -> Addr) (e : Option Nat) : ∀ X : Prop, X -> oneK (cm A e) X := fun X h => by cases e <;> exact h
theorem Own.le {w : World} {s : Slc} {sz : Nat} {vs : List Value} (h : Own w s sz vs) (hsz : 0 < sz) : s.l <= s.c := by
 obtain ⟨hl, ⟨_, hv, hc⟩ | ⟨b, pad, T, f, _, _, h1, _⟩⟩ := h
 ·subst hv
  have : s.l * sz = 0 := by simpa using hl
  rcases Nat.mul_eq_zero.1 this with h | h <;> omega
 ·rw [List.length_append] at h1
  exact Nat.le_of_mul_le_mul_right (by omega) hsz
theorem eb {G : List Nat} {A : Nat -> Addr} {n0 : Nat} {w : World} (h : bK G A n0 w) (k : Nat) (g : Nat) (hg : g = gw.getD k 0) (hm : g ∈ G) : w.cell? (⟨g, 0, none⟩ : Addr) = some (cm A (some k)) := by
 subst hg; exact h.at hm
end Go.D
namespace Go.D
open Go Go.Proofs
abbrev Wr := Int × List UInt8
def wrC (n : Int) (s : Slc) : List Value := [.int .i64 n, s.v]
theorem tQ {n : Int} {s : Slc} {k : Nat} (h : lK (wrC n s) k) : 0 < s.l /\ ai s k := by
 obtain ⟨s', hs, h1, h2⟩ := h
 have : s' = s := by
  obtain ⟨p, l, c⟩ := s
  obtain ⟨p', l', c'⟩ := s'
  simp [wrC, Slc.v] at hs
  obtain ⟨rfl, rfl, rfl⟩ := hs
  rfl
 subst this
 exact ⟨h1, h2⟩
theorem xO {n : Int} {s : Slc} {k : Nat} (h0 : 0 < s.l) (h : ai s k) : lK (wrC n s) k := ⟨s, by simp [wrC], h0, h⟩
def WrR : AA Wr where
 n := 2
 pos := by omega
 R w x cs := ∃ s : Slc, cs = wrC x.1 s /\ au w s x.2 /\ s.l <= s.c
 len := by rintro w x cs ⟨s, rfl, _⟩; rfl
 one := by rintro w x cs ⟨s, rfl, _⟩; intro v hv; simp [wrC] at hv; rcases hv with rfl | rfl <;> rfl
 ext := by
  rintro M w w' x cs ⟨s, rfl, h, h2⟩ he hm
  exact ⟨s, rfl, aZ h he (fun h0 k hk => hm k (xO h0 hk)), h2⟩
 lt := by
  rintro w x cs ⟨s, rfl, h, _⟩ k hk
  obtain ⟨h0, hk⟩ := tQ hk
  exact fu h h0 k hk
structure cU where
 si : Slc
 sp : Slc
 wss : List (List Value)
structure aK where
 img : List UInt8
 aI : List Wr
 stops : Bool
 left : Int
def aK.n (d : aK) : Nat := d.img.length / 64
structure xP (d : aK) : Prop where
 m : d.img.length % 64 = 0
 l : d.img.length <= 262144
 p : ∀ x ∈ d.aI, 0 <= x.1 /\ x.1 < (d.n : Int) /\ x.2.length = 64
 f : 0 <= d.left /\ d.left <= 9223372036854775807
structure aP (w : World) (r : Nat) (q : cU) (d : aK) : Prop where
 o : aq w r [q.si.v, q.sp.v, .bool d.stops, .int .i64 d.left]
 i : Own w q.si 1 (d.img.map aS)
 p : Rows WrR w q.sp d.aI q.wss
 di : ¬ ai q.si r
 dp : ¬ ai q.sp r
 dd : ∀ k, ai q.si k -> ¬ ai q.sp k
 df : ∀ k, dK q.wss k -> k ≠ r /\ ¬ ai q.si k
 ok : xP d
def bp (r : Nat) (q : cU) (k : Nat) : Prop := k = r \/ ai q.si k \/ ai q.sp k \/ dK q.wss k
section
variable {w w' : World} {r : Nat} {q : cU} {d : aK}
theorem aP.ext {M : Nat -> Prop} (h : aP w r q d) (he : Ext M w w') (hm : ∀ k, bp r q k -> ¬ M k) : aP w' r q d :=
 ⟨h.o.ext he (hm r (.inl rfl)), h.i.ext he (fun k hk => hm k (.inr (.inl hk))), h.p.ext he (fun k hk => hm k (.inr (.inr (.inl hk)))) (fun k hk => hm k (.inr (.inr (.inr hk)))), h.di, h.dp, h.dd, h.df, h.ok⟩
theorem aP.ae (h : aP w r q d) (he : ah w w') : aP w' r q d := h.ext he (fun _ _ h => h)
theorem aP.lt (h : aP w r q d) : ∀ k, bp r q k -> k < w.heap.size := by
 rintro k (rfl | hk | hk | hk)
 ·exact h.o.lt
 ·exact cD h.i k hk
 ·exact h.p.lt k hk
 ·exact h.p.flt k hk
theorem aP.c0 (h : aP w r q d) : w.cell? ⟨r, 0, none⟩ = some q.si.v := h.o.cell 0 (by simp)
theorem aP.c1 (h : aP w r q d) : w.cell? ((⟨r, 0, none⟩ : Addr).add 1) = some q.sp.v := by rw [add_lit]; exact h.o.cell 1 (by simp)
theorem aP.c2 (h : aP w r q d) : w.cell? ((⟨r, 0, none⟩ : Addr).add 2) = some (.bool d.stops) := by rw [add_lit]; exact h.o.cell 2 (by simp)
theorem aP.c3 (h : aP w r q d) : w.cell? ((⟨r, 0, none⟩ : Addr).add 3) = some (.int .i64 d.left) := by rw [add_lit]; exact h.o.cell 3 (by simp)
theorem aP.il (h : aP w r q d) : q.si.l = d.img.length := by have := h.i.1; simpa using this
end
def pX : List Nat := [aD, aH, dW]
theorem mK {A : Nat -> Addr} {n0 : Nat} {w : World} (h : bK pX A n0 w) (k : Nat) (hk : k < 19) (g : Nat) (hg : g = gw.getD k 0) (hm : g ∈ pX := by simp [pX]) : w.cell? (⟨g, 0, none⟩ : Addr) = some (cm A (some k)) := by
 subst hg; exact h.at hm
theorem zY {w : World} {r : Nat} {q : cU} {d : aK} (h : aP w r q d) :
  Calls Tryz.prog fL ⟨[av r]⟩ w fun e w' => e = .returned (.int .i64 (d.n : Int)) /\ w' = w := by
 refine rO _ ?_
 unfold pw
 have hl := h.il
 have := h.ok.l
 refine aa rfl ⟨_, h.c0, by omega, by omega, ar (by omega), ?_, rfl⟩
 rw [hl]; rfl
def xQ (d : aK) (i : Int) : Bool := decide (0 <= i /\ i < (d.n : Int))
theorem zZ {w : World} {r : Nat} {q : cU} {d : aK} (h : aP w r q d) (i : Int) :
  Calls Tryz.prog fM ⟨[av r, .int .i64 i]⟩ w fun e w' => e = .returned (.bool (xQ d i)) /\ w' = w := by
 refine rP _ _ ?_
 unfold px xQ
 refine af (fun h0 => ?_) (fun h0 => ⟨by rw [decide_eq_false (by omega)], rfl⟩)
 refine (zY h).mono ?_
 rintro e w4 ⟨rfl, rfl⟩
 exact ⟨_, rfl, by congr 2; simp [h0], rfl⟩
def fj (d : aK) : Bool × aK := if d.stops = false then (false, d) else if d.left = 0 then (true, d) else (false, { d with left := d.left - 1 })
theorem oh (d : aK) : (fj d).2.img = d.img := by unfold fj; split; rfl; split <;> rfl
theorem o0 (d : aK) : (fj d).2.aI = d.aI := by unfold fj; split; rfl; split <;> rfl
theorem mL (d : aK) : (fj d).2.stops = d.stops := by unfold fj; split; rfl; split <;> rfl
theorem xR {w : World} {r : Nat} {q : cU} {d : aK} (h : aP w r q d) :
  Calls Tryz.prog eZ ⟨[av r]⟩ w fun e w' => e = .returned (.bool (fj d).1) /\ aP w' r q (fj d).2 /\ Ext (fun k => k = r) w w' := by
 refine rh _ ?_
 unfold nI fj
 refine aa rfl ⟨_, h.c2, aj (fun h0 => ?_) (fun h0 => ?_)⟩
 ·have : d.stops = false := by simpa using h0
  rw [if_pos this]
  exact ⟨rfl, h, Ext.refl _ _⟩
 ·have : ¬ d.stops = false := by simpa using h0
  rw [if_neg this]
  refine aa rfl ⟨_, h.c3, af (fun h1 => ?_) (fun h1 => ?_)⟩
  ·rw [if_pos h1]; exact ⟨rfl, h, Ext.refl _ _⟩
  ·rw [if_neg h1]
   have hf := h.ok.f
   refine aa rfl ⟨_, h.c3, ar (by omega), aa rfl ?_⟩
   obtain ⟨g1, g2⟩ := h.o.bf 3 (by simp) (.int .i64 (d.left - 1))
   rw [add_lit]
   refine ⟨g1, fun w9 hw9 => ?_⟩
   obtain ⟨g3, g4, g5⟩ := g2 w9 hw9
   exact ⟨rfl, ⟨g3, h.i.ext g4 (fun k hk hh => h.di (hh ▸ hk)), h.p.ext g4 (fun k hk hh => h.dp (hh ▸ hk)) (fun k hk hh => (h.df k hk).1 hh), h.di, h.dp, h.dd, h.df, ⟨h.ok.m, h.ok.l, h.ok.p, by simp only; omega⟩⟩, g4⟩
theorem GP {w : World} {si : Slc} {img : List UInt8} {T : TypeId} {K : Value -> World -> Prop} (hi : Own w si 1 (img.map aS)) (hm : img.length % 64 = 0) (hl : img.length <= 262144)
  (hK : ∀ r w', aP w' r ⟨si, ⟨none, 0, 0⟩, []⟩ ⟨img, [], false, 0⟩ -> ah w w' -> w.heap.size <= r -> K (av r) w') :
  aA w (.cells ⟨[si.v, (⟨none, 0, 0⟩ : Slc).v, .bool false, .int .i64 0]⟩ T) fun r w1 => K (av r) w1 := by
 refine ao (fun r w1 hr hb hk hs => hK r w1 ⟨aq.eS hb, hi.ae hk, Rows.nil WrR w1, fun hh => by have := cD hi r hh; omega, ?_, ?_, ?_, ⟨hm, hl, by simp, by simp⟩⟩ hk (by omega))
 ·rintro ⟨a, ha, _⟩; cases ha
 ·rintro k _ ⟨a, ha, _⟩; cases ha
 ·rintro k ⟨cs, hc, _⟩; simp at hc
theorem Fp {r : Nat} {si : Slc} {w0 : World} (hr : w0.heap.size <= r) (hf : aN w0 si) : ∀ k, bp r ⟨si, ⟨none, 0, 0⟩, []⟩ k -> w0.heap.size <= k := by
 rintro k (rfl | hk | ⟨a, ha, _⟩ | ⟨cs, hc, _⟩)
 ·exact hr
 ·exact hf k hk
 ·cases ha
 ·simp at hc
def Fq (n : Nat) : aK := ⟨List.replicate (n * 64) 0, [], false, 0⟩
theorem En (A : Nat -> Addr) (n : Int) (w : World) {n0 : Nat} (hE : bK pX A n0 w) :
    Calls Tryz.prog mv ⟨[.int .i64 n]⟩ w fun e w' => ah w w' /\
      (if n < 1 \/ 4096 < n then e = .returned (.tuple ⟨[.pointer none, cm A (some 0)]⟩)
       else ∃ r q, e = .returned (.tuple ⟨[av r, .nilIface]⟩) /\ aP w' r q (Fq n.toNat) /\ ∀ k, bp r q k -> w.heap.size <= k) := by
  refine BH _ ?_
  unfold BG
  refine af (fun h0 => ?_) (fun h0 => af (fun h1 => ?_) (fun h1 => ?_))
  · exact ⟨_, mK hE 0 (by omega) _ rfl, Ext.drew _ _, by rw [if_pos (.inl h0)]⟩
  · exact ⟨_, mK hE 0 (by omega) _ rfl, Ext.drew _ _, by rw [if_pos (.inr h1)]⟩
  · refine ⟨ar (by omega), by omega, by omega, by omega, ao (fun r w5 hr hb hk hs => ?_)⟩
    have e1 : Int.toNat (n * 64) = n.toNat * 64 := by omega
    rw [e1] at hb
    have ho := Own.DE hb
    rw [e1]
    refine GP (K := fun v w' => ah w w' /\ (if n < 1 \/ 4096 < n then Ending.returned (Value.tuple ⟨[v, Value.nilIface]⟩) = .returned (.tuple ⟨[.pointer none, cm A (some 0)]⟩)
       else ∃ r q, Ending.returned (Value.tuple ⟨[v, Value.nilIface]⟩) = .returned (.tuple ⟨[av r, .nilIface]⟩) /\ aP w' r q (Fq n.toNat) /\ ∀ k, bp r q k -> w.heap.size <= k)) ho (by simp) (by simp; omega) (fun r6 w7 h7 k7 hr6 => ?_)
    exact ⟨hk.trans k7, by rw [if_neg (by omega)]; exact ⟨r6, _, rfl, h7, Fp (by have := hk.size; omega) (aN.at (by omega))⟩⟩
end Go.D
namespace Go.D
open Go Go.Proofs
def dZ (img : List UInt8) (at_ : Int) (data : List UInt8) (cut : Nat) : List UInt8 := img.take (at_.toNat * 64) ++ data.take cut ++ img.drop (at_.toNat * 64 + cut)
theorem rF {img : List UInt8} {at_ : Int} {data : List UInt8} {cut : Nat} (hm : img.length % 64 = 0) (h0 : 0 <= at_) (h1 : at_ < ((img.length / 64 : Nat) : Int)) (hd : data.length = 64) (hc : cut <= 64) :
  (dZ img at_ data cut).length = img.length := by
 unfold dZ
 simp only [List.length_append, List.length_take, List.length_drop]
 omega
theorem xP.put {d : aK} (h : xP d) {img : List UInt8} (hl : img.length = d.img.length) : xP { d with img := img } :=
 ⟨by rw [hl]; exact h.m, by rw [hl]; exact h.l, fun x hx => by have := h.p x hx; unfold aK.n at this ⊢; rw [hl]; exact this, h.f⟩
theorem xP.sec {d : aK} (h : xP d) {at_ : Int} {data : List UInt8} {cut : Nat} (h0 : 0 <= at_) (h1 : at_ < (d.n : Int)) (hd : data.length = 64) (hc : cut <= 64) : xP { d with img := dZ d.img at_ data cut } :=
 h.put (rF h.m h0 h1 hd hc)
theorem Fs {w : World} {r : Nat} {q : cU} {d : aK} (h : aP w r q d) (at_ : Int) (s : Slc) (data : List UInt8) (cut : Int) (hb : au w s data) (hs : s.l <= s.c) (h0 : 0 <= at_) (h1 : at_ < (d.n : Int))
  (hc0 : 0 <= cut) (hc1 : cut <= 64) (hd : data.length = 64) (hlt : ∀ k, ai s k -> k < w.heap.size) :
  Calls Tryz.prog jg ⟨[av r, .agg ⟨wrC at_ s⟩, .int .i64 cut]⟩ w fun e w' => e = .returned (.tuple #[]) /\ aP w' r q { d with img := dZ d.img at_ data cut.toNat } /\ Ext (ai q.si) w w' := by
 refine th _ _ _ _ ?_
 unfold ql
 refine ao (fun r5 w6 hr5 hb5 k5 hs5 => ?_)
 have kd : ah w w6.drew := k5.drew
 have h6 := h.ae kd
 have o5 : aq w6.drew r5 (wrC at_ s) := (aq.eS hb5).ae (Ext.drew _ _)
 have hil := h.il
 have hnl := h.ok.l
 have hm := h.ok.m
 have hn : d.n = d.img.length / 64 := rfl
 have hic := h.i.le (by omega)
 have hsl := hb.1
 refine aa rfl ⟨_, h6.c0, at_, o5.cell 0 (by simp [wrC]), ar (by omega), by omega, by omega, by omega, by omega, s, o5.cell 1 (by simp [wrC]), by omega, by omega, by omega, by omega, ?_⟩
 have hb6 : au w6.drew s data := aG hb kd
 have hsub := iP hb6 (lo := 0) (hi := cut.toNat) (c := s.c) (by omega) (by omega) (by omega)
 have hdr : (data.take cut.toNat).drop 0 = data.take cut.toNat := by simp
 rw [hdr] at hsub
 have hln : (Slc.sub s 1 0 cut.toNat s.c).l = cut.toNat := by simp [Slc.sub]
 refine BK (sz := 1) (lo := (at_ * 64).toNat) (new := (data.take cut.toNat).map aS) h6.i (by rw [hln]; omega) hic (by rw [hln]; simp; omega) hsub.2 (nG _) (fun w' g1 g2 g3 => ?_)
 refine ⟨rfl, ?_, ?_⟩
 ·refine ⟨h6.o.ext g2 h.di, ?_, h6.p.ext g2 (fun k hk hh => h.dd k hh hk) (fun k hk hh => (h.df k hk).2 hh), h.di, h.dp, h.dd, h.df, h.ok.sec h0 h1 hd (by omega)⟩
  have e1 : (at_ * 64).toNat = at_.toNat * 64 := by omega
  have e2 : (data.take cut.toNat).length = cut.toNat := by rw [List.length_take]; omega
  rw [e1] at g1
  simp only [Nat.mul_one, List.length_map, e2] at g1
  simp only [dZ, List.map_append, List.map_take, List.map_drop]
  simpa only [List.map_take] using g1
 ·exact Ext.trans kd g2 (fun _ h => h.elim) (fun _ h => .inl h)
def applyL : List Wr -> List UInt8 -> List UInt8
 | [], m => m
 | x :: l, m => applyL l (dZ m x.1 x.2 64)
theorem BR (l : List Wr) (x : Wr) (m : List UInt8) : applyL (l ++ [x]) m = dZ (applyL l m) x.1 x.2 64 := by
 induction l generalizing m with
 | nil => rfl
 | cons y l ih => exact ih _
theorem aP.wr {w : World} {r : Nat} {q : cU} {d : aK} (h : aP w r q d) {k : Nat} (hk : k < d.aI.length) :
  ∃ (a : Addr) (s : Slc), q.sp.p = some a /\ rowAt w (a.add (k * 2)) 0 (wrC d.aI[k].1 s) /\ au w s d.aI[k].2 /\ s.l <= s.c /\ (∃ hk' : k < q.wss.length, q.wss[k] = wrC d.aI[k].1 s) /\ (0 < s.l -> ∀ j, ai s j -> dK q.wss j) := by
 have hk2 : k < q.wss.length := by rw [h.p.len]; exact hk
 obtain ⟨a, ha, hsp, hrow⟩ := h.p.get hk2
 obtain ⟨s, hs, hb, hc⟩ := h.p.row k hk2 hk
 rw [hs] at hrow
 exact ⟨a, s, ha, hrow, hb, hc, ⟨hk2, hs⟩, fun h0 j hj => ⟨_, List.getElem_mem hk2, by rw [hs]; exact xO h0 hj⟩⟩
theorem fP {α : Type} (l : List α) (k : Nat) (h : k < l.length) : l.take (k + 1) = l.take k ++ [l[k]] := by
 rw [List.take_succ_eq_append_getElem h]
def sq (d : aK) : Option Nat × aK := if (fj d).1 then (some 11, (fj d).2) else (none, { (fj d).2 with img := applyL d.aI d.img, aI := [] })
theorem Ft {r : Nat} {q : cU} {k : Nat} (h : bp r ⟨q.si, ⟨none, 0, 0⟩, []⟩ k) : bp r q k := by
 rcases h with rfl | hk | ⟨a, ha, _⟩ | ⟨cs, hc, _⟩
 ·exact .inl rfl
 ·exact .inr (.inl hk)
 ·cases ha
 ·simp at hc
theorem aP.forget {w : World} {r : Nat} {q : cU} {d : aK} (h : aP w r q d) :
  aw w ((⟨r, 0, none⟩ : Addr).add 1) 1 /\ ∀ w' : World, w' = w.setCell ((⟨r, 0, none⟩ : Addr).add 1) (⟨none, 0, 0⟩ : Slc).v -> aP w' r ⟨q.si, ⟨none, 0, 0⟩, []⟩ { d with aI := [] } /\ Ext (fun k => k = r) w w' := by
 rw [add_lit]
 obtain ⟨g1, g2⟩ := h.o.bf 1 (by simp) (⟨none, 0, 0⟩ : Slc).v
 refine ⟨g1, fun w' hw => ?_⟩
 obtain ⟨g3, g4, g5⟩ := g2 w' hw
 refine ⟨⟨g3, h.i.ext g4 (fun k hk hh => h.di (hh ▸ hk)), Rows.nil WrR w', h.di, ?_, ?_, ?_, ⟨h.ok.m, h.ok.l, by simp, h.ok.f⟩⟩, g4⟩
 ·rintro ⟨a, ha, _⟩; cases ha
 ·rintro k _ ⟨a, ha, _⟩; cases ha
 ·rintro k ⟨cs, hc, _⟩; simp at hc
theorem CT (A : Nat -> Addr) {w : World} {r : Nat} {q : cU} {d : aK} (h : aP w r q d) {n0 : Nat} (hE : bK pX A n0 w) (hn : n0 <= r) (hp : d.aI.length <= 2 ^ 40) :
  Calls Tryz.prog b7 ⟨[av r]⟩ w fun e w' => ∃ q', e = .returned (cm A (sq d).1) /\ aP w' r q' (sq d).2 /\ bJ (bp r q) (bp r q') w w' := by
 refine qm _ ?_
 unfold my
 refine (xR h).mono ?_
 rintro e w3 ⟨rfl, h3, k3⟩
 have hpe : (fj d).2.aI = d.aI := o0 d
 have him : (fj d).2.img = d.img := oh d
 have k3' : Ext (bp r q) w w3 := k3.mono (fun k hk => .inl hk)
 refine ⟨_, rfl, aj (fun hb => ?_) (fun hb => ?_)⟩
 ·refine ⟨_, mK (hE.ext k3 (fun k hk => by rw [hk]; exact hn)) 11 (by omega) _ rfl, q, ?_, ?_, k3', fun k hk => .inl hk⟩
  ·simp [sq, hb]
  ·simp only [sq, hb, if_true]; exact h3
 ·generalize hd3 : (fj d).2 = d3 at h3 hpe him
  refine aa rfl ⟨_, h3.c1, ?_⟩
  have hsl := h3.p.sl
  have hp3 : d3.aI.length <= 2 ^ 40 := by rw [hpe]; exact hp
  refine ⟨fun i w2 => ∃ k : Nat, i = k /\ k <= d3.aI.length /\ aP w2 r q { d3 with img := applyL (d3.aI.take k) d3.img } /\ Ext (ai q.si) w3 w2, fun i _ => ((d3.aI.length : Int) - i).toNat,
   ⟨0, rfl, by omega, h3, Ext.refl _ _⟩, ?_⟩
  rintro i w11 ⟨k, rfl, hk, h11, k11⟩
  intros
  refine af (fun h1 => ?_) (fun h1 => ?_)
  ·have hkl : k < d3.aI.length := by omega
   obtain ⟨a, s, ha, hrow, hb', hc', _, hfoot⟩ := h11.wr (k := k) hkl
   refine aa ha ⟨by omega, h1, _, _, by rw [show Int.toNat (k : Int) * 2 = k * 2 by omega]; exact hrow, ?_⟩
   refine qh (cs := wrC d3.aI[k].1 s) rfl rfl (fun r23 w25 hr23 o23 k23 hs23 => ?_)
   refine ⟨_, _, o23.row, ?_⟩
   have hx := h3.ok.p _ (List.getElem_mem hkl)
   have h25 := h11.ae k23
   have hn : (aK.mk (applyL (d3.aI.take k) d3.img) d3.aI d3.stops d3.left).n = d3.n := by
    have := (h11.ok.p _ (List.getElem_mem (l := d3.aI) hkl))
    have h9 : ∀ l : List Wr, (∀ x ∈ l, 0 <= x.1 /\ x.1 < (d3.n : Int) /\ x.2.length = 64) -> ∀ m : List UInt8, m.length = d3.img.length -> (applyL l m).length = d3.img.length := by
     intro l
     induction l with
     | nil => intro _ m hm; exact hm
     | cons x l ih =>
      intro hl m hm
      refine ih (fun y hy => hl y (by simp [hy])) _ ?_
      have hx := hl x (by simp)
      rw [rF (by rw [hm]; exact h3.ok.m) hx.1 (by rw [hm]; exact hx.2.1) hx.2.2 (by omega)]
      exact hm
    show (applyL (d3.aI.take k) d3.img).length / 64 = d3.img.length / 64
    rw [h9 _ (fun x hx => h3.ok.p x (List.mem_of_mem_take hx)) _ rfl]
   have hl64 : 0 < s.l := by rw [hb'.1, hx.2.2]; omega
   refine (Fs h25 d3.aI[k].1 s d3.aI[k].2 64 (aG hb' k23) hc' hx.1 (by rw [hn]; exact hx.2.1) (by omega) (by omega) hx.2.2 (fun j hj => h25.lt j (.inr (.inr (.inr (hfoot hl64 j hj)))))).mono ?_
   rintro e w29 ⟨rfl, h29, k29⟩
   refine ⟨rfl, ar (by omega), ⟨k + 1, rfl, hkl, ?_, ?_⟩, by dsimp only; omega⟩
   ·rw [fP _ _ hkl, BR]
    exact h29
   ·exact (k11.trans k23 (fun _ h => h) (fun _ h => h.elim)).trans k29 (fun _ h => h) (fun _ h => .inl h)
  ·have hkl : k = d3.aI.length := by omega
   subst hkl
   rw [List.take_length] at h11
   obtain ⟨g1, g2⟩ := h11.forget
   refine aa rfl ⟨g1, fun w31 hw31 => ?_⟩
   obtain ⟨g3, g4⟩ := g2 w31 hw31
   refine ⟨⟨q.si, ⟨none, 0, 0⟩, []⟩, ?_, ?_, ?_, fun k hk => .inl (Ft hk)⟩
   ·simp [sq, hb]; rfl
   ·simp only [sq, hb, hd3, Bool.false_eq_true, if_false]
    rw [hpe, him] at g3
    exact g3
   ·exact (k3'.trans (k11.mono (fun k hk => .inr (.inl hk))) (fun _ h => h) (fun _ h => .inl h)).trans g4 (fun _ h => h) (fun k hk => .inl (.inl hk))
def lU (d : aK) (i : Int) (b : List UInt8) : Option Nat × aK :=
 if xQ d i = false then (some 0, d) else if b.length ≠ 64 then (some 3, d) else if (fj d).1 then (some 11, (fj d).2) else (none, { (fj d).2 with aI := d.aI ++ [(i, b)] })
theorem BS (A : Nat -> Addr) {w : World} {r : Nat} {q : cU} {d : aK} (h : aP w r q d) (i : Int) (s : Slc) (b : List UInt8) (hb : au w s b) (hl : s.l <= 2 ^ 30) {n0 : Nat} (hE : bK pX A n0 w) (hn : n0 <= r)
  (hsep : ∀ k, ai s k -> k ≠ r) (hp : d.aI.length < 2 ^ 30) :
  Calls Tryz.prog gu ⟨[av r, .int .i64 i, s.v]⟩ w fun e w' => ∃ q', e = .returned (cm A (lU d i b).1) /\ aP w' r q' (lU d i b).2 /\ bJ (bp r q) (bp r q') w w' := by
 refine qk _ _ _ ?_
 unfold mw
 refine (zZ h i).mono ?_
 rintro e w5 ⟨rfl, rfl⟩
 have hsl := hb.1
 refine ⟨_, rfl, aj (fun h0 => ?_) (fun h0 => aT (fun h1 => ?_) (fun h1 => ?_))⟩
 ·have e1 : lU d i b = (some 0, d) := by unfold lU; rw [if_pos (by simpa using h0)]
  rw [e1]
  exact ⟨_, mK hE 0 (by omega) _ rfl, q, rfl, h, bJ.refl _ _⟩
 ·have e1 : lU d i b = (some 3, d) := by unfold lU; rw [if_neg (by simpa using h0), if_pos (by omega)]
  rw [e1]
  exact ⟨_, mK hE 3 (by omega) _ rfl, q, rfl, h, bJ.refl _ _⟩
 ·refine (xR h).mono ?_
  rintro e w10 ⟨rfl, h3, k3⟩
  have hpe : (fj d).2.aI = d.aI := o0 d
  have him : (fj d).2.img = d.img := oh d
  have k3' : Ext (bp r q) w5 w10 := k3.mono (fun k hk => .inl hk)
  refine ⟨_, rfl, aj (fun h2 => ?_) (fun h2 => ?_)⟩
  ·have e1 : lU d i b = (some 11, (fj d).2) := by unfold lU; rw [if_neg (by simpa using h0), if_neg (by omega), if_pos h2]
   rw [e1]
   exact ⟨_, mK (hE.ext k3 (fun k hk => by rw [hk]; exact hn)) 11 (by omega) _ rfl, q, rfl, h3, k3', fun k hk => .inl hk⟩
  ·have e1 : lU d i b = (none, { (fj d).2 with aI := d.aI ++ [(i, b)] }) := by unfold lU; rw [if_neg (by simpa using h0), if_neg (by omega), if_neg (by simpa using h2)]
   rw [e1]
   generalize hd3 : (fj d).2 = d3 at h3 hpe him
   have hd := h3.ae (Ext.drew fp _)
   refine aa rfl ⟨_, hd.c1, ?_⟩
   have hb3 : au w10.drew s b := aG (cC hb k3 hsep) (Ext.drew _ _)
   refine (fO s b _ hb3 hl).mono ?_
   rintro e w16 ⟨t, rfl, ht, hf, kc⟩
   have h16 := hd.ae kc
   refine ⟨t, rfl, ⟨_, h16.c1, rfl⟩, ao (fun r19 w20 hr19 hb19 k19 hs19 => ?_)⟩
   have h20 := h16.ae k19
   have ht20 := ht.ae k19
   refine ⟨⟨_, h20.c1, rfl⟩, ?_⟩
   have hlt : ∀ k, ai q.sp k -> k < w10.heap.size := h3.p.lt
   have htl : ∀ k, ai t k -> w10.heap.size <= k /\ k < w16.heap.size := fun k hk => ⟨hf k hk, cD ht k hk⟩
   refine Rows.snoc (cs := wrC i t) (x := (i, b)) (z := [.int .i64 0, (⟨none, 0, 0⟩ : Slc).v]) h20.p rfl ⟨t, rfl, ht20.bytes, ht20.le (by omega)⟩ (fun k hk hh => ?_) hb19 (.inl (by simp)) (by rw [hpe]; omega) (fun s' w' g1 g2 g3 => ?_)
   ·have := (htl k (tQ hk).2).1
    have := hlt k hh; omega
   ·have o' := h20.o.ext g2 (fun hh => h3.dp hh)
    obtain ⟨c1, c2⟩ := o'.bf 1 (by simp) s'.v
    rw [show (⟨r, 1, none⟩ : Addr) = (⟨r, 0, none⟩ : Addr).add 1 by rw [add_lit]] at c1 c2
    refine aa rfl ⟨c1, fun w25 hw25 => ?_⟩
    obtain ⟨c3, c4, c5⟩ := c2 w25 hw25
    have hsz := k19.size
    have hsz2 := kc.size
    have hds : w10.drew.heap.size = w10.heap.size := rfl
    have hrl := h3.o.lt
    have hrs : ¬ ai s' r := fun hh => by
     rcases g3 r hh with h5 | h5
     ·exact h3.dp h5
     ·omega
    have g1' : Rows WrR w25 s' (d3.aI ++ [(i, b)]) (q.wss ++ [wrC i t]) := g1.ext c4 (fun k hk hh => hrs (hh ▸ hk)) (fun k hk hh => by
     obtain ⟨cs, hc, hk⟩ := hk
     rcases List.mem_append.1 hc with h6 | h6
     ·exact (h3.df k ⟨cs, h6, hk⟩).1 hh
     ·rw [List.mem_singleton] at h6; subst h6
      have := (htl k (tQ hk).2).1; omega)
    have hfoot : ∀ k, bp r ⟨q.si, s', q.wss ++ [wrC i t]⟩ k -> bp r q k \/ w5.heap.size <= k := by
     have hz := k3.size
     rintro k (rfl | hk | hk | ⟨cs, hc, hk⟩)
     ·exact .inl (.inl rfl)
     ·exact .inl (.inr (.inl hk))
     ·rcases g3 k hk with h5 | h5
      ·exact .inl (.inr (.inr (.inl h5)))
      ·exact .inr (by omega)
     ·rcases List.mem_append.1 hc with h6 | h6
      ·exact .inl (.inr (.inr (.inr ⟨cs, h6, hk⟩)))
      ·rw [List.mem_singleton] at h6; subst h6
       have := (htl k (tQ hk).2).1
       exact .inr (by omega)
    refine ⟨⟨q.si, s', q.wss ++ [wrC i t]⟩, rfl, ⟨c3, ?_, by rw [hpe] at g1'; exact g1', h3.di, hrs, ?_, ?_, ?_⟩, ?_, hfoot⟩
    ·exact (h20.i.ext g2 (fun k hk hh => h3.dd k hk hh)).ext c4 (fun k hk hh => h3.di (hh ▸ hk))
    ·intro k hk hh
     rcases g3 k hh with h5 | h5
     ·exact h3.dd k hk h5
     ·have := cD h3.i k hk; omega
    ·rintro k ⟨cs, hc, hk⟩
     rcases List.mem_append.1 hc with h6 | h6
     ·exact h3.df k ⟨cs, h6, hk⟩
     ·rw [List.mem_singleton] at h6; subst h6
      have h7 := (htl k (tQ hk).2).1
      exact ⟨by omega, fun hh => by have := cD h3.i k hh; omega⟩
    ·refine ⟨h3.ok.m, h3.ok.l, fun x hx => ?_, h3.ok.f⟩
     have hn3 : (aK.mk d3.img (d.aI ++ [(i, b)]) d3.stops d3.left).n = d3.n := rfl
     rcases List.mem_append.1 hx with h6 | h6
     ·rw [hn3]; exact h3.ok.p x (by rw [hpe]; exact h6)
     ·rw [List.mem_singleton] at h6; subst h6
      rw [hn3]
      have h7 : xQ d i = true := by simpa using h0
      have h8 : d3.n = d.n := by unfold aK.n; rw [him]
      unfold xQ at h7
      have h9 := of_decide_eq_true h7
      exact ⟨h9.1, by rw [h8]; exact h9.2, by show b.length = 64; omega⟩
    ·have x1 : Ext (bp r q) w5 w20 := (k3'.trans (ah.trans (Ext.drew fp _) (kc.trans k19)) (fun _ h => h) (fun _ h => h.elim))
     exact (x1.trans g2 (fun _ h => h) (fun k hk => .inl (.inr (.inr (.inl hk))))).trans c4 (fun _ h => h) (fun k hk => .inl (.inl hk))
end Go.D
namespace Go.D
open Go Go.Proofs
def H2 (kept : Int) (k : Nat) : Bool := decide (bitsI .and (kept / ((2 ^ min (Int.toNat (Int.tmod (k : Int) 64)) 64 : Nat) : Int)) 1 = 1)
def DF (cut : Int) : Int := Int.tmod (Int.tmod cut 65 + 65) 65
theorem GQ (a : Int) : -65 < Int.tmod a 65 /\ Int.tmod a 65 < 65 := by
 have h1 := Int.tmod_lt_of_pos a (b := 65) (by omega)
 have h2 := Int.tmod_lt_of_pos (-a) (b := 65) (by omega)
 rw [Int.neg_tmod] at h2
 omega
theorem BT (cut : Int) : 0 <= DF cut /\ DF cut <= 64 := by
 unfold DF
 have h1 := GQ cut
 rw [Int.tmod_eq_emod_of_nonneg (by omega)]
 omega
def crashL (kept torn cut : Int) : Nat -> List Wr -> List UInt8 -> List UInt8
 | _, [], m => m
 | k, x :: l, m => crashL kept torn cut (k + 1) l (if (k : Int) = torn then dZ m x.1 x.2 (DF cut).toNat else if H2 kept k then dZ m x.1 x.2 64 else m)
end Go.D
namespace Go.D
open Go Go.Proofs
theorem uM (s : Slc) (w : World) :
  Calls Tryz.prog eJ ⟨[s.v]⟩ w fun e w' => ∃ b, e = .returned (.func (.func bH) ⟨[]⟩ ⟨[av b]⟩) /\ aq w' b [s.v] /\ ah w w' /\ w.heap.size <= b := by
 refine nj _ ?_
 unfold jy
 exact ao (fun r w1 hr hb hk hs => ⟨r, rfl, aq.eS hb, hk, by omega⟩)
theorem su (s : Slc) (xs : List Wr) (css : List (List Value)) (lr b : Nat) (J : Nat -> World -> Prop) (X : World -> Prop) (hl : xs.length <= 2 ^ 40)
  (hJ : ∀ k w, J k w -> w.cell? ⟨b, 0, none⟩ = some s.v /\ Rows WrR w s xs css)
  (hstep : ∀ k (hk : k < xs.length) (w : World) (sd : Slc), J (k + 1) w -> au w sd xs[k].2 -> sd.l <= sd.c ->
   jF Tryz.prog lr ⟨[.int .i64 (k : Int), .agg ⟨wrC xs[k].1 sd⟩]⟩ w fun e w' => (e = .returned (.bool true) /\ J k w') \/ (e = .returned (.bool false) /\ X w'))
  (w : World) (h0 : J xs.length w) :
  Calls Tryz.prog bH ⟨[.func (.yield lr) ⟨[]⟩ ⟨[]⟩, av b]⟩ w fun e w' => e = .returned (.tuple #[]) /\ (J 0 w' \/ X w') := by
 refine lI _ _ ?_
 unfold iS
 obtain ⟨hc, hR⟩ := hJ _ _ h0
 have hsl := hR.sl
 refine aa rfl ⟨s, hc, ar (by omega), fun i w2 => ∃ k : Nat, i = (k : Int) - 1 /\ k <= xs.length /\ J k w2, fun i _ => (i + 1).toNat, ⟨xs.length, by omega, by omega, h0⟩, ?_⟩
 rintro i w8 ⟨k, rfl, hk, h8⟩
 intros
 obtain ⟨hc8, hR8⟩ := hJ _ _ h8
 refine af (fun h1 => ?_) (fun h1 => ⟨rfl, .inl (by rw [show k = 0 by omega] at h8; exact h8)⟩)
 obtain ⟨m, rfl⟩ : ∃ m, k = m + 1 := ⟨k - 1, by omega⟩
 have hm : m < xs.length := by omega
 have hm2 : m < css.length := by rw [hR8.len]; exact hm
 obtain ⟨a, ha, _, hrow⟩ := hR8.get hm2
 obtain ⟨sd, hs, hb, hc⟩ := hR8.row m hm2 hm
 rw [hs] at hrow
 have e1 : (((m + 1 : Nat) : Int) - 1) = (m : Int) := by omega
 rw [e1]
 refine aa rfl ⟨s, hc8, aa ha ⟨by omega, by omega, _, _, by rw [show Int.toNat (m : Int) * 2 = m * 2 by omega]; exact hrow, ?_⟩⟩
 refine (hstep m hm w8 sd h8 hb hc).mono ?_
 rintro e w27 (⟨rfl, h27⟩ | ⟨rfl, h27⟩)
 ·exact ⟨true, rfl, aj (fun h => by cases h) (fun _ => ⟨ar (by omega), ⟨m, rfl, by omega, h27⟩, by dsimp only; omega⟩)⟩
 ·exact ⟨false, rfl, aj (fun _ => ⟨rfl, .inr h27⟩) (fun h => by cases h)⟩
def lastW : List Wr -> Int -> Option (List UInt8)
 | [], _ => none
 | x :: l, i => match lastW l i with | some b => some b | none => if x.1 = i then some x.2 else none
def H3 (d : aK) (i : Nat) : List UInt8 := (d.img.drop (i * 64)).take 64
def vu (d : aK) (i : Int) : List UInt8 := (lastW d.aI i).getD (H3 d i.toNat)
theorem xS {l : List Wr} {i : Int} (h : ∀ x ∈ l, x.1 ≠ i) : lastW l i = none := by
 induction l with
 | nil => rfl
 | cons x l ih => simp only [lastW]; rw [ih (fun y hy => h y (by simp [hy]))]; simp [h x (by simp)]
theorem Fu {l : List Wr} {i : Int} {k : Nat} (hk : k < l.length) (h : l[k].1 = i) (hno : ∀ j (hj : j < l.length), k < j -> l[j].1 ≠ i) : lastW l i = some l[k].2 := by
 induction l generalizing k with
 | nil => simp at hk
 | cons x l ih =>
  simp only [lastW]
  cases k with
  | zero =>
   rw [xS (fun y hy => by
    obtain ⟨j, hj, rfl⟩ := List.getElem_of_mem hy
    have := hno (j + 1) (by simp; omega) (by omega)
    simpa using this)]
   have : x.1 = i := by simpa using h
   simp [this]
  | succ k =>
   rw [ih (k := k) (by simpa using hk) (by simpa using h) (fun j hj hlt => by
    have := hno (j + 1) (by simp; omega) (by omega)
    simpa using this)]
   rfl
theorem CU (A : Nat -> Addr) {w : World} {r : Nat} {q : cU} {d : aK} (h : aP w r q d) (i : Int) {n0 : Nat} (hE : bK pX A n0 w) (hp : d.aI.length <= 2 ^ 40) :
    Calls Tryz.prog g8 ⟨[av r, .int .i64 i]⟩ w fun e w' => ah w w' /\
      (if xQ d i = false then e = .returned (.tuple ⟨[(⟨none, 0, 0⟩ : Slc).v, cm A (some 0)]⟩)
       else ∃ t : Slc, e = .returned (.tuple ⟨[t.v, .nilIface]⟩) /\ Own w' t 1 ((vu d i).map aS) /\ aN w t) := by
  refine rj _ _ ?_
  unfold nJ
  refine ao (fun r3 w4 hr3 hb3 k3 hs3 => ao (fun r5 w6 hr5 hb5 k5 hs5 => ao (fun r7 w8 hr7 hb7 k7 hs7 => ?_)))
  have k8 : ah w w8 := (k3.trans k5).trans k7
  have h8 := h.ae k8
  have o3 : aq w8 r3 [.int .i64 i] := ((aq.eS hb3).ae k5).ae k7
  have o5 : aq w8 r5 [(⟨none, 0, 0⟩ : Slc).v] := (aq.eS hb5).ae k7
  have o7 : aq w8 r7 [.nilIface] := aq.eS hb7
  refine ⟨_, o3.cell 0 (by simp), ?_⟩
  refine (zZ h8 i).mono ?_
  rintro e w11 ⟨rfl, rfl⟩
  refine ⟨_, rfl, aj (fun h0 => ?_) (fun h0 => ?_)⟩
  · -- out of range
    have hE8 := hE.ae k8
    have hEd := hE8.ae (Ext.drew _ _)
    obtain ⟨g1, g2⟩ := (o5.ae (Ext.drew fp _)).bf 0 (by simp) (⟨none, 0, 0⟩ : Slc).v
    have hv := mK hEd 0 (by omega) aD rfl
    refine ⟨_, hv, g1, fun w14 hw14 => ?_⟩
    obtain ⟨g3, g4, g5⟩ := g2 w14 hw14
    have hlt : aD < w.heap.size := by
      have := World.block_lt_of_cell? w _ (mK hE 0 (by omega) aD rfl)
      exact this
    refine ⟨⟨_, g4.cell hv (fun hh => by have : aD = r5 := hh; omega), rfl⟩, tP A _ _ (tP A _ _ ?_)⟩
    obtain ⟨f1, f2⟩ := ((o7.ae (Ext.drew fp _)).ext g4 (fun hh => by omega)).bf 0 (by simp) (cm A (some 0))
    refine ⟨f1, fun w16 hw16 => ?_⟩
    obtain ⟨f3, f4, f5⟩ := f2 w16 hw16
    have g3' := g3.ext f4 (fun hh => by omega)
    refine ⟨_, g3'.cell 0 (by simp), _, f3.cell 0 (by simp), ?_, by rw [if_pos (by simpa using h0)]; rfl⟩
    exact (k8.drew.ext g4 (fun k hk => by omega)).ext f4 (fun k hk => by omega)
  · have hin : xQ d i = true := by simpa using h0
    have hin2 := of_decide_eq_true (show decide (0 <= i /\ i < (d.n : Int)) = true from hin)
    refine aa rfl ⟨_, h8.c1, ?_⟩
    refine (uM q.sp w11).mono ?_
    rintro e w22 ⟨b, rfl, ob, k22, hb⟩
    refine ⟨_, rfl, bH, [], [av b], rfl, by rfl, ?_⟩
    intro D lr rc w27 hD hlr hw27 hY
    have N := BJ hD hlr hw27
    have k27 : ah w w27 := (k8.trans k22).trans N.k
    have hz := k22.size
    have hDw : w11.heap.size <= D := by have := N.dw; omega
    have h27 := h.ae k27
    have o3' := (o3.ae k22).ae N.k
    have o5' := (o5.ae k22).ae N.k
    have o7' := (o7.ae k22).ae N.k
    have ob' := ob.ae N.k
    have hdl := N.dl
    have hbD : b < D := by have := ob.lt; have := N.dw; omega
    have hdev : ∀ k, bp r q k -> k < D := fun k hk => by have := h8.lt k hk; omega
    -- between two rounds
    let J : Nat -> World -> Prop := fun k w2 => Ext (fun j => D <= j) w27 w2 /\ w2.heap[lr]? = some (.loop (rc .ready none)) /\ w2.heap[D]? = some (.deferred (some [])) /\ ∀ j (hj : j < d.aI.length), k <= j -> d.aI[j].1 ≠ i
    let X : World -> Prop := fun w2 => Ext (fun j => j = r5 \/ j = r7 \/ D <= j) w27 w2 /\ w2.heap[lr]? = some (.loop (rc .done (some Code.ret))) /\ w2.heap[D]? = some (.deferred (some [])) /\
      ∃ t : Slc, aq w2 r5 [t.v] /\ aq w2 r7 [.nilIface] /\ Own w2 t 1 ((vu d i).map aS) /\ ∀ k, ai t k -> lr < k
    have hdevJ : ∀ {k w2}, J k w2 -> aP w2 r q d := fun hj => h27.ext hj.1 (fun k hk hh => by have := hdev k hk; omega)
    have step : ∀ k (hk : k < d.aI.length) (w : World) (sd : Slc), J (k + 1) w -> au w sd d.aI[k].2 -> sd.l <= sd.c ->
        jF Tryz.prog lr ⟨[.int .i64 (k : Int), .agg ⟨wrC d.aI[k].1 sd⟩]⟩ w fun e w' => (e = .returned (.bool true) /\ J k w') \/ (e = .returned (.bool false) /\ X w') := by
      intro k hk w28 sd hj hbd hcd
      refine hY _ _ _ _ _ hj.2.1 ?_
      refine qh (cs := wrC d.aI[k].1 sd) rfl rfl (fun r33 w35 hr33 o33 k33 hs33 => ?_)
      have hl35 := k33.heap hj.2.1
      have hD35 := k33.heap hj.2.2.1
      refine ⟨hl35, fun w36 hw36 => ?_⟩
      have e36 : Ext (fun j => j = lr) w35 w36 := by rw [hw36]; exact Ext.putObj _ _ _
      have hl36 : w36.heap[lr]? = some (.loop (rc .busy none)) := by rw [hw36]; exact jK hl35
      have hD36 : w36.heap[D]? = some (.deferred (some [])) := e36.heap hD35 (fun hh => by omega)
      have hlrlt := bL hj.2.1
      have o33' := o33.ext e36 (fun hh => by omega)
      have x36 : Ext (fun j => D <= j) w27 w36 := (hj.1.trans k33 (fun _ h => h) (fun _ h => h.elim)).trans e36 (fun _ h => h) (fun k hk => .inl (by omega))
      have o3'' := o3'.ext x36 (fun hh => by omega)
      refine ⟨_, o33'.cell 0 (by simp [wrC]), _, o3''.cell 0 (by simp), af (fun he => ?_) (fun he => ?_)⟩
      · refine ⟨_, o33'.cell 1 (by simp [wrC]), ?_⟩
        have hx := h.ok.p _ (List.getElem_mem hk)
        have hbd36 : au w36 sd d.aI[k].2 := aZ (aG hbd k33) e36 (fun h0 j hj2 hh => by
          subst hh
          obtain ⟨a, ha, rfl⟩ := hj2
          obtain ⟨a', ha', hc'⟩ := bc hbd.2 (i := 0) (by rw [List.length_map, hx.2.2]; omega)
          rw [ha] at ha'; cases ha'
          have hc2 := k33.cell hc'
          have : w35.cell? (a.add 0) = none := by
            unfold World.cell?
            rw [ew, hl35]
          rw [this] at hc2; cases hc2)
        refine (fO sd _ w36 hbd36 (by rw [hbd36.1, hx.2.2]; omega)).mono ?_
        rintro e w41 ⟨t, rfl, ht, hf, k41⟩
        have hz41 := k41.size
        have hz36 : w36.heap.size = w35.heap.size := by rw [hw36]; exact putObj_size _ _ _
        have hz33 := k33.size
        have x41 : Ext (fun j => D <= j) w27 w41 := x36.trans k41 (fun _ h => h) (fun _ h => h.elim)
        have a5 := o5'.ext x41 (fun hh => by omega)
        have a7 := o7'.ext x41 (fun hh => by omega)
        obtain ⟨g1, g2⟩ := a5.bf 0 (by simp) t.v
        refine ⟨t, rfl, g1, fun w43 hw43 => ?_⟩
        obtain ⟨g3, g4, g5⟩ := g2 w43 hw43
        obtain ⟨f1, f2⟩ := (a7.ext g4 (fun hh => by omega)).bf 0 (by simp) (.nilIface)
        refine ⟨f1, fun w44 hw44 => ?_⟩
        obtain ⟨f3, f4, f5⟩ := f2 w44 hw44
        have hl44 := f4.heap (g4.heap (k41.heap hl36) (fun hh => by omega)) (fun hh => by omega)
        have hD44 := f4.heap (g4.heap (k41.heap hD36) (fun hh => by omega)) (fun hh => by omega)
        refine ⟨hl44, fun w45 hw45 => .inr ⟨rfl, ?_⟩⟩
        have e45 : Ext (fun j => j = lr) w44 w45 := by rw [hw45]; exact Ext.putObj _ _ _
        have htk : ∀ j, ai t j -> lr < j := fun j hj2 => by have := hf j hj2; omega
        refine ⟨?_, by rw [hw45]; exact jK hl44, e45.heap hD44 (fun hh => by omega), t, (g3.ext f4 (fun hh => by omega)).ext e45 (fun hh => by omega), f3.ext e45 (fun hh => by omega), ?_, htk⟩
        · exact (((x41.mono (fun k hk => .inr (.inr hk))).trans g4 (fun _ h => h) (fun k hk => .inl (.inl hk))).trans f4 (fun _ h => h) (fun k hk => .inl (.inr (.inl hk)))).trans e45 (fun _ h => h) (fun k hk => .inl (.inr (.inr (by omega))))
        · have e9 : vu d i = d.aI[k].2 := by
            unfold vu
            rw [Fu hk he (fun j hj2 hlt => hj.2.2.2 j hj2 (by omega))]
            rfl
          rw [e9]
          exact ((ht.ext g4 (fun j hj2 hh => by have := htk j hj2; omega)).ext f4 (fun j hj2 hh => by have := htk j hj2; omega)).ext e45 (fun j hj2 hh => by have := htk j hj2; omega)
      · refine ⟨hl36, fun w46 hw46 => .inl ⟨rfl, ?_⟩⟩
        have e46 : Ext (fun j => j = lr) w36 w46 := by rw [hw46]; exact Ext.putObj _ _ _
        refine ⟨x36.trans e46 (fun _ h => h) (fun k hk => .inl (by omega)), by rw [hw46]; exact jK hl36, e46.heap hD36 (fun hh => by omega), fun j hj2 hkj => ?_⟩
        by_cases hjk : j = k
        · subst hjk; exact he
        · exact hj.2.2.2 j hj2 (by omega)
    have hcall := su q.sp d.aI q.wss lr b J X hp (fun k w2 hj => ⟨(ob'.ext hj.1 (fun hh => by omega)).cell 0 (by simp), (hdevJ hj).p⟩) step w27 ⟨Ext.refl _ _, N.l, N.d, fun j hj hk => by omega⟩
    refine Calls.mono (show Calls Tryz.prog bH _ w27 _ from hcall) ?_
    rintro e w51 ⟨rfl, hj | hx⟩
    · refine ⟨⟨_, rfl⟩, .inr ⟨hj.2.1, fun w56 hw56 => ?_⟩⟩
      have e56 : Ext (fun j => j = lr) w51 w56 := by rw [hw56]; exact Ext.putObj _ _ _
      have x56 : Ext (fun j => D <= j) w27 w56 := hj.1.trans e56 (fun _ h => h) (fun k hk => .inl (by omega))
      have xd : Ext (fun j => D <= j) w27 w56.drew := x56.trans (Ext.drew fp _) (fun _ h => h) (fun _ h => h.elim)
      have hdd : aP w56.drew r q d := h27.ext xd (fun k hk hh => by have := hdev k hk; omega)
      have hD56 : w56.heap[D]? = some (.deferred (some [])) := e56.heap hj.2.2.1 (fun hh => by omega)
      have od := o3'.ext xd (fun hh => by omega)
      have hil := hdd.il
      have hnl := h.ok.l
      have hic := hdd.i.le (by omega)
      have hn : d.n = d.img.length / 64 := rfl
      refine aa rfl ⟨_, hdd.c0, i, od.cell 0 (by simp), ar (by omega), i, od.cell 0 (by simp), ar (by omega), ar (by omega), by omega, by omega, by omega, by omega, ?_⟩
      have hsub := iP hdd.i.bytes (lo := (i * 64).toNat) (hi := ((i + 1) * 64).toNat) (c := q.si.c) (by omega) (by omega) (by omega)
      refine (fO _ _ w56.drew hsub (by rw [hsub.1]; simp only [List.length_drop, List.length_take]; omega)).mono ?_
      rintro e w63 ⟨t, rfl, ht, hf, k63⟩
      have x63 : Ext (fun j => D <= j) w27 w63 := xd.trans k63 (fun _ h => h) (fun _ h => h.elim)
      have a5 := o5'.ext x63 (fun hh => by omega)
      have a7 := o7'.ext x63 (fun hh => by omega)
      obtain ⟨g1, g2⟩ := a5.bf 0 (by simp) t.v
      refine ⟨t, rfl, g1, fun w65 hw65 => ?_⟩
      obtain ⟨g3, g4, g5⟩ := g2 w65 hw65
      obtain ⟨f1, f2⟩ := (a7.ext g4 (fun hh => by omega)).bf 0 (by simp) (.nilIface)
      refine ⟨f1, fun w66 hw66 => ?_⟩
      obtain ⟨f3, f4, f5⟩ := f2 w66 hw66
      have hD66 := f4.heap (g4.heap (k63.heap (show w56.drew.heap[D]? = _ from hD56)) (fun hh => by omega)) (fun hh => by omega)
      refine ⟨hD66, fun w67 hw67 => ?_⟩
      have e67 : Ext (fun j => j = D) w66 w67 := by rw [hw67]; exact Ext.putObj _ _ _
      have hz56 := x56.size
      have hs56 : w56.drew.heap.size = w56.heap.size := rfl
      have hlt51 := bL hj.2.1
      have hz51 : w56.heap.size = w51.heap.size := by rw [hw56]; exact putObj_size _ _ _
      have htk : ∀ j, ai t j -> lr < j := fun j hj2 => by have := hf j hj2; omega
      refine ⟨t, ((g3.ext f4 (fun hh => by omega)).ext e67 (fun hh => by omega)).cell 0 (by simp), _, (f3.ext e67 (fun hh => by omega)).cell 0 (by simp), ?_, ?_⟩
      · exact ((k27.ext x63 (fun k hk => by have := k8.size; omega)).ext g4 (fun k hk => by omega) |>.ext f4 (fun k hk => by omega)).ext e67 (fun k hk => by have := k8.size; omega)
      · rw [if_neg (by rw [hin]; simp)]
        refine ⟨t, rfl, ?_, fun j hj2 => by have := htk j hj2; have := k8.size; omega⟩
        have e9 : vu d i = (d.img.take ((i + 1) * 64).toNat).drop (i * 64).toNat := by
          unfold vu H3
          rw [xS (fun x hx => by
            obtain ⟨j, hj2, rfl⟩ := List.getElem_of_mem hx
            exact hj.2.2.2 j hj2 (by omega))]
          simp only [Option.getD_none]
          rw [List.drop_take]
          have e1 : (i * 64).toNat = i.toNat * 64 := by omega
          have e2 : ((i + 1) * 64).toNat = i.toNat * 64 + 64 := by omega
          rw [e1, e2]
          congr 1
          omega
        rw [e9]
        exact ((ht.ext g4 (fun j hj2 hh => by have := htk j hj2; omega)).ext f4 (fun j hj2 hh => by have := htk j hj2; omega)).ext e67 (fun j hj2 hh => by have := htk j hj2; omega)
    · obtain ⟨x1, x2, x3, t, x4, x5, x6, x7⟩ := hx
      refine ⟨⟨_, rfl⟩, .inl ⟨x2, fun w52 hw52 => ?_⟩⟩
      have e52 : Ext (fun j => j = lr) w51 w52 := by rw [hw52]; exact Ext.putObj _ _ _
      refine ⟨e52.heap x3 (fun hh => by omega), fun w53 hw53 => ?_⟩
      have e53 : Ext (fun j => j = D) w52 w53 := by rw [hw53]; exact Ext.putObj _ _ _
      refine ⟨t, ((x4.ext e52 (fun hh => by omega)).ext e53 (fun hh => by omega)).cell 0 (by simp), _, ((x5.ext e52 (fun hh => by omega)).ext e53 (fun hh => by omega)).cell 0 (by simp), ?_, ?_⟩
      · have hz8 := k8.size
        exact ((k27.ext x1 (fun k hk => by omega)).ext e52 (fun k hk => by omega)).ext e53 (fun k hk => by omega)
      · rw [if_neg (by rw [hin]; simp)]
        have hz8 := k8.size
        exact ⟨t, rfl, (x6.ext e52 (fun j hj2 hh => by have := x7 j hj2; omega)).ext e53 (fun j hj2 hh => by have := x7 j hj2; omega), fun j hj2 => by have := x7 j hj2; omega⟩
end Go.D
namespace Go.D
open Go
theorem BV (n : Nat) : Value.int .u8 (IntKind.wrap .u8 (n : Int)) = aS (UInt8.ofNat n) := by
 have h : IntKind.wrap .u8 (n : Int) = ((n % 256 : Nat) : Int) := by
  simp [IntKind.wrap, IntKind.signed, IntKind.bits]
 rw [h, aS, UInt8.toNat_ofNat']
theorem HC (n d : Nat) : Value.int .u8 (IntKind.wrap .u8 ((n : Int) / (d : Int))) = aS (UInt8.ofNat (n / d)) := BV (n / d)
theorem DG (a b : Nat) : bitsI .or (a : Int) (b : Int) = ((a ||| b : Nat) : Int) := rfl
theorem DH (a b i : Nat) (ha : a < 2 ^ i) : a ||| b * 2 ^ i = a + b * 2 ^ i := by
 have := Nat.shiftLeft_add_eq_or_of_lt ha b
 rw [Nat.shiftLeft_eq] at this
 rw [Nat.or_comm, <- this, Nat.add_comm]
theorem Fv {α : Type} {l : List α} {k : Nat} (h : k < l.length) : l.drop k = l[k] :: l.drop (k + 1) := List.drop_eq_getElem_cons h
end Go.D
namespace Go.D
open Go
def aW (m : List UInt8) (i : Nat) : List UInt8 := (m.drop (i * 64)).take 64
theorem jl {m : List UInt8} {i : Nat} (hi : i < m.length / 64) : (aW m i).length = 64 := by
 simp only [aW, List.length_take, List.length_drop]; omega
theorem xU (m : List UInt8) (i j : Nat) : (aW m i)[j]? = if j < 64 then m[i * 64 + j]? else none := by
 simp only [aW, List.getElem?_take, List.getElem?_drop]
theorem CV {m data : List UInt8} {a c : Nat} (h1 : a < m.length / 64) (hd : data.length = 64) (hc : c <= 64) (q : Nat) :
  (dZ m (a : Int) data c)[q]? = if q < a * 64 then m[q]? else if q < a * 64 + c then data[q - a * 64]? else m[q]? := by
 unfold dZ
 simp only [Int.toNat_natCast, List.append_assoc]
 rw [List.getElem?_append]
 have e1 : (m.take (a * 64)).length = a * 64 := by rw [List.length_take]; omega
 rw [e1]
 by_cases h2 : q < a * 64
 ·rw [if_pos h2, if_pos h2, List.getElem?_take, if_pos h2]
 ·rw [if_neg h2, if_neg h2, List.getElem?_append]
  have e2 : (data.take c).length = c := by rw [List.length_take]; omega
  rw [e2]
  by_cases h3 : q < a * 64 + c
  ·rw [if_pos (by omega), if_pos h3, List.getElem?_take, if_pos (by omega)]
  ·rw [if_neg (by omega), if_neg h3, List.getElem?_drop]
   congr 1; omega
theorem tR {m data : List UInt8} {a c i : Nat} (h1 : a < m.length / 64) (hd : data.length = 64) (hc : c <= 64) (hi : i < m.length / 64) :
  aW (dZ m (a : Int) data c) i = if i = a then data.take c ++ (aW m i).drop c else aW m i := by
 apply List.ext_getElem?
 intro j
 rw [xU, CV h1 hd hc]
 by_cases hj : j < 64
 ·rw [if_pos hj]
  by_cases ha : i = a
  ·subst ha
   rw [if_pos rfl, if_neg (by omega), List.getElem?_append]
   have e2 : (data.take c).length = c := by rw [List.length_take]; omega
   rw [e2]
   by_cases h3 : j < c
   ·rw [if_pos (by omega), if_pos h3, List.getElem?_take, if_pos h3]
    congr 1; omega
   ·rw [if_neg (by omega), if_neg h3, List.getElem?_drop, show c + (j - c) = j by omega, xU, if_pos hj]
  ·rw [if_neg ha, xU, if_pos hj]
   by_cases h4 : i < a
   ·rw [if_pos (by omega)]
   ·rw [if_neg (by omega), if_neg (by omega)]
 ·rw [if_neg hj]
  have hl := jl hi
  split
  ·rw [List.getElem?_eq_none]
   rw [List.length_append, List.length_take, List.length_drop]; omega
  ·rw [List.getElem?_eq_none (by omega)]
theorem lV {m data : List UInt8} {a c : Nat} (h1 : a < m.length / 64) (hd : data.length = 64) (hc : c <= 64) : (dZ m (a : Int) data c).length = m.length := by
 unfold dZ
 simp only [Int.toNat_natCast, List.length_append, List.length_take, List.length_drop]
 omega
theorem lW {m data : List UInt8} {a i : Nat} (h1 : a < m.length / 64) (hd : data.length = 64) (hi : i < m.length / 64) :
  aW (dZ m (a : Int) data 64) i = if i = a then data else aW m i := by
 rw [tR h1 hd (Nat.le_refl _) hi]
 have hl := jl hi
 split
 ·rw [List.take_of_length_le (by omega), List.drop_of_length_le (by omega), List.append_nil]
 ·rfl
theorem uN {Q : Nat -> List UInt8 -> Prop} {n : Nat} (kept torn cut : Int) : ∀ (l : List Wr) (k : Nat) (m : List UInt8), m.length / 64 = n -> (∀ i, i < n -> Q i (aW m i)) ->
  (∀ x ∈ l, 0 <= x.1 /\ x.1 < (n : Int) /\ x.2.length = 64) -> (∀ x ∈ l, ∀ c, c <= 64 -> ∀ s : List UInt8, s.length = 64 -> Q x.1.toNat s -> Q x.1.toNat (x.2.take c ++ s.drop c)) ->
  (crashL kept torn cut k l m).length / 64 = n /\ ∀ i, i < n -> Q i (aW (crashL kept torn cut k l m) i)
 | [], k, m, hm, hQ, _, _ => ⟨hm, hQ⟩
 | x :: l, k, m, hm, hQ, hw, hc => by
  obtain ⟨h0, h1, h2⟩ := hw x (by simp)
  obtain ⟨a, ha⟩ : ∃ a : Nat, x.1 = a := ⟨x.1.toNat, by omega⟩
  have han : a < m.length / 64 := by omega
  have step : ∀ c, c <= 64 -> (dZ m x.1 x.2 c).length / 64 = n /\ ∀ i, i < n -> Q i (aW (dZ m x.1 x.2 c) i) := by
   intro c hc64
   rw [ha]
   refine ⟨by rw [lV han h2 hc64]; exact hm, fun i hi => ?_⟩
   rw [tR han h2 hc64 (by omega)]
   split
   ·rename_i e
    subst e
    have := hc x (by simp) c hc64 (aW m i) (jl (by omega)) (by rw [ha]; exact hQ i hi)
    rw [ha] at this
    exact this
   ·exact hQ i hi
  have rest := fun m' h3 h4 => uN (Q := Q) (n := n) kept torn cut l (k + 1) m' h3 h4 (fun y hy => hw y (by simp [hy])) (fun y hy => hc y (by simp [hy]))
  unfold crashL
  have hcut := BT cut
  split
  ·exact rest _ (step _ (by omega)).1 (step _ (by omega)).2
  ·split
   ·exact rest _ (step _ (Nat.le_refl _)).1 (step _ (Nat.le_refl _)).2
   ·exact rest _ hm hQ
theorem uO {n : Nat} : ∀ (l : List Wr) (m : List UInt8), m.length / 64 = n -> (∀ x ∈ l, 0 <= x.1 /\ x.1 < (n : Int) /\ x.2.length = 64) ->
  (applyL l m).length / 64 = n /\ ∀ i, i < n -> aW (applyL l m) i = (lastW l (i : Int)).getD (aW m i)
 | [], m, hm, _ => ⟨hm, fun i _ => rfl⟩
 | x :: l, m, hm, hw => by
  obtain ⟨h0, h1, h2⟩ := hw x (by simp)
  obtain ⟨a, ha⟩ : ∃ a : Nat, x.1 = a := ⟨x.1.toNat, by omega⟩
  have han : a < m.length / 64 := by omega
  unfold applyL
  have hl : (dZ m x.1 x.2 64).length / 64 = n := by rw [ha, lV han h2 (Nat.le_refl _)]; exact hm
  obtain ⟨g1, g2⟩ := uO l (dZ m x.1 x.2 64) hl (fun y hy => hw y (by simp [hy]))
  refine ⟨g1, fun i hi => ?_⟩
  rw [g2 i hi]
  simp only [lastW]
  cases h : lastW l (i : Int) with
  | some b => rfl
  | none =>
   rw [ha, lW han h2 (by omega)]
   by_cases e : i = a
   ·subst e; rw [if_pos rfl, if_pos rfl]
    try rfl
   ·rw [if_neg e, if_neg (by omega)]
def mkS (s : List UInt8) : UInt8 := s.getD 63 0
def leN : List UInt8 -> Nat
 | [] => 0
 | b :: r => b.toNat + 256 * leN r
theorem xV (l : List UInt8) (b : UInt8) : leN (l ++ [b]) = leN l + b.toNat * 2 ^ (8 * l.length) := by
 induction l with
 | nil => simp [leN]
 | cons a l ih =>
  rw [List.cons_append, leN, ih, leN, List.length_cons, Nat.mul_add, show 8 * (l.length + 1) = 8 + 8 * l.length by omega, Nat.pow_add]
  have : 256 * (b.toNat * 2 ^ (8 * l.length)) = b.toNat * (2 ^ 8 * 2 ^ (8 * l.length)) := by
   rw [<- Nat.mul_assoc, <- Nat.mul_assoc, Nat.mul_comm 256]
  omega
theorem Fw (l : List UInt8) : leN l < 2 ^ (8 * l.length) := by
 induction l with
 | nil => simp [leN]
 | cons b l ih =>
  rw [leN, List.length_cons, show 8 * (l.length + 1) = 8 + 8 * l.length by omega, Nat.pow_add]
  have := b.toNat_lt
  omega
def loB (n k : Nat) : List UInt8 := (List.range k).map fun i => UInt8.ofNat (n / 2 ^ (8 * i))
theorem mM (n k : Nat) : (loB n k).length = k := by simp [loB]
theorem BW (n k : Nat) : loB n (k + 1) = loB n k ++ [UInt8.ofNat (n / 2 ^ (8 * k))] := by simp [loB, List.range_succ]
theorem DI (n k : Nat) : leN (loB n k) = n % 2 ^ (8 * k) := by
 induction k with
 | zero => simp [loB, leN, Nat.mod_one]
 | succ k ih =>
  rw [BW, xV, ih, mM, UInt8.toNat_ofNat', show 8 * (k + 1) = 8 * k + 8 by omega, Nat.pow_add, Nat.mod_mul, Nat.mul_comm (2 ^ (8 * k)) (n / 2 ^ (8 * k) % 2 ^ 8)]
def fv (n : Nat) (m : UInt8) : List UInt8 := loB n 8 ++ List.replicate 55 0 ++ [m]
theorem bw (n : Nat) (m : UInt8) : (fv n m).length = 64 := by simp [fv, mM]
theorem tS (n : Nat) (m : UInt8) : mkS (fv n m) = m := by
 unfold mkS fv
 rw [List.getD_eq_getElem?_getD, List.getElem?_append_right (by simp [mM])]
 simp [mM]
theorem xW (n : Nat) (m : UInt8) {k : Nat} (hk : k <= 8) : (fv n m).take k = loB n k := by
 unfold fv
 rw [List.append_assoc, List.take_append_of_le_length (by rw [mM]; exact hk)]
 unfold loB
 rw [<- List.map_take, List.take_range]
 congr 2
 omega
theorem CW (n : Nat) (m m' : UInt8) {c : Nat} (hc : c < 64) : (fv n m).take c ++ (fv n m').drop c = fv n m' := by
 have h : (fv n m).take c = (fv n m').take c := by
  have e : ∀ x : UInt8, (fv n x).take c = (loB n 8 ++ List.replicate 55 0).take c := fun x => by
   unfold fv
   exact List.take_append_of_le_length (by simp [mM]; omega)
  rw [e, e]
 rw [h, List.take_append_drop]
theorem AL {new s : List UInt8} {c : Nat} (hn : new.length = 64) (hc : c < 64) (hs : s.length = 64) : mkS (new.take c ++ s.drop c) = mkS s := by
 unfold mkS
 rw [List.getD_eq_getElem?_getD, List.getD_eq_getElem?_getD, List.getElem?_append_right (by rw [List.length_take]; omega), List.getElem?_drop, List.length_take]
 congr 2; omega
theorem Fx {new s : List UInt8} {c : Nat} (hn : new.length = 64) (hc : c <= 64) (hs : s.length = 64) : mkS (new.take c ++ s.drop c) = mkS s \/ new.take c ++ s.drop c = new := by
 rcases Nat.lt_or_ge c 64 with h | h
 ·exact .inl (AL hn h hs)
 ·right
  rw [List.take_of_length_le (by omega), List.drop_of_length_le (by omega), List.append_nil]
def kV : List UInt8 := List.replicate 64 0
theorem qF : mkS kV = 0 := rfl
def bT (n : Nat) : Nat := (n + 63) / 64
def de (n : Nat) : Nat := 1 + bT n
def sumN : List (List UInt8) -> Nat
 | [] => 0
 | b :: r => de b.length + sumN r
theorem jM (l : List (List UInt8)) (b : List UInt8) : sumN (l ++ [b]) = sumN l + de b.length := by
 induction l with
 | nil => simp [sumN]
 | cons a l ih => simp only [List.cons_append, sumN, ih]; omega
def uP (T : Nat -> List UInt8) (at_ n : Nat) : List UInt8 := (List.range n).flatMap fun j => T (at_ + j)
theorem om (T : Nat -> List UInt8) (at_ n : Nat) : uP T at_ (n + 1) = uP T at_ n ++ T (at_ + n) := by
 simp [uP, List.range_succ]
theorem sv {T T' : Nat -> List UInt8} {at_ n : Nat} (h : ∀ j, at_ <= j -> j < at_ + n -> T j = T' j) : uP T at_ n = uP T' at_ n := by
 induction n with
 | zero => rfl
 | succ n ih => rw [om, om, ih (fun j h1 h2 => h j h1 (by omega)), h (at_ + n) (by omega) (by omega)]
theorem Fy {T : Nat -> List UInt8} {at_ n : Nat} (h : ∀ j, at_ <= j -> j < at_ + n -> (T j).length = 64) : (uP T at_ n).length = n * 64 := by
 induction n with
 | zero => rfl
 | succ n ih => rw [om, List.length_append, ih (fun j h1 h2 => h j h1 (by omega)), h (at_ + n) (by omega) (by omega)]; omega
def fQ (T : Nat -> List UInt8) : Nat -> List (List UInt8) -> Prop
 | at_, [] => at_ < 64 -> mkS (T at_) ≠ 1
 | at_, b :: r => at_ + de b.length <= 64 /\ 0 < b.length /\ T at_ = fv b.length 1 /\ (uP T (at_ + 1) (bT b.length)).take b.length = b /\ fQ T (at_ + de b.length) r
theorem tU {T T' : Nat -> List UInt8} : ∀ {rs : List (List UInt8)} {at_ : Nat}, fQ T at_ rs -> (∀ j, at_ <= j -> j <= at_ + sumN rs -> j < 64 -> T' j = T j) -> fQ T' at_ rs
 | [], at_, h, hT => fun hl => by rw [hT at_ (by omega) (by omega) hl]; exact h hl
 | b :: r, at_, h, hT => by
  obtain ⟨h1, h2, h3, h4, h5⟩ := h
  simp only [sumN] at hT
  have hn : de b.length = 1 + bT b.length := rfl
  have hs : 0 < bT b.length := by unfold bT; omega
  refine ⟨h1, h2, by rw [hT at_ (by omega) (by omega) (by omega)]; exact h3, ?_, tU h5 (fun j g1 g2 g3 => hT j (by omega) (by omega) g3)⟩
  rw [sv (T' := T) (fun j g1 g2 => hT j (by omega) (by omega) (by omega))]
  exact h4
theorem sy {T : Nat -> List UInt8} : ∀ {rs : List (List UInt8)} {at_ : Nat}, fQ T at_ rs -> at_ <= 64 -> at_ + sumN rs <= 64
 | [], at_, h, h0 => by simpa [sumN] using h0
 | b :: r, at_, h, h0 => by
  obtain ⟨h1, h2, h3, h4, h5⟩ := h
  have := sy h5 h1
  simp only [sumN]; omega
theorem mN {T : Nat -> List UInt8} : ∀ {rs : List (List UInt8)} {at_ : Nat}, fQ T at_ rs -> at_ + sumN rs < 64 -> mkS (T (at_ + sumN rs)) ≠ 1
 | [], at_, h, h0 => by simpa [sumN] using h (by simpa [sumN] using h0)
 | b :: r, at_, h, h0 => by
  obtain ⟨h1, h2, h3, h4, h5⟩ := h
  simp only [sumN] at h0 ⊢
  have := mN h5 (by omega)
  rwa [Nat.add_assoc] at this
theorem xX {T T' : Nat -> List UInt8} : ∀ {rs : List (List UInt8)} {at_ : Nat}, fQ T at_ rs -> (∀ j, at_ <= j -> j < at_ + sumN rs -> T' j = T j) -> (at_ + sumN rs < 64 -> mkS (T' (at_ + sumN rs)) ≠ 1) -> fQ T' at_ rs
 | [], at_, h, hT, he => fun hl => by simpa [sumN] using he (by simpa [sumN] using hl)
 | b :: r, at_, h, hT, he => by
  obtain ⟨h1, h2, h3, h4, h5⟩ := h
  simp only [sumN] at hT he
  have hn : de b.length = 1 + bT b.length := rfl
  refine ⟨h1, h2, by rw [hT at_ (by omega) (by omega)]; exact h3, ?_, xX h5 (fun j g1 g2 => hT j (by omega) (by omega)) (fun hl => ?_)⟩
  ·rw [sv (T' := T) (fun j g1 g2 => hT j (by omega) (by omega))]
   exact h4
  ·have := he (by omega)
   rwa [<- Nat.add_assoc] at this
theorem vw {T T' : Nat -> List UInt8} {b : List UInt8} : ∀ {rs : List (List UInt8)} {at_ : Nat}, fQ T at_ rs -> (∀ j, at_ <= j -> j < at_ + sumN rs -> T' j = T j) -> fQ T' (at_ + sumN rs) [b] -> fQ T' at_ (rs ++ [b])
 | [], at_, h, hT, he => by simpa [sumN] using he
 | a :: r, at_, h, hT, he => by
  obtain ⟨h1, h2, h3, h4, h5⟩ := h
  simp only [sumN] at hT he
  have hn : de a.length = 1 + bT a.length := rfl
  refine ⟨h1, h2, by rw [hT at_ (by omega) (by omega)]; exact h3, ?_, vw h5 (fun j g1 g2 => hT j (by omega) (by omega)) (by rwa [Nat.add_assoc])⟩
  rw [sv (T' := T) (fun j g1 g2 => hT j (by omega) (by omega))]
  exact h4
structure aJ where
 place : Nat
 num : Nat
 bP : List (List UInt8)
def aJ.fin (g : aJ) : Nat := 1 + sumN g.bP
def xY (T : Nat -> List UInt8) (g : aJ) : Prop := T 0 = fv g.num 1 /\ fQ T 1 g.bP
theorem xY.fin {T : Nat -> List UInt8} {g : aJ} (h : xY T g) : g.fin <= 64 := sy h.2 (by omega)
abbrev plT (S : Nat -> List UInt8) (p : Nat) : Nat -> List UInt8 := fun j => S (64 * p + j)
structure cI (S : Nat -> List UInt8) (k : Nat) (L : List aJ) : Prop where
 pl : ∀ g ∈ L, g.place < k
 nd : L.Pairwise fun g h => g.place ≠ h.place
 so : L.Pairwise fun g h => g.num < h.num
 on : ∀ g ∈ L, xY (plT S g.place) g
 un : ∀ p, p < k -> (∀ g ∈ L, g.place ≠ p) -> mkS (S (64 * p)) ≠ 1
theorem xY.congr {T T' : Nat -> List UInt8} {g : aJ} (h : xY T g) (hT : ∀ j, j < 64 -> T' j = T j) : xY T' g :=
 ⟨by rw [hT 0 (by omega)]; exact h.1, tU h.2 (fun j _ _ h => hT j h)⟩
theorem cI.off {S S' : Nat -> List UInt8} {k : Nat} {L : List aJ} (h : cI S k L) {p : Nat} (hp : p < k) (hf : ∀ g ∈ L, g.place ≠ p) (hs : ∀ i, i < 64 * k -> ¬ (64 * p <= i /\ i < 64 * p + 64) -> S' i = S i)
  (hm : mkS (S' (64 * p)) ≠ 1) : cI S' k L := by
 refine ⟨h.pl, h.nd, h.so, fun g hg => (h.on g hg).congr (fun j hj => ?_), fun q hq hu => ?_⟩
 ·have h1 := hf g hg
  have h2 := h.pl g hg
  exact hs _ (by omega) (by omega)
 ·by_cases e : q = p
  ·subst e; exact hm
  ·rw [hs _ (by omega) (by omega)]; exact h.un q hq hu
theorem cI.take {S S' : Nat -> List UInt8} {k : Nat} {L : List aJ} (h : cI S k L) {p n : Nat} (hp : p < k) (hf : ∀ g ∈ L, g.place ≠ p) (hs : ∀ i, i < 64 * k -> ¬ (64 * p <= i /\ i < 64 * p + 64) -> S' i = S i)
  (h0 : S' (64 * p) = fv n 1) (h1 : mkS (S' (64 * p + 1)) ≠ 1) (hn : ∀ g ∈ L, g.num < n) : cI S' k (L ++ [⟨p, n, []⟩]) := by
 refine ⟨fun g hg => ?_, ?_, ?_, fun g hg => ?_, fun q hq hu => ?_⟩
 ·rcases List.mem_append.1 hg with h2 | h2
  ·exact h.pl g h2
  ·rw [List.mem_singleton] at h2; subst h2; exact hp
 ·exact List.pairwise_append.2 ⟨h.nd, List.pairwise_singleton _ _, fun a ha b hb => by rw [List.mem_singleton] at hb; subst hb; exact hf a ha⟩
 ·exact List.pairwise_append.2 ⟨h.so, List.pairwise_singleton _ _, fun a ha b hb => by rw [List.mem_singleton] at hb; subst hb; exact hn a ha⟩
 ·rcases List.mem_append.1 hg with h2 | h2
  ·refine (h.on g h2).congr (fun j hj => ?_)
   have h3 := hf g h2
   have h4 := h.pl g h2
   exact hs _ (by omega) (by omega)
  ·rw [List.mem_singleton] at h2; subst h2
   exact ⟨h0, fun _ => h1⟩
 ·have e : q ≠ p := fun e => hu ⟨p, n, []⟩ (by simp) e.symm
  rw [hs _ (by omega) (by omega)]
  exact h.un q hq (fun g hg => hu g (by simp [hg]))
theorem DJ {L : List aJ} (h : L.Pairwise fun g h => g.place ≠ h.place) {g g' : aJ} (hg : g ∈ L) (hg' : g' ∈ L) (e : g.place = g'.place) : g = g' := by
 obtain ⟨i, hi, rfl⟩ := List.getElem_of_mem hg
 obtain ⟨j, hj, rfl⟩ := List.getElem_of_mem hg'
 have hp := List.pairwise_iff_getElem.1 h
 rcases Nat.lt_trichotomy i j with h1 | h1 | h1
 ·exact absurd e (hp i j hi hj h1)
 ·subst h1; rfl
 ·exact absurd e.symm (hp j i hj hi h1)
theorem cI.tail {S S' : Nat -> List UInt8} {k : Nat} {L : List aJ} (h : cI S k L) {g : aJ} (hg : g ∈ L) (hs : ∀ i, i < 64 * k -> ¬ (64 * g.place + g.fin <= i /\ i < 64 * g.place + 64) -> S' i = S i)
  (hm : g.fin < 64 -> mkS (S' (64 * g.place + g.fin)) ≠ 1) : cI S' k L := by
 have hpk := h.pl g hg
 have h1 : 1 <= g.fin := by unfold aJ.fin; omega
 refine ⟨h.pl, h.nd, h.so, fun x hx => ?_, fun q hq hu => ?_⟩
 ·by_cases e : x.place = g.place
  ·have e2 := DJ h.nd hx hg e
   subst e2
   have ho := h.on x hx
   have hfin := ho.fin
   exact ⟨by show S' (64 * x.place + 0) = _; rw [hs _ (by omega) (by omega)]; exact ho.1, xX ho.2 (fun j g1 g2 => hs _ (by unfold aJ.fin at hfin; omega) (by unfold aJ.fin; omega)) hm⟩
  ·refine (h.on x hx).congr (fun j hj => ?_)
   have h3 := h.pl x hx
   exact hs _ (by omega) (by omega)
 ·have e : g.place ≠ q := hu g hg
  rw [hs _ (by omega) (by omega)]
  exact h.un q hq hu
theorem cI.add {S S' : Nat -> List UInt8} {k : Nat} {M : List aJ} {g : aJ} {b : List UInt8} (h : cI S k (M ++ [g])) (hs : ∀ i, i < 64 * k -> ¬ (64 * g.place + g.fin <= i /\ i < 64 * g.place + 64) -> S' i = S i)
  (hr : fQ (plT S' g.place) g.fin [b]) : cI S' k (M ++ [{ g with bP := g.bP ++ [b] }]) := by
 have hg : g ∈ M ++ [g] := by simp
 have hpk := h.pl g hg
 have h1 : 1 <= g.fin := by unfold aJ.fin; omega
 have hn := List.pairwise_append.1 h.nd
 have hso := List.pairwise_append.1 h.so
 refine ⟨fun x hx => ?_, ?_, ?_, fun x hx => ?_, fun q hq hu => ?_⟩
 ·rcases List.mem_append.1 hx with h2 | h2
  ·exact h.pl x (by simp [h2])
  ·rw [List.mem_singleton] at h2; subst h2; exact hpk
 ·exact List.pairwise_append.2 ⟨hn.1, List.pairwise_singleton _ _, fun a ha c hc => by rw [List.mem_singleton] at hc; subst hc; exact hn.2.2 a ha g (by simp)⟩
 ·exact List.pairwise_append.2 ⟨hso.1, List.pairwise_singleton _ _, fun a ha c hc => by rw [List.mem_singleton] at hc; subst hc; exact hso.2.2 a ha g (by simp)⟩
 ·rcases List.mem_append.1 hx with h2 | h2
  ·refine (h.on x (by simp [h2])).congr (fun j hj => ?_)
   have h3 := h.pl x (by simp [h2])
   have h4 := hn.2.2 x h2 g (by simp)
   exact hs _ (by omega) (by omega)
  ·rw [List.mem_singleton] at h2; subst h2
   have ho := h.on g hg
   have hfin := ho.fin
   show xY (plT S' g.place) { g with bP := g.bP ++ [b] }
   exact ⟨by show S' (64 * g.place + 0) = _; rw [hs _ (by omega) (by omega)]; exact ho.1, vw ho.2 (fun j g1 g2 => hs _ (by unfold aJ.fin at hfin; omega) (by unfold aJ.fin; omega)) hr⟩
 ·have e : g.place ≠ q := hu { g with bP := g.bP ++ [b] } (by simp)
  rw [hs _ (by omega) (by omega)]
  refine h.un q hq (fun x hx => ?_)
  rcases List.mem_append.1 hx with h2 | h2
  ·exact hu x (by simp [h2])
  ·rw [List.mem_singleton] at h2; subst h2; exact e
theorem cI.drop {S S' : Nat -> List UInt8} {k : Nat} {L : List aJ} (h : cI S k L) {i : Nat} (hi : i < L.length) (hs : ∀ q, q < 64 * k -> q ≠ 64 * L[i].place -> S' q = S q)
  (hm : mkS (S' (64 * L[i].place)) ≠ 1) : cI S' k (L.eraseIdx i) := by
 have hsub := List.eraseIdx_sublist L i
 have hne : ∀ x ∈ L.eraseIdx i, x.place ≠ L[i].place := by
  intro x hx e
  obtain ⟨j, hj, rfl⟩ := List.getElem_of_mem hx
  have hp := List.pairwise_iff_getElem.1 h.nd
  rw [List.getElem_eraseIdx] at e
  rw [List.length_eraseIdx_of_lt hi] at hj
  split at e
  ·exact hp j i (by omega) hi (by omega) e
  ·exact hp i (j + 1) hi (by omega) (by omega) e.symm
 refine ⟨fun x hx => h.pl x (hsub.subset hx), h.nd.sublist hsub, h.so.sublist hsub, fun x hx => ?_, fun q hq hu => ?_⟩
 ·refine (h.on x (hsub.subset hx)).congr (fun j hj => ?_)
  have h1 := hne x hx
  have h2 := h.pl x (hsub.subset hx)
  exact hs _ (by omega) (by omega)
 ·by_cases e : q = L[i].place
  ·subst e; exact hm
  ·rw [hs _ (by omega) (by omega)]
   refine h.un q hq (fun x hx => ?_)
   obtain ⟨j, hj, rfl⟩ := List.getElem_of_mem hx
   by_cases e2 : j = i
   ·subst e2; exact fun h => e h.symm
   ·refine hu _ ?_
    rw [List.mem_eraseIdx_iff_getElem]
    exact ⟨j, hj, e2, rfl⟩
end Go.D
namespace Go.D
open Go Go.Proofs
theorem nu (n : Nat) (hn : n <= 2 ^ 40) (w : World) : Calls Tryz.prog iu ⟨[.int .i64 (n : Int)]⟩ w fun e w' => e = .returned (.int .i64 (bT n : Int)) /\ w' = w := by
 refine vP _ ?_
 unfold tm bT
 refine ⟨ar (by omega), ar (by omega), by omega, by omega, ar (by omega), ?_, rfl⟩
 congr 2; omega
theorem zj {n i : Nat} (hi : i < n) (l : List UInt8) (b : UInt8) (hl : l.length = i) : (l ++ List.replicate (n - i) 0).set i b = l ++ [b] ++ List.replicate (n - (i + 1)) 0 := by
 rw [List.set_append_right _ _ (by omega), hl, Nat.sub_self, show n - i = (n - (i + 1)) + 1 by omega, List.replicate_succ, List.set_cons_zero]
 simp
theorem sC (n : Nat) (m : UInt8) (hn : n < 2 ^ 62) (w : World) :
  Calls Tryz.prog jf ⟨[.int .i64 (n : Int), .int .u8 (m.toNat : Int)]⟩ w fun e w' => ∃ t : Slc, e = .returned t.v /\ Own w' t 1 ((fv n m).map aS) /\ aN w t /\ ah w w' := by
 refine AB _ _ ?_
 unfold zO
 refine ⟨by omega, by omega, by omega, ao (fun r w4 hr hb k4 hs => ?_)⟩
 rw [xr] at hb
 refine ⟨fun i w2 => ∃ j : Nat, i = j /\ j <= 8 /\ aq w2 r ((loB n j ++ List.replicate (64 - j) 0).map aS) /\ ah w w2, fun i _ => (8 - i).toNat, ⟨0, rfl, by omega, by simpa [loB] using aq.eS hb, k4⟩, ?_⟩
 rintro i w8 ⟨j, rfl, hj, ho, hk⟩
 intros
 have hlen : ((loB n j ++ List.replicate (64 - j) 0).map aS).length = 64 := by simp [mM]; omega
 refine af (fun h => ?_) (fun h => ?_)
 ·rw [Int.toNat_natCast, Nat.mul_one, add_lit, Nat.zero_add]
  obtain ⟨c1, c2⟩ := ho.bf j (by omega) (.int .u8 (IntKind.wrap .u8 ((n : Int) / ((2 ^ min (Int.toNat ((8 : Int) * (j : Int))) 64 : Nat) : Int))))
  refine ⟨ar (by omega), by omega, by omega, by omega, by omega, c1, fun w21 hw => ?_⟩
  obtain ⟨g1, g2, g3⟩ := c2 w21 hw
  refine ⟨ar (by omega), ⟨j + 1, rfl, by omega, ?_, hk.ext g2 (fun k hk => by omega)⟩, by dsimp only; omega⟩
  rw [HC, show min (Int.toNat ((8 : Int) * (j : Int))) 64 = 8 * j by omega, <- List.map_set, zj (by omega) _ _ (mM n j), <- BW] at g1
  exact g1
 ·have hj8 : j = 8 := by omega
  subst hj8
  obtain ⟨c1, c2⟩ := ho.bf 63 (by omega) (.int .u8 (m.toNat : Int))
  refine ⟨by omega, by omega, c1, fun w22 hw => ?_⟩
  obtain ⟨g1, g2, g3⟩ := c2 w22 hw
  have e1 : ((loB n 8 ++ List.replicate (64 - 8) 0).map aS).set 63 (.int .u8 (m.toNat : Int)) = (fv n m).map aS := by
   rw [show Value.int .u8 (m.toNat : Int) = aS m from rfl, <- List.map_set]
   rfl
  rw [e1] at g1
  obtain ⟨T, f, g4, g5⟩ := g1
  exact ⟨_, rfl, Own.new (sz := 1) (n := 64) g4 g5 (by simp [bw]), aN.at (by omega), hk.ext g2 (fun k hk => by omega)⟩
theorem pa (s : Slc) (b : List UInt8) (k : Nat) (w : World) (hb : au w s b) (hk : k <= b.length) (hk8 : k <= 8) (hl : leN (b.take k) < 2 ^ 63) :
  Calls Tryz.prog jb ⟨[s.v, .int .i64 (k : Int)]⟩ w fun e w' => e = .returned (.int .i64 (leN (b.take k) : Int)) /\ w' = w := by
 refine xt _ _ ?_
 unfold vl
 refine ⟨fun n i w2 => ∃ j : Nat, i = j /\ j <= k /\ n = leN (b.take j) /\ w2 = w, fun _ i _ => ((k : Int) - i).toNat, ⟨0, rfl, by omega, rfl, rfl⟩, ?_⟩
 rintro n i w7 ⟨j, rfl, hj, rfl, rfl⟩
 intros
 refine af (fun h => ?_) (fun h => by rw [show j = k by omega]; exact ⟨rfl, rfl⟩)
 have hjb : j < b.length := by omega
 obtain ⟨a, ha, hc⟩ := eE hb hjb
 have hsl := hb.1
 have hsn := xV (b.take j) b[j]
 rw [<- fP _ _ hjb, List.length_take, show min j b.length = j by omega] at hsn
 have hmono : ∀ q, leN (b.take (j + 1)) <= leN (b.take (j + 1 + q)) := by
  intro q
  induction q with
  | zero => exact Nat.le_refl _
  | succ q ih =>
   refine Nat.le_trans ih ?_
   by_cases hq : j + 1 + q < b.length
   ·rw [<- Nat.add_assoc, fP _ _ hq, xV]; omega
   ·rw [List.take_of_length_le (by omega), List.take_of_length_le (by omega)]; omega
 have h9 := hmono (k - (j + 1))
 rw [show j + 1 + (k - (j + 1)) = k by omega] at h9
 have hlt := Fw (b.take j)
 rw [List.length_take, show min j b.length = j by omega] at hlt
 have hbt := b[j].toNat_lt
 have e1 : min (Int.toNat ((8 : Int) * (j : Int))) 64 = 8 * j := by omega
 have e2 : ((b[j].toNat : Int) * ((2 ^ (8 * j) : Nat) : Int)) = ((b[j].toNat * 2 ^ (8 * j) : Nat) : Int) := by rw [Int.natCast_mul]
 rw [e1]
 refine aa ha ⟨by omega, by omega, (b[j].toNat : Int), by rw [Int.toNat_natCast, Nat.mul_one, hc]; rfl, ar (by omega), ar (by omega), by omega, ?_⟩
 rw [e2]
 refine ⟨ar (by omega), by omega, by omega, ar (by omega), ar (by omega), ar (by omega), ⟨j + 1, rfl, by omega, ?_, rfl⟩, by dsimp only; omega⟩
 rw [DG, DH _ _ _ hlt, hsn]
section
variable {w : World} {r rd : Nat} {q : cU} {d : aK}
theorem sH (hc : w.cell? ⟨r, 0, none⟩ = some (av rd)) (h : aP w rd q d) :
  Calls Tryz.prog dR ⟨[av r]⟩ w fun e w' => e = .returned (.int .i64 (d.n / 64 : Nat)) /\ w' = w := by
 refine rR _ ?_
 unfold pz
 have := h.ok.l
 refine aa rfl ⟨_, hc, (zY h).mono ?_⟩
 rintro e w4 ⟨rfl, rfl⟩
 have hn : d.n = d.img.length / 64 := rfl
 exact ⟨_, rfl, by omega, by omega, ar (by omega), by congr 2, rfl⟩
theorem lj (A : Nat -> Addr) (hc : w.cell? ⟨r, 0, none⟩ = some (av rd)) (h : aP w rd q d) (hp : d.aI = []) (p i : Nat) (hi : 64 * p + i < d.n) {n0 : Nat} (hE : bK pX A n0 w) :
  Calls Tryz.prog bZ ⟨[av r, .int .i64 (p : Int), .int .i64 (i : Int)]⟩ w fun e w' => ∃ t : Slc, e = .returned t.v /\ Own w' t 1 ((plT (aW d.img) p i).map aS) /\ aN w t /\ ah w w' := by
 refine qo _ _ _ ?_
 unfold mA
 have := h.ok.l
 have hn : d.n = d.img.length / 64 := rfl
 refine aa rfl ⟨_, hc, ar (by omega), ar (by omega), (CU A h _ hE (by rw [hp]; simp)).mono ?_⟩
 rintro e w7 ⟨k7, h7⟩
 have hin : xQ d ((p : Int) * 64 + i) = true := by unfold xQ; exact decide_eq_true (by omega)
 rw [if_neg (by rw [hin]; simp)] at h7
 obtain ⟨t, rfl, ht, hf⟩ := h7
 refine ⟨t, _, rfl, trivial, aj (fun h => by cases h) (fun _ => ⟨t, rfl, ?_, hf, k7⟩)⟩
 have e1 : vu d ((p : Int) * 64 + i) = plT (aW d.img) p i := by
  unfold vu
  rw [hp]
  show aW d.img ((p : Int) * 64 + i).toNat = _
  congr 1; omega
 rw [<- e1]; exact ht
end
theorem gx {s : Slc} {k : Nat} (h : lK [s.v] k) : 0 < s.l /\ ai s k := by
 obtain ⟨s', hs, h1, h2⟩ := h
 have : s' = s := by
  obtain ⟨p, l, c⟩ := s
  obtain ⟨p', l', c'⟩ := s'
  simp [Slc.v] at hs
  obtain ⟨rfl, rfl, rfl⟩ := hs
  rfl
 subst this
 exact ⟨h1, h2⟩
theorem vx {s : Slc} {k : Nat} (h0 : 0 < s.l) (h : ai s k) : lK [s.v] k := ⟨s, by simp, h0, h⟩
def pY : AA (List UInt8) where
 n := 1
 pos := by omega
 R w x cs := ∃ s : Slc, cs = [s.v] /\ au w s x
 len := by rintro w x cs ⟨s, rfl, _⟩; rfl
 one := by rintro w x cs ⟨s, rfl, _⟩; intro v hv; simp at hv; subst hv; rfl
 ext := by
  rintro M w w' x cs ⟨s, rfl, h⟩ he hm
  exact ⟨s, rfl, aZ h he (fun h0 k hk => hm k (vx h0 hk))⟩
 lt := by
  rintro w x cs ⟨s, rfl, h⟩ k hk
  obtain ⟨h0, hk⟩ := gx hk
  exact fu h h0 k hk
theorem GR {w : World} {s : Slc} {xs : List (List UInt8)} {css : List (List Value)} (h : Rows pY w s xs css) {i : Nat} (hi : i < xs.length) :
  ∃ (a : Addr) (t : Slc), s.p = some a /\ w.cell? (Addr.add a (i * 1)) = some t.v /\ au w t xs[i] /\ (0 < t.l -> ∀ k, ai t k -> dK css k) := by
 have hi2 : i < css.length := by rw [h.len]; exact hi
 obtain ⟨a, ha, _, hrow⟩ := h.get hi2
 obtain ⟨t, hs, hb⟩ := h.row i hi2 hi
 rw [hs] at hrow
 have e : (a.add (i * pY.n)).add 0 = a.add (i * 1) := by simp [Addr.add, pY]
 have := hrow.1
 rw [e] at this
 exact ⟨a, t, ha, this, hb, fun h0 k hk => ⟨_, List.getElem_mem hi2, by rw [hs]; exact vx h0 hk⟩⟩
section
variable {w : World} {r rd : Nat} {q : cU} {d : aK}
theorem AM (A : Nat -> Addr) (hc : w.cell? ⟨r, 0, none⟩ = some (av rd)) (h : aP w rd q d) (hp : d.aI = []) (p at_ : Nat) (hpn : 64 * p + 64 <= d.n) (ha : at_ <= 64) {n0 : Nat} (hE : bK pX A n0 w)
  (hr : fQ (plT (aW d.img) p) at_ []) :
  Calls Tryz.prog b9 ⟨[av r, .int .i64 (p : Int), .int .i64 (at_ : Int)]⟩ w fun e w' => e = .returned (.tuple ⟨[(⟨none, 0, 0⟩ : Slc).v, .int .i64 0, .bool false]⟩) /\ ah w w' := by
 refine jY _ _ _ ?_
 unfold jh
 refine af (fun h0 => ⟨rfl, Ext.refl _ _⟩) (fun h0 => ?_)
 have hm := hr (by omega)
 refine (lj A hc h hp p at_ (by omega) hE).mono ?_
 rintro e w5 ⟨t, rfl, ht, hf, k5⟩
 have htl : (plT (aW d.img) p at_).length = 64 := jl (by have : d.n = d.img.length / 64 := rfl; omega)
 have hlt := Fw ((plT (aW d.img) p at_).take 2)
 rw [List.length_take, htl, show min 2 64 = 2 from rfl] at hlt
 refine ⟨t, rfl, (pa t _ 2 w5 ht.bytes (by omega) (by omega) (by omega)).mono ?_⟩
 rintro e w8 ⟨rfl, rfl⟩
 refine ⟨_, rfl, ar (by omega), (nu _ (by omega) w8).mono ?_⟩
 rintro e w11 ⟨rfl, rfl⟩
 have hs : bT (leN ((plT (aW d.img) p at_).take 2)) <= 2000 := by unfold bT; omega
 obtain ⟨a, hta, hcell⟩ := eE ht.bytes (i := 63) (by omega)
 have hsl := ht.bytes.1
 refine ⟨_, rfl, ar (by omega), fun _ => False, aa hta ⟨by omega, by omega, _, hcell, aj (fun h => ⟨rfl, k5⟩) (fun h => ?_)⟩, fun w16 h => h.elim⟩
 exfalso
 apply hm
 have h2 : (((plT (aW d.img) p at_)[63]'(by omega)).toNat : Int) = 1 := by simpa using h
 unfold mkS
 rw [List.getD_eq_getElem?_getD, List.getElem?_eq_getElem (by omega), Option.getD_some]
 exact UInt8.toNat_inj.1 (by show _ = 1; omega)
theorem AN (A : Nat -> Addr) (hc : w.cell? ⟨r, 0, none⟩ = some (av rd)) (h : aP w rd q d) (hp : d.aI = []) (p at_ : Nat) (hpn : 64 * p + 64 <= d.n) {n0 : Nat} (hE : bK pX A n0 w) {b : List UInt8} {rs : List (List UInt8)}
  (hr : fQ (plT (aW d.img) p) at_ (b :: rs)) :
  Calls Tryz.prog b9 ⟨[av r, .int .i64 (p : Int), .int .i64 (at_ : Int)]⟩ w fun e w' => ∃ t : Slc, e = .returned (.tuple ⟨[t.v, .int .i64 ((at_ + de b.length : Nat) : Int), .bool true]⟩) /\ au w' t b /\ aN w t /\ ah w w' := by
 refine jY _ _ _ ?_
 unfold jh
 obtain ⟨h1, h2, h3, h4, _⟩ := hr
 have hn : de b.length = 1 + bT b.length := rfl
 have hs : 0 < bT b.length := by unfold bT; omega
 have hsb : b.length <= bT b.length * 64 := by unfold bT; omega
 refine af (fun h0 => by omega) (fun h0 => ?_)
 refine (lj A hc h hp p at_ (by omega) hE).mono ?_
 rintro e w5 ⟨t, rfl, ht, hf, k5⟩
 rw [h3] at ht
 have e1 : leN ((fv b.length 1).take 2) = b.length := by
  rw [xW _ _ (by omega), DI]
  exact Nat.mod_eq_of_lt (by omega)
 have hnum := pa t _ 2 w5 ht.bytes (by rw [bw]; omega) (by omega) (by rw [e1]; omega)
 rw [e1] at hnum
 refine ⟨t, rfl, hnum.mono ?_⟩
 rintro e w8 ⟨rfl, rfl⟩
 refine ⟨_, rfl, ar (by omega), (nu _ (by omega) w8).mono ?_⟩
 rintro e w11 ⟨rfl, rfl⟩
 obtain ⟨a, hta, hcell⟩ := eE ht.bytes (i := 63) (by rw [bw]; omega)
 have hsl := ht.bytes.1
 rw [bw] at hsl
 have hmk : (fv b.length 1)[63]'(by rw [bw]; omega) = 1 := by
  have := tS b.length 1
  unfold mkS at this
  rwa [List.getD_eq_getElem?_getD, List.getElem?_eq_getElem (by rw [bw]; omega), Option.getD_some] at this
 rw [hmk] at hcell
 refine ⟨_, rfl, ar (by omega), fun w2 => w2 = w11, aa hta ⟨by omega, by omega, _, hcell, aT (fun h => absurd rfl h) (fun _ => af (fun h => by omega) (fun _ => af (fun h => by omega) (fun _ => rfl)))⟩, ?_⟩
 rintro w16 rfl
 intros
 refine ⟨ar (by omega), fun s2 i w2 => ∃ k : Nat, i = ((at_ + 1 + k : Nat) : Int) /\ k <= bT b.length /\ Own w2 s2 1 ((uP (plT (aW d.img) p) (at_ + 1) k).map aS) /\ aN w s2 /\ ah w w2, fun _ i _ => (((at_ + 1 + bT b.length : Nat) : Int) - i).toNat,
  ⟨0, by omega, by omega, Own.nil _ _, aN.nil _ _ _, k5⟩, ?_⟩
 rintro s2 i w36 ⟨k, rfl, hk, ho, hfr, hkk⟩
 intros
 have hcl : ∀ m, m <= bT b.length -> (uP (plT (aW d.img) p) (at_ + 1) m).length = m * 64 := fun m hm => Fy (fun j g1 g2 => jl (by have : d.n = d.img.length / 64 := rfl; omega))
 refine af (fun h5 => ?_) (fun h5 => ?_)
 ·refine (lj A (hkk.cell hc) (h.ae hkk) hp p (at_ + 1 + k) (by omega) (hE.ae hkk)).mono ?_
  rintro e w49 ⟨t2, rfl, ht2, hf2, k49⟩
  have hl2 : t2.l = 64 := by
   have := ht2.bytes.1
   rw [this]
   exact jl (by have : d.n = d.img.length / 64 := rfl; omega)
  have hol := ho.1
  rw [List.length_map, hcl k hk] at hol
  refine ⟨t2, rfl, fx (w0 := w) (ho.ae k49) rfl hfr (hkk.trans k49) (eD ht2.bytes) (by simp only [Src.n]; omega) (fun s' w' g1 g2 g3 g4 => ?_)⟩
  refine ⟨ar (by omega), ⟨k + 1, by omega, by omega, by rw [om]; exact g1, g3, g2⟩, by dsimp only; omega⟩
 ·have hke : k = bT b.length := by omega
  subst hke
  have hol := ho.1
  rw [List.length_map, hcl _ hk] at hol
  have hle := ho.le (by omega)
  refine ⟨by omega, by omega, by omega, by omega, _, by
   rw [show ((at_ : Int) + 1 + (bT b.length : Nat)) = ((at_ + de b.length : Nat) : Int) by omega], ?_, ?_, hkk⟩
  ·have hsub := iP ho.bytes (lo := 0) (hi := b.length) (c := s2.c) (by omega) (by rw [hcl _ hk]; exact hsb) (by omega)
   rw [h4, List.drop_zero] at hsub
   rw [Int.toNat_natCast]
   exact hsub
  ·rintro k ⟨a', ha', rfl⟩
   simp only [Slc.sub] at ha'
   split at ha'
   ·exact hfr _ ⟨a', ha', rfl⟩
   ·obtain ⟨a0, h00, rfl⟩ := Option.map_eq_some_iff.1 ha'
    rw [ew]
    exact hfr _ ⟨a0, h00, rfl⟩
end
end Go.D
namespace Go.D
open Go
def qG (x : Int) : List Value := [.int .i64 x]
theorem lX {x : Int} {k : Nat} : ¬ lK (qG x) k := by rintro ⟨s, hs, _⟩; simp [qG, Slc.v] at hs
def vY : AA Int where
 n := 1
 pos := by omega
 R _ x cs := cs = qG x
 len h := by rw [h]; rfl
 one h := by rw [h]; intro v hv; simp [qG] at hv; subst hv; rfl
 ext h _ _ := h
 lt h := by rw [h]; intro k hk; exact (lX hk).elim
def aB (w : World) (s : Slc) (l : List Int) : Prop := Rows vY w s l (l.map qG)
theorem aB.of {w : World} {s : Slc} {l : List Int} {css : List (List Value)} (h : Rows vY w s l css) : aB w s l := by
 have : css = l.map qG := by
  apply List.ext_getElem
  ·rw [h.len, List.length_map]
  ·intro i h1 h2
   rw [List.getElem_map]
   exact h.row i h1 (by simpa using h2)
 rw [this] at h
 exact h
theorem oq {l : List Int} {k : Nat} : ¬ dK (l.map qG) k := by
 rintro ⟨cs, hc, hk⟩
 obtain ⟨x, _, rfl⟩ := List.mem_map.1 hc
 exact lX hk
theorem aB.ext {M : Nat -> Prop} {w w' : World} {s : Slc} {l : List Int} (h : aB w s l) (he : Ext M w w') (h1 : ∀ k, ai s k -> ¬ M k) : aB w' s l := Rows.ext h he h1 (fun k hk => (oq hk).elim)
theorem aB.ae {w w' : World} {s : Slc} {l : List Int} (h : aB w s l) (he : ah w w') : aB w' s l := h.ext he (fun _ _ h => h)
theorem aB.nil (w : World) : aB w ⟨none, 0, 0⟩ [] := Rows.nil _ _
theorem jm (l : List Int) : (l.map qG).flatten = l.map fun x => Value.int .i64 x := by
 induction l with
 | nil => rfl
 | cons a l ih => rw [List.map_cons, List.flatten_cons, ih]; rfl
theorem aB.ints {w : World} {s : Slc} {l : List Int} (h : aB w s l) : dk w s l := by
 have h1 := h.sl
 have h2 := h.own.cells
 rw [jm] at h2
 exact ⟨h1, h2⟩
theorem aB.new {w : World} {r : Nat} {T : TypeId} (h : w.heap[r]? = some (.cells ⟨[]⟩ T)) : aB w ⟨some ⟨r, 0, none⟩, 0, 0⟩ [] :=
 ⟨Own.new (sz := 1) (n := 0) h (.inl (by simp)) rfl, rfl, fun i h => by simp at h, fun k hk => (oq (l := []) hk).elim⟩
theorem aB.get {w : World} {s : Slc} {l : List Int} (h : aB w s l) {i : Nat} (hi : i < l.length) : ∃ a, s.p = some a /\ World.cell? w (Addr.add a (i * 1)) = some (.int .i64 l[i]) := by
 obtain ⟨a, ha, _, hrow⟩ := Rows.get h (i := i) (by simpa using hi)
 rw [List.getElem_map] at hrow
 have := hrow.1
 have e : (a.add (i * vY.n)).add 0 = a.add (i * 1) := by simp [Addr.add, vY]
 rw [e] at this
 exact ⟨a, ha, this⟩
theorem aB.set {w : World} {s : Slc} {l : List Int} (h : aB w s l) {i : Nat} (hi : i < l.length) (x : Int) {a : Addr} (ha : s.p = some a) :
  aw w (Addr.add a (i * 1)) 1 /\ ∀ w', w' = World.setCell w (Addr.add a (i * 1)) (.int .i64 x) -> aB w' s (l.set i x) /\ Ext (ai s) w w' /\ w'.heap.size = w.heap.size := by
 have hi2 : i < (l.map qG).length := by simpa using hi
 have hcs : (l.map qG)[i].take 0 ++ [Value.int .i64 x] ++ (l.map qG)[i].drop (0 + [Value.int .i64 x].length) = qG x := by rw [List.getElem_map]; rfl
 obtain ⟨cw, g⟩ := Rows.set h hi2 0 [.int .i64 x] (Nat.le_refl 1) x ha (fun w' _ => by rw [hcs]; rfl) (fun k hk => by rw [hcs] at hk; exact (lX hk).elim)
 have e : (a.add (i * vY.n)).add 0 = a.add (i * 1) := by simp [Addr.add, vY]
 rw [e] at cw g
 refine ⟨cw, fun w' hw' => ?_⟩
 obtain ⟨g1, g2, g3⟩ := g w' (by rw [hw']; simp [setCells, Addr.add])
 exact ⟨aB.of g1, g2, g3⟩
theorem aB.push {T E : TypeId} {w w0 : World} {s : Slc} {l : List Int} {x : Int} {K : Slc -> World -> Prop} (h : aB w s l) (hf : aN w0 s) (hk : ah w0 w) (hlen : l.length < 2 ^ 30)
  (hK : ∀ s' w', aB w' s' (l ++ [x]) -> aN w0 s' -> ah w0 w' -> Ext (ai s) w w' -> (∀ k, ai s' k -> ai s k \/ w.heap.size <= k) -> K s' w') :
  aA w (.cells ⟨[.int .i64 x]⟩ T) fun r w2 => ak 1 E [.int .i64 0] w2 s (.slc ⟨some ⟨r, 0, none⟩, 1, 1⟩) K := by
 refine ao (fun r w2 hr hb k2 hs2 => ?_)
 have h2 : Rows vY w2 s l (l.map qG) := h.ae k2
 have z2 := k2.size
 have z0 := hk.size
 refine h2.snoc (cs := qG x) (x := x) (z := [.int .i64 0]) rfl rfl (fun k hk => (lX hk).elim) hb (.inl (by simp)) hlen (fun s' w' g1 g2 g3 => ?_)
 have g3' : ∀ k, ai s' k -> ai s k \/ w.heap.size <= k := fun k hk => (g3 k hk).imp (fun h => h) (fun h => by omega)
 exact hK s' w' (aB.of (by simpa using g1)) (fun j hj => (g3' j hj).elim (fun h => hf j h) (fun h => by omega)) ((hk.trans k2).ext g2 (fun j hj => hf j hj)) (Ext.trans k2 g2 (fun _ h => h.elim) (fun _ h => .inl h)) g3'
end Go.D
namespace Go.D
open Go Go.Proofs
structure uQ where
 o : Nat
 s : Slc
 css : List (List Value)
def pZ (g : aJ) (s : Slc) : List Value := [.int .i64 (g.place : Int), .int .i64 (g.num : Int), s.v, .int .i64 (g.fin : Int)]
structure gj (w : World) (x : uQ) (g : aJ) : Prop where
 o : aq w x.o (pZ g x.s)
 r : Rows pY w x.s g.bP x.css
 n1 : ¬ ai x.s x.o
 n2 : ∀ k, dK x.css k -> k ≠ x.o
def iK (x : uQ) (k : Nat) : Prop := k = x.o \/ ai x.s k \/ dK x.css k
theorem gj.ext {M : Nat -> Prop} {w w' : World} {x : uQ} {g : aJ} (h : gj w x g) (he : Ext M w w') (hm : ∀ k, iK x k -> ¬ M k) : gj w' x g :=
 ⟨h.o.ext he (hm _ (.inl rfl)), h.r.ext he (fun k hk => hm k (.inr (.inl hk))) (fun k hk => hm k (.inr (.inr hk))), h.n1, h.n2⟩
theorem gj.ae {w w' : World} {x : uQ} {g : aJ} (h : gj w x g) (he : ah w w') : gj w' x g := h.ext he (fun _ _ h => h)
theorem gj.lt {w : World} {x : uQ} {g : aJ} (h : gj w x g) : ∀ k, iK x k -> k < w.heap.size := by
 rintro k (rfl | hk | hk)
 ·exact h.o.lt
 ·exact h.r.lt k hk
 ·exact h.r.flt k hk
structure StP where
 sp : Slc
 xs : List uQ
structure eO (w : World) (r rd : Nat) (u : StP) (L : List aJ) : Prop where
 o : aq w r [av rd, u.sp.v]
 s : Own w u.sp 1 (u.xs.map fun x => av x.o)
 len : u.xs.length = L.length
 g : ∀ i (h : i < u.xs.length) (h' : i < L.length), gj w u.xs[i] L[i]
 sep : u.xs.Pairwise fun x y => ∀ k, iK x k -> ¬ iK y k
 sr : ¬ ai u.sp r
 ds : ∀ x ∈ u.xs, ∀ k, iK x k -> k ≠ r /\ ¬ ai u.sp k
def StB (r : Nat) (u : StP) (k : Nat) : Prop := k = r \/ ai u.sp k \/ ∃ x ∈ u.xs, iK x k
section
variable {w w' : World} {r rd : Nat} {u : StP} {L : List aJ}
theorem eO.ext {M : Nat -> Prop} (h : eO w r rd u L) (he : Ext M w w') (hm : ∀ k, StB r u k -> ¬ M k) : eO w' r rd u L :=
 ⟨h.o.ext he (hm _ (.inl rfl)), h.s.ext he (fun k hk => hm k (.inr (.inl hk))), h.len, fun i h1 h2 => (h.g i h1 h2).ext he (fun k hk => hm k (.inr (.inr ⟨_, List.getElem_mem h1, hk⟩))), h.sep, h.sr, h.ds⟩
theorem eO.ae (h : eO w r rd u L) (he : ah w w') : eO w' r rd u L := h.ext he (fun _ _ h => h)
theorem eO.lt (h : eO w r rd u L) : ∀ k, StB r u k -> k < w.heap.size := by
 rintro k (rfl | hk | ⟨x, hx, hk⟩)
 ·exact h.o.lt
 ·exact cD h.s k hk
 ·obtain ⟨i, hi, rfl⟩ := List.getElem_of_mem hx
  exact (h.g i hi (by rw [<- h.len]; exact hi)).lt k hk
theorem eO.c0 (h : eO w r rd u L) : w.cell? ⟨r, 0, none⟩ = some (av rd) := h.o.cell 0 (by simp)
theorem eO.c1 (h : eO w r rd u L) : w.cell? ((⟨r, 0, none⟩ : Addr).add 1) = some u.sp.v := by rw [add_lit]; exact h.o.cell 1 (by simp)
theorem eO.sl (h : eO w r rd u L) : u.sp.l = L.length := by have := h.s.1; rw [List.length_map, h.len] at this; omega
theorem eO.at (h : eO w r rd u L) {i : Nat} (hi : i < L.length) : ∃ (a : Addr) (x : uQ), u.sp.p = some a /\ w.cell? (Addr.add a (i * 1)) = some (av x.o) /\ gj w x L[i] /\ (∃ hi' : i < u.xs.length, u.xs[i] = x) := by
 have hi2 : i < u.xs.length := by rw [h.len]; exact hi
 obtain ⟨a, ha, hc⟩ := bc h.s.cells (i := i) (by simpa using hi2)
 exact ⟨a, u.xs[i], ha, by rw [Nat.mul_one, hc]; simp, h.g i hi2 hi, hi2, rfl⟩
end
theorem gy (w : World) {x : uQ} {g : aJ} (h : gj w x g) : w.cell? ⟨x.o, 0, none⟩ = some (.int .i64 (g.place : Int)) /\ w.cell? ((⟨x.o, 0, none⟩ : Addr).add 1) = some (.int .i64 (g.num : Int)) /\
  w.cell? ((⟨x.o, 0, none⟩ : Addr).add 2) = some x.s.v /\ w.cell? ((⟨x.o, 0, none⟩ : Addr).add 3) = some (.int .i64 (g.fin : Int)) := by
 refine ⟨h.o.cell 0 (by simp [pZ]), ?_, ?_, ?_⟩
 ·rw [add_lit]; exact h.o.cell 1 (by simp [pZ])
 ·rw [add_lit]; exact h.o.cell 2 (by simp [pZ])
 ·rw [add_lit]; exact h.o.cell 3 (by simp [pZ])
def lastN (L : List aJ) : Int := match L.getLast? with | some g => g.num | none => -1
theorem ot {L : List aJ} (h : 0 < L.length) : lastN L = (L[L.length - 1]'(by omega)).num := by
 unfold lastN
 rw [List.getLast?_eq_getElem?, List.getElem?_eq_getElem (by omega)]
section
variable {w : World} {r rd : Nat} {u : StP} {L : List aJ}
theorem xZ (h : eO w r rd u L) (hL : L.length <= 2 ^ 40) : Calls Tryz.prog fH ⟨[av r]⟩ w fun e w' => e = .returned (.int .i64 (lastN L)) /\ ah w w' := by
 refine rT _ ?_
 unfold pB
 have hsl := h.sl
 refine aa rfl ⟨_, h.c1, af (fun h0 => ?_) (fun h0 => ?_)⟩
 ·have : L = [] := List.length_eq_zero_iff.1 (by omega)
  subst this
  exact ⟨rfl, Ext.refl _ _⟩
 ·obtain ⟨a, x, ha, hc, hx, _⟩ := h.at (i := L.length - 1) (by omega)
  have e1 : Int.toNat (((u.sp.l : Nat) : Int) - 1) = L.length - 1 := by omega
  refine aa rfl ⟨_, h.c1, aa rfl ⟨_, h.c1, ar (by omega), aa ha ⟨by omega, by omega, _, by rw [e1]; exact hc, aa rfl ⟨_, (gy _ hx).2.1, ?_, Ext.drew _ _⟩⟩⟩⟩
  rw [ot (by omega)]
theorem qH (h : eO w r rd u L) (hL : L.length <= 2 ^ 20) :
  Calls Tryz.prog dH ⟨[av r]⟩ w fun e w' => ∃ s : Slc, e = .returned s.v /\ aB w' s (L.map fun g => (g.num : Int)) /\ aN w s /\ ah w w' := by
 refine oO _ ?_
 unfold kI
 have hsl := h.sl
 refine aa rfl ⟨_, h.c1, fun s i w2 => ∃ k : Nat, i = k /\ k <= L.length /\ aB w2 s ((L.take k).map fun g => (g.num : Int)) /\ aN w s /\ ah w w2, fun _ i _ => ((L.length : Int) - i).toNat,
  ⟨0, rfl, by omega, aB.nil _, aN.nil _ _ _, Ext.refl _ _⟩, ?_⟩
 rintro s i w8 ⟨k, rfl, hk, hi, hf, hkk⟩
 intros
 refine af (fun h0 => ?_) (fun h0 => ?_)
 ·have hkl : k < L.length := by omega
  obtain ⟨a, x, ha, hc, hx, _⟩ := (h.ae hkk).at hkl
  refine aa ha ⟨by omega, h0, _, by rw [Int.toNat_natCast]; exact hc, aa rfl ⟨_, (gy _ hx).2.1, ?_⟩⟩
  refine hi.push hf hkk (by rw [List.length_map, List.length_take]; omega) (fun s' w' g1 g2 g3 g4 g5 => ⟨ar (by omega), ⟨k + 1, rfl, hkl, ?_, g2, g3⟩, by dsimp only; omega⟩)
  rw [fP _ _ hkl, List.map_append]
  exact g1
 ·have hkl : k = L.length := by omega
  subst hkl
  rw [List.take_length] at hi
  exact ⟨s, rfl, hi, hf, hkk⟩
def seekI (f : aJ -> Bool) (L : List aJ) : Int := match L.findIdx? f with | some i => i | none => -1
theorem sI {f : aJ -> Bool} {L : List aJ} (h : ∀ i (hi : i < L.length), f L[i] = false) : seekI f L = -1 := by
 unfold seekI
 rw [List.findIdx?_eq_none_iff.2 (fun x hx => by obtain ⟨i, hi, rfl⟩ := List.getElem_of_mem hx; exact h i hi)]
theorem sJ {f : aJ -> Bool} {L : List aJ} {i : Nat} (hi : i < L.length) (h : f L[i] = true) (hb : ∀ j (hj : j < i), f (L[j]'(by omega)) = false) : seekI f L = i := by
 unfold seekI
 rw [(List.findIdx?_eq_some_iff_getElem (xs := L) (p := f) (i := i)).2 ⟨hi, h, fun j hj => by rw [hb j hj]; simp⟩]
theorem ya (h : eO w r rd u L) (n : Int) (hL : L.length <= 2 ^ 40) :
  Calls Tryz.prog fJ ⟨[av r, .int .i64 n]⟩ w fun e w' => e = .returned (.int .i64 (seekI (fun g => decide ((g.num : Int) = n)) L)) /\ ah w w' := by
 refine rW _ _ ?_
 unfold pE
 refine ao (fun r3 w4 hr hb k4 hs => ?_)
 have h4 := h.ae k4
 have o3 := aq.eS hb
 have hsl := h.sl
 refine aa rfl ⟨_, h4.c1, Calls.mono (R := fun e w' => e = .returned (.int .i64 (seekI (fun g => decide ((g.num : Int) = n)) L)) /\ ah w w') ?_ (fun e w' he => ⟨_, he.1, rfl, he.2⟩)⟩
 refine eV _ _ ?_
 unfold cz
 refine ⟨fun i w2 => ∃ k : Nat, i = k /\ k <= L.length /\ (∀ j (hj : j < L.length), j < k -> decide ((L[j].num : Int) = n) = false) /\ ah w4 w2, fun i _ => ((L.length : Int) - i).toNat, ⟨0, rfl, by omega, fun j _ hj => by omega, Ext.refl _ _⟩, ?_⟩
 rintro i w6 ⟨k, rfl, hk, hno, hkk⟩
 intros
 refine af (fun h0 => ?_) (fun h0 => ⟨by rw [sI (fun i hi => hno i hi (by omega))], k4.trans hkk⟩)
 have hkl : k < L.length := by omega
 obtain ⟨a, x, ha, hc, hx, _⟩ := (h4.ae hkk).at hkl
 refine aa ha ⟨by omega, h0, _, by rw [Int.toNat_natCast]; exact hc, ?_⟩
 refine Calls.mono (R := fun e w' => e = .returned (.bool (decide ((L[k].num : Int) = n))) /\ ah w6 w') (qs _ _ ?_) ?_
 ·unfold mC
  exact aa rfl ⟨_, (gy _ hx).2.1, aa rfl ⟨_, (o3.ae hkk).cell 0 (by simp), rfl, Ext.drew _ _⟩⟩
 ·rintro e w22 ⟨rfl, k22⟩
  refine ⟨_, rfl, aj (fun h1 => ⟨?_, (k4.trans hkk).trans k22⟩) (fun h1 => ⟨ar (by omega), ⟨k + 1, rfl, hkl, fun j hj hjk => ?_, hkk.trans k22⟩, by dsimp only; omega⟩)⟩
  ·rw [sJ (f := fun g => decide ((g.num : Int) = n)) hkl h1 (fun j hj => hno j (by omega) hj)]
  ·by_cases e : j = k
   ·subst e; exact h1
   ·exact hno j hj (by omega)
def uR (n : Int) (L : List aJ) : List (List UInt8) := match L.find? (fun g => decide ((g.num : Int) = n)) with | some g => g.bP | none => []
theorem pc (f : aJ -> Bool) (L : List aJ) : (seekI f L = -1 /\ (∀ g ∈ L, f g = false) /\ L.find? f = none) \/ ∃ (i : Nat) (hi : i < L.length), seekI f L = i /\ f L[i] = true /\ L.find? f = some L[i] /\ ∀ j (hj : j < i), f (L[j]'(by omega)) = false := by
 cases h : L.findIdx? f with
 | none =>
  left
  have h1 := List.findIdx?_eq_none_iff.1 h
  refine ⟨by unfold seekI; rw [h], h1, List.find?_eq_none.2 (fun x hx => by rw [h1 x hx]; simp)⟩
 | some i =>
  right
  obtain ⟨hi, h1, h2⟩ := List.findIdx?_eq_some_iff_getElem.1 h
  refine ⟨i, hi, by unfold seekI; rw [h], h1, ?_, fun j hj => by have := h2 j hj; simpa using this⟩
  rw [List.find?_eq_some_iff_getElem]
  exact ⟨h1, i, hi, rfl, fun j hj => by have := h2 j hj; simpa using this⟩
theorem zk (h : eO w r rd u L) (n : Int) (hL : L.length <= 2 ^ 40) (hR : ∀ g ∈ L, g.bP.length <= 2 ^ 20 /\ ∀ b ∈ g.bP, b.length <= 2 ^ 20) :
  Calls Tryz.prog fY ⟨[av r, .int .i64 n]⟩ w fun e w' => ∃ (s : Slc) (css : List (List Value)), e = .returned s.v /\ Rows pY w' s (uR n L) css /\ ah w w' /\ aN w s /\ ∀ k, dK css k -> w.heap.size <= k := by
 refine pS _ _ ?_
 unfold lL
 refine (ya h n hL).mono ?_
 rintro e w4 ⟨rfl, k4⟩
 have hsl := h.sl
 have h4 := h.ae k4
 rcases pc (fun g => decide ((g.num : Int) = n)) L with ⟨e1, _, e2⟩ | ⟨i, hi, e1, _, e2, _⟩
 ·rw [e1]
  refine ⟨_, rfl, af (fun _ => ?_) (fun h0 => by omega)⟩
  unfold uR
  rw [e2]
  exact ⟨_, _, rfl, Rows.nil _ _, k4, aN.nil _ _ _, fun k ⟨cs, hc, _⟩ => by simp at hc⟩
 ·rw [e1]
  have e3 : uR n L = L[i].bP := by unfold uR; rw [e2]
  rw [e3]
  obtain ⟨a, x, ha, hc, hx, _⟩ := h4.at hi
  have hRi := hR _ (List.getElem_mem hi)
  have hrl := hx.r.sl
  refine ⟨_, rfl, af (fun h0 => by omega) (fun _ => aa rfl ⟨_, h4.c1, aa ha ⟨by omega, by omega, _, by rw [Int.toNat_natCast]; exact hc, aa rfl ⟨_, (gy _ hx).2.2.1, ?_⟩⟩⟩)⟩
  refine ⟨fun s j w2 => ∃ (m : Nat) (css : List (List Value)), j = m /\ m <= L[i].bP.length /\ Rows pY w2 s (L[i].bP.take m) css /\ ah w4 w2 /\ aN w4 s /\ ∀ k, dK css k -> w4.heap.size <= k, fun _ j _ => ((L[i].bP.length : Int) - j).toNat,
   ⟨0, [], rfl, by omega, Rows.nil _ _, Ext.refl _ _, aN.nil _ _ _, fun k ⟨cs, hc, _⟩ => by simp at hc⟩, ?_⟩
  rintro s j w16 ⟨m, css, rfl, hm, hs, hkk, hf, hfc⟩
  intros
  refine af (fun h0 => ?_) (fun h0 => ?_)
  ·have hml : m < L[i].bP.length := by omega
   obtain ⟨a2, t, ha2, hc2, hb2, _⟩ := GR (hx.ae hkk).r hml
   have htl := hb2.1
   have hbl := hRi.2 _ (List.getElem_mem hml)
   refine aa ha2 ⟨by omega, h0, _, by rw [Int.toNat_natCast]; exact hc2, (fO t _ _ hb2 (by omega)).mono ?_⟩
   rintro e w30 ⟨t2, rfl, ht2, hf2, k30⟩
   refine ⟨t2, rfl, ao (fun r32 w33 hr32 hb32 k33 hs33 => ?_)⟩
   have hs33 := (hs.ae k30).ae k33
   refine hs33.snoc (cs := [t2.v]) (x := L[i].bP[m]) (z := [(⟨none, 0, 0⟩ : Slc).v]) rfl ⟨t2, rfl, (ht2.ae k33).bytes⟩ (fun k hk hh => ?_) hb32 (.inl (by simp)) (by rw [List.length_take]; omega) (fun s' w' g1 g2 g3 => ?_)
   ·have h5 := hf2 k (gx hk).2
    have h6 := hs.lt k hh
    omega
   ·have z1 := k30.size
    have z2 := k33.size
    have z3 := hkk.size
    refine ⟨ar (by omega), ⟨m + 1, css ++ [[t2.v]], rfl, hml, by rw [fP _ _ hml]; exact g1, ((hkk.trans k30).trans k33).ext g2 (fun k hk => hf k hk), fun k hk => ?_, fun k hk => ?_⟩, by dsimp only; omega⟩
    ·rcases g3 k hk with h5 | h5
     ·exact hf k h5
     ·omega
    ·obtain ⟨cs, hc, hk⟩ := hk
     rcases List.mem_append.1 hc with h5 | h5
     ·exact hfc k ⟨cs, h5, hk⟩
     ·rw [List.mem_singleton] at h5; subst h5
      have := hf2 k (gx hk).2
      omega
  ·have hml : m = L[i].bP.length := by omega
   subst hml
   rw [List.take_length] at hs
   exact ⟨s, css, rfl, hs, k4.trans hkk, fun k hk => Nat.le_trans k4.size (hf k hk), fun k hk => Nat.le_trans k4.size (hfc k hk)⟩
def eP (L : List aJ) (p : Nat) : Bool := L.all fun g => decide (g.place ≠ p)
def gz (k : Nat) (L : List aJ) : Option Nat := (List.range k).find? (eP L)
def H4 : Option Nat -> Int
 | some p => p
 | none => -1
theorem uS {L : List aJ} {p : Nat} : eP L p = true ↔ ∀ g ∈ L, g.place ≠ p := by simp [eP]
theorem yb {k : Nat} {L : List aJ} {p : Nat} (hp : p < k) (h : eP L p = true) (hb : ∀ j, j < p -> eP L j = false) : gz k L = some p := by
 unfold gz
 rw [List.find?_eq_some_iff_getElem]
 exact ⟨h, p, by simpa using hp, by simp, fun j hj => by simp [hb j hj]⟩
theorem yc {k : Nat} {L : List aJ} (hb : ∀ j, j < k -> eP L j = false) : gz k L = none := by
 unfold gz
 rw [List.find?_eq_none]
 intro x hx
 rw [hb x (by simpa using hx)]; simp
theorem BX {k p : Nat} {L : List aJ} (h : gz k L = some p) : p < k /\ ∀ g ∈ L, g.place ≠ p := by
 unfold gz at h
 obtain ⟨h1, j, hj, h2, _⟩ := List.find?_eq_some_iff_getElem.1 h
 have h3 : j = p := by simpa using h2
 subst h3
 exact ⟨by simpa using hj, uS.1 h1⟩
theorem yd (h : eO w r rd u L) (hL : L.length <= 2 ^ 40) {c p : Nat} (hc : w.cell? ⟨c, 0, none⟩ = some (.int .i64 (p : Int))) :
  Calls Tryz.prog cO ⟨[u.sp.v, .func (.func gv) ⟨[]⟩ ⟨[av c]⟩]⟩ w fun e w' => e = .returned (.bool (!eP L p)) /\ ah w w' := by
 refine ei _ _ ?_
 unfold bU
 have hsl := h.sl
 refine Calls.mono (R := fun e w' => e = .returned (.int .i64 (seekI (fun g => decide (g.place = p)) L)) /\ ah w w') ?_ (fun e w' he => ⟨_, he.1, ?_, he.2⟩)
 ·refine eU _ _ ?_
  unfold cv
  refine ⟨fun i w2 => ∃ k : Nat, i = k /\ k <= L.length /\ (∀ j (hj : j < L.length), j < k -> decide (L[j].place = p) = false) /\ ah w w2, fun i _ => ((L.length : Int) - i).toNat, ⟨0, rfl, by omega, fun j _ hj => by omega, Ext.refl _ _⟩, ?_⟩
  rintro i w6 ⟨k, rfl, hk, hno, hkk⟩
  intros
  refine af (fun h0 => ?_) (fun h0 => ⟨by rw [sI (fun i hi => hno i hi (by omega))], hkk⟩)
  have hkl : k < L.length := by omega
  obtain ⟨a, x, ha, hc1, hx, _⟩ := (h.ae hkk).at hkl
  refine aa ha ⟨by omega, h0, _, by rw [Int.toNat_natCast]; exact hc1, ?_⟩
  refine Calls.mono (R := fun e w' => e = .returned (.bool (decide (L[k].place = p))) /\ ah w6 w') (qp _ _ ?_) ?_
  ·unfold mB
   refine aa rfl ⟨_, (gy _ hx).1, aa rfl ⟨_, hkk.cell hc, ?_, Ext.drew _ _⟩⟩
   rw [show decide ((L[k].place : Int) = (p : Int)) = decide (L[k].place = p) by rw [decide_eq_decide]; omega]
  ·rintro e w22 ⟨rfl, k22⟩
   refine ⟨_, rfl, aj (fun h1 => ⟨?_, hkk.trans k22⟩) (fun h1 => ⟨ar (by omega), ⟨k + 1, rfl, hkl, fun j hj hjk => ?_, hkk.trans k22⟩, by dsimp only; omega⟩)⟩
   ·rw [sJ (f := fun g => decide (g.place = p)) hkl h1 (fun j hj => hno j (by omega) hj)]
   ·by_cases e : j = k
    ·subst e; exact h1
    ·exact hno j hj (by omega)
 ·congr 2
  rcases pc (fun g => decide (g.place = p)) L with ⟨e1, e2, _⟩ | ⟨i, hi, e1, e2, _, _⟩
  ·rw [e1, (uS (L := L) (p := p)).2 (fun g hg => by simpa using e2 g hg)]; rfl
  ·rw [e1]
   have : eP L p = false := by
    cases hq : eP L p with
    | false => rfl
    | true => exact absurd (by simpa using e2) (uS.1 hq _ (List.getElem_mem hi))
   rw [this, decide_eq_true (by omega)]; rfl
theorem CX {q : cU} {d : aK} (h : eO w r rd u L) (hd : aP w rd q d) (hL : L.length <= 2 ^ 40) :
  Calls Tryz.prog iH ⟨[av r]⟩ w fun e w' => e = .returned (.int .i64 (H4 (gz (d.n / 64) L))) /\ ah w w' := by
 refine rU _ ?_
 unfold pC
 have hn : d.n = d.img.length / 64 := rfl
 have := hd.ok.l
 refine (sH h.c0 hd).mono ?_
 rintro e w3 ⟨rfl, rfl⟩
 refine ⟨_, rfl, fun i w2 => ∃ k : Nat, i = k /\ k <= d.n / 64 /\ (∀ j, j < k -> eP L j = false) /\ ah w3 w2, fun i _ => (((d.n / 64 : Nat) : Int) - i).toNat, ⟨0, rfl, by omega, fun j hj => by omega, Ext.refl _ _⟩, ?_⟩
 rintro i w8 ⟨k, rfl, hk, hno, hkk⟩
 intros
 refine af (fun h0 => ?_) (fun h0 => ⟨by rw [yc (fun j hj => hno j (by omega))]; rfl, hkk⟩)
 refine DC (fun r22 w24 hr o22 k24 hs => ?_)
 have h24 := (h.ae hkk).ae k24
 refine aa rfl ⟨_, h24.c1, (yd h24 hL (o22.cell 0 (by simp))).mono ?_⟩
 rintro e w28 ⟨rfl, k28⟩
 have hz := hkk.size
 refine ⟨_, rfl, aj (fun h1 => ?_) (fun h1 => ?_)⟩
 ·refine ⟨_, (o22.ae k28).cell 0 (by simp), ?_, (hkk.trans k24).trans k28⟩
  rw [yb (p := k) (by omega) (by simpa using h1) hno]; rfl
 ·refine ⟨ar (by omega), ⟨k + 1, rfl, by omega, fun j hj => ?_, (hkk.trans k24).trans k28⟩, by dsimp only; omega⟩
  by_cases e : j = k
  ·subst e; simpa using h1
  ·exact hno j (by omega)
end
end Go.D
namespace Go.D
open Go Go.Proofs
theorem wv (rs : List (List UInt8)) : rs.length <= sumN rs := by
 induction rs with
 | nil => simp [sumN]
 | cons b r ih => simp only [sumN, List.length_cons, de]; omega
theorem tV {T : Nat -> List UInt8} : ∀ {rs : List (List UInt8)} {at_ : Nat}, fQ T at_ rs -> ∀ b ∈ rs, 0 < b.length /\ b.length <= 4096
 | [], at_, h => by simp
 | a :: r, at_, h => by
  obtain ⟨h1, h2, h3, h4, h5⟩ := h
  intro b hb
  rcases List.mem_cons.1 hb with rfl | hb
  ·refine ⟨h2, ?_⟩
   unfold de bT at h1; omega
  ·exact tV h5 b hb
theorem tW {w : World} {r rd : Nat} {q : cU} {d : aK} (A : Nat -> Addr) (hc : w.cell? ⟨r, 0, none⟩ = some (av rd)) (h : aP w rd q d) (hp : d.aI = []) (p at_ : Nat) (hpn : 64 * p + 64 <= d.n) (ha : at_ <= 64) {n0 : Nat} (hE : bK pX A n0 w)
  (rest : List (List UInt8)) (hr : fQ (plT (aW d.img) p) at_ rest) :
  Calls Tryz.prog b9 ⟨[av r, .int .i64 (p : Int), .int .i64 (at_ : Int)]⟩ w fun e w' => ∃ (t : Slc) (nx : Int) (is : Bool), e = .returned (.tuple ⟨[t.v, .int .i64 nx, .bool is]⟩) /\ ah w w' /\
   (match rest with | [] => is = false | b :: _ => is = true /\ au w' t b /\ nx = ((at_ + de b.length : Nat) : Int) /\ aN w t) := by
 cases rest with
 | nil =>
  refine (AM A hc h hp p at_ hpn ha hE hr).mono ?_
  rintro e w' ⟨rfl, hk⟩
  exact ⟨_, _, _, rfl, hk, rfl⟩
 | cons b rs =>
  refine (AN A hc h hp p at_ hpn hE hr).mono ?_
  rintro e w' ⟨t, rfl, h1, h2, h3⟩
  exact ⟨t, _, _, rfl, h3, rfl, h1, rfl, h2⟩
theorem CY {w : World} {r rd : Nat} {q : cU} {d : aK} (A : Nat -> Addr) (hc : w.cell? ⟨r, 0, none⟩ = some (av rd)) (h : aP w rd q d) (hp : d.aI = []) (p num : Nat) (hpn : 64 * p + 64 <= d.n) {n0 : Nat} (hE : bK pX A n0 w)
  (rs : List (List UInt8)) (hr : fQ (plT (aW d.img) p) 1 rs) :
  Calls Tryz.prog iD ⟨[av r, .int .i64 (p : Int), .int .i64 (num : Int)]⟩ w fun e w' => ∃ x : uQ, e = .returned (av x.o) /\ gj w' x ⟨p, num, rs⟩ /\ (∀ k, iK x k -> w.heap.size <= k) /\ ah w w' := by
 refine rQ _ _ _ ?_
 unfold py
 refine ao (fun r4 w5 hr4 hb4 k5 hs5 => ?_)
 refine (tW A (k5.cell hc) (h.ae k5) hp p 1 hpn (by omega) (hE.ae k5) rs hr).mono ?_
 rintro e w7 ⟨t0, nx0, is0, rfl, k7, h7⟩
 have hlen : rs.length <= 64 := by have := wv rs; have := sy hr (by omega); omega
 refine ⟨t0, nx0, is0, rfl, ?_⟩
 refine ⟨fun b nx is w2 => ∃ (dn rest : List (List UInt8)) (sl : Slc) (css : List (List Value)), dn ++ rest = rs /\ gj w2 ⟨r4, sl, css⟩ ⟨p, num, dn⟩ /\ (∀ k, iK ⟨r4, sl, css⟩ k -> w.heap.size <= k) /\ ah w w2 /\ fQ (plT (aW d.img) p) (1 + sumN dn) rest /\ is = !rest.isEmpty /\
   (match rest with | [] => True | c :: _ => au w2 b c /\ nx = ((1 + sumN dn + de c.length : Nat) : Int) /\ (∀ k, ai b k -> w.heap.size <= k /\ k ≠ r4 /\ ¬ ai sl k)),
  fun b nx is w2 => if is then (65 - nx).toNat + 1 else 0, ?_, ?_⟩
 ·refine ⟨[], rs, ⟨none, 0, 0⟩, [], rfl, ⟨(aq.eS hb4).ae k7, Rows.nil _ _, (by rintro ⟨a, ha, _⟩; cases ha), (by rintro k ⟨cs, hcs, _⟩; simp at hcs)⟩, ?_, k5.trans k7, hr, ?_, ?_⟩
  ·rintro k (hk | ⟨a, ha, _⟩ | ⟨cs, hcs, _⟩)
   ·have hk : k = r4 := hk
    omega
   ·cases ha
   ·simp at hcs
  ·cases rs with
   | nil => exact h7
   | cons c l => exact h7.1
  ·cases rs with
   | nil => trivial
   | cons c l =>
    obtain ⟨_, h8, h9, h10⟩ := h7
    refine ⟨h8, h9, fun k hk => ?_⟩
    have := h10 k hk
    exact ⟨by omega, by omega, by rintro ⟨a, ha, _⟩; cases ha⟩
 ·rintro b nx is w16 ⟨dn, rest, sl, css, e1, hx, hxf, hkk, hro, rfl, hm⟩
  intros
  refine aj (fun h0 => ?_) (fun h0 => ?_)
  ·cases rest with
   | nil => simp at h0
   | cons c l =>
    obtain ⟨hb, hnx, hbo⟩ := hm
    obtain ⟨q1, q2, q3, q4, q5⟩ := hro
    have hdl : dn.length + 1 <= rs.length := by rw [<- e1]; simp
    refine ⟨sl, (hx.o.cell 2 (by simp [pZ])), ao (fun r41 w42 hr41 hb41 k42 hs42 => ?_)⟩
    have hx42 := hx.ae k42
    refine hx42.r.snoc (cs := [b.v]) (x := c) (z := [(⟨none, 0, 0⟩ : Slc).v]) rfl ⟨b, rfl, aG hb k42⟩ (fun k hk hh => (hbo k (gx hk).2).2.2 hh) hb41 (.inl (by simp)) (by show dn.length < 2 ^ 30; omega) (fun s' w44 g1 g2 g3 => ?_)
    have z42 := k42.size
    have hr4l := hx.o.lt
    have hr4l : r4 < w16.heap.size := hr4l
    have hs4 : ¬ ai s' r4 := fun hh => by
     rcases g3 r4 hh with h5 | h5
     ·exact hx.n1 h5
     ·omega
    have o44 := hx42.o.ext g2 hx.n1
    obtain ⟨c1, c2⟩ := o44.bf 2 (by simp [pZ]) s'.v
    refine ⟨c1, fun w45 hw45 => ?_⟩
    obtain ⟨o45, e45, z45⟩ := c2 w45 hw45
    obtain ⟨c3, c4⟩ := o45.bf 3 (by simp [pZ]) (.int .i64 nx)
    refine ⟨c3, fun w46 hw46 => ?_⟩
    obtain ⟨o46, e46, z46⟩ := c4 w46 hw46
    have hcs : ((pZ ⟨p, num, dn⟩ sl).set 2 s'.v).set 3 (.int .i64 nx) = pZ ⟨p, num, dn ++ [c]⟩ s' := by
     simp only [pZ, List.set_cons_succ, List.set_cons_zero, aJ.fin, jM, hnx]
     rw [<- Nat.add_assoc]
    have o46' : aq w46 r4 (pZ ⟨p, num, dn ++ [c]⟩ s') := by rw [<- hcs]; exact o46
    have hf' : ∀ k, dK (css ++ [[b.v]]) k -> w.heap.size <= k /\ k ≠ r4 := by
     rintro k ⟨cs, hc2, hk⟩
     rcases List.mem_append.1 hc2 with h6 | h6
     ·exact ⟨hxf k (.inr (.inr ⟨cs, h6, hk⟩)), hx.n2 k ⟨cs, h6, hk⟩⟩
     ·rw [List.mem_singleton] at h6; subst h6
      have := hbo k (gx hk).2
      exact ⟨this.1, this.2.1⟩
    have hs' : ∀ k, ai s' k -> w.heap.size <= k := fun k hk => by
     rcases g3 k hk with h5 | h5
     ·exact hxf k (.inr (.inl h5))
     ·have := hkk.size; omega
    have g46 : Rows pY w46 s' (dn ++ [c]) (css ++ [[b.v]]) := (g1.ext e45 (fun k hk hh => hs4 (by rw [show k = r4 from hh] at hk; exact hk)) (fun k hk hh => (hf' k hk).2 hh)).ext e46 (fun k hk hh => hs4 (by rw [show k = r4 from hh] at hk; exact hk)) (fun k hk hh => (hf' k hk).2 hh)
    have k46 : ah w w46 := (((hkk.trans k42).ext g2 (fun k hk => hxf k (.inr (.inl hk)))).ext e45 (fun k hk => by rw [hk]; exact hxf r4 (.inl rfl))).ext e46 (fun k hk => by rw [hk]; exact hxf r4 (.inl rfl))
    have hx46 : gj w46 ⟨r4, s', css ++ [[b.v]]⟩ ⟨p, num, dn ++ [c]⟩ := ⟨o46', g46, hs4, fun k hk => (hf' k hk).2⟩
    have hq5 : fQ (plT (aW d.img) p) (1 + sumN (dn ++ [c])) l := by rw [jM, <- Nat.add_assoc]; exact q5
    have e9 : nx = ((1 + sumN (dn ++ [c]) : Nat) : Int) := by rw [hnx, jM]; omega
    have hend : 1 + sumN (dn ++ [c]) <= 64 := by rw [jM]; omega
    rw [e9]
    refine (tW A (k46.cell hc) (h.ae k46) hp p _ hpn hend (hE.ae k46) l hq5).mono ?_
    rintro e w48 ⟨t, nx2, is2, rfl, k48, h48⟩
    refine ⟨t, nx2, is2, rfl, ⟨dn ++ [c], l, s', css ++ [[b.v]], by rw [<- e1]; simp, hx46.ae k48, ?_, k46.trans k48, hq5, ?_, ?_⟩, ?_⟩
    ·rintro k (rfl | hk | hk)
     ·exact hxf _ (.inl rfl)
     ·exact hs' k hk
     ·exact (hf' k hk).1
    ·cases l with
     | nil => exact h48
     | cons c l => exact h48.1
    ·cases l with
     | nil => trivial
     | cons c2 l =>
      obtain ⟨_, h8, h9, h10⟩ := h48
      refine ⟨h8, h9, fun k hk => ?_⟩
      have h11 := h10 k hk
      have z46' := k46.size
      have := hx46.o.lt
      have h12 : r4 < w46.heap.size := this
      exact ⟨by omega, by omega, fun hh => by have := g46.lt k hh; omega⟩
    ·simp only [List.isEmpty_cons, Bool.not_false, if_true]
     cases l with
     | nil =>
      have : is2 = false := h48
      rw [this]
      simp
     | cons c2 l =>
      obtain ⟨h8, _, h9, _⟩ := h48
      rw [h8, h9]
      obtain ⟨y1, y2, _⟩ := hq5
      have : 0 < de c2.length := by unfold de; omega
      simp only [if_true]
      omega
  ·cases rest with
   | nil =>
    rw [List.append_nil] at e1
    subst e1
    exact ⟨_, rfl, hx, hxf, hkk⟩
   | cons c l => simp at h0
end Go.D
namespace Go.D
open Go Go.Proofs
theorem Own.H5 {w : World} {s : Slc} {vs : List Value} (h : Own w s 1 vs) {i : Nat} (hi : i < vs.length) (v : Value) {a : Addr} (ha : s.p = some a) :
  aw w (Addr.add a (i * 1)) 1 /\ ∀ w', w' = w.setCell (Addr.add a (i * 1)) v -> Own w' s 1 (vs.set i v) /\ Ext (ai s) w w' /\ w'.heap.size = w.heap.size := by
 obtain ⟨hl, ⟨hp, _⟩ | ⟨r, pad, T, f, hp, hb, h1, h2⟩⟩ := h
 ·rw [hp] at ha; cases ha
 ·rw [hp] at ha; cases ha
  rw [Nat.mul_one, add_lit, Nat.zero_add]
  refine ⟨iX hb h2 i 1 (by rw [List.length_append]; omega), ?_⟩
  rintro w' rfl
  have hh := heap_setCell hb i v
  rw [List.set_append_left _ _ hi] at hh
  exact ⟨⟨by simpa using hl, .inr ⟨r, pad, T, f, hp, hh, by simpa using h1, by simpa using h2⟩⟩, Ext.setCell (M := ai s) (a := (⟨r, i, none⟩ : Addr)) ⟨_, hp, rfl⟩ _, by simp [World.setCell]⟩
section
variable {α : Type} (f : α -> Nat)
def swG (l : List α) (j : Nat) (h : j < l.length) : List α := (l.set j (l[j - 1]'(by omega))).set (j - 1) l[j]
omit f in
theorem tX (l : List α) (j : Nat) (h : j < l.length) : (swG l j h).length = l.length := by simp [swG]
omit f in
theorem tY {l : List α} {j x : Nat} (hj : 0 < j) (hjl : j < l.length) (hx : x < l.length) : (swG l j hjl)[x]'(by rw [tX]; exact hx) = if x = j - 1 then l[j] else if x = j then l[j - 1]'(by omega) else l[x] := by
 simp only [swG, List.getElem_set]
 by_cases h2 : x = j - 1
 ·rw [if_pos h2.symm, if_pos h2]
 ·rw [if_neg (fun e => h2 e.symm), if_neg h2]
  by_cases h3 : x = j
  ·rw [if_pos h3.symm, if_pos h3]
  ·rw [if_neg (fun e => h3 e.symm), if_neg h3]
omit f in
theorem Fz {l : List α} {j : Nat} (hj : 0 < j) (hjl : j < l.length) : (swG l j hjl).Perm l := by
 have h1 : j - 1 < l.length := by omega
 have e1 : l = l.take (j - 1) ++ (l[j - 1] :: l[j] :: l.drop (j + 1)) := by
  conv => lhs; rw [<- List.take_append_drop (j - 1) l]
  congr 1
  rw [List.drop_eq_getElem_cons h1]
  congr 1
  rw [show j - 1 + 1 = j by omega]
  exact List.drop_eq_getElem_cons hjl
 have e2 : swG l j hjl = l.take (j - 1) ++ (l[j] :: l[j - 1] :: l.drop (j + 1)) := by
  apply List.ext_getElem
  ·rw [tX]; simp; omega
  ·intro x hx hx'
   rw [tX] at hx
   rw [tY hj hjl hx]
   rw [List.getElem_append]
   by_cases h2 : x < j - 1
   ·rw [if_neg (by omega), if_neg (by omega)]
    simp only [List.length_take]
    rw [dif_pos (by omega)]
    rw [List.getElem_take]
   ·simp only [List.length_take]
    rw [dif_neg (by omega)]
    have e3 : x - min (j - 1) l.length = x - (j - 1) := by omega
    simp only [e3]
    by_cases h3 : x = j - 1
    ·rw [if_pos h3]
     have : x - (j - 1) = 0 := by omega
     simp only [this, List.getElem_cons_zero]
    ·by_cases h4 : x = j
     ·rw [if_neg h3, if_pos h4]
      have : x - (j - 1) = 1 := by omega
      simp only [this, List.getElem_cons_succ, List.getElem_cons_zero]
     ·rw [if_neg h3, if_neg h4]
      obtain ⟨y, hy⟩ : ∃ y, x - (j - 1) = y + 2 := ⟨x - (j - 1) - 2, by omega⟩
      simp only [hy, List.getElem_cons_succ, List.getElem_drop]
      congr 1; omega
 rw [e2]
 conv => rhs; rw [e1]
 exact List.Perm.append_left _ (List.Perm.swap _ _ _)
def ye (l : List α) (i : Nat) : Prop := ∀ x y (hx : x < l.length) (hy : y < l.length), x < y -> y < i -> f l[x] <= f l[y]
def BY (l : List α) (i j : Nat) : Prop := (∀ x y (hx : x < l.length) (hy : y < l.length), x < y -> y <= i -> x ≠ j -> y ≠ j -> f l[x] <= f l[y]) /\ ∀ y (hy : y < l.length) (hj : j < l.length), j < y -> y <= i -> f l[j] <= f l[y]
variable {f}
theorem BZ {l : List α} {i : Nat} (h : ye f l i) : BY f l i i := ⟨fun x y hx hy h1 h2 h3 h4 => h x y hx hy h1 (by omega), fun y hy hj h1 h2 => by omega⟩
theorem CZ {l : List α} {i j : Nat} (hj : 0 < j) (hjl : j < l.length) (hji : j <= i) (h : BY f l i j) (hlt : f l[j] < f (l[j - 1]'(by omega))) : BY f (swG l j hjl) i (j - 1) := by
 refine ⟨fun x y hx hy h1 h2 h3 h4 => ?_, fun y hy hj' h1 h2 => ?_⟩
 ·rw [tX] at hx hy
  rw [tY hj hjl hx, tY hj hjl hy, if_neg h3, if_neg h4]
  by_cases h5 : x = j
  ·rw [if_pos h5, if_neg (by omega)]
   exact h.1 (j - 1) y (by omega) hy (by omega) h2 (by omega) (by omega)
  ·rw [if_neg h5]
   by_cases h6 : y = j
   ·rw [if_pos h6]
    exact h.1 x (j - 1) hx (by omega) (by omega) (by omega) h5 (by omega)
   ·rw [if_neg h6]
    exact h.1 x y hx hy h1 h2 h5 h6
 ·rw [tX] at hy hj'
  rw [tY hj hjl hj', tY hj hjl hy, if_pos rfl, if_neg (by omega)]
  by_cases h6 : y = j
  ·rw [if_pos h6]; omega
  ·rw [if_neg h6]
   exact h.2 y hy hjl (by omega) h2
theorem Eo {l : List α} {i j : Nat} (h : BY f l i j) (hij : j <= i) (hd : ∀ (h1 : j < l.length), 0 < j -> ¬ f l[j] < f (l[j - 1]'(by omega))) : ye f l (i + 1) := by
 intro x y hx hy h1 h2
 by_cases h3 : x = j
 ·subst h3; exact h.2 y hy hx h1 (by omega)
 ·by_cases h4 : y = j
  ·subst h4
   have h5 := hd hy (by omega)
   by_cases h6 : x = y - 1
   ·subst h6; omega
   ·have := h.1 x (y - 1) hx (by omega) (by omega) (by omega) h3 (by omega)
    omega
  ·exact h.1 x y hx hy h1 (by omega) h3 h4
end
abbrev Sz := uQ × aJ
abbrev pd (z : Sz) : Value := av z.1.o
abbrev uT (z : Sz) : Nat := z.2.num
theorem zl (x y : Int) (w : World) : Calls Tryz.prog iE ⟨[.int .i64 x, .int .i64 y]⟩ w fun e w' => ∃ n : Int, e = .returned (.int .i64 n) /\ (n < 0 ↔ x < y) /\ w' = w := by
 have hnan : ∀ z w, Calls Tryz.prog cN ⟨[.int .i64 z]⟩ w fun e w' => e = .returned (.bool false) /\ w' = w := by
  intro z w
  refine nM _ ?_
  unfold np
  exact ⟨by simp, rfl⟩
 refine rY _ _ ?_
 unfold pG
 refine (hnan x w).mono ?_
 rintro e w4 ⟨rfl, rfl⟩
 refine ⟨_, rfl, (hnan y w4).mono ?_⟩
 rintro e w7 ⟨rfl, rfl⟩
 refine ⟨_, rfl, aj (fun h => by cases h) (fun _ => aj (fun h => by cases h) (fun _ => af (fun h => ⟨_, rfl, by omega, rfl⟩) (fun h => af (fun h2 => ⟨_, rfl, by omega, rfl⟩) (fun h2 => ⟨_, rfl, by omega, rfl⟩))))⟩
theorem vZ (s : Slc) (zs : List Sz) (w : World) (h : Own w s 1 (zs.map pd)) (hz : ∀ z ∈ zs, gj w z.1 z.2 /\ ∀ k, iK z.1 k -> ¬ ai s k) (hl : zs.length <= 2 ^ 30) :
  Calls Tryz.prog bd ⟨[s.v, .int .i64 0, .int .i64 (zs.length : Int), .func (.func jc) ⟨[]⟩ ⟨[]⟩]⟩ w fun e w' => e = .returned (.tuple #[]) /\ ∃ zs', zs'.Perm zs /\ ye uT zs' zs.length /\ Own w' s 1 (zs'.map pd) /\ Ext (ai s) w w' := by
 refine dX _ _ _ ?_
 unfold bM
 refine ⟨ar (by omega), fun i w2 => ∃ (k : Nat) (l' : List Sz), i = k /\ 1 <= k /\ (k <= zs.length \/ k = 1) /\ l'.Perm zs /\ ye uT l' k /\ Own w2 s 1 (l'.map pd) /\ Ext (ai s) w w2, fun i _ => ((zs.length : Int) - i).toNat,
  ⟨1, zs, rfl, by omega, .inr rfl, List.Perm.refl _, fun x y hx hy h1 h2 => by omega, h, Ext.refl _ _⟩, ?_⟩
 rintro i w7 ⟨k, l', rfl, hk1, hk, hp, hs, h7, e7⟩
 intros
 have hpl := hp.length_eq
 refine af (fun h1 => ?_) (fun h1 => ⟨rfl, l', hp, fun x y hx hy h2 h3 => hs x y hx hy h2 (by omega), h7, e7⟩)
 refine ⟨fun j w2 => ∃ (m : Nat) (l2 : List Sz), j = m /\ m <= k /\ l2.Perm zs /\ BY uT l2 k m /\ Own w2 s 1 (l2.map pd) /\ Ext (ai s) w w2, fun j _ => j.toNat, ⟨k, l', rfl, by omega, hp, BZ hs, h7, e7⟩, ?_⟩
 rintro j w53 ⟨m, l2, rfl, hm, hp2, hn2, h53, e53⟩
 intros
 have hpl2 := hp2.length_eq
 have hol := h53.1
 rw [List.length_map] at hol
 have done : ∀ w2, Own w2 s 1 (l2.map pd) -> Ext (ai s) w w2 -> (∀ (h1 : m < l2.length), 0 < m -> ¬ uT l2[m] < uT (l2[m - 1]'(by omega))) ->
   (inR .i64 ((k : Int) + 1) /\ ((∃ (k' : Nat) (l' : List Sz), (k : Int) + 1 = k' /\ 1 <= k' /\ (k' <= zs.length \/ k' = 1) /\ l'.Perm zs /\ ye uT l' k' /\ Own w2 s 1 (l'.map pd) /\ Ext (ai s) w w2) /\ ((zs.length : Int) - ((k : Int) + 1)).toNat < ((zs.length : Int) - (k : Int)).toNat)) := by
  intro w2 g1 g2 g3
  exact ⟨ar (by omega), ⟨k + 1, l2, by omega, by omega, .inl (by omega), hp2, Eo hn2 hm g3, g1, g2⟩, by omega⟩
 refine ⟨fun w2 => w2 = World.drew (World.drew w53) /\ ∃ (hm0 : 0 < m) (hml : m < l2.length), uT l2[m] < uT (l2[m - 1]'(by omega)), af (fun h2 => ?_) (fun h2 => done _ (h53.ae (Ext.drew _ _)) (e53.trans (Ext.drew _ _) (fun _ h => h) (fun _ h => .inl h)) (fun _ hh => by omega)), ?_⟩
 ·have hml : m < l2.length := by omega
  have hml1 : m - 1 < l2.length := by omega
  have hd : Own (World.drew w53) s 1 (l2.map pd) := h53.ae (Ext.drew _ _)
  obtain ⟨a, ha, hc⟩ := bc hd.cells (i := m) (by simpa using hml)
  obtain ⟨a', ha', hc'⟩ := bc hd.cells (i := m - 1) (by simpa using hml1)
  rw [ha] at ha'; cases ha'
  have ed : Ext (ai s) w (World.drew w53) := e53.trans (Ext.drew _ _) (fun _ h => h) (fun _ h => .inl h)
  have seg : ∀ z ∈ l2, gj (World.drew w53) z.1 z.2 := fun z hz2 => by
   obtain ⟨q1, q2⟩ := hz z (hp2.mem_iff.1 hz2)
   exact q1.ext ed (fun k hk hh => q2 k hk hh)
  have s1 := seg _ (List.getElem_mem hml)
  have s2 := seg _ (List.getElem_mem hml1)
  refine aa ha ⟨by omega, by omega, _, by rw [Int.toNat_natCast, Nat.mul_one, hc, List.getElem_map], ar (by omega), aa ha ⟨by omega, by omega, _, by rw [show Int.toNat ((m : Int) - 1) = m - 1 by omega, Nat.mul_one, hc', List.getElem_map], ?_⟩⟩
  refine Calls.mono (R := fun e w' => ∃ n : Int, e = .returned (.int .i64 n) /\ (n < 0 ↔ uT l2[m] < uT l2[m - 1]) /\ w' = World.drew (World.drew w53)) (xu _ _ ?_) ?_
  ·unfold vm
   refine aa rfl ⟨_, (gy _ s1).2.1, aa rfl ⟨_, (gy _ s2).2.1, (zl _ _ _).mono ?_⟩⟩
   rintro e w8 ⟨n, rfl, g1, rfl⟩
   exact ⟨n, rfl, n, rfl, by rw [g1]; unfold uT; omega, rfl⟩
  ·rintro e w95 ⟨n, rfl, g1, rfl⟩
   refine ⟨n, rfl, af (fun h3 => ⟨rfl, by omega, hml, g1.1 h3⟩) (fun h3 => ?_)⟩
   ·exact done _ (hd.ae (Ext.drew _ _)) (ed.trans (Ext.drew _ _) (fun _ h => h) (fun _ h => .inl h)) (fun _ _ hh => h3 (g1.2 hh))
 ·rintro w97 ⟨rfl, hm0, hml, hlt⟩
  intros
  have hml1 : m - 1 < l2.length := by omega
  have kd : ah w53 (World.drew (World.drew (World.drew w53))) := ah.trans (Ext.drew _ _) (ah.trans (Ext.drew _ _) (Ext.drew _ _))
  have hd : Own (World.drew (World.drew (World.drew w53))) s 1 (l2.map pd) := h53.ae kd
  obtain ⟨a, ha, hc⟩ := bc hd.cells (i := m) (by simpa using hml)
  obtain ⟨a', ha', hc'⟩ := bc hd.cells (i := m - 1) (by simpa using hml1)
  rw [ha] at ha'; cases ha'
  rw [List.getElem_map] at hc hc'
  have e1 : Int.toNat ((m : Int) - 1) = m - 1 := by omega
  refine ⟨ar (by omega), ar (by omega), aa ha ⟨by omega, by omega, _, by rw [e1, Nat.mul_one]; exact hc', aa ha ⟨by omega, by omega, _, by rw [Int.toNat_natCast, Nat.mul_one]; exact hc, aa ha ⟨by omega, by omega, ?_⟩⟩⟩⟩
  rw [e1, Int.toNat_natCast]
  obtain ⟨c1, c2⟩ := hd.H5 (i := m) (by simpa using hml) (pd l2[m - 1]) ha
  refine ⟨c1, fun w120 hw => ?_⟩
  obtain ⟨g1, g2, g3⟩ := c2 w120 hw
  obtain ⟨c3, c4⟩ := g1.H5 (i := m - 1) (by simpa using hml1) (pd l2[m]) ha
  refine aa ha ⟨by omega, by omega, c3, fun w122 hw2 => ?_⟩
  obtain ⟨g4, g5, g6⟩ := c4 w122 hw2
  have e2 : ((l2.map pd).set m (pd l2[m - 1])).set (m - 1) (pd l2[m]) = (swG l2 m hml).map pd := by
   unfold swG
   rw [List.map_set, List.map_set]
  rw [e2] at g4
  refine ⟨ar (by omega), ⟨m - 1, swG l2 m hml, by omega, by omega, (Fz hm0 hml).trans hp2, CZ hm0 hml hm hn2 hlt, g4, ?_⟩, by dsimp only; omega⟩
  exact ((e53.trans kd (fun _ h => h) (fun _ h => h.elim)).trans g2 (fun _ h => h) (fun _ h => .inl h)).trans g5 (fun _ h => h) (fun _ h => .inl h)
theorem C0 (s : Slc) (zs : List Sz) (w : World) (h : Own w s 1 (zs.map pd)) (hz : ∀ z ∈ zs, gj w z.1 z.2 /\ ∀ k, iK z.1 k -> ¬ ai s k) (hl : zs.length < 20) :
  Calls Tryz.prog ct ⟨[s.v, .func (.func jc) ⟨[]⟩ ⟨[]⟩]⟩ w fun e w' => e = .returned (.tuple #[]) /\ ∃ zs', zs'.Perm zs /\ ye uT zs' zs.length /\ Own w' s 1 (zs'.map pd) /\ Ext (ai s) w w' := by
 refine fh _ ?_
 unfold cG
 have hsl : s.l = zs.length := by have := h.1; rw [List.length_map] at this; omega
 refine Calls.mono (R := fun e w' => e = .returned (.tuple #[]) /\ ∃ zs', zs'.Perm zs /\ ye uT zs' zs.length /\ Own w' s 1 (zs'.map pd) /\ Ext (ai s) w w') (fl _ _ ?_) (fun e w' he => ⟨he.1, rfl, he.2⟩)
 unfold cL
 refine ⟨fun a b w2 => a = 0 /\ b = 20 /\ w2 = w, fun _ _ _ => 0, ⟨rfl, rfl, rfl⟩, ?_⟩
 rintro a b w7 ⟨rfl, rfl, rfl⟩
 intros
 refine af (fun h0 => by omega) (fun h0 => ?_)
 rw [hsl]
 refine (vZ s zs w7 h hz (by omega)).mono ?_
 rintro e w23 ⟨rfl, hR⟩
 refine ⟨rfl, fun b w2 => b = 20 /\ w2 = w23, fun _ _ => 0, ⟨rfl, rfl⟩, ?_⟩
 rintro b w27 ⟨rfl, rfl⟩
 intros
 exact af (fun h1 => by omega) (fun h1 => ⟨rfl, hR⟩)
theorem eO.push {E : TypeId} {w : World} {r rd c : Nat} {u : StP} {L : List aJ} {x : uQ} {g : aJ} {T : TypeId} {f : Nat × Nat} {K : Slc -> World -> Prop} (h : eO w r rd u L) (hx : gj w x g) (hsep : ∀ k, iK x k -> ¬ StB r u k)
  (hb : w.heap[c]? = some (.cells ⟨[av x.o]⟩ T f)) (hcf : clear f 1) (hL : L.length < 2 ^ 30)
  (hK : ∀ s' w', (aw w' ((⟨r, 0, none⟩ : Addr).add 1) 1 /\ ∀ w2 : World, w2 = w'.setCell ((⟨r, 0, none⟩ : Addr).add 1) s'.v -> eO w2 r rd ⟨s', u.xs ++ [x]⟩ (L ++ [g]) /\ Ext (StB r u) w w2 /\ ∀ k, StB r ⟨s', u.xs ++ [x]⟩ k -> StB r u k \/ iK x k \/ w.heap.size <= k) -> K s' w') :
  ak 1 E [.pointer none] w u.sp (.slc ⟨some ⟨c, 0, none⟩, 1, 1⟩) K := by
 have hsl := h.sl
 refine cX h.s (by omega) rfl (iO (Own.new (sz := 1) (n := 1) hb hcf rfl).cells rfl) (fun v hv => by simp at hv; subst hv; rfl) (by simp only [Src.n]; omega) (fun s' w' q1 q2 q3 q4 => hK s' w' ?_)
 have hrl := h.o.lt
 have o' := h.o.ext q2 h.sr
 have hs' : ¬ ai s' r := fun hh => by
  rcases q3 r hh with h5 | h5
  ·exact h.sr h5
  ·omega
 obtain ⟨c1, c2⟩ := o'.bf 1 (by simp) s'.v
 rw [add_lit]
 refine ⟨c1, fun w2 hw => ?_⟩
 obtain ⟨g1, g2, g3⟩ := c2 w2 hw
 have hxB : ∀ k, iK x k -> k ≠ r /\ ¬ ai s' k := fun k hk => ⟨fun e => hsep k hk (.inl e), fun hh => by
  rcases q3 k hh with h5 | h5
  ·exact hsep k hk (.inr (.inl h5))
  ·have := hx.lt k hk; omega⟩
 have hyB : ∀ y ∈ u.xs, ∀ k, iK y k -> k ≠ r /\ ¬ ai s' k := fun y hy k hk => ⟨(h.ds y hy k hk).1, fun hh => by
  rcases q3 k hh with h5 | h5
  ·exact (h.ds y hy k hk).2 h5
  ·have := h.lt k (.inr (.inr ⟨y, hy, hk⟩)); omega⟩
 have hlen := h.len
 refine ⟨⟨g1, ?_, by simp [hlen], fun i hi hi' => ?_, ?_, hs', ?_⟩, ?_, ?_⟩
 ·have := q1.ext g2 (fun k hk hh => hs' (by rw [show k = r from hh] at hk; exact hk))
  simpa using this
 ·by_cases hik : i < u.xs.length
  ·simp only [List.getElem_append_left hik, List.getElem_append_left (show i < L.length by omega)]
   exact ((h.g i hik (by omega)).ext q2 (fun k hk hh => (h.ds _ (List.getElem_mem hik) k hk).2 hh)).ext g2 (fun k hk hh => (hyB _ (List.getElem_mem hik) k hk).1 hh)
  ·have hie : i = u.xs.length := by
    have : (u.xs ++ [x]).length = u.xs.length + 1 := by simp
    have hi : i < (u.xs ++ [x]).length := hi
    omega
   subst hie
   have e1 : (u.xs ++ [x])[u.xs.length]'hi = x := by simp
   have e2 : (L ++ [g])[u.xs.length]'hi' = g := by simp [hlen]
   simp only [e1, e2]
   exact (hx.ext q2 (fun k hk hh => hsep k hk (.inr (.inl hh)))).ext g2 (fun k hk hh => (hxB k hk).1 hh)
 ·refine List.pairwise_append.2 ⟨h.sep, List.pairwise_singleton _ _, fun y hy z hz k hk hh => ?_⟩
  rw [List.mem_singleton] at hz; subst hz
  exact hsep k hh (.inr (.inr ⟨y, hy, hk⟩))
 ·intro y hy k hk
  rcases List.mem_append.1 hy with h5 | h5
  ·exact hyB y h5 k hk
  ·rw [List.mem_singleton] at h5; subst h5
   exact hxB k hk
 ·exact (q2.mono (fun k hk => .inr (.inl hk))).trans g2 (fun _ h => h) (fun k hk => .inl (.inl hk))
 ·rintro k (hk | hk | ⟨y, hy, hk⟩)
  ·exact .inl (.inl hk)
  ·rcases q3 k hk with h5 | h5
   ·exact .inl (.inr (.inl h5))
   ·exact .inr (.inr h5)
  ·rcases List.mem_append.1 hy with h5 | h5
   ·exact .inl (.inr (.inr ⟨y, h5, hk⟩))
   ·rw [List.mem_singleton] at h5; subst h5
    exact .inr (.inl hk)
end Go.D
namespace Go.D
open Go Go.Proofs
theorem eO.perm {w w' : World} {r rd : Nat} {u : StP} {M : List aJ} (h : eO w r rd u M) {zs : List Sz} (hp : zs.Perm (u.xs.zip M)) (ho : Own w' u.sp 1 (zs.map pd)) (he : Ext (ai u.sp) w w') :
  eO w' r rd ⟨u.sp, zs.map (·.1)⟩ (zs.map (·.2)) /\ (zs.map (·.2)).Perm M /\ (∀ k, StB r ⟨u.sp, zs.map (·.1)⟩ k -> StB r u k) := by
 have hf : (u.xs.zip M).map (·.1) = u.xs := List.map_fst_zip (by rw [h.len]; omega)
 have hs : (u.xs.zip M).map (·.2) = M := List.map_snd_zip (by rw [h.len]; omega)
 have hpx : (zs.map (·.1)).Perm u.xs := by have := hp.map (·.1); rwa [hf] at this
 have hmem : ∀ z ∈ zs, z.1 ∈ u.xs /\ gj w z.1 z.2 := by
  intro z hz
  obtain ⟨i, hi, rfl⟩ := List.getElem_of_mem (hp.mem_iff.1 hz)
  rw [List.length_zip] at hi
  rw [List.getElem_zip]
  exact ⟨List.getElem_mem _, h.g i (by omega) (by omega)⟩
 refine ⟨⟨h.o.ext he h.sr, ?_, by simp, fun i hi hi' => ?_, ?_, h.sr, fun x hx => h.ds x (hpx.mem_iff.1 hx)⟩, ?_, ?_⟩
 ·rw [List.map_map]
  exact ho
 ·simp only [List.getElem_map]
  have hi : i < zs.length := by simpa using hi
  obtain ⟨g1, g2⟩ := hmem _ (List.getElem_mem hi)
  exact g2.ext he (fun k hk hh => (h.ds _ g1 k hk).2 hh)
 ·exact (List.Perm.pairwise_iff (fun hxy k hk hh => hxy k hh hk) hpx).2 h.sep
 ·have := hp.map (·.2); rwa [hs] at this
 ·rintro k (hk | hk | ⟨x, hx, hk⟩)
  ·exact .inl hk
  ·exact .inr (.inl hk)
  ·exact .inr (.inr ⟨x, hpx.mem_iff.1 hx, hk⟩)
theorem GS {L L' : List aJ} (hp : L'.Perm L) (h : L.Pairwise fun g h => g.num < h.num) (h' : L'.Pairwise fun g h => g.num <= h.num) : L' = L := by
 refine List.Perm.eq_of_pairwise (le := fun g h => g.num <= h.num) ?_ h' (h.imp (fun h => by omega)) hp
 intro a b ha hb h1 h2
 have ha := hp.mem_iff.1 ha
 obtain ⟨i, hi, rfl⟩ := List.getElem_of_mem ha
 obtain ⟨j, hj, rfl⟩ := List.getElem_of_mem hb
 have hp := List.pairwise_iff_getElem.1 h
 rcases Nat.lt_trichotomy i j with h3 | h3 | h3
 ·have := hp i j hi hj h3; omega
 ·subst h3; rfl
 ·have := hp j i hj hi h3; omega
theorem eO.nil {w : World} {r rd : Nat} (h : aq w r [av rd, (⟨none, 0, 0⟩ : Slc).v]) : eO w r rd ⟨⟨none, 0, 0⟩, []⟩ [] :=
 ⟨h, Own.nil _ _, rfl, fun i h => by simp at h, List.Pairwise.nil, (by rintro ⟨a, ha, _⟩; cases ha), fun x hx => by simp at hx⟩
theorem B0 {L : List aJ} (h : L.Pairwise fun g h => g.place ≠ h.place) : L.Nodup := h.imp (fun hne e => hne (by rw [e]))
theorem sK {M : List aJ} {k : Nat} (hM : M.Pairwise fun g h => g.place ≠ h.place) (hpl : ∀ g ∈ M, g.place < k) : M.length <= k := by
 have h1 : (M.map (·.place)).Nodup := List.pairwise_map.2 hM
 have h2 := h1.length_le_of_subset (l₂ := List.range k) (fun x hx => by
  obtain ⟨g, hg, rfl⟩ := List.mem_map.1 hx
  rw [List.mem_range]; exact hpl g hg)
 simpa using h2
def yf : List Nat := [aD, aH, dW, iQ, lG, lH, iR]
theorem gF : ∀ g ∈ pX, g ∈ yf := by decide
theorem tZ : ∀ g ∈ yf, g ∈ gw := by decide
theorem C1 {w : World} {rd : Nat} {q : cU} {d : aK} (A : Nat -> Addr) (h : aP w rd q d) (hp : d.aI = []) {n0 : Nat} (hE : bK pX A n0 w) {L : List aJ} (hI : cI (aW d.img) (d.n / 64) L)
  (hk1 : 1 <= d.n / 64) (hk5 : d.n / 64 < 20) (hN : ∀ g ∈ L, g.num < 2 ^ 62) :
  Calls Tryz.prog kY ⟨[av rd]⟩ w fun e w' => ∃ (r : Nat) (u : StP), e = .returned (.tuple ⟨[av r, .nilIface]⟩) /\ eO w' r rd u L /\ (∀ k, StB r u k -> w.heap.size <= k) /\ ah w w' := by
 refine AD _ ?_
 unfold zP
 refine ao (fun r2 w3 hr2 hb2 k3 hs3 => ?_)
 have o2 := aq.eS hb2
 have S3 : eO w3 r2 rd ⟨⟨none, 0, 0⟩, []⟩ [] := eO.nil o2
 refine (sH S3.c0 (h.ae k3)).mono ?_
 rintro e w5 ⟨rfl, rfl⟩
 refine ⟨_, rfl, af (fun h0 => by omega) (fun h0 => (sH S3.c0 (h.ae k3)).mono ?_)⟩
 rintro e w9 ⟨rfl, rfl⟩
 have hnn : d.n = d.img.length / 64 := rfl
 have hMn : ∀ (M : List aJ), M.Pairwise (fun g h => g.place ≠ h.place) -> (∀ g ∈ M, g.place < d.n / 64) -> M.length < 20 := by
  intro M hM hpl
  have := sK hM hpl
  omega
 refine ⟨_, rfl, fun i w2 => ∃ (k : Nat) (u : StP) (M : List aJ), i = k /\ k <= d.n / 64 /\ eO w2 r2 rd u M /\ (∀ j, StB r2 u j -> w.heap.size <= j) /\ ah w w2 /\ M.Pairwise (fun g h => g.place ≠ h.place) /\ ∀ g, g ∈ M ↔ g ∈ L /\ g.place < k,
  fun i _ => (((d.n / 64 : Nat) : Int) - i).toNat, ⟨0, _, [], rfl, by omega, S3, ?_, k3, List.Pairwise.nil, fun g => by simp⟩, ?_⟩
 ·rintro j (rfl | ⟨a, ha, _⟩ | ⟨x, hx, _⟩)
  ·omega
  ·cases ha
  ·simp at hx
 rintro i w14 ⟨k, u, M, rfl, hk, hS, hSf, hkk, hMp, hMm⟩
 intros
 have hM20 := hMn M hMp (fun g hg => hI.pl g ((hMm g).1 hg).1)
 refine af (fun h1 => ?_) (fun h1 => ?_)
 ·have hkl : k < d.n / 64 := by omega
  have hsec := lj A hS.c0 (h.ae hkk) hp k 0 (by omega) (hE.ae hkk)
  refine Calls.mono (show Calls Tryz.prog bZ ⟨[av r2, .int .i64 (k : Int), .int .i64 (0 : Int)]⟩ w14 _ from hsec) ?_
  rintro e w42 ⟨t, rfl, ht, hf, k42⟩
  have htl : (plT (aW d.img) k 0).length = 64 := jl (by omega)
  obtain ⟨a, hta, hcell⟩ := eE ht.bytes (i := 63) (by omega)
  have hsl := ht.bytes.1
  have hmk : mkS (plT (aW d.img) k 0) = (plT (aW d.img) k 0)[63]'(by omega) := by
   unfold mkS
   rw [List.getD_eq_getElem?_getD, List.getElem?_eq_getElem (by omega), Option.getD_some]
  have hS42 := hS.ae k42
  refine ⟨t, rfl, aa hta ⟨by omega, by omega, _, hcell, af (fun h2 => ?_) (fun h2 => ?_)⟩⟩
  ·have hm1 : mkS (aW d.img (64 * k)) = 1 := by
    have : mkS (plT (aW d.img) k 0) = 1 := by rw [hmk]; exact UInt8.toNat_inj.1 (by show _ = 1; omega)
    exact this
   have hex : ∃ g ∈ L, g.place = k := Classical.byContradiction fun hno => hI.un k hkl (fun g hg e => hno ⟨g, hg, e⟩) hm1
   obtain ⟨g, hg, hgp⟩ := hex
   have hon := hI.on g hg
   rw [hgp] at hon
   have hgn := hN g hg
   rw [hon.1] at ht htl
   have kd : ah w42 (World.drew w42) := Ext.drew _ _
   have e1 : leN ((fv g.num 1).take 8) = g.num := by
    rw [xW _ _ (by omega), DI]
    exact Nat.mod_eq_of_lt (by omega)
   have hnum := pa t _ 8 (World.drew w42) (aG ht.bytes kd) (by omega) (by omega) (by rw [e1]; omega)
   rw [e1] at hnum
   refine ⟨_, (by have := hS42.c1; rwa [add_lit] at this), hnum.mono ?_⟩
   rintro e w48 ⟨rfl, rfl⟩
   have S48 := hS42.ae kd
   have k48 : ah w (World.drew w42) := (hkk.trans k42).trans kd
   have c48 : ∀ {w2 : World} {M2 : List aJ}, eO w2 r2 rd u M2 -> w2.cell? ⟨r2, 1, none⟩ = some u.sp.v := fun hh => by have := hh.c1; rwa [add_lit] at this
   refine ⟨_, rfl, ⟨_, c48 S48, rfl⟩, (CY A S48.c0 (h.ae k48) hp k g.num (by omega) (hE.ae k48) g.bP hon.2).mono ?_⟩
   rintro e w52 ⟨x, rfl, hx, hxf, k52⟩
   have hge : (⟨k, g.num, g.bP⟩ : aJ) = g := by rw [<- hgp]
   rw [hge] at hx
   have S52 := S48.ae k52
   refine ⟨_, rfl, ⟨_, c48 S52, rfl⟩, ao (fun r55 w56 hr55 hb55 k56 hs56 => ?_)⟩
   have S56 := S52.ae k56
   have hx56 := hx.ae k56
   have k56' : ah w w56 := (k48.trans k52).trans k56
   refine ⟨⟨_, c48 S56, rfl⟩, S56.push hx56 (fun j hj hh => ?_) hb55 (.inl (by simp)) (by omega) (fun s' w59 hK => ?_)⟩
   ·have := hxf j hj
    have := S48.lt j hh
    omega
   ·rw [add_lit] at hK
    obtain ⟨c1, c2⟩ := hK
    refine ⟨c1, fun w60 hw60 => ?_⟩
    obtain ⟨S60, e60, f60⟩ := c2 w60 hw60
    refine ⟨ar (by omega), ⟨k + 1, ⟨s', u.xs ++ [x]⟩, M ++ [g], rfl, hkl, S60, fun j hj => ?_, k56'.ext e60 (fun j hj => hSf j hj), ?_, fun y => ?_⟩, by dsimp only; omega⟩
    ·have z1 := k48.size
     rcases f60 j hj with h5 | h5 | h5
     ·exact hSf j h5
     ·have := hxf j h5; omega
     ·have := k56'.size; omega
    ·refine List.pairwise_append.2 ⟨hMp, List.pairwise_singleton _ _, fun y hy z hz => ?_⟩
     rw [List.mem_singleton] at hz; subst hz
     have := ((hMm y).1 hy).2
     omega
    ·rw [List.mem_append, List.mem_singleton, hMm y]
     constructor
     ·rintro (⟨h5, h6⟩ | rfl)
      ·exact ⟨h5, by omega⟩
      ·exact ⟨hg, by omega⟩
     ·rintro ⟨h5, h6⟩
      by_cases h7 : y.place < k
      ·exact .inl ⟨h5, h7⟩
      ·exact .inr (DJ hI.nd h5 hg (by omega))
  ·have hm1 : mkS (aW d.img (64 * k)) ≠ 1 := by
    intro hh
    apply h2
    have : mkS (plT (aW d.img) k 0) = 1 := hh
    rw [hmk] at this
    rw [this]; rfl
   refine ⟨ar (by omega), ⟨k + 1, u, M, rfl, hkl, hS42, hSf, hkk.trans k42, hMp, fun y => ?_⟩, by dsimp only; omega⟩
   rw [hMm y]
   constructor
   ·rintro ⟨h5, h6⟩; exact ⟨h5, by omega⟩
   ·rintro ⟨h5, h6⟩
    refine ⟨h5, ?_⟩
    rcases Nat.lt_or_ge y.place k with h7 | h7
    ·exact h7
    ·exfalso
     have hyk : y.place = k := by omega
     have hon := (hI.on y h5).1
     rw [hyk] at hon
     apply hm1
     have : aW d.img (64 * k) = fv y.num 1 := hon
     rw [this, tS]
 ·have hke : k = d.n / 64 := by omega
  have hML : M.Perm L := (List.perm_ext_iff_of_nodup (B0 hMp) (B0 hI.nd)).2 (fun g => by
   rw [hMm g]
   exact ⟨fun h => h.1, fun h => ⟨h, by rw [hke]; exact hI.pl g h⟩⟩)
  have hlen := hS.len
  have hz : (u.xs.zip M).map pd = u.xs.map fun x => av x.o := by
   have := List.map_fst_zip (l₁ := u.xs) (l₂ := M) (by omega)
   conv => rhs; rw [<- this]
   rw [List.map_map]; rfl
  have hzl : (u.xs.zip M).length = M.length := by rw [List.length_zip]; omega
  refine ⟨_, (by have := hS.c1; rwa [add_lit] at this), (C0 u.sp (u.xs.zip M) w14 (by rw [hz]; exact hS.s) (fun z hzm => ?_) (by omega)).mono ?_⟩
  ·obtain ⟨i, hi, rfl⟩ := List.getElem_of_mem hzm
   rw [List.length_zip] at hi
   rw [List.getElem_zip]
   exact ⟨hS.g i (by omega) (by omega), fun j hj => (hS.ds _ (List.getElem_mem _) j hj).2⟩
  ·rintro e w63 ⟨rfl, zs, hzp, hzs, hzo, hze⟩
   obtain ⟨g1, g2, g3⟩ := hS.perm hzp hzo hze
   have hLe : zs.map (·.2) = L := by
    refine GS (g2.trans hML) hI.so ?_
    rw [List.pairwise_map, List.pairwise_iff_getElem]
    intro i j hi hj hij
    exact hzs i j hi hj hij (by rw [hzp.length_eq] at hj; exact hj)
   rw [hLe] at g1
   exact ⟨rfl, r2, ⟨u.sp, zs.map (·.1)⟩, rfl, g1, fun j hj => hSf j (g3 j hj), hkk.ext hze (fun j hj => hSf j (.inr (.inl hj)))⟩
end Go.D
namespace Go.D
open Go Go.Proofs
theorem C2 (l : List Wr) (x : Wr) (i : Int) : lastW (l ++ [x]) i = if x.1 = i then some x.2 else lastW l i := by
 induction l with
 | nil => simp [lastW]
 | cons y l ih =>
  simp only [List.cons_append, lastW, ih]
  by_cases h : x.1 = i
  ·simp only [if_pos h]
  ·simp only [if_neg h]
def wrL (base : Nat) (f : Nat -> List UInt8) (n : Nat) : List Wr := (List.range n).map fun j => (((base + j : Nat) : Int), f j)
theorem ua (base : Nat) (f : Nat -> List UInt8) (n : Nat) : wrL base f (n + 1) = wrL base f n ++ [(((base + n : Nat) : Int), f n)] := by simp [wrL, List.range_succ]
theorem mO (base : Nat) (f : Nat -> List UInt8) (n : Nat) : (wrL base f n).length = n := by simp [wrL]
theorem qV {base n : Nat} {f : Nat -> List UInt8} {x : Wr} (h : x ∈ wrL base f n) : ∃ j, j < n /\ x = (((base + j : Nat) : Int), f j) := by
 obtain ⟨j, hj, rfl⟩ := List.mem_map.1 h
 exact ⟨j, by simpa using hj, rfl⟩
theorem yg (base : Nat) (f : Nat -> List UInt8) (n i : Nat) : lastW (wrL base f n) (i : Int) = if base <= i /\ i < base + n then some (f (i - base)) else none := by
 induction n with
 | zero => rw [if_neg (by omega)]; rfl
 | succ n ih =>
  rw [ua, C2, ih]
  by_cases h : i = base + n
  ·subst h
   rw [if_pos rfl, if_pos (by omega), show base + n - base = n by omega]
  ·rw [if_neg (by simp only; omega)]
   by_cases h2 : base <= i /\ i < base + n
   ·rw [if_pos h2, if_pos (by omega)]
   ·rw [if_neg h2, if_neg (by omega)]
theorem GU {d : aK} {i : Nat} (h : i < d.n) : xQ d (i : Int) = true := by unfold xQ; exact decide_eq_true (by omega)
section
variable {w : World} {r rd : Nat} {q : cU} {d : aK}
theorem mP (A : Nat -> Addr) (hc : w.cell? ⟨r, 0, none⟩ = some (av rd)) (h : aP w rd q d) (p i : Nat) (hi : 64 * p + i < d.n) (s : Slc) (b : List UInt8) (hb : au w s b) (hl : b.length = 64) {n0 : Nat} (hE : bK pX A n0 w) (hn : n0 <= rd)
  (hsep : ∀ k, ai s k -> k ≠ rd) (hp : d.aI.length < 2 ^ 20) :
  Calls Tryz.prog cA ⟨[av r, .int .i64 (p : Int), .int .i64 (i : Int), s.v]⟩ w fun e w' => ∃ (e' : Option Nat) (q' : cU) (d' : aK), e = .returned (cm A e') /\ aP w' rd q' d' /\ bJ (bp rd q) (bp rd q') w w' /\ d'.img = d.img /\ d'.stops = d.stops /\
   (e' = none /\ d'.aI = d.aI ++ [(((64 * p + i : Nat) : Int), b)] \/ e' = some 11 /\ d.stops = true /\ d'.aI = d.aI) := by
 refine rk _ _ _ _ ?_
 unfold nL
 have := h.ok.l
 have hn' : d.n = d.img.length / 64 := rfl
 have e0 : (p : Int) * 64 + i = ((64 * p + i : Nat) : Int) := by omega
 refine aa rfl ⟨_, hc, ar (by omega), ar (by omega), ?_⟩
 rw [e0]
 refine (BS A h _ s b hb (by rw [hb.1]; omega) hE hn hsep (by omega)).mono ?_
 rintro e w8 ⟨q', rfl, h8, f8⟩
 refine ⟨_, rfl, _, q', _, rfl, h8, f8, ?_⟩
 unfold lU
 rw [GU hi, if_neg (by simp), if_neg (by omega)]
 by_cases hd : (fj d).1 = true
 ·rw [if_pos hd]
  refine ⟨oh d, mL d, .inr ⟨rfl, ?_, o0 d⟩⟩
  unfold fj at hd
  split at hd
  ·cases hd
  ·rename_i h1
   simpa using h1
 ·rw [if_neg hd]
  exact ⟨oh d, mL d, .inl ⟨rfl, rfl⟩⟩
theorem qI (A : Nat -> Addr) (h : aP w rd q d) {n0 : Nat} (hE : bK pX A n0 w) (hn : n0 <= rd) (hp : d.aI.length <= 2 ^ 40) :
  Calls Tryz.prog b7 ⟨[av rd]⟩ w fun e w' => ∃ (e' : Option Nat) (q' : cU) (d' : aK), e = .returned (cm A e') /\ aP w' rd q' d' /\ bJ (bp rd q) (bp rd q') w w' /\ d'.stops = d.stops /\
   (e' = none /\ d'.img = applyL d.aI d.img /\ d'.aI = [] \/ e' = some 11 /\ d.stops = true /\ d'.img = d.img /\ d'.aI = d.aI) := by
 refine (CT A h hE hn hp).mono ?_
 rintro e w8 ⟨q', rfl, h8, f8⟩
 refine ⟨_, q', _, rfl, h8, f8, ?_⟩
 unfold sq
 by_cases hd : (fj d).1 = true
 ·rw [if_pos hd]
  refine ⟨mL d, .inr ⟨rfl, ?_, oh d, o0 d⟩⟩
  unfold fj at hd
  split at hd
  ·cases hd
  ·rename_i h1
   simpa using h1
 ·rw [if_neg hd]
  exact ⟨mL d, .inl ⟨rfl, rfl, rfl⟩⟩
theorem uc {s : Slc} (h : aP w rd q d) (hf : aN w s) : ∀ k, ai s k -> k ≠ rd := fun k hk e => by
 have := hf k hk
 have := h.lt rd (.inl rfl)
 omega
theorem sL (A : Nat -> Addr) (hc : w.cell? ⟨r, 0, none⟩ = some (av rd)) (hr : ¬ bp rd q r) (h : aP w rd q d) (hpe : d.aI = []) (p i : Nat) (hi : 64 * p + i < d.n) (s : Slc) (b : List UInt8) (hb : au w s b) (hl : b.length = 64) {n0 : Nat} (hE : bK pX A n0 w)
  (hn : ∀ k, bp rd q k -> n0 <= k) (hn0 : n0 <= w.heap.size) (hsep : ∀ k, ai s k -> k ≠ rd) :
  Calls Tryz.prog dU ⟨[av r, .int .i64 (p : Int), .int .i64 (i : Int), s.v]⟩ w fun e w' => ∃ (e' : Option Nat) (q' : cU) (d' : aK), e = .returned (cm A e') /\ aP w' rd q' d' /\ bJ (bp rd q) (bp rd q') w w' /\ d'.stops = d.stops /\
   (e' = none /\ d'.img = dZ d.img ((64 * p + i : Nat) : Int) b 64 /\ d'.aI = [] \/ e' = some 11 /\ d.stops = true /\ d'.img = d.img /\ (d'.aI = [] \/ d'.aI = [(((64 * p + i : Nat) : Int), b)])) := by
 refine rS _ _ _ _ ?_
 unfold pA
 refine (mP A hc h p i hi s b hb hl hE (hn rd (.inl rfl)) hsep (by rw [hpe]; simp)).mono ?_
 rintro e w6 ⟨e', q', d', rfl, h6, f6, him, hst, hcase⟩
 refine ⟨_, rfl, aF A _, aj (fun h0 => ?_) (fun h0 => ?_)⟩
 ·rcases hcase with ⟨rfl, hp'⟩ | ⟨rfl, hs', hp'⟩
  ·cases h0
  ·exact ⟨_, q', d', rfl, h6, f6, hst, .inr ⟨rfl, hs', him, .inl (by rw [hp', hpe])⟩⟩
 ·rcases hcase with ⟨rfl, hp'⟩ | ⟨rfl, hs', hp'⟩
  ·rw [hpe, List.nil_append] at hp'
   have hrl := World.block_lt_of_cell? w _ hc
   have hc6 : w6.cell? ⟨r, 0, none⟩ = some (av rd) := f6.1.cell hc hr
   refine aa rfl ⟨_, hc6, (qI A h6 (hE.ext f6.1 hn) (hn rd (.inl rfl)) (by rw [hp']; simp)).mono ?_⟩
   rintro e w11 ⟨e'', q'', d'', rfl, h11, f11, hst2, hcase2⟩
   refine ⟨_, rfl, e'', q'', d'', rfl, h11, f6.trans f11, by rw [hst2, hst], ?_⟩
   rcases hcase2 with ⟨rfl, hi2, hp2⟩ | ⟨rfl, hs2, hi2, hp2⟩
   ·refine .inl ⟨rfl, ?_, hp2⟩
    rw [hi2, hp', him]; rfl
   ·exact .inr ⟨rfl, by rw [<- hst]; exact hs2, by rw [hi2, him], .inr (by rw [hp2, hp'])⟩
  ·cases h0
end
def ud (d : aK) (k : Nat) (Ls : List (List aJ)) : Prop := d.aI.length <= 100 /\ ∀ kept torn cut : Int, ∃ L ∈ Ls, cI (aW (crashL kept torn cut 0 d.aI d.img)) k L
theorem ud.mono {d : aK} {k : Nat} {Ls Ls' : List (List aJ)} (h : ud d k Ls) (hs : ∀ L ∈ Ls, L ∈ Ls') : ud d k Ls' := ⟨h.1, fun a b c => let ⟨L, h1, h2⟩ := h.2 a b c; ⟨L, hs L h1, h2⟩⟩
section
variable {d : aK} {k : Nat} {L : List aJ}
theorem B1 {img : List UInt8} {aI : List Wr} (hk : 64 * k <= img.length / 64) (h : cI (aW img) k L) {p j : Nat} (hp : p < k) (hf : ∀ g ∈ L, g.place ≠ p) (hj : j <= 64) (hpe : aI = wrL (64 * p) (fun _ => kV) j) (kept torn cut : Int) :
  cI (aW (crashL kept torn cut 0 aI img)) k L := by
 subst hpe
 have q1 : ∀ i, i < img.length / 64 -> (if 64 * p <= i /\ i < 64 * p + 64 then (i = 64 * p -> mkS (aW img i) ≠ 1) else aW img i = aW img i) := by
  intro i hi
  split
  ·rintro rfl
   exact h.un p hp hf
  ·rfl
 have q2 : ∀ x ∈ wrL (64 * p) (fun _ => kV) j, 0 <= x.1 /\ x.1 < ((img.length / 64 : Nat) : Int) /\ x.2.length = 64 := by
  intro x hx
  obtain ⟨m, hm, rfl⟩ := qV hx
  exact ⟨by simp only; omega, by simp only; omega, rfl⟩
 have q3 : ∀ x ∈ wrL (64 * p) (fun _ => kV) j, ∀ c, c <= 64 -> ∀ s : List UInt8, s.length = 64 -> (if 64 * p <= x.1.toNat /\ x.1.toNat < 64 * p + 64 then (x.1.toNat = 64 * p -> mkS s ≠ 1) else s = aW img x.1.toNat) ->
   (if 64 * p <= x.1.toNat /\ x.1.toNat < 64 * p + 64 then (x.1.toNat = 64 * p -> mkS (x.2.take c ++ s.drop c) ≠ 1) else x.2.take c ++ s.drop c = aW img x.1.toNat) := by
  intro x hx c hc s hs hq
  obtain ⟨m, hm, rfl⟩ := qV hx
  simp only [Int.toNat_natCast] at hq ⊢
  rw [if_pos (by omega)] at hq ⊢
  intro e
  rcases Fx (new := kV) rfl hc hs with h1 | h1
  ·rw [h1]; exact hq e
  ·rw [h1, qF]; decide
 obtain ⟨_, g⟩ := uN (Q := fun i s => if 64 * p <= i /\ i < 64 * p + 64 then (i = 64 * p -> mkS s ≠ 1) else s = aW img i) (n := img.length / 64) kept torn cut _ 0 img rfl q1 q2 q3
 refine h.off hp hf (fun i hi hno => ?_) ?_
 ·have := g i (by omega)
  rwa [if_neg hno] at this
 ·have := g (64 * p) (by omega)
  rw [if_pos (by omega)] at this
  exact this rfl
theorem C3 {img : List UInt8} (hk : 64 * k <= img.length / 64) {p : Nat} (hp : p < k) :
  (∀ i, i < 64 * k -> ¬ (64 * p <= i /\ i < 64 * p + 64) -> aW (applyL (wrL (64 * p) (fun _ => kV) 64) img) i = aW img i) /\ (∀ i, i < 64 -> aW (applyL (wrL (64 * p) (fun _ => kV) 64) img) (64 * p + i) = kV) /\
  (applyL (wrL (64 * p) (fun _ => kV) 64) img).length / 64 = img.length / 64 := by
 obtain ⟨g1, g2⟩ := uO (n := img.length / 64) (wrL (64 * p) (fun _ => kV) 64) img rfl (fun x hx => by
  obtain ⟨m, hm, rfl⟩ := qV hx
  exact ⟨by simp only; omega, by simp only; omega, rfl⟩)
 refine ⟨fun i hi hno => ?_, fun i hi => ?_, g1⟩
 ·rw [g2 i (by omega), yg, if_neg hno]; rfl
 ·rw [g2 _ (by omega), yg, if_pos (by omega)]; rfl
theorem C4 {img : List UInt8} {aI : List Wr} {a : Nat} {b : List UInt8} (ha : a < img.length / 64) (hb : b.length = 64) (hpe : aI = [] \/ aI = [((a : Int), b)]) (kept torn cut : Int) :
  (∀ i, i < img.length / 64 -> i ≠ a -> aW (crashL kept torn cut 0 aI img) i = aW img i) /\
  (aW (crashL kept torn cut 0 aI img) a = b \/ (∃ c, c < 64 /\ aW (crashL kept torn cut 0 aI img) a = b.take c ++ (aW img a).drop c)) := by
 rcases hpe with rfl | rfl
 ·exact ⟨fun i _ _ => rfl, .inr ⟨0, by omega, by simp [crashL]⟩⟩
 ·have key : ∀ c, c <= 64 -> (∀ i, i < img.length / 64 -> i ≠ a -> aW (dZ img (a : Int) b c) i = aW img i) /\
    (aW (dZ img (a : Int) b c) a = b \/ (∃ c', c' < 64 /\ aW (dZ img (a : Int) b c) a = b.take c' ++ (aW img a).drop c')) := by
   intro c hc
   refine ⟨fun i hi hne => by rw [tR ha hb hc hi, if_neg hne], ?_⟩
   rw [tR ha hb hc ha, if_pos rfl]
   rcases Nat.lt_or_ge c 64 with h1 | h1
   ·exact .inr ⟨c, h1, rfl⟩
   ·left
    have := jl ha
    rw [List.take_of_length_le (by omega), List.drop_of_length_le (by omega), List.append_nil]
  have hcut := BT cut
  simp only [crashL]
  split
  ·exact key _ (by omega)
  ·split
   ·exact key _ (by omega)
   ·exact ⟨fun i _ _ => rfl, .inr ⟨0, by omega, by simp⟩⟩
theorem GV {img1 img : List UInt8} {aI : List Wr} (hk : 64 * k <= img1.length / 64) (hi1 : img1.length / 64 = img.length / 64) (h : cI (aW img) k L) {p n : Nat} (hp : p < k) (hf : ∀ g ∈ L, g.place ≠ p)
  (hs : ∀ i, i < 64 * k -> ¬ (64 * p <= i /\ i < 64 * p + 64) -> aW img1 i = aW img i) (hz : ∀ i, i < 64 -> aW img1 (64 * p + i) = kV) (hn : ∀ g ∈ L, g.num < n)
  (hpe : aI = [] \/ aI = [(((64 * p + 0 : Nat) : Int), fv n 1)]) (kept torn cut : Int) :
  cI (aW (crashL kept torn cut 0 aI img1)) k L \/ cI (aW (crashL kept torn cut 0 aI img1)) k (L ++ [⟨p, n, []⟩]) := by
 obtain ⟨g1, g2⟩ := C4 (a := 64 * p + 0) (img := img1) (by omega) (bw n 1) hpe kept torn cut
 have g1' : ∀ i, i < 64 * k -> ¬ (64 * p <= i /\ i < 64 * p + 64) -> aW (crashL kept torn cut 0 aI img1) i = aW img i := fun i hi hno => by rw [g1 i (by omega) (by omega), hs i hi hno]
 have hz0 := hz 0 (by omega)
 simp only [Nat.add_zero] at g1 g2 hz0
 rcases g2 with g2 | ⟨c, hc, g2⟩
 ·right
  refine h.take hp hf g1' g2 ?_ hn
  rw [g1 _ (by omega) (by omega), hz 1 (by omega), qF]; decide
 ·left
  refine h.off hp hf g1' ?_
  rw [g2, hz0, AL (bw n 1) hc rfl, qF]; decide
end
end Go.D
namespace Go.D
open Go Go.Proofs
structure Sy0 (w : World) (n0 r rd : Nat) (u : StP) (q : cU) (d : aK) (L : List aJ) : Prop where
 S : eO w r rd u L
 D : aP w rd q d
 sep : ∀ k, StB r u k -> ¬ bp rd q k
 dn : ∀ k, bp rd q k -> n0 <= k
 sn : ∀ k, StB r u k -> n0 <= k
 z : n0 <= w.heap.size
def cJ (r : Nat) (u : StP) (rd : Nat) (q : cU) (k : Nat) : Prop := StB r u k \/ bp rd q k
section
variable {w w' : World} {n0 r rd : Nat} {u : StP} {q q' : cU} {d d' : aK} {L : List aJ}
theorem Sy0.ext {M : Nat -> Prop} (h : Sy0 w n0 r rd u q d L) (he : Ext M w w') (hm : ∀ k, cJ r u rd q k -> ¬ M k) : Sy0 w' n0 r rd u q d L :=
 ⟨h.S.ext he (fun k hk => hm k (.inl hk)), h.D.ext he (fun k hk => hm k (.inr hk)), h.sep, h.dn, h.sn, Nat.le_trans h.z he.size⟩
theorem Sy0.ae (h : Sy0 w n0 r rd u q d L) (he : ah w w') : Sy0 w' n0 r rd u q d L := h.ext he (fun _ _ h => h)
theorem Sy0.dev (h : Sy0 w n0 r rd u q d L) (hd : aP w' rd q' d') (hf : bJ (bp rd q) (bp rd q') w w') : Sy0 w' n0 r rd u q' d' L :=
 ⟨h.S.ext hf.1 h.sep, hd, fun k hk hh => (hf.2 k hh).elim (h.sep k hk) (fun h2 => by have := h.S.lt k hk; omega), fun k hk => (hf.2 k hk).elim (h.dn k) (fun h2 => Nat.le_trans h.z h2), h.sn, Nat.le_trans h.z hf.1.size⟩
theorem Sy0.lt (h : Sy0 w n0 r rd u q d L) : ∀ k, cJ r u rd q k -> k < w.heap.size := fun k hk => hk.elim (h.S.lt k) (h.D.lt k)
theorem Sy0.nr (h : Sy0 w n0 r rd u q d L) : ¬ bp rd q r := h.sep r (.inl rfl)
theorem bJ.dev (hf : bJ (bp rd q) (bp rd q') w w') : bJ (cJ r u rd q) (cJ r u rd q') w w' :=
 ⟨hf.1.mono (fun k hk => .inr hk), fun k hk => hk.elim (fun h => .inl (.inl h)) (fun h => (hf.2 k h).imp .inr (fun h => h))⟩
theorem bJ.FA (hf : bJ (bp rd q) (bp rd q') w w') : bJ (cJ r u rd q) (bp rd q') w w' :=
 ⟨hf.1.mono (fun k hk => .inr hk), fun k hk => (hf.2 k hk).imp .inr (fun h => h)⟩
end
structure Sys (w : World) (n0 r rd : Nat) (u : StP) (q : cU) (d : aK) (L : List aJ) (m : Nat) : Prop where
 B : Sy0 w n0 r rd u q d L
 p : d.aI = []
 I : cI (aW d.img) (d.n / 64) L
 N : ∀ g ∈ L, g.num < m
 k : 1 <= d.n / 64 /\ d.n / 64 < 20
theorem Sys.ext {w w' : World} {n0 r rd m : Nat} {u : StP} {q : cU} {d : aK} {L : List aJ} {M : Nat -> Prop} (h : Sys w n0 r rd u q d L m) (he : Ext M w w') (hm : ∀ k, cJ r u rd q k -> ¬ M k) : Sys w' n0 r rd u q d L m :=
 ⟨h.B.ext he hm, h.p, h.I, h.N, h.k⟩
theorem Sys.ae {w w' : World} {n0 r rd m : Nat} {u : StP} {q : cU} {d : aK} {L : List aJ} (h : Sys w n0 r rd u q d L m) (he : ah w w') : Sys w' n0 r rd u q d L m := h.ext he (fun _ _ h => h)
theorem Sys.len {w : World} {n0 r rd m : Nat} {u : StP} {q : cU} {d : aK} {L : List aJ} (h : Sys w n0 r rd u q d L m) : L.length <= d.n / 64 := sK h.I.nd h.I.pl
theorem Sys.up {w : World} {n0 r rd m m' : Nat} {u : StP} {q : cU} {d : aK} {L : List aJ} (h : Sys w n0 r rd u q d L m) (hm : m <= m') : Sys w n0 r rd u q d L m' := ⟨h.B, h.p, h.I, fun g hg => Nat.lt_of_lt_of_le (h.N g hg) hm, h.k⟩
def cd (L : List aJ) : Nat := (lastN L + 1).toNat
theorem FC (L : List aJ) : -1 <= lastN L := by unfold lastN; split <;> omega
theorem qW (L : List aJ) : lastN L + 1 = ((cd L : Nat) : Int) := by have := FC L; unfold cd; omega
theorem mQ {L : List aJ} (h : L.Pairwise fun g h => g.num < h.num) : ∀ g ∈ L, g.num < cd L := by
 intro g hg
 obtain ⟨i, hi, rfl⟩ := List.getElem_of_mem hg
 have h1 := qW L
 rw [ot (by omega)] at h1
 by_cases e : i = L.length - 1
 ·subst e; omega
 ·have := List.pairwise_iff_getElem.1 h i (L.length - 1) hi (by omega) (by omega)
  omega
theorem ue {L : List aJ} {m : Nat} (h : ∀ g ∈ L, g.num < m) : cd L <= m := by
 by_cases e : L.length = 0
 ·have : L = [] := List.length_eq_zero_iff.1 e
  subst this
  show (0 : Nat) <= m; omega
 ·have h1 := qW L
  rw [ot (by omega)] at h1
  have := h _ (List.getElem_mem (show L.length - 1 < L.length by omega))
  omega
abbrev pO (p : Nat) (L : List aJ) : List aJ := L ++ [⟨p, cd L, []⟩]
theorem C5 {w : World} {n0 r rd m : Nat} {u : StP} {q : cU} {d : aK} {L : List aJ} (A : Nat -> Addr) (h : Sys w n0 r rd u q d L m) (hE : bK yf A n0 w) (hm : m <= 2 ^ 60) :
    Calls Tryz.prog dT ⟨[av r]⟩ w fun e w' => ∃ (e' : Option Nat) (q' : cU) (d' : aK), e = .returned (cm A e') /\ aP w' rd q' d' /\ d'.n = d.n /\ d'.stops = d.stops /\
      (e' = some 12 /\ gz (d.n / 64) L = none /\ q' = q /\ d' = d /\ ah w w' \/
       e' = none /\ (∃ p u', gz (d.n / 64) L = some p /\ Sys w' n0 r rd u' q' d' (pO p L) (m + 1) /\ bJ (cJ r u rd q) (cJ r u' rd q') w w') \/
       e' = some 11 /\ d.stops = true /\ ∃ p, gz (d.n / 64) L = some p /\ ud d' (d.n / 64) [L, pO p L] /\ bJ (cJ r u rd q) (bp rd q') w w') := by
  refine rV _ ?_
  unfold pD
  have hLk := h.len
  have hk := h.k
  have hED : bK pX A n0 w := hE.sub gF
  have hnn : d.n = d.img.length / 64 := rfl
  refine (CX h.B.S h.B.D (by omega)).mono ?_
  rintro e w3 ⟨rfl, k3⟩
  have h3 := h.ae k3
  have hE3 := hE.ae k3
  cases hfp : gz (d.n / 64) L with
  | none =>
    refine ⟨_, rfl, af (fun _ => ?_) (fun h0 => absurd (show (-1 : Int) < 0 by omega) h0)⟩
    exact ⟨_, eb hE3 12 lG rfl (by decide), some 12, q, d, rfl, h3.B.D, rfl, rfl, .inl ⟨rfl, rfl, rfl, rfl, k3⟩⟩
  | some p =>
    obtain ⟨hpk, hpf⟩ := BX hfp
    refine ⟨_, rfl, af (fun h0 => absurd h0 (by simp [H4])) (fun _ => ?_)⟩
    show ∃ (I6 : Int -> World -> Prop) (mu7 : Int -> World -> Nat), _
    refine ⟨fun i w2 => ∃ (j : Nat) (q2 : cU) (d2 : aK), i = j /\ j <= 64 /\ aP w2 rd q2 d2 /\ bJ (bp rd q) (bp rd q2) w3 w2 /\ d2.img = d.img /\ d2.stops = d.stops /\ d2.aI = wrL (64 * p) (fun _ => kV) j, fun i _ => (64 - i).toNat,
      ⟨0, q, d, rfl, by omega, h3.B.D, bJ.refl _ _, rfl, rfl, h.p⟩, ?_⟩
    rintro i w9 ⟨j, q2, d2, rfl, hj, hD9, f9, him, hst, hpe⟩
    intros
    have h9 := h3.B.dev hD9 f9
    have hn2 : d2.n = d.n := by unfold aK.n; rw [him]
    have hE9 : bK yf A n0 w9 := hE3.ext f9.1 h.B.dn
    refine af (fun h1 => ?_) (fun h1 => ?_)
    · refine ⟨by omega, by omega, by omega, ao (fun r24 w25 hr24 hb24 k25 hs25 => ?_)⟩
      have hz := Own.DE hb24
      have h25 := h9.ae k25
      refine (mP A h25.S.c0 h25.D p j (by rw [hn2]; omega) _ kV hz.bytes rfl ((hE9.sub gF).ae k25) (h25.dn rd (.inl rfl)) (uc h9.D (aN.at (by omega))) (by rw [hpe, mO]; omega)).mono ?_
      rintro e w27 ⟨e', q3, d3, rfl, hD27, f27, him3, hst3, hcase⟩
      have fA := f9.trans (k25.kh f27)
      refine ⟨_, rfl, aF A _, aj (fun h2 => ?_) (fun h2 => ?_)⟩
      · rcases hcase with ⟨rfl, hp'⟩ | ⟨rfl, hs', hp'⟩
        · cases h2
        · refine ⟨_, q3, d3, rfl, hD27, by unfold aK.n; rw [him3, him], by rw [hst3, hst], .inr (.inr ⟨rfl, by rw [<- hst]; exact hs', p, rfl, ⟨by rw [hp', hpe, mO]; omega, fun kept torn cut => ⟨L, by simp, ?_⟩⟩, bJ.FA (k3.kh fA)⟩)⟩
          rw [him3, him]
          exact B1 (by omega) h.I hpk hpf hj (by rw [hp', hpe]) _ _ _
      · rcases hcase with ⟨rfl, hp'⟩ | ⟨rfl, hs', hp'⟩
        · exact ⟨ar (by omega), ⟨j + 1, q3, d3, rfl, by omega, hD27, fA, by rw [him3, him], by rw [hst3, hst], by rw [hp', hpe, ua]⟩, by dsimp only; omega⟩
        · cases h2
    · have hj64 : j = 64 := by omega
      subst hj64
      refine aa rfl ⟨_, h9.S.c0, (qI A h9.D (hE9.sub gF) (h9.dn rd (.inl rfl)) (by rw [hpe, mO]; omega)).mono ?_⟩
      rintro e w32 ⟨e', q3, d3, rfl, hD32, f32, hst3, hcase⟩
      have fA := f9.trans f32
      refine ⟨_, rfl, aF A _, aj (fun h2 => ?_) (fun h2 => ?_)⟩
      · rcases hcase with ⟨rfl, hi', hp'⟩ | ⟨rfl, hs', hi', hp'⟩
        · cases h2
        · refine ⟨_, q3, d3, rfl, hD32, by unfold aK.n; rw [hi', him], by rw [hst3, hst], .inr (.inr ⟨rfl, by rw [<- hst]; exact hs', p, rfl, ⟨by rw [hp', hpe, mO]; omega, fun kept torn cut => ⟨L, by simp, ?_⟩⟩, bJ.FA (k3.kh fA)⟩)⟩
          rw [hi', him]
          exact B1 (by omega) h.I hpk hpf (Nat.le_refl _) (by rw [hp', hpe]) _ _ _
      · rcases hcase.symm with ⟨rfl, hs', hi', hp'⟩ | ⟨rfl, hi', hp'⟩
        · cases h2
        rw [hpe, him] at hi'
        obtain ⟨c1, c2, c3⟩ := C3 (k := d.n / 64) (img := d.img) (by omega) hpk
        rw [<- hi'] at c1 c2 c3
        have hn3 : d3.n = d.n := c3
        have h32 := h9.dev hD32 f32
        have hE32 : bK yf A n0 w32 := hE9.ext f32.1 h9.dn
        have hnx := ue h.N
        refine (xZ h32.S (by omega)).mono ?_
        rintro e w35 ⟨rfl, k35⟩
        have hni := qW L
        refine ⟨_, rfl, ar (by omega), ?_⟩
        rw [hni]
        refine (sC (cd L) 1 (by omega) w35).mono ?_
        rintro e w38 ⟨t, rfl, ht, htf, k38⟩
        have k38' := k35.trans k38
        have h38 := h32.ae k38'
        refine ⟨t, rfl, (sL A h38.S.c0 h38.nr h38.D hp' p 0 (by rw [hn3]; omega) t _ ht.bytes (bw _ _) ((hE32.sub gF).ae k38') h38.dn h38.z (uc (h32.ae k35).D htf)).mono ?_⟩
        rintro e w41 ⟨e', q4, d4, rfl, hD41, f41, hst4, hcase⟩
        have fB := fA.trans (k38'.kh f41)
        refine ⟨_, rfl, aF A _, aj (fun h2 => ?_) (fun h2 => ?_)⟩
        · rcases hcase with ⟨rfl, _⟩ | ⟨rfl, hs', hi4, hp4⟩
          · cases h2
          · refine ⟨_, q4, d4, rfl, hD41, by unfold aK.n; rw [hi4]; exact hn3, by rw [hst4, hst3, hst], .inr (.inr ⟨rfl, by rw [<- hst, <- hst3]; exact hs', p, rfl, ⟨by rcases hp4 with h9 | h9 <;> rw [h9] <;> simp, fun kept torn cut => ?_⟩, bJ.FA (k3.kh fB)⟩)⟩
            rw [hi4]
            rcases GV (by rw [c3]; omega) c3 h.I hpk hpf c1 c2 (mQ h.I.so) hp4 kept torn cut with g | g
            · exact ⟨L, by simp, g⟩
            · exact ⟨pO p L, by simp, g⟩
        · rcases hcase.symm with ⟨rfl, _⟩ | ⟨rfl, hi4, hp4⟩
          · cases h2
          have hsz4 : d4.img.length / 64 = d.img.length / 64 := by
            rw [hi4, lV (by rw [c3]; omega) (bw _ _) (Nat.le_refl _)]; exact c3
          have hsec : ∀ i, i < 64 * (d.n / 64) -> aW d4.img i = if i = 64 * p + 0 then fv (cd L) 1 else aW d3.img i := by
            intro i hi
            rw [hi4, lW (by rw [c3]; omega) (bw _ _) (by rw [c3]; omega)]
          have hI4 : cI (aW d4.img) (d.n / 64) (pO p L) := by
            refine h.I.take hpk hpf (fun i hi hno => ?_) ?_ ?_ (mQ h.I.so)
            · rw [hsec i hi, if_neg (by omega), c1 i hi hno]
            · rw [hsec _ (by omega), if_pos (by omega)]
            · rw [hsec _ (by omega), if_neg (by omega), c2 1 (by omega), qF]; decide
          have h41 := h38.dev hD41 f41
          refine aa rfl ⟨_, h41.S.c1, ao (fun r45 w46 hr45 hb45 k46 hs46 => ao (fun r47 w48 hr47 hb47 k48 hs48 => ?_))⟩
          have h48 := (h41.ae k46).ae k48
          have hx : gj w48 ⟨r45, ⟨none, 0, 0⟩, []⟩ ⟨p, cd L, []⟩ := ⟨(aq.eS hb45).ae k48, Rows.nil _ _, (by rintro ⟨a, ha, _⟩; cases ha), (by rintro k ⟨cs, hcs, _⟩; simp at hcs)⟩
          have hxB : ∀ k, iK ⟨r45, ⟨none, 0, 0⟩, []⟩ k -> k = r45 := by
            rintro k (hk | ⟨a, ha, _⟩ | ⟨cs, hcs, _⟩)
            · exact hk
            · cases ha
            · simp at hcs
          refine h48.S.push hx (fun k hk hh => ?_) hb47 (.inl (by simp)) (by omega) (fun s' w50 hK => aa rfl ?_)
          · have := hxB k hk
            have := h41.S.lt k hh
            omega
          obtain ⟨e1, e2⟩ := hK
          refine ⟨e1, fun w52 hw52 => ?_⟩
          obtain ⟨S52, x52, f52⟩ := e2 w52 hw52
          have hD52 := h48.D.ext x52 (fun k hk hh => h48.sep k hh hk)
          have z3 := k3.size
          have z9 := fB.1.size
          have z46 := k46.size
          have z48 := k48.size
          have f52' : ∀ k, StB r ⟨s', u.xs ++ [⟨r45, ⟨none, 0, 0⟩, []⟩]⟩ k -> StB r u k \/ w41.heap.size <= k := fun k hk => by
            rcases f52 k hk with h5 | h5 | h5
            · exact .inl h5
            · have := hxB k h5; exact .inr (by omega)
            · exact .inr (by omega)
          have hn4 : d4.n = d.n := hsz4
          refine ⟨none, q4, d4, rfl, hD52, hn4, by rw [hst4, hst3, hst], .inr (.inl ⟨rfl, p, ⟨s', u.xs ++ [⟨r45, ⟨none, 0, 0⟩, []⟩]⟩, rfl, ⟨⟨S52, hD52, fun k hk hh => ?_, h48.dn, fun k hk => ?_, Nat.le_trans h48.z x52.size⟩, hp4, by rw [hn4]; exact hI4, fun g hg => ?_, by rw [hn4]; exact hk⟩, ?_, fun k hk => ?_⟩)⟩
          · rcases f52' k hk with h5 | h5
            · exact h48.sep k h5 hh
            · have := h41.D.lt k hh; omega
          · rcases f52' k hk with h5 | h5
            · exact h48.sn k h5
            · have := h41.z; omega
          · rcases List.mem_append.1 hg with h5 | h5
            · have := h.N g h5; omega
            · rw [List.mem_singleton] at h5; subst h5
              show cd L < m + 1; omega
          · have x1 : Ext (cJ r u rd q) w w48 := ((bJ.FA (r := r) (u := u) (k3.kh fB)).1.trans k46 (fun _ h => h) (fun _ h => h.elim)).trans k48 (fun _ h => h) (fun _ h => h.elim)
            exact x1.trans x52 (fun _ h => h) (fun k hk => .inl (.inl hk))
          · rcases hk with hk | hk
            · rcases f52' k hk with h5 | h5
              · exact .inl (.inl h5)
              · exact .inr (by omega)
            · rcases (k3.kh fB).2 k hk with h5 | h5
              · exact .inl (.inr h5)
              · exact .inr h5
end Go.D
namespace Go.D
open Go Go.Proofs
theorem C6 (s : Slc) (n : Int) (hn : 1 <= n) (w : World) :
  Calls Tryz.prog gr ⟨[s.v, .int .i64 n]⟩ w fun e w' => ∃ b1 b2, e = .returned (.func (.func cu) ⟨[]⟩ ⟨[av b1, av b2]⟩) /\ aq w' b1 [s.v] /\ aq w' b2 [.int .i64 n] /\ ah w w' /\ w.heap.size <= b1 /\ w.heap.size <= b2 := by
 refine qt _ _ ?_
 unfold mD
 refine ao (fun r w1 hr hb hk hs => ao (fun r2 w2 hr2 hb2 hk2 hs2 => ?_))
 have o2 := aq.eS hb2
 have z1 := hk.size
 refine ⟨_, o2.cell 0 (by simp), af (fun h => by omega) (fun h => ⟨r, r2, rfl, (aq.eS hb).ae hk2, o2, hk.trans hk2, by omega, by omega⟩)⟩
def ga (B : List UInt8) (n k : Nat) : List UInt8 := (B.drop (k * n)).take n
end Go.D
namespace Go.D
open Go Go.Proofs
theorem zm (s : Slc) (B : List UInt8) (n lr b1 b2 : Nat) (J : Nat -> World -> Prop) (X : World -> Prop) (hn : 0 < n) (hnl : n <= 2 ^ 20) (hl : B.length <= 2 ^ 30) (hsc : s.l <= s.c)
  (hJ : ∀ k w, J k w -> w.cell? ⟨b1, 0, none⟩ = some s.v /\ w.cell? ⟨b2, 0, none⟩ = some (.int .i64 (n : Int)) /\ au w s B)
  (hd : ∀ k w, J k w -> J k w.drew)
  (hstep : ∀ k (hk : k * n < B.length) (w : World) (sd : Slc), J k w -> au w sd (ga B n k) ->
   jF Tryz.prog lr ⟨[sd.v]⟩ w fun e w' => (e = .returned (.bool true) /\ J (k + 1) w') \/ (e = .returned (.bool false) /\ X w'))
  (w : World) (h0 : J 0 w) :
  Calls Tryz.prog cu ⟨[.func (.yield lr) ⟨[]⟩ ⟨[]⟩, av b1, av b2]⟩ w fun e w' => e = .returned (.tuple #[]) /\ ((∃ k, B.length <= k * n /\ (k = 0 \/ (k - 1) * n < B.length) /\ J k w') \/ X w') := by
 refine oP _ _ _ ?_
 unfold kJ
 refine ⟨fun i w2 => ∃ k : Nat, i = ((k * n : Nat) : Int) /\ (k = 0 \/ (k - 1) * n < B.length) /\ J k w2, fun i _ => ((B.length : Int) - i).toNat, ⟨0, by simp, .inl rfl, h0⟩, ?_⟩
 rintro i w7 ⟨k, rfl, hk, h7⟩
 intros
 obtain ⟨hc1, hc2, hB⟩ := hJ _ _ h7
 have hsl := hB.1
 have h7d := hd _ _ h7
 obtain ⟨hd1, hd2, hBd⟩ := hJ _ _ h7d
 refine aa rfl ⟨s, hc1, af (fun h1 => ?_) (fun h1 => ⟨rfl, .inl ⟨k, by omega, hk, h7⟩⟩)⟩
 have hkl : k * n < B.length := by omega
 have hknn : (k + 1) * n = k * n + n := by rw [Nat.add_mul, Nat.one_mul]
 have hsubl : (Slc.sub s 1 (Int.toNat ((k * n : Nat) : Int)) s.l s.c).l = s.l - k * n := by simp only [Slc.sub]; omega
 obtain ⟨m, hm⟩ : ∃ m : Nat, (m : Int) = if ((s.l - k * n : Nat) : Int) < (n : Int) then ((s.l - k * n : Nat) : Int) else (n : Int) := by split; exact ⟨_, rfl⟩; exact ⟨_, rfl⟩
 have hmn : m = min n (B.length - k * n) := by split at hm <;> omega
 refine aa rfl ⟨_, hd2, aa rfl ⟨s, hd1, by omega, by omega, by omega, by omega, aa rfl ⟨s, hd1, ?_⟩⟩⟩
 rw [hsubl, <- hm]
 refine ⟨ar (by omega), ar (by omega), by omega, by omega, by omega, by omega, ?_⟩
 have e1 : Int.toNat ((k * n : Nat) : Int) = k * n := by omega
 have e2 : Int.toNat (((k * n : Nat) : Int) + (m : Int)) = k * n + m := by omega
 rw [e1, e2]
 have hsd : au w7.drew (Slc.sub s 1 (k * n) (k * n + m) (k * n + m)) (ga B n k) := by
  have := iP hBd (lo := k * n) (hi := k * n + m) (c := k * n + m) (by omega) (by omega) (by omega)
  have e3 : ga B n k = (B.take (k * n + m)).drop (k * n) := by
   unfold ga
   rw [List.drop_take, show k * n + m - k * n = m by omega]
   by_cases hmm : m = n
   ·rw [hmm]
   ·rw [List.take_of_length_le (by simp; omega), List.take_of_length_le (by simp; omega)]
  rw [e3]; exact this
 refine (hstep k hkl _ _ h7d hsd).mono ?_
 rintro e w45 (⟨rfl, h45⟩ | ⟨rfl, h45⟩)
 ·obtain ⟨hf1, hf2, _⟩ := hJ _ _ h45
  refine ⟨true, rfl, aj (fun h => by cases h) (fun _ => aa rfl ⟨_, hf2, ar (by omega), ⟨k + 1, by omega, .inr (by rw [Nat.add_sub_cancel]; exact hkl), h45⟩, by first | (dsimp only; omega) | omega⟩)⟩
 ·exact ⟨false, rfl, aj (fun _ => ⟨rfl, .inr h45⟩) (fun h => by cases h)⟩
def Ep (b : List UInt8) (j : Nat) : List UInt8 := ga b 64 j ++ List.replicate (64 - (ga b 64 j).length) 0
theorem uU (b : List UInt8) (j : Nat) : (ga b 64 j).length = min 64 (b.length - j * 64) := by simp [ga]
theorem B2 (b : List UInt8) (j : Nat) : (Ep b j).length = 64 := by
 unfold Ep
 rw [List.length_append, List.length_replicate, uU]; omega
def sM (b : List UInt8) (j : Nat) : List UInt8 := if j < bT b.length then Ep b j else kV
theorem yh (b : List UInt8) (j : Nat) : (sM b j).length = 64 := by
 unfold sM; split
 ·exact B2 b j
 ·rfl
theorem FD {T : Nat -> List UInt8} {b : List UInt8} {at_ : Nat} (h : ∀ j, j < bT b.length -> T (at_ + j) = Ep b j) : (uP T at_ (bT b.length)).take b.length = b := by
 have key : ∀ n, n <= bT b.length -> (uP T at_ n).take b.length = b.take (n * 64) /\ (uP T at_ n).length = n * 64 := by
  intro n
  induction n with
  | zero => intro _; simp [uP]
  | succ n ih =>
   intro hn
   obtain ⟨h1, h2⟩ := ih (by omega)
   have hb : n * 64 < b.length := by unfold bT at hn; omega
   rw [om, h n (by omega)]
   refine ⟨?_, by rw [List.length_append, h2, B2]; omega⟩
   rw [List.take_append, h1, h2, show (n + 1) * 64 = n * 64 + 64 by omega, List.take_add]
   congr 1
   unfold Ep
   have hcl := uU b n
   rw [List.take_append]
   have e1 : (ga b 64 n).take (b.length - n * 64) = ga b 64 n := List.take_of_length_le (by omega)
   rw [e1]
   by_cases h3 : b.length - n * 64 <= 64
   ·rw [show b.length - n * 64 - (ga b 64 n).length = 0 by omega, List.take_zero, List.append_nil]
    rfl
   ·rw [show 64 - (ga b 64 n).length = 0 by omega]
    simp [ga]
 have := (key (bT b.length) (Nat.le_refl _)).1
 rw [this, List.take_of_length_le (by unfold bT; omega)]
section
variable {k : Nat} {L M : List aJ} {g : aJ} {img : List UInt8}
theorem GW {aI : List Wr} (hk : 64 * k <= img.length / 64) (h : cI (aW img) k L) (hg : g ∈ L) {f : Nat -> List UInt8} (hfl : ∀ j, (f j).length = 64) {c : Nat} (hc : g.fin + 1 + c <= 64) (hpe : aI = wrL (64 * g.place + g.fin + 1) f c) (kept torn cut : Int) :
  cI (aW (crashL kept torn cut 0 aI img)) k L := by
 subst hpe
 have hpl := h.pl g hg
 have q2 : ∀ x ∈ wrL (64 * g.place + g.fin + 1) f c, 0 <= x.1 /\ x.1 < ((img.length / 64 : Nat) : Int) /\ x.2.length = 64 := by
  intro x hx
  obtain ⟨m, hm, rfl⟩ := qV hx
  exact ⟨by simp only; omega, by simp only; omega, hfl m⟩
 have q3 : ∀ x ∈ wrL (64 * g.place + g.fin + 1) f c, ∀ c', c' <= 64 -> ∀ s : List UInt8, s.length = 64 -> (¬ (64 * g.place + g.fin < x.1.toNat /\ x.1.toNat < 64 * g.place + 64) -> s = aW img x.1.toNat) ->
   (¬ (64 * g.place + g.fin < x.1.toNat /\ x.1.toNat < 64 * g.place + 64) -> x.2.take c' ++ s.drop c' = aW img x.1.toNat) := by
  intro x hx c' hc' s hs hq hno
  obtain ⟨m, hm, rfl⟩ := qV hx
  exfalso
  apply hno
  simp only [Int.toNat_natCast]; omega
 obtain ⟨_, gg⟩ := uN (Q := fun i s => ¬ (64 * g.place + g.fin < i /\ i < 64 * g.place + 64) -> s = aW img i) (n := img.length / 64) kept torn cut _ 0 img rfl (fun i _ _ => rfl) q2 q3
 refine h.tail hg (fun i hi hno => gg i (by omega) (by omega)) (fun hf => ?_)
 rw [gg _ (by omega) (by omega)]
 exact mN (h.on g hg).2 hf
theorem Er {f : Nat -> List UInt8} (hfl : ∀ j, (f j).length = 64) {base c : Nat} (hb : base + c <= img.length / 64) :
  (applyL (wrL base f c) img).length / 64 = img.length / 64 /\ ∀ i, i < img.length / 64 -> aW (applyL (wrL base f c) img) i = if base <= i /\ i < base + c then f (i - base) else aW img i := by
 obtain ⟨g1, g2⟩ := uO (n := img.length / 64) (wrL base f c) img rfl (fun x hx => by
  obtain ⟨m, hm, rfl⟩ := qV hx
  exact ⟨by simp only; omega, by simp only; omega, hfl m⟩)
 refine ⟨g1, fun i hi => ?_⟩
 rw [g2 i hi, yg]
 split <;> rfl
def l8 (e n : Nat) : Nat := if e + 1 + bT n < 64 then bT n + 1 else bT n
theorem DK {S : Nat -> List UInt8} {b : List UInt8} (h : cI (aW img) k (M ++ [g])) (hb0 : 0 < b.length) (hfit : g.fin + de b.length <= 64)
  (hS : ∀ i, i < 64 * k -> S i = if i = 64 * g.place + g.fin then fv b.length 1 else if 64 * g.place + g.fin + 1 <= i /\ i < 64 * g.place + g.fin + 1 + l8 g.fin b.length then sM b (i - (64 * g.place + g.fin + 1)) else aW img i) :
  cI S k (M ++ [{ g with bP := g.bP ++ [b] }]) := by
 have hg : g ∈ M ++ [g] := by simp
 have hpl := h.pl g hg
 have hn : de b.length = 1 + bT b.length := rfl
 have hcn : g.fin + 1 + l8 g.fin b.length <= 64 := by unfold l8; split <;> omega
 refine h.add (fun i hi hno => ?_) ⟨hfit, hb0, ?_, ?_, fun hlt => ?_⟩
 ·rw [hS i hi, if_neg (by omega), if_neg (by omega)]
 ·show S (64 * g.place + g.fin) = _
  rw [hS _ (by omega), if_pos rfl]
 ·refine FD (fun j hj => ?_)
  have hcs : bT b.length <= l8 g.fin b.length := by unfold l8; split <;> omega
  show S (64 * g.place + (g.fin + 1 + j)) = _
  rw [hS _ (by omega), if_neg (by omega), if_pos (by omega)]
  unfold sM
  rw [show 64 * g.place + (g.fin + 1 + j) - (64 * g.place + g.fin + 1) = j by omega, if_pos hj]
 ·have hcs : l8 g.fin b.length = bT b.length + 1 := by unfold l8; rw [if_pos (by omega)]
  show mkS (S (64 * g.place + (g.fin + de b.length))) ≠ 1
  rw [hS _ (by omega), if_neg (by omega), if_pos (by omega)]
  unfold sM
  rw [if_neg (by omega), qF]; decide
theorem GX {S : Nat -> List UInt8} {b : List UInt8} (h : cI (aW img) k (M ++ [g])) (hfit : g.fin + de b.length <= 64)
  (hS : ∀ i, i < 64 * k -> i ≠ 64 * g.place + g.fin -> S i = if 64 * g.place + g.fin + 1 <= i /\ i < 64 * g.place + g.fin + 1 + l8 g.fin b.length then sM b (i - (64 * g.place + g.fin + 1)) else aW img i) (hm : mkS (S (64 * g.place + g.fin)) ≠ 1) :
  cI S k (M ++ [g]) := by
 have hg : g ∈ M ++ [g] := by simp
 have hpl := h.pl g hg
 have hn : de b.length = 1 + bT b.length := rfl
 have hcn : g.fin + 1 + l8 g.fin b.length <= 64 := by unfold l8; split <;> omega
 refine h.tail hg (fun i hi hno => ?_) (fun _ => hm)
 rw [hS i hi (by omega), if_neg (by omega)]
end
def jn (L : List aJ) (n : Nat) : Bool := match L.getLast? with | none => false | some g => decide (g.fin + de n <= 64)
def jB (k : Nat) (L : List aJ) (n : Nat) : Option (List aJ) := if jn L n then some L else (gz k L).map fun p => pO p L
def addRec : List aJ -> List UInt8 -> List aJ
 | [], _ => []
 | [g], b => [{ g with bP := g.bP ++ [b] }]
 | g :: h :: L, b => g :: addRec (h :: L) b
theorem j7 (M : List aJ) (g : aJ) (b : List UInt8) : addRec (M ++ [g]) b = M ++ [{ g with bP := g.bP ++ [b] }] := by
 induction M with
 | nil => rfl
 | cons a M ih =>
  cases M with
  | nil => rfl
  | cons c M => simp only [List.cons_append, addRec] at ih ⊢; rw [ih]
def j8 (k : Nat) (L : List aJ) (b : List UInt8) : Option Nat × Int × List aJ :=
 if b.length = 0 \/ 3968 < b.length then (some 3, 0, L)
 else match jB k L b.length with
  | none => (some 12, 0, L)
  | some L0 => (none, lastN L0, addRec L0 b)
theorem l9 (M : List aJ) (g : aJ) : lastN (M ++ [g]) = g.num := by unfold lastN; simp
theorem yi (M : List aJ) (g : aJ) (n : Nat) : jn (M ++ [g]) n = decide (g.fin + de n <= 64) := by unfold jn; simp
theorem ug {w : World} {r5 r7 : Nat} {v5 v7 : Value} (h5 : aq w r5 [v5]) (h7 : aq w r7 [v7]) (hne : r5 ≠ r7) (A : Nat -> Addr) (e' : Option Nat) {X : World -> Prop}
  (hX : ∀ w4, aq w4 r5 [.int .i64 0] -> aq w4 r7 [cm A e'] -> Ext (fun k => k = r5 \/ k = r7) w w4 -> X w4) :
  aw w (⟨r5, 0, none⟩ : Addr) 1 /\ ∀ w40 : World, w40 = w.setCell (⟨r5, 0, none⟩ : Addr) (.int .i64 0) -> oneK (cm A e') (oneK (cm A e') (aw w40 (⟨r7, 0, none⟩ : Addr) 1 /\ ∀ w41 : World, w41 = w40.setCell (⟨r7, 0, none⟩ : Addr) (cm A e') -> X w41)) := by
 obtain ⟨c1, c2⟩ := h5.bf 0 (by simp) (.int .i64 0)
 refine ⟨c1, fun w40 hw => tP A _ _ (tP A _ _ ?_)⟩
 obtain ⟨g1, g2, g3⟩ := c2 w40 hw
 obtain ⟨c3, c4⟩ := (h7.ext g2 (fun hh => hne hh.symm)).bf 0 (by simp) (cm A e')
 refine ⟨c3, fun w41 hw2 => ?_⟩
 obtain ⟨g4, g5, g6⟩ := c4 w41 hw2
 exact hX w41 (g1.ext g5 (fun hh => hne hh)) g4 ((g2.mono (fun k hk => .inl hk)).trans g5 (fun _ h => h) (fun k hk => .inl (.inr hk)))
end Go.D
namespace Go.D
open Go Go.Proofs
def qX (A : Nat -> Addr) (w : World) (n0 r rd : Nat) (u : StP) (q : cU) (d : aK) (L : List aJ) (m : Nat) (b : List UInt8) (n : Int) (e' : Option Nat) (w' : World) : Prop :=
  ∃ (q' : cU) (d' : aK), aP w' rd q' d' /\ d'.n = d.n /\ d'.stops = d.stops /\
    ((j8 (d.n / 64) L b).1 ≠ none /\ e' = (j8 (d.n / 64) L b).1 /\ n = 0 /\ q' = q /\ d' = d /\ ah w w' \/
     (j8 (d.n / 64) L b).1 = none /\ e' = none /\ n = (j8 (d.n / 64) L b).2.1 /\ (∃ u', Sys w' n0 r rd u' q' d' (j8 (d.n / 64) L b).2.2 (m + 1) /\ bJ (cJ r u rd q) (cJ r u' rd q') w w') \/
     (j8 (d.n / 64) L b).1 = none /\ e' = some 11 /\ d.stops = true /\ ud d' (d.n / 64) [L, (jB (d.n / 64) L b.length).getD L, (j8 (d.n / 64) L b).2.2] /\ bJ (cJ r u rd q) (bp rd q') w w')
def FE (w8 : World) (n0 r rd : Nat) (u : StP) (q : cU) (d : aK) (L : List aJ) (m : Nat) (b : List UInt8) (w2 : World) : Prop :=
 ∃ (M : List aJ) (g : aJ) (u2 : StP) (q2 : cU) (d2 : aK), jB (d.n / 64) L b.length = some (M ++ [g]) /\ g.fin + de b.length <= 64 /\ Sys w2 n0 r rd u2 q2 d2 (M ++ [g]) (m + 1) /\ bJ (cJ r u rd q) (cJ r u2 rd q2) w8 w2 /\ d2.n = d.n /\ d2.stops = d.stops
theorem B3 {A : Nat -> Addr} {w w8 w2 : World} {n0 r rd m r5 r7 : Nat} {u : StP} {q : cU} {d : aK} {L : List aJ} {b : List UInt8} {K : Value -> World -> Prop} (h : Sys w n0 r rd u q d L m) (hE : bK yf A n0 w) (hm : m <= 2 ^ 60)
  (hK : ∀ n e' w', qX A w n0 r rd u q d L m b n e' w' -> K (.tuple ⟨[.int .i64 n, cm A e']⟩) w') (hb0 : 0 < b.length) (hb1 : b.length <= 3968) (k8 : ah w w8) (o5 : aq w8 r5 [.int .i64 0]) (o7 : aq w8 r7 [.nilIface]) (h57 : r5 ≠ r7) (h5 : w.heap.size <= r5) (h7 : w.heap.size <= r7)
  (k2 : ah w8 w2) (hnf : jn L b.length = false) :
  Calls Tryz.prog dT ⟨[av r]⟩ w2 fun e37 w38 => ∃ e39 : Value, e37 = .returned e39 /\ isI e39 /\
   BIf (!isNilI e39) (aw w38 (⟨r5, 0, none⟩ : Addr) 1 /\ ∀ w40 : World, w40 = World.setCell w38 (⟨r5, 0, none⟩ : Addr) (Value.int .i64 (0 : Int)) ->
    oneK e39 (oneK e39 (aw w40 (⟨r7, 0, none⟩ : Addr) 1 /\ ∀ w41 : World, w41 = World.setCell w40 (⟨r7, 0, none⟩ : Addr) e39 ->
     ∃ n42 : Int, World.cell? w41 (⟨r5, 0, none⟩ : Addr) = some (Value.int .i64 n42) /\ ∃ v43 : Value, World.cell? w41 (⟨r7, 0, none⟩ : Addr) = some v43 /\ K (Value.tuple ⟨[(Value.int .i64 n42), v43]⟩) w41)))
   (FE w8 n0 r rd u q d L m b w38) := by
 have k2' := k8.trans k2
 have z2 := k2'.size
 have z8 := k8.size
 have hbase : jB (d.n / 64) L b.length = (gz (d.n / 64) L).map fun p => pO p L := by unfold jB; rw [hnf]; rfl
 have happ : j8 (d.n / 64) L b = match jB (d.n / 64) L b.length with | none => (some 12, 0, L) | some L0 => (none, lastN L0, addRec L0 b) := by unfold j8; rw [if_neg (by omega)]; try rfl
 have h5l := o5.lt
 have h7l := o7.lt
 refine (C5 A (h.ae k2') (hE.ae k2') hm).mono ?_
 rintro e w38 ⟨e', q', d', rfl, hD', hn', hst', hcase⟩
 refine ⟨_, rfl, aF A _, aj (fun h0 => ?_) (fun h0 => ?_)⟩
 ·rcases hcase with ⟨rfl, hf, rfl, rfl, k38⟩ | ⟨rfl, _⟩ | ⟨rfl, hs, p, hf, hcr, ft⟩
  ·have e1 : j8 (d'.n / 64) L b = (some 12, 0, L) := by rw [happ, hbase, hf]; rfl
   refine ug ((o5.ae k2).ae k38) ((o7.ae k2).ae k38) h57 A _ (fun w4 g5 g7 x4 => ⟨(0 : Int), g5.cell 0 (by simp), cm A (some 12), g7.cell 0 (by simp), hK 0 (some 12) w4 ?_⟩)
   refine ⟨q', d', hD'.ext x4 (fun k hk hh => ?_), rfl, rfl, .inl ⟨by rw [e1]; simp, by rw [e1], rfl, rfl, rfl, (k2'.trans k38).ext x4 (fun k hk => by omega)⟩⟩
   have := h.B.D.lt k hk
   omega
  ·cases h0
  ·have e1 : j8 (d.n / 64) L b = (none, lastN (pO p L), addRec (pO p L) b) := by rw [happ, hbase, hf]; rfl
   have e2 : jB (d.n / 64) L b.length = some (pO p L) := by rw [hbase, hf]; rfl
   have hsb : ∀ k, cJ r u rd q k -> k < w.heap.size := h.B.lt
   have ne5 : ¬ cJ r u rd q r5 := fun hh => by have := hsb _ hh; omega
   have ne7 : ¬ cJ r u rd q r7 := fun hh => by have := hsb _ hh; omega
   have zz := ft.1.size
   refine ug ((o5.ae k2).ext ft.1 ne5) ((o7.ae k2).ext ft.1 ne7) h57 A _ (fun w4 g5 g7 x4 => ⟨(0 : Int), g5.cell 0 (by simp), cm A (some 11), g7.cell 0 (by simp), hK 0 (some 11) w4 ?_⟩)
   have k28 := k2.size
   refine ⟨q', d', hD'.ext x4 (fun k hk hh => ?_), hn', hst', .inr (.inr ⟨by rw [e1], rfl, hs, ?_, ?_, ?_⟩)⟩
   ·rcases ft.2 k hk with h2 | h2
    ·have := hsb k h2; omega
    ·omega
   ·rw [e1, e2]
    exact hcr.mono (fun L' hL' => by simp at hL' ⊢; rcases hL' with rfl | rfl <;> simp)
   ·exact ((k2'.kh ft).1.trans x4 (fun _ h => h) (fun k hk => .inr (by omega)))
   ·exact fun k hk => (k2'.kh ft).2 k hk
 ·rcases hcase with ⟨rfl, _⟩ | ⟨rfl, p, u', hf, hS', ft⟩ | ⟨rfl, _⟩
  ·cases h0
  ·refine ⟨L, ⟨p, cd L, []⟩, u', q', d', by rw [hbase, hf]; rfl, ?_, hS', ?_, hn', hst'⟩
   ·unfold aJ.fin de bT sumN; omega
   ·exact k2.kh ft
  ·cases h0
end Go.D

