/-
  WHAT IS PROVED: contracts of functions, and the plain law, for this proof. No further conditions.
-/
import Derived.Test.YtnbddjghhmbmcaaGreatDoorAll3
import Derived.Test.YtnbddjghhmbmcaaGreatDoorIsNil
import Derived.Test.YtnbddjghhmbmcaaGreatDoorAll2
import Derived.Test.YtnbddjghhmbmcaaGreatDoorVCchain
import Derived.Test.YtnbddjghhmbmcaaGreatDoorVCsort
import Derived.Test.YtnbddjghhmbmcaaGreatDoorAll1
import Derived.Test.YtnbddjghhmbmcaaGreatDoorFlat
import Derived.Test.YtnbddjghhmbmcaaGreatDoorVCplan
import Derived.Test.YtnbddjghhmbmcaaGreatDoorVCpage
set_option linter.unusedVariables false
set_option linter.unusedSimpArgs false
set_option maxRecDepth 4000
namespace Go.D
open Go Go.Proofs
structure RuS (w : World) (r k : Nat) (f : RuF) (P : List RuE) (top : Int) (s : UnS) : Prop where
 A : vJ w r k f P s.tr s.ep top
 z : gL f.zs = sU s.U
 K : zM P top s
theorem RuS.ae {w w' : World} {r k : Nat} {f : RuF} {P : List RuE} {top : Int} {s : UnS} (h : RuS w r k f P top s) (he : aj w w') : RuS w' r k f P top s := ⟨h.A.ae he, h.z, h.K⟩
section
variable {w w' : World} {r k m : Nat} {f : RuF} {P : List RuE} {top : Int} {s : UnS}
end
end Go.D
namespace Go.D
open Go Go.Proofs
theorem uT {ep epoch a most : Int} : ∀ j, cL ep epoch a most = some j -> j < 19 := by
 intro j hj
 unfold cL at hj
 split at hj
 ·cases hj; omega
 ·split at hj
  ·cases hj; omega
  ·cases hj
theorem uU {k : Nat} {s : UnS} {epoch a : Int} {t : List UInt8} : ∀ j, (writeP k s epoch a t).1 = some j -> j < 19 := by
 intro j hj
 unfold writeP at hj
 split at hj
 ·rename_i c hc; cases hj; exact uT _ hc
 ·split at hj
  ·cases hj; omega
  ·split at hj
   ·cases hj; omega
   ·split at hj
    ·cases hj; omega
    ·split at hj
     ·cases hj; omega
     ·cases hj
theorem xG {tr ep : Int} {pg : Int -> Option (List UInt8)} {epoch a : Int} : ∀ j, readE tr ep pg epoch a = some j -> j < 19 := by
 intro j hj
 unfold readE at hj
 split at hj
 ·rename_i c hc; cases hj; exact uT _ hc
 ·split at hj
  ·cases hj; omega
  ·split at hj
   ·cases hj
   ·cases hj; omega
theorem yV.live {w w' : World} {n0 r rd m : Nat} {f : UnF} {d : aF} {s : UnS} {p : Option Nat × UnS} {e' : Option Nat} (h : yV w n0 r rd f d s m p e' w') (hst : d.stops = false) :
  e' = p.1 /\ ∃ f' d', UAt w' n0 r rd f' d' p.2 (m + 1) /\ d'.n = d.n /\ d'.stops = false /\ gl r rd f f' w w' := by
 rcases h with ⟨h1, f', d', h2, h3, h4, h5⟩ | ⟨_, h2, _⟩
 ·exact ⟨h1, f', d', h2, h3, by rw [h4]; exact hst, h5⟩
 ·rw [hst] at h2; cases h2
theorem xH (A : Nat -> Addr) (n : Nat) (hn : 1 <= n /\ n < 20) (w0 w : World) (hE : b7 A w0) (hk : aj w0 w) :
  Calls Tryz.prog jd ⟨[.int .i64 ((64 * n : Nat) : Int)]⟩ w fun e w' => ∃ rd q d, e = .returned (.tuple ⟨[aw rd, .nilIface]⟩) /\ aj w w' /\ d.n / 64 = n /\ d.stops = false /\
   ∀ w2, aj w' w2 -> Calls Tryz.prog ij ⟨[aw rd]⟩ w2 fun e w3 => ∃ r f, e = .returned (.tuple ⟨[aw r, .nilIface]⟩) /\ UAt w3 w0.heap.size r rd f d ⟨[], 0, 0, 0⟩ 0 /\ f.q = q /\ aj w2 w3 /\ (∀ j, UB r rd f j -> w.heap.size <= j) /\ (∀ j, UnY f.x j -> w.heap.size <= j) := by
 have hB : cE A w0.heap.size w0 := hE.b
 refine (Ar A _ w ((hB.g.ae hk).sub (fun g hg => pj g (eP g hg)))).mono ?_
 rintro e w3 ⟨k3, hc⟩
 rw [if_neg (by omega)] at hc
 obtain ⟨rd, q, rfl, hD, hDf⟩ := hc
 have hn' : (Bo (Int.toNat ((64 * n : Nat) : Int))).n = 64 * n := by rw [Dx]; omega
 refine ⟨rd, q, _, rfl, k3, by rw [hn']; omega, rfl, fun w2 k2 => ?_⟩
 have z0 := hk.size
 have z3 := k3.size
 have z2 := k2.size
 refine (yU A (hB.ae ((hk.trans k3).trans k2)) (hD.ae k2) rfl (U := []) (tr := 0) (ep := 0) (T := 0) (BG _ _) fe.nil (by omega) (by rw [hn']; omega) (m := 0) (by simp) (by omega) (fun j hj => by have := hDf j hj; omega) (by omega)).mono ?_
 rintro e w4 ⟨r, f, rfl, hU, hq, hUB, hUY, k4⟩
 exact ⟨r, f, rfl, hU, hq, k4, fun j hj => (hUB j hj).elim (hDf j) (fun g => by omega), fun j hj => by have := hUY j hj; omega⟩
end Go.D
namespace Go.D
open Go
structure ff (k m : Nat) (V : List aL) : Prop where
 so : V.Pairwise fun g h => g.num < h.num
 N : ∀ g ∈ sU V, g.num < m
 sm : ∀ g ∈ sU V, sumN g.cc <= 64
 pl : ∀ g ∈ V, g.place < k
 nd : V.Pairwise fun g h => g.place ≠ h.place
structure UPl (k m : Nat) (s : UnS) : Prop where
 o : fe s.U s.tr s.ep s.T
 g : ff k m s.U
 k : k <= 20
 t : s.T <= 4096 /\ s.ep <= 2 ^ 30
theorem ff.len {k m : Nat} {V : List aL} (h : ff k m V) : V.length <= k := by
 have := og (M := sU V) (by rw [List.pairwise_map]; exact h.nd) (fun g hg => by obtain ⟨y, hy, rfl⟩ := List.mem_map.1 hg; exact h.pl y hy)
 simpa using this
theorem UPl.up {k m m' : Nat} {s : UnS} (h : UPl k m s) (hm : m <= m') : UPl k m' s := ⟨h.o, ⟨h.g.so, fun g hg => Nat.lt_of_lt_of_le (h.g.N g hg) hm, h.g.sm, h.g.pl, h.g.nd⟩, h.k, h.t⟩
theorem UPl.nil (k : Nat) (hk : k <= 20) : UPl k 0 ⟨[], 0, 0, 0⟩ := ⟨fe.nil, ⟨.nil, by simp, by simp, by simp, .nil⟩, hk, by simp⟩
theorem ff.add {k m : Nat} {M : List aL} {g : aL} {x : Rc} (h : ff k m (M ++ [g])) (hs : sumN ((g.rs ++ [x]).map encR) <= 64) : ff k m (M ++ [{ g with rs := g.rs ++ [x] }]) := by
 refine ⟨?_, fun y hy => ?_, fun y hy => ?_, fun y hy => ?_, ?_⟩
 ·exact List.pairwise_append.2 ⟨(List.pairwise_append.1 h.so).1, List.pairwise_singleton _ _, fun a ha b hb => by rw [List.mem_singleton] at hb; subst hb; exact (List.pairwise_append.1 h.so).2.2 a ha g (by simp)⟩
 ·obtain ⟨z, hz, rfl⟩ := List.mem_map.1 hy
  rcases List.mem_append.1 hz with hz | hz
  ·exact h.N _ (List.mem_map.2 ⟨z, by simp [hz], rfl⟩)
  ·rw [List.mem_singleton] at hz; subst hz
   exact h.N g.s (List.mem_map.2 ⟨g, by simp, rfl⟩)
 ·obtain ⟨z, hz, rfl⟩ := List.mem_map.1 hy
  rcases List.mem_append.1 hz with hz | hz
  ·exact h.sm _ (List.mem_map.2 ⟨z, by simp [hz], rfl⟩)
  ·rw [List.mem_singleton] at hz; subst hz
   exact hs
 ·rcases List.mem_append.1 hy with hz | hz
  ·exact h.pl y (by simp [hz])
  ·rw [List.mem_singleton] at hz; subst hz
   exact h.pl g (by simp)
 ·exact List.pairwise_append.2 ⟨(List.pairwise_append.1 h.nd).1, List.pairwise_singleton _ _, fun a ha b hb => by rw [List.mem_singleton] at hb; subst hb; exact (List.pairwise_append.1 h.nd).2.2 a ha g (by simp)⟩
theorem ff.push {k m p : Nat} {U : List aL} {x : Rc} (h : ff k m U) (hp : p < k /\ ∀ g ∈ sU U, g.place ≠ p) (hs : cS (encR x).length <= 64) : ff k (m + 1) (U ++ [⟨p, fQ (sU U), [x]⟩]) := by
 have hnx := pq h.N
 refine ⟨?_, fun y hy => ?_, fun y hy => ?_, fun y hy => ?_, ?_⟩
 ·exact List.pairwise_append.2 ⟨h.so, List.pairwise_singleton _ _, fun a ha b hb => by
   rw [List.mem_singleton] at hb; subst hb
   exact mh (L := sU U) (by rw [List.pairwise_map]; exact h.so) a.s (List.mem_map.2 ⟨a, ha, rfl⟩)⟩
 ·obtain ⟨z, hz, rfl⟩ := List.mem_map.1 hy
  rcases List.mem_append.1 hz with hz | hz
  ·have := h.N _ (List.mem_map.2 ⟨z, hz, rfl⟩); omega
  ·rw [List.mem_singleton] at hz; subst hz
   show fQ (sU U) < m + 1; omega
 ·obtain ⟨z, hz, rfl⟩ := List.mem_map.1 hy
  rcases List.mem_append.1 hz with hz | hz
  ·exact h.sm _ (List.mem_map.2 ⟨z, hz, rfl⟩)
  ·rw [List.mem_singleton] at hz; subst hz
   show cS (encR x).length + 0 <= 64; omega
 ·rcases List.mem_append.1 hy with hz | hz
  ·exact h.pl y hz
  ·rw [List.mem_singleton] at hz; subst hz
   exact hp.1
 ·exact List.pairwise_append.2 ⟨h.nd, List.pairwise_singleton _ _, fun a ha b hb => by
   rw [List.mem_singleton] at hb; subst hb
   exact hp.2 a.s (List.mem_map.2 ⟨a, ha, rfl⟩)⟩
theorem ff.app {k m n : Nat} {U V : List aL} {x : Rc} (h : ff k m U) (hx : okR x) (ha : appU k U x = some (n, V)) : ff k (m + 1) V := by
 have hl := pt hx
 unfold appU at ha
 by_cases hf : gr (sU U) (encR x).length = true
 ·have hne := pF hf
  rw [if_pos hf, dif_pos hne] at ha
  cases ha
  have e : U.dropLast ++ [U.getLast hne] = U := List.dropLast_concat_getLast hne
  have h2 : ff k m (U.dropLast ++ [U.getLast hne]) := by rw [e]; exact h
  have hs : sumN (((U.getLast hne).rs ++ [x]).map encR) <= 64 := by
   have e2 : sU U = sU U.dropLast ++ [(U.getLast hne).s] := by
    have e1 : sU (U.dropLast ++ [U.getLast hne]) = sU U.dropLast ++ [(U.getLast hne).s] := List.map_append
    rw [e] at e1; exact e1
   rw [e2] at hf
   unfold gr at hf
   rw [List.getLast?_concat] at hf
   have h3 : (U.getLast hne).s.fin + cS (encR x).length <= 64 := by simpa using hf
   rw [List.map_append, List.map_singleton, ix]
   unfold aE.fin at h3
   have h4 : (U.getLast hne).s.cc = (U.getLast hne).rs.map encR := rfl
   rw [h4] at h3; omega
  have h5 := h2.add hs
  exact ⟨h5.so, fun g hg => Nat.lt_succ_of_lt (h5.N g hg), h5.sm, h5.pl, h5.nd⟩
 ·rw [if_neg hf] at ha
  cases hp : eC k (sU U) with
  | none => rw [hp] at ha; cases ha
  | some p =>
   rw [hp] at ha
   cases ha
   exact h.push (wX hp) (by unfold cS bu; omega)
theorem ff.sub {k m : Nat} {U V : List aL} (h : ff k m U) (hs : V.Sublist U) : ff k m V :=
 ⟨h.so.sublist hs, fun g hg => h.N g ((hs.map _).subset hg), fun g hg => h.sm g ((hs.map _).subset hg), fun g hg => h.pl g (hs.subset hg), h.nd.sublist hs⟩
section
variable {k m : Nat} {s : UnS}
theorem AF {ep epoch a most : Int} (h : cL ep epoch a most = none) : (ep <= epoch /\ epoch <= 1073741824) /\ 0 <= a /\ a <= most := by
 unfold cL at h
 split at h
 ·cases h
 ·split at h
  ·cases h
  ·omega
theorem AG (h : UPl k m s) (e a : Int) (t : List UInt8) : UPl k (m + 1) (writeP k s e a t).2 := by
 have h0 : UPl k (m + 1) s := h.up (by omega)
 unfold writeP
 split
 ·exact h0
 rename_i hc
 have hab := (AF hc).2
 split
 ·exact h0
 rename_i h1
 split
 ·exact h0
 rename_i h2
 split
 ·exact h0
 rename_i h3
 split
 ·exact h0
 rename_i n V ha
 have hok : okR (.cm a.toNat t) := ⟨by omega, by omega, by omega⟩
 have ht := h.t
 refine ⟨uS h.o hok ha (fun a' t' he y hy => ?_), h.g.app hok ha, h.k, ?_⟩
 ·cases he
  refine pH (tr := s.tr) (by omega) ?_ y hy
  rw [show ((a.toNat : Nat) : Int) = a by omega]
  simpa using h3
 ·show max s.T (a.toNat + 1) <= 4096 /\ _
  exact ⟨by omega, ht.2⟩
end
def aV {α : Type} (f : Nat -> α) (i : Nat) (x : α) : Nat -> α := fun j => if j = i then x else f j
theorem aA {α : Type} (f : Nat -> α) (i : Nat) (x : α) : aV f i x i = x := if_pos rfl
theorem aI {α : Type} {f : Nat -> α} {i j : Nat} {x : α} (h : j ≠ i) : aV f i x j = f j := if_neg h
def upB (N : Nat) (up : Nat -> Bool) (n : Int) : Bool := decide (0 <= n /\ n < (N : Int)) && up n.toNat
theorem mK {N : Nat} {up : Nat -> Bool} {n : Int} : upB N up n = true ↔ (0 <= n /\ n < (N : Int)) /\ up n.toNat = true := by simp [upB]
abbrev rdE (s : UnS) (e a : Int) : Option Nat := readE s.tr s.ep (pgM s.U s.tr) e a
abbrev pgD (s : UnS) (a : Int) : List UInt8 := (pgM s.U s.tr a).getD []
def putP (N : Nat) (up : Nat -> Bool) (first : Bool) (e a : Int) (t : List UInt8) (n : Int) (S : Nat -> UnS) : Option Nat × (Nat -> UnS) :=
 if upB N up n then
  (if first = true \/ (writeP 2 (S n.toNat) e a t).1 ≠ some 8 then (writeP 2 (S n.toNat) e a t).1 else
   match rdE (writeP 2 (S n.toNat) e a t).2 e a with
   | some c => some c
   | none => if pgD (writeP 2 (S n.toNat) e a t).2 a = t then none else some 16, aV S n.toNat (writeP 2 (S n.toNat) e a t).2)
 else (some 11, S)
def othP (N : Nat) (up : Nat -> Bool) (e a : Int) (t : List UInt8) : List Int -> (Nat -> UnS) -> Option Nat × (Nat -> UnS)
 | [], S => (none, S)
 | n :: l, S => if (putP N up false e a t n S).1 = none then othP N up e a t l (putP N up false e a t n S).2 else putP N up false e a t n S
abbrev yY := Option Nat × List UInt8 × (Nat -> UnS)
def vK (N : Nat) (up : Nat -> Bool) (e a : Int) (b : List UInt8) (l : List Int) (S : Nat -> UnS) : yY :=
 if (othP N up e a b l S).1 = none then (none, b, (othP N up e a b l S).2) else ((othP N up e a b l S).1, [], (othP N up e a b l S).2)
def B3 (N : Nat) (up : Nat -> Bool) (e a : Int) (c : List Int) (S : Nat -> UnS) : yY :=
 if upB N up (c.getD (c.length - 1) 0) then
  (if rdE (S (c.getD (c.length - 1) 0).toNat) e a = none then (none, pgD (S (c.getD (c.length - 1) 0).toNat) a, S)
  else if rdE (S (c.getD (c.length - 1) 0).toNat) e a ≠ some 9 \/ c.length = 1 then (rdE (S (c.getD (c.length - 1) 0).toNat) e a, [], S)
  else if upB N up (c.getD 0 0) then
   (if rdE (S (c.getD 0 0).toNat) e a = none then vK N up e a (pgD (S (c.getD 0 0).toNat) a) c.tail S else (rdE (S (c.getD 0 0).toNat) e a, [], S))
  else (some 11, [], S))
 else (some 11, [], S)
def uV (N : Nat) (up : Nat -> Bool) (e a : Int) (c : List Int) (q : Option Nat × (Nat -> UnS)) : yY :=
 if q.1 = none then vK N up e a [0] c.tail q.2
 else if q.1 = some 8 then (if rdE (q.2 (c.getD 0 0).toNat) e a = none then vK N up e a (pgD (q.2 (c.getD 0 0).toNat) a) c.tail q.2 else (rdE (q.2 (c.getD 0 0).toNat) e a, [], q.2))
 else (q.1, [], q.2)
def B4 (N : Nat) (up : Nat -> Bool) (e a : Int) (c : List Int) (S : Nat -> UnS) : yY := uV N up e a c (putP N up true e a [0] (c.getD 0 0) S)
def CY (N : Nat) (up : Nat -> Bool) (e a : Int) (t : List UInt8) (c : List Int) (S : Nat -> UnS) : Option Nat × (Nat -> UnS) :=
 if (putP N up true e a t (c.getD 0 0) S).1 = none then othP N up e a t c.tail (putP N up true e a t (c.getD 0 0) S).2 else putP N up true e a t (c.getD 0 0) S
def ot (N : Nat) (up : Nat -> Bool) (e own : Int) : List Int -> (Nat -> UnS) -> Option Nat × (Nat -> UnS)
 | [], S => (none, S)
 | n :: l, S => if upB N up n then (if (gu 2 (S n.toNat) e own).1 = none then ot N up e own l (aV S n.toNat (gu 2 (S n.toNat) e own).2) else ((gu 2 (S n.toNat) e own).1, aV S n.toNat (gu 2 (S n.toNat) e own).2)) else (some 11, S)
def mr (n c : Nat) (to : Int) : Int := max 0 ((to - c + n - 1) / n)
def vL (N : Nat) (up : Nat -> Bool) (e to : Int) (n : Nat) : Nat -> List (List Int) -> (Nat -> UnS) -> Option Nat × (Nat -> UnS)
 | _, [], S => (none, S)
 | c, l :: r, S => if (ot N up e (mr n c to) l S).1 = none then vL N up e to n (c + 1) r (ot N up e (mr n c to) l S).2 else ot N up e (mr n c to) l S
section
variable {N m : Nat} {up : Nat -> Bool} {S : Nat -> UnS}
theorem yZ (hS : True) (first : Bool) (e a : Int) (t : List UInt8) (n : Int) : ∀ j, (putP N up first e a t n S).1 = some j -> j < 19 := by
 intro j hj
 unfold putP at hj
 split at hj
 ·dsimp only at hj
  split at hj
  ·exact uU j hj
  ·split at hj
   ·rename_i c hc; cases hj; exact xG _ hc
   ·split at hj
    ·cases hj
    ·cases hj; omega
 ·cases hj; omega
end
end Go.D
namespace Go.D
open Go Go.Proofs
theorem qg (A : Nat -> Addr) (e' : Option Nat) (h : ∀ j, e' = some j -> j < 19) (k : Nat) (hk : k < 19) (w : World) (hE : b7 A w) :
  Calls Tryz.prog eW ⟨[errO A e', iV A (eM.getD k 0)]⟩ w fun e w' => e = .returned (.bool (decide (e' = some k))) /\ w' = w := by
 cases e' with
 | none => exact Dv _ _
 | some j =>
  refine (b7.is hE (h j rfl) hk).mono ?_
  rintro e w' ⟨rfl, rfl⟩
  refine ⟨?_, rfl⟩
  by_cases hj : j = k
  ·subst hj; rw [decide_eq_true rfl, decide_eq_true rfl]
  ·rw [decide_eq_false hj, decide_eq_false (fun hh => hj (Option.some.inj hh))]
end Go.D
namespace Go.D
open Go Go.Proofs
theorem um (s t : Slc) (a b : List UInt8) (w : World) (ha : aq w s a) (hb : aq w t b) (hl : a.length <= 2 ^ 40) :
  Calls Tryz.prog eH ⟨[s.v, t.v]⟩ w fun e w' => e = .returned (.bool (decide (a = b))) /\ aj w w' := by
 have hsl := ha.1
 have htl := hb.1
 refine l9 _ _ ?_
 unfold jo
 refine dY (fun h => ?_) (fun h => ?_)
 ·rw [decide_eq_false (fun hh => h (by rw [hsl, htl, hh]))]
  exact ⟨rfl, Ext.refl _ _⟩
 ·have hlen : a.length = b.length := by omega
  refine ⟨fun i w2 => ∃ k : Nat, i = k /\ k <= a.length /\ aj w w2 /\ ∀ j, j < k -> a[j]? = b[j]?, fun i _ => ((a.length : Int) - i).toNat, ⟨0, rfl, by omega, Ext.refl _ _, fun j h => by omega⟩, ?_⟩
  rintro i w2 ⟨k, rfl, hk, hkp, hpre⟩
  intros
  refine af (fun h1 => ?_) (fun h1 => ?_)
  ·have hka : k < a.length := by omega
   have hkb : k < b.length := by omega
   obtain ⟨p, hp, hcp⟩ := dO (aH ha hkp.drew) hka
   obtain ⟨q, hq, hcq⟩ := dO (aH hb hkp.drew) hkb
   refine aa hp ⟨by omega, h1, _, by rw [show Int.toNat (k : Int) * 1 = k by omega]; exact hcp, aa hq ⟨by omega, by omega, _, by rw [show Int.toNat (k : Int) * 1 = k by omega]; exact hcq, ?_⟩⟩
   refine dY (fun h2 => ?_) (fun h2 => ?_)
   ·rw [decide_eq_false (fun hh => h2 (by subst hh; rfl))]
    exact ⟨rfl, hkp.drew⟩
   ·refine ⟨ar (by omega), ⟨k + 1, rfl, by omega, hkp.drew, fun j hj => ?_⟩, by dsimp only; omega⟩
    by_cases hjk : j = k
    ·subst hjk
     rw [List.getElem?_eq_getElem hka, List.getElem?_eq_getElem hkb]
     have : a[j].toNat = b[j].toNat := by omega
     rw [UInt8.toNat_inj.1 this]
    ·exact hpre j (by omega)
  ·have hke : k = a.length := by omega
   rw [decide_eq_true (List.ext_getElem? fun j => by
    by_cases hj : j < k
    ·exact hpre j hj
    ·rw [List.getElem?_eq_none (by omega), List.getElem?_eq_none (by omega)])]
   exact ⟨rfl, hkp⟩
def FB (N : Nat) (r rd : Nat -> Nat) (f : Nat -> UnF) (b : Nat) : Prop := ∃ i, i < N /\ UB (r i) (rd i) (f i) b
def FY (N : Nat) (f : Nat -> UnF) (b : Nat) : Prop := ∃ i, i < N /\ UnY (f i).x b
structure jS (A : Nat -> Addr) (w : World) (n0 N m : Nat) (r rd : Nat -> Nat) (f : Nat -> UnF) (d : Nat -> aF) (S : Nat -> UnS) : Prop where
 E : cE A n0 w
 U : ∀ i, i < N -> UAt w n0 (r i) (rd i) (f i) (d i) (S i) m
 k : ∀ i, i < N -> (d i).n / 64 = 2 /\ (d i).stops = false
 sep : ∀ i j, i < N -> j < N -> i ≠ j -> ∀ b, UB (r i) (rd i) (f i) b -> ¬ UB (r j) (rd j) (f j) b /\ ¬ UnY (f j).x b
def FTo (N : Nat) (r rd : Nat -> Nat) (f f' : Nat -> UnF) (w w' : World) : Prop :=
 Ext (FB N r rd f) w w' /\ (∀ b, FB N r rd f' b -> FB N r rd f b \/ w.heap.size <= b) /\ ∀ b, FY N f' b -> FY N f b \/ w.heap.size <= b
section
variable {A : Nat -> Addr} {w w' : World} {n0 N m m' : Nat} {r rd : Nat -> Nat} {f f' f'' : Nat -> UnF} {d d' : Nat -> aF} {S S' : Nat -> UnS} {us : Slc} {up : Nat -> Bool}
theorem FTo.refl : FTo N r rd f f w w := ⟨Ext.refl _ _, fun b h => .inl h, fun b h => .inl h⟩
theorem FTo.ae (hk : aj w w') : FTo N r rd f f w w' := ⟨hk.mono (fun _ h => h.elim), fun b h => .inl h, fun b h => .inl h⟩
theorem FTo.trans {w'' : World} (h1 : FTo N r rd f f' w w') (h2 : FTo N r rd f' f'' w' w'') : FTo N r rd f f'' w w'' := by
 have z := h1.1.size
 refine ⟨h1.1.trans h2.1 (fun _ h => h) (fun b hb => h1.2.1 b hb), fun b hb => ?_, fun b hb => ?_⟩
 ·exact (h2.2.1 b hb).elim (h1.2.1 b) (fun g => .inr (by omega))
 ·exact (h2.2.2 b hb).elim (h1.2.2 b) (fun g => .inr (by omega))
theorem jS.lt (h : jS A w n0 N m r rd f d S) : (∀ b, FB N r rd f b -> b < w.heap.size) /\ ∀ b, FY N f b -> b < w.heap.size :=
 ⟨fun b ⟨i, hi, hb⟩ => (h.U i hi).lt.1 b hb, fun b ⟨i, hi, hb⟩ => (h.U i hi).lt.2 b hb⟩
theorem jS.ge (h : jS A w n0 N m r rd f d S) : ∀ b, FB N r rd f b -> n0 <= b := fun b ⟨i, hi, hb⟩ => (h.U i hi).ge b hb
theorem jS.ext {M : Nat -> Prop} (h : jS A w n0 N m r rd f d S) (he : Ext M w w') (h1 : ∀ b, FB N r rd f b -> ¬ M b) (h2 : ∀ b, FY N f b -> ¬ M b) (h3 : ∀ b, M b -> n0 <= b) : jS A w' n0 N m r rd f d S :=
 ⟨h.E.ext he h3, fun i hi => (h.U i hi).ext he (fun b hb => h1 b ⟨i, hi, hb⟩) (fun b hb => h2 b ⟨i, hi, hb⟩), h.k, h.sep⟩
theorem jS.ae (h : jS A w n0 N m r rd f d S) (hk : aj w w') : jS A w' n0 N m r rd f d S := h.ext hk (fun _ _ h => h) (fun _ _ h => h) (fun _ h => h.elim)
theorem jS.lift (h : jS A w n0 N m r rd f d S) (hm : m <= m') : jS A w n0 N m' r rd f d S := ⟨h.E, fun i hi => (h.U i hi).up hm, h.k, h.sep⟩
theorem jS.step (h : jS A w n0 N m r rd f d S) {i : Nat} (hi : i < N) {f1 : UnF} {d1 : aF} {s1 : UnS} (hU : UAt w' n0 (r i) (rd i) f1 d1 s1 m') (hm : m <= m') (hn : d1.n = (d i).n) (hst : d1.stops = false) (uf : gl (r i) (rd i) (f i) f1 w w') :
  jS A w' n0 N m' r rd (aV f i f1) (aV d i d1) (aV S i s1) /\ FTo N r rd f (aV f i f1) w w' := by
 have lt := fun j hj => (h.U j hj).lt
 refine ⟨⟨h.E.ext uf.1.1 (fun b hb => (h.U i hi).ge b hb), fun j hj => ?_, fun j hj => ?_, fun j k hj hk hne b hb => ?_⟩, ⟨uf.1.1.mono (fun b hb => ⟨i, hi, hb⟩), ?_, ?_⟩⟩
 ·by_cases e : j = i
  ·subst e; rw [aA, aA, aA]; exact hU
  ·rw [aI e, aI e, aI e]
   exact ((h.U j hj).ext uf.1.1 (fun b hb => (h.sep j i hj hi e b hb).1 ) (fun b hb hh => (h.sep i j hi hj (fun g => e g.symm) b hh).2 hb)).up hm
 ·by_cases e : j = i
  ·subst e; rw [aA]; exact ⟨by rw [hn]; exact (h.k j hj).1, hst⟩
  ·rw [aI e]; exact h.k j hj
 ·by_cases e : j = i
  ·subst e
   rw [aA] at hb
   rw [aI (fun g => hne g.symm)]
   rcases uf.1.2 b hb with g | g
   ·exact h.sep j k hj hk hne b g
   ·exact ⟨fun hh => by have := (lt k hk).1 b hh; omega, fun hh => by have := (lt k hk).2 b hh; omega⟩
  ·rw [aI e] at hb
   by_cases e2 : k = i
   ·subst e2
    rw [aA]
    have hs := h.sep j k hj hk hne b hb
    have hl := (lt j hj).1 b hb
    exact ⟨fun hh => (uf.1.2 b hh).elim hs.1 (fun g => by omega), fun hh => (uf.2 b hh).elim hs.2 (fun g => by omega)⟩
   ·rw [aI e2]; exact h.sep j k hj hk hne b hb
 ·rintro b ⟨j, hj, hb⟩
  by_cases e : j = i
  ·subst e; rw [aA] at hb; exact (uf.1.2 b hb).imp (fun g => ⟨j, hj, g⟩) (fun g => g)
  ·rw [aI e] at hb; exact .inl ⟨j, hj, hb⟩
 ·rintro b ⟨j, hj, hb⟩
  by_cases e : j = i
  ·subst e; rw [aA] at hb; exact (uf.2 b hb).imp (fun g => ⟨j, hj, g⟩) (fun g => g)
  ·rw [aI e] at hb; exact .inl ⟨j, hj, hb⟩
def usL (N : Nat) (up : Nat -> Bool) (r : Nat -> Nat) : List Value := (List.range N).map fun i => if up i then aw (r i) else .pointer none
theorem gK : (usL N up r).length = N := by simp [usL]
theorem CZ {i : Nat} (h : i < (usL N up r).length) : (usL N up r)[i] = if up i then aw (r i) else .pointer none := by simp [usL]
structure ChU (A : Nat -> Addr) (w : World) (n0 N m : Nat) (r rd : Nat -> Nat) (f : Nat -> UnF) (d : Nat -> aF) (S : Nat -> UnS) (us : Slc) (up : Nat -> Bool) : Prop where
 F : jS A w n0 N m r rd f d S
 uo : Own w us 1 (usL N up r)
 ub : ∀ b, ah us b -> ¬ FB N r rd f b
theorem ChU.to (h : ChU A w n0 N m r rd f d S us up) (hF : jS A w' n0 N m' r rd f' d' S') (ht : FTo N r rd f f' w w') : ChU A w' n0 N m' r rd f' d' S' us up :=
 ⟨hF, h.uo.ext ht.1 h.ub, fun b hb hh => (ht.2.1 b hh).elim (h.ub b hb) (fun g => by have := eF h.uo b hb; omega)⟩
theorem ChU.ae (h : ChU A w n0 N m r rd f d S us up) (hk : aj w w') : ChU A w' n0 N m r rd f d S us up := h.to (h.F.ae hk) (FTo.ae hk)
theorem ChU.lift (h : ChU A w n0 N m r rd f d S us up) (hm : m <= m') : ChU A w n0 N m' r rd f d S us up := ⟨h.F.lift hm, h.uo, h.ub⟩
theorem ChU.sl (h : ChU A w n0 N m r rd f d S us up) : us.l = N := by
 have := h.uo.1
 rw [gK] at this; omega
theorem ChU.get (h : ChU A w n0 N m r rd f d S us up) {i : Nat} (hi : i < N) : ∃ a, us.p = some a /\ w.cell? (a.add i) = some (if up i then aw (r i) else .pointer none) := by
 obtain ⟨a, ha, hc⟩ := bl h.uo.cells (i := i) (by rw [gK]; exact hi)
 exact ⟨a, ha, by rw [hc, CZ]⟩
structure Txt (w : World) (F : Nat -> Prop) (b : Slc) (t : List UInt8) : Prop where
 tb : aq w b t
 s : ∀ k, ah b k -> k < w.heap.size /\ ¬ F k
 l : t.length <= 2 ^ 20
theorem Txt.to {b : Slc} {t : List UInt8} (h : Txt w (FB N r rd f) b t) (ht : FTo N r rd f f' w w') : Txt w' (FB N r rd f') b t := by
 have z := ht.1.size
 refine ⟨fL h.tb ht.1 (fun k hk => (h.s k hk).2), fun k hk => ⟨by have := (h.s k hk).1; omega, fun hh => ?_⟩, h.l⟩
 exact (ht.2.1 k hh).elim (h.s k hk).2 (fun g => by have := (h.s k hk).1; omega)
theorem Txt.ae {F : Nat -> Prop} {b : Slc} {t : List UInt8} (h : Txt w F b t) (hk : aj w w') : Txt w' F b t := by
 have z := hk.size
 exact ⟨aH h.tb hk, fun k hk => ⟨by have := (h.s k hk).1; omega, (h.s k hk).2⟩, h.l⟩
theorem mL (h : ChU A w n0 N m r rd f d S us up) (n : Int) :
  Calls Tryz.prog cg ⟨[us.v, .int .i64 n]⟩ w fun e w' => aj w w' /\ ((upB N up n = true /\ n.toNat < N /\ e = .returned (.tuple ⟨[aw (r n.toNat), .nilIface]⟩)) \/ (upB N up n = false /\ e = .returned (.tuple ⟨[.pointer none, errO A (some 11)]⟩))) := by
 refine oS _ _ ?_
 unfold l8
 have hsl := h.sl
 have hd : ∀ {w2 : World}, w2 = World.drew w -> World.cell? w2 (⟨cB, 0, none⟩ : Addr) = some (iV A (eM.getD 11 0)) := fun e => by
  subst e; exact dx ((h.F.E.ae (Ext.drew _ _)).g) 11 cB rfl (by decide)
 have kd : aj w (World.drew w) := Ext.drew _ _
 have no : ∀ {X : Prop}, (upB N up n = true -> False) -> upB N up n = false := fun g => by cases hh : upB N up n <;> simp_all
 refine af (fun h1 => ⟨_, hd rfl, kd, .inr ⟨no (X := True) (fun hh => by have := (mK.1 hh).1; omega), rfl⟩⟩) (fun h1 => af (fun h2 => ⟨_, hd rfl, kd, .inr ⟨no (X := True) (fun hh => by have := (mK.1 hh).1; omega), rfl⟩⟩) (fun h2 => ?_))
 obtain ⟨i, rfl⟩ : ∃ i : Nat, n = i := ⟨n.toNat, by omega⟩
 rw [Int.toNat_natCast, Nat.mul_one]
 have hi : i < N := by omega
 obtain ⟨a, ha, hc⟩ := h.get hi
 cases hu : up i with
 | true =>
  rw [hu, if_pos rfl] at hc
  refine aa ha ⟨by omega, by omega, _, hc, ai (fun g => by cases g) (fun _ => aa ha ⟨by omega, by omega, _, hc, Ext.refl _ _, .inl ⟨mK.2 ⟨by omega, by rw [Int.toNat_natCast]; exact hu⟩, hi, rfl⟩⟩)⟩
 | false =>
  rw [hu, if_neg (by decide)] at hc
  refine aa ha ⟨by omega, by omega, _, hc, ai (fun _ => ⟨_, hd rfl, kd, .inr ⟨no (X := True) (fun hh => by have := (mK.1 hh).2; rw [Int.toNat_natCast, hu] at this; cases this), rfl⟩⟩) (fun g => by cases g)⟩
def ChP (A : Nat -> Addr) (w : World) (n0 N m : Nat) (r rd : Nat -> Nat) (f : Nat -> UnF) (us : Slc) (up : Nat -> Bool) (S' : Nat -> UnS) (w' : World) : Prop :=
 ∃ f' d', ChU A w' n0 N m r rd f' d' S' us up /\ FTo N r rd f f' w w'
theorem jD (h : ChU A w n0 N m r rd f d S us up) (hm : m <= 2 ^ 58) (n e a : Int) (first : Bool) (b : Slc) (t : List UInt8) (hb : Txt w (FB N r rd f) b t) :
  Calls Tryz.prog cN ⟨[us.v, .int .i64 n, .int .i64 e, .int .i64 a, .bool first, b.v]⟩ w fun x w' => x = .returned (errO A (putP N up first e a t n S).1) /\ ChP A w n0 N (m + 1) r rd f us up (putP N up first e a t n S).2 w' := by
 refine qV _ _ _ _ _ _ ?_
 unfold oT
 refine (mL h n).mono ?_
 rintro x w8 ⟨k8, ⟨hu, hi, rfl⟩ | ⟨hu, rfl⟩⟩
 rotate_left
 ·unfold putP
  rw [if_neg (by rw [hu]; decide)]
  exact ⟨_, _, rfl, aB A _, ai (fun _ => ⟨rfl, f, d, (h.ae k8).lift (by omega), FTo.ae k8⟩) (fun g => by cases g)⟩
 have h8 := h.ae k8
 have b8 := hb.ae k8
 obtain ⟨i, hin⟩ : ∃ i : Nat, n.toNat = i := ⟨_, rfl⟩
 unfold putP
 rw [if_pos hu, hin]
 rw [hin] at hi
 refine ⟨_, _, rfl, trivial, ai (fun g => by cases g) (fun _ => ?_)⟩
 refine (xE A (h8.F.U i hi) h8.F.E (by omega) e a b t b8.tb b8.l (fun k hk hh => (b8.s k hk).2 ⟨i, hi, hh⟩)).mono ?_
 rintro x w12 ⟨e', rfl, hout⟩
 obtain ⟨rfl, f1, d1, hU1, hn1, hs1, uf⟩ := hout.live (h8.F.k i hi).2
 rw [(h8.F.k i hi).1] at hU1 ⊢
 obtain ⟨hF12, ft⟩ := h8.F.step hi hU1 (by omega) hn1 hs1 uf
 have h12 := h8.to hF12 ft
 have b12 := b8.to ft
 have ft0 : FTo N r rd f (aV f i f1) w w12 := (FTo.ae k8).trans ft
 generalize hp : writeP 2 (S i) e a t = p at hU1 hF12 h12 ⊢
 have hlt : ∀ j, p.1 = some j -> j < 19 := by rw [<- hp]; exact uU
 refine ⟨_, rfl, fun w2 => aj w12 w2 /\ ¬ (first = true \/ p.1 ≠ some 8), ai (fun g => ?_) (fun g => ?_), ?_⟩
 ·rw [if_pos (.inl g)]
  exact ⟨rfl, _, _, h12, ft0⟩
 ·refine ⟨_, b7.at h12.F.E.1 8 (by omega), (qg A p.1 hlt 8 (by omega) w12 h12.F.E.1).mono ?_⟩
  rintro x w17 ⟨rfl, rfl⟩
  refine ⟨_, rfl, dY (fun h1 => ?_) (fun h1 => ⟨Ext.refl _ _, fun hh => hh.elim (fun q => by rw [g] at q; cases q) (fun q => q h1)⟩)⟩
  rw [if_pos (.inr h1)]
  exact ⟨rfl, _, _, h12, ft0⟩
 rintro w19 ⟨k19, hno⟩
 intros
 rw [if_neg hno]
 have h19 := h12.ae k19
 have hU19 := h19.F.U i hi
 rw [aA, aA, aA] at hU19
 refine (tq A hU19.M e a (h19.F.E.g.sub px)).mono ?_
 rintro x w30 ⟨s31, rfl, ho, hf, k30⟩
 have kk := k19.trans k30
 have h30 := h12.ae kk
 have ft30 : FTo N r rd f (aV f i f1) w w30 := ft0.trans (FTo.ae kk)
 refine ⟨s31, _, rfl, aB A _, ?_⟩
 cases hr : readE p.2.tr p.2.ep (pgM p.2.U p.2.tr) e a with
 | some c => exact ai (fun _ => ⟨by simp [rdE, hr], _, _, h30, ft30⟩) (fun g => by cases g)
 | none =>
  refine ai (fun g => by cases g) (fun _ => ?_)
  rw [hr] at ho
  have hb30 := ho.bytes
  simp only [Option.isNone_none, if_true] at hb30
  have hpl : ((pgM p.2.U p.2.tr a).getD []).length <= 2 ^ 40 := by
   cases hg : pgM p.2.U p.2.tr a with
   | none => simp
   | some y =>
    obtain ⟨es, _, hlk⟩ := hU19.M.p.get
    cases hl : lookL f1.x.pl a with
    | none => have := (hU19.M.pv a).2 hl; rw [hg] at this; cases this
    | some sl => obtain ⟨y', e1, _, e2⟩ := (hU19.M.pv a).1 sl hl; rw [hg] at e1; cases e1; show y.length <= _; omega
  refine (um s31 b _ t w30 hb30 (aH b12.tb kk) hpl).mono ?_
  rintro x w34 ⟨rfl, k34⟩
  have h34 := h30.ae k34
  have ft34 := ft30.trans (FTo.ae k34)
  refine ⟨_, rfl, dY (fun h1 => ⟨_, b7.at h34.F.E.1 16 (by omega), ?_⟩) (fun h1 => ?_)⟩
  ·simp only [rdE, hr, pgD]
   rw [if_neg h1]
   exact ⟨rfl, _, _, h34, ft34⟩
  ·simp only [rdE, hr, pgD]
   rw [if_pos h1]
   exact ⟨rfl, _, _, h34, ft34⟩
end
end Go.D
namespace Go.D
open Go Go.Proofs
theorem AH (x y : Int) (w : World) : Calls Tryz.prog fl ⟨[.int .i64 x, .int .i64 y]⟩ w fun e w' => e = .returned (.bool (decide (x < y))) /\ aj w w' := by
 have hnan : ∀ z w, Calls Tryz.prog bR ⟨[.int .i64 z]⟩ w fun e w' => e = .returned (.bool false) /\ w' = w := by
  intro z w
  refine j2 _ ?_
  unfold jO
  exact ⟨by simp, rfl⟩
 refine qY _ _ ?_
 unfold oW
 refine (hnan x w).mono ?_
 rintro e w4 ⟨rfl, rfl⟩
 exact ⟨_, rfl, ai (fun h => by cases h) (fun _ => ⟨rfl, Ext.refl _ _⟩)⟩
def sw (l : List Int) (j : Nat) : List Int := (l.set j (l.getD (j - 1) 0)).set (j - 1) (l.getD j 0)
theorem tE (l : List Int) (j : Nat) : (sw l j).length = l.length := by simp [sw]
theorem tF {l : List Int} {j x : Nat} (hj : 0 < j) (hjl : j < l.length) (hx : x < l.length) : (sw l j)[x]'(by rw [tE]; exact hx) = if x = j - 1 then l[j] else if x = j then l[j - 1]'(by omega) else l[x] := by
 have h1 : j - 1 < l.length := by omega
 simp only [sw, List.getElem_set, List.getD, List.getElem?_eq_getElem hjl, List.getElem?_eq_getElem h1, Option.getD_some]
 by_cases h2 : x = j - 1
 ·rw [if_pos h2.symm, if_pos h2]
 ·rw [if_neg (fun e => h2 e.symm), if_neg h2]
  by_cases h3 : x = j
  ·rw [if_pos h3.symm, if_pos h3]
  ·rw [if_neg (fun e => h3 e.symm), if_neg h3]
theorem C0 {l : List Int} {j : Nat} (hj : 0 < j) (hjl : j < l.length) : (sw l j).Perm l := by
 have h1 : j - 1 < l.length := by omega
 have e1 : l = l.take (j - 1) ++ (l[j - 1] :: l[j] :: l.drop (j + 1)) := by
  conv => lhs; rw [<- List.take_append_drop (j - 1) l]
  congr 1
  rw [List.drop_eq_getElem_cons h1]
  congr 1
  rw [show j - 1 + 1 = j by omega]
  exact List.drop_eq_getElem_cons hjl
 have e2 : sw l j = l.take (j - 1) ++ (l[j] :: l[j - 1] :: l.drop (j + 1)) := by
  apply List.ext_getElem
  ·rw [tE]; simp; omega
  ·intro x hx hx'
   rw [tE] at hx
   rw [tF hj hjl hx]
   rw [List.getElem_append]
   by_cases h2 : x < j - 1
   ·rw [if_neg (by omega), if_neg (by omega)]
    simp only [List.length_take]
    rw [dif_pos (by omega)]
    rw [List.getElem_take]
   ·simp only [List.length_take]
    rw [dif_neg (by omega)]
    have e3 : x - min (j - 1) l.length = x - (j - 1) := by omega
    simp only [e3]
    by_cases h3 : x = j - 1
    ·rw [if_pos h3]
     have : x - (j - 1) = 0 := by omega
     simp only [this, List.getElem_cons_zero]
    ·by_cases h4 : x = j
     ·rw [if_neg h3, if_pos h4]
      have : x - (j - 1) = 1 := by omega
      simp only [this, List.getElem_cons_succ, List.getElem_cons_zero]
     ·rw [if_neg h3, if_neg h4]
      obtain ⟨y, hy⟩ : ∃ y, x - (j - 1) = y + 2 := ⟨x - (j - 1) - 2, by omega⟩
      simp only [hy, List.getElem_cons_succ, List.getElem_drop]
      congr 1; omega
 rw [e2]
 conv => rhs; rw [e1]
 exact List.Perm.append_left _ (List.Perm.swap _ _ _)
def fj (l : List Int) (i : Nat) : Prop := ∀ x y (hx : x < l.length) (hy : y < l.length), x < y -> y < i -> l[x] <= l[y]
def B5 (l : List Int) (i j : Nat) : Prop := (∀ x y (hx : x < l.length) (hy : y < l.length), x < y -> y <= i -> x ≠ j -> y ≠ j -> l[x] <= l[y]) /\ ∀ y (hy : y < l.length) (hj : j < l.length), j < y -> y <= i -> l[j] <= l[y]
theorem y0 {l : List Int} {i : Nat} (h : fj l i) : B5 l i i := ⟨fun x y hx hy h1 h2 h3 h4 => h x y hx hy h1 (by omega), fun y hy hj h1 h2 => by omega⟩
theorem AI {l : List Int} {i j : Nat} (hj : 0 < j) (hjl : j < l.length) (hji : j <= i) (h : B5 l i j) (hlt : l[j] < l[j - 1]'(by omega)) : B5 (sw l j) i (j - 1) := by
 refine ⟨fun x y hx hy h1 h2 h3 h4 => ?_, fun y hy hj' h1 h2 => ?_⟩
 ·rw [tE] at hx hy
  rw [tF hj hjl hx, tF hj hjl hy, if_neg h3, if_neg h4]
  by_cases h5 : x = j
  ·rw [if_pos h5, if_neg (by omega)]
   exact h.1 (j - 1) y (by omega) hy (by omega) h2 (by omega) (by omega)
  ·rw [if_neg h5]
   by_cases h6 : y = j
   ·rw [if_pos h6]
    exact h.1 x (j - 1) hx (by omega) (by omega) (by omega) h5 (by omega)
   ·rw [if_neg h6]
    exact h.1 x y hx hy h1 h2 h5 h6
 ·rw [tE] at hy hj'
  rw [tF hj hjl hj', tF hj hjl hy, if_pos rfl, if_neg (by omega)]
  by_cases h6 : y = j
  ·rw [if_pos h6]; omega
  ·rw [if_neg h6]
   exact h.2 y hy hjl (by omega) h2
theorem B6 {l : List Int} {i j : Nat} (h : B5 l i j) (hij : j <= i) (hd : ∀ (h1 : j < l.length), 0 < j -> ¬ l[j] < l[j - 1]'(by omega)) : fj l (i + 1) := by
 intro x y hx hy h1 h2
 by_cases h3 : x = j
 ·subst h3; exact h.2 y hy hx h1 (by omega)
 ·by_cases h4 : y = j
  ·subst h4
   have h5 := hd hy (by omega)
   by_cases h6 : x = y - 1
   ·subst h6; omega
   ·have := h.1 x (y - 1) hx (by omega) (by omega) (by omega) h3 (by omega)
    omega
  ·exact h.1 x y hx hy h1 (by omega) h3 h4
theorem tG (s : Slc) (l : List Int) (w : World) (h : az w s l) (hl : l.length <= 2 ^ 30) :
  Calls Tryz.prog br ⟨[s.v, .int .i64 0, .int .i64 (l.length : Int)]⟩ w fun e w' => e = .returned (.tuple #[]) /\ ∃ l', l'.Perm l /\ fj l' l.length /\ az w' s l' /\ Ext (ah s) w w' := by
 refine fG _ _ _ ?_
 unfold dh
 refine ⟨ar (by omega), fun i w2 => ∃ (k : Nat) (l' : List Int), i = k /\ 1 <= k /\ (k <= l.length \/ k = 1) /\ l'.Perm l /\ fj l' k /\ az w2 s l' /\ Ext (ah s) w w2, fun i _ => ((l.length : Int) - i).toNat,
  ⟨1, l, rfl, by omega, .inr rfl, List.Perm.refl _, fun x y hx hy h1 h2 => by omega, h, Ext.refl _ _⟩, ?_⟩
 rintro i w7 ⟨k, l', rfl, hk1, hk, hp, hs, h7, e7⟩
 intros
 have hpl := hp.length_eq
 refine af (fun h1 => ?_) (fun h1 => ?_)
 ·refine ⟨fun j w2 => ∃ (m : Nat) (l' : List Int), j = m /\ m <= k /\ l'.Perm l /\ B5 l' k m /\ az w2 s l' /\ Ext (ah s) w w2, fun j _ => j.toNat, ⟨k, l', rfl, Nat.le_refl _, hp, y0 hs, h7, e7⟩, ?_⟩
  rintro j w51 ⟨m, l2, rfl, hm, hp2, hn, h51, e51⟩
  intros
  have hpl2 := hp2.length_eq
  have hsl := h51.sl
  have hd := h51.ae (Ext.drew _ w51)
  have ed : Ext (ah s) w w51.drew := e51.trans (Ext.drew _ _) (fun _ h => h) (fun _ h => .inl h)
  have out : ∀ w3, az w3 s l2 -> Ext (ah s) w w3 -> (∀ (h1 : m < l2.length), 0 < m -> ¬ l2[m] < l2[m - 1]'(by omega)) -> inR .i64 ((k : Int) + 1) /\ (∃ (k' : Nat) (l' : List Int), ((k : Int) + 1) = k' /\ 1 <= k' /\ (k' <= l.length \/ k' = 1) /\ l'.Perm l /\ fj l' k' /\ az w3 s l' /\ Ext (ah s) w w3) /\ ((l.length : Int) - ((k : Int) + 1)).toNat < ((l.length : Int) - (k : Int)).toNat :=
   fun w3 a1 a2 a3 => ⟨ar (by omega), ⟨k + 1, l2, rfl, by omega, .inl (by omega), hp2, B6 hn hm a3, a1, a2⟩, by omega⟩
  refine ⟨fun w3 => 0 < m /\ (∃ (h1 : m < l2.length), 0 < m /\ l2[m] < l2[m - 1]'(by omega)) /\ az w3 s l2 /\ Ext (ah s) w w3, ?_, ?_⟩
  ·refine af (fun h2 => ?_) (fun h2 => out _ hd ed (fun _ hh => by omega))
   have hml : m < l2.length := by omega
   have hml1 : m - 1 < l2.length := by omega
   obtain ⟨a, ha, c1⟩ := hd.get hml
   obtain ⟨a', ha', c2⟩ := hd.get hml1
   rw [ha] at ha'
   cases ha'
   have e1 : Int.toNat ((m : Int) - 1) * 1 = (m - 1) * 1 := by omega
   refine aa ha ⟨by omega, by omega, _, by rw [show Int.toNat (m : Int) * 1 = m * 1 by omega]; exact c1, ar (by omega), aa ha ⟨by omega, by omega, _, by rw [e1]; exact c2, ?_⟩⟩
   refine (AH _ _ _).mono ?_
   rintro e w91 ⟨rfl, k91⟩
   have h91 := hd.ae k91
   have e91 : Ext (ah s) w w91 := ed.trans (k91.mono (fun _ h => h.elim)) (fun _ h => h) (fun _ h => .inl h)
   exact ⟨_, rfl, af (fun h3 => ⟨by omega, ⟨hml, by omega, h3⟩, h91, e91⟩) (fun h3 => out _ h91 e91 (fun _ _ => h3))⟩
  ·rintro w93 ⟨hm0, ⟨hml, _, hlt⟩, h93, e93⟩
   intros
   have h93d := h93.ae (Ext.drew _ w93)
   have hml1 : m - 1 < l2.length := by omega
   have e1 : Int.toNat ((m : Int) - 1) * 1 = (m - 1) * 1 := by omega
   have e2 : Int.toNat (m : Int) * 1 = m * 1 := by omega
   obtain ⟨a, ha, c1⟩ := h93d.get hml
   obtain ⟨a', ha', c2⟩ := h93d.get hml1
   rw [ha] at ha'
   cases ha'
   obtain ⟨cw1, g1⟩ := h93d.set hml l2[m - 1] ha
   refine ⟨ar (by omega), ar (by omega), aa ha ⟨by omega, by omega, _, by rw [e1]; exact c2, aa ha ⟨by omega, by omega, _, by rw [e2]; exact c1, aa ha ⟨by omega, by omega, by rw [e2]; exact cw1, fun w114 hw114 => ?_⟩⟩⟩⟩
   obtain ⟨h114, e114, z114⟩ := g1 w114 (by rw [hw114, e2])
   obtain ⟨cw2, g2⟩ := h114.set (i := m - 1) (by simp; omega) l2[m] ha
   refine aa ha ⟨by omega, by omega, by rw [e1]; exact cw2, fun w116 hw116 => ?_⟩
   obtain ⟨h116, e116, z116⟩ := g2 w116 (by rw [hw116, e1])
   have esw : (l2.set m l2[m - 1]).set (m - 1) l2[m] = sw l2 m := by
    simp [sw, List.getD, hml, hml1]
   rw [esw] at h116
   refine ⟨ar (by omega), ⟨m - 1, sw l2 m, by omega, by omega, (C0 hm0 hml).trans hp2, AI hm0 hml hm hn hlt, h116, ?_⟩, by dsimp only; omega⟩
   exact ((e93.trans (Ext.drew (ah s) _) (fun _ h => h) (fun _ h => .inl h)).trans e114 (fun _ h => h) (fun _ h => .inl h)).trans e116 (fun _ h => h) (fun _ h => .inl h)
 ·refine ⟨rfl, l', hp, fun x y hx hy a1 a2 => hs x y hx hy a1 (by omega), h7, e7⟩
set_option maxRecDepth 100000 in
theorem B7 (n : Nat) (hn : n <= 200) (w : World) : Calls Tryz.prog gz ⟨[.int .u64 (n : Int)]⟩ w fun e w' => ∃ k : Int, e = .returned (.int .i64 k) /\ w' = w := by
 have h64 : Calls Tryz.prog fC ⟨[.int .u64 (n : Int)]⟩ w fun e w' => ∃ k : Int, e = .returned (.int .i64 k) /\ w' = w := by
  refine nP _ ?_
  unfold ll
  refine ⟨fun x m w2 => x = n /\ m = 0 /\ w2 = w, af (fun h => by omega) (fun _ => ⟨rfl, rfl, rfl⟩), ?_⟩
  rintro x m w2 ⟨rfl, rfl, rfl⟩
  intros
  refine ⟨fun x m w3 => x = n /\ m = 0 /\ w3 = w2, af (fun h => by omega) (fun _ => ⟨rfl, rfl, rfl⟩), ?_⟩
  rintro x m w3 ⟨rfl, rfl, rfl⟩
  intros
  refine af (fun h => by omega) (fun _ => ?_)
  have hw : IntKind.wrap .u8 (n : Int) = n := dX (D5 (by omega))
  rw [hw]
  have hb : ∀ u : UInt8, (u.toNat : Int) < 256 := fun u => by have := u.toNat_lt; omega
  refine ⟨by omega, ?_, ar ?_, ar ?_, _, rfl, rfl⟩
  ·have e : ∀ (l : List UInt8), l.length = 256 -> (n : Int) < ((l.length : Nat) : Int) := fun l hl => by rw [hl]; omega
   exact e _ rfl
  ·constructor
   ·exact Int.le_trans (by decide) (Int.natCast_nonneg _)
   ·exact Int.le_trans (Int.le_of_lt (hb _)) (by decide)
  ·rw [Int.zero_add]; constructor
   ·exact Int.le_trans (by decide) (Int.natCast_nonneg _)
   ·exact Int.le_trans (Int.le_of_lt (hb _)) (by decide)
 refine pU _ ?_
 unfold nh
 refine h64.mono ?_
 rintro e w' ⟨k, rfl, rfl⟩
 exact ⟨k, rfl, k, rfl, rfl⟩
theorem AJ (s : Slc) (l : List Int) (w : World) (h : az w s l) (hl : l.length <= 12) :
  Calls Tryz.prog fq ⟨[s.v]⟩ w fun e w' => e = .returned (.tuple #[]) /\ ∃ l', l'.Perm l /\ fj l' l.length /\ az w' s l' /\ Ext (ah s) w w' := by
 have hsl := h.sl
 refine nO _ ?_
 unfold lj
 have hw : IntKind.wrap .u64 ((s.l : Nat) : Int) = s.l := dX (Dt (by omega))
 rw [hw]
 refine (B7 s.l (by omega) w).mono ?_
 rintro e w3 ⟨k, rfl, rfl⟩
 refine ⟨k, rfl, ?_⟩
 have hp : Calls Tryz.prog aZ ⟨[s.v, .int .i64 0, .int .i64 ((s.l : Nat) : Int), .int .i64 k]⟩ w3 fun e w' => e = .returned (.tuple #[]) /\ ∃ l', l'.Perm l /\ fj l' l.length /\ az w' s l' /\ Ext (ah s) w3 w' := by
  refine g8 _ _ _ _ ?_
  unfold fa
  refine ⟨fun a b _ _ _ w2 => a = 0 /\ b = l.length /\ w2 = w3, fun _ _ _ _ _ _ => 0, ⟨rfl, by rw [hsl], rfl⟩, ?_⟩
  rintro a b lim x1 x2 w12 ⟨rfl, rfl, rfl⟩
  intros
  refine ⟨ar (by omega), af (fun _ => ?_) (fun hh => by omega)⟩
  refine (tG s l w12 h (by omega)).mono ?_
  rintro e w138 ⟨rfl, hm⟩
  exact ⟨rfl, rfl, hm⟩
 refine hp.mono ?_
 rintro e w6 ⟨rfl, hm⟩
 exact ⟨rfl, rfl, hm⟩
end Go.D
namespace Go.D
open Go Go.Proofs
theorem az.cut {w : World} {s : Slc} {l : List Int} (h : az w s l) {j : Nat} (hj : j <= l.length) {K : World -> Prop} (hK : ∀ w', az w' ⟨s.p, j, s.c⟩ (l.take j) -> Ext (ah s) w w' -> w'.heap.size = w.heap.size -> K w') :
  iy [.int .i64 0] w (Slc.sub s 1 j s.l s.c) fun w' => K w' := by
 have hsl := h.sl
 have hcap := h.cap
 obtain ⟨h1, ⟨hp, h2, h3⟩ | ⟨b, pad, T, f, hp, hb, h4, h5⟩⟩ := h.own
 ·rw [gj] at h2
  have hl0 : l = [] := by simpa using h2
  subst hl0
  have hj0 : j = 0 := by simpa using hj
  subst hj0
  have e1 : Slc.sub s 1 0 s.l s.c = ⟨none, 0, 0⟩ := by
   unfold Slc.sub
   have e2 : s.l = 0 := by simpa using hsl
   rw [hp, h3, e2]; simp
  rw [e1]
  rintro w1 rfl
  refine hK w1 ?_ (Ext.refl _ _) rfl
  have : (⟨s.p, 0, s.c⟩ : Slc) = ⟨none, 0, 0⟩ := by rw [hp, h3]
  rw [this]
  exact az.nil _
 ·rw [gj] at hb h4 h5
  have e1 : ∃ o, Slc.sub s 1 j s.l s.c = ⟨some ⟨b, o, none⟩, s.l - j, s.c - j⟩ /\ (j < s.c -> o = j) := by
   unfold Slc.sub
   rw [hp]
   by_cases hjc : s.c = j
   ·rw [if_pos hjc]; exact ⟨0, rfl, fun hh => by omega⟩
   ·rw [if_neg hjc]; exact ⟨j, by simp [add_lit], fun _ => rfl⟩
  obtain ⟨o, e1, ho⟩ := e1
  rw [e1]
  have hlp : (l.map (fun x => Value.int .i64 x) ++ pad).length = s.c := by rw [h4]; simp [qZ]
  have hpl : l.length + pad.length = s.c := by rw [<- hlp]; simp
  have go : ∀ w1 : World, w1.heap[b]? = some (.cells ⟨(l.take j).map (fun x => Value.int .i64 x) ++ (bh (s.l - j) [.int .i64 0] ++ pad)⟩ T f) -> Ext (ah s) w w1 -> w1.heap.size = w.heap.size -> K w1 := by
   intro w1 hb1 he hz
   refine hK w1 ⟨⟨?_, .inr ⟨b, bh (s.l - j) [.int .i64 0] ++ pad, T, f, hp, by rw [gj]; exact hb1, ?_, ?_⟩⟩, by simp, fun i hi hi' => by simp [qZ], fun k hk => (kh hk).elim⟩ he hz
   ·rw [gj]; simp [qZ]; omega
   ·rw [gj]; simp [qZ, bX]; omega
   ·rw [gj]
    have : ((l.take j).map (fun x => Value.int .i64 x) ++ (bh (s.l - j) [Value.int .i64 0] ++ pad)).length = (l.map (fun x => Value.int .i64 x) ++ pad).length := by simp [bX]; omega
    rw [this]; exact h5
  by_cases hjl : j = l.length
  ·have e2 : s.l - j = 0 := by omega
   rw [e2]
   refine ⟨fun i hi => by simp at hi, ?_⟩
   rintro w1 rfl
   refine go w1 ?_ (Ext.refl _ _) rfl
   rw [e2, hjl, List.take_length]
   exact hb
  ·have hoj : o = j := ho (by omega)
   subst hoj
   refine ⟨gH hb h5 _ _ (by rw [hlp]; simp; omega), ?_⟩
   rintro w1 rfl
   have hh := bU (bh (s.l - o) [.int .i64 0]) w _ o 0 hb
   have e3 : l.map (fun x => Value.int .i64 x) ++ pad = (l.take o).map (fun x => Value.int .i64 x) ++ ((l.drop o).map (fun x => Value.int .i64 x) ++ pad) := by
    rw [<- List.append_assoc, <- List.map_append, List.take_append_drop]
   have e4 : o + 0 = ((l.take o).map fun x => Value.int .i64 x).length := by simp; omega
   rw [e3, e4, cQ _ _ _ (by simp [bX]; omega), List.drop_append_of_le_length (by simp [bX]; omega), List.drop_of_length_le (by simp [bX]; omega), List.nil_append, List.append_assoc] at hh
   exact go _ hh (Ext.setCells (M := ah s) (a := (⟨b, o, none⟩ : Addr)) ⟨_, hp, rfl⟩ _ 0 w) (fg _ _ _ _)
end Go.D
namespace Go.D
open Go Go.Proofs
def Chs (w : World) (s : Slc) (cs : List (List Int)) : Prop :=
 s.l = cs.length /\ ∀ i (h : i < cs.length), ∃ (a : Addr) (sl : Slc), s.p = some a /\ World.cell? w (Addr.add a (i * 1)) = some (Slc.v sl) /\ cI w sl cs[i] /\ sl.l <= sl.c
theorem Chs.ae {w w' : World} {s : Slc} {cs : List (List Int)} (h : Chs w s cs) (k : aj w w') : Chs w' s cs :=
 ⟨h.1, fun i hi => let ⟨a, sl, h1, h2, h3, h4⟩ := h.2 i hi; ⟨a, sl, h1, k.cell h2, dL h3 k, h4⟩⟩
theorem Chs.of {w : World} {s : Slc} {xs : List (Slc × List Int)} (h : uz Rd.ints w s xs) : Chs w s (xs.map (·.2)) := by
 refine ⟨by rw [h.1, List.length_map], fun i hi => ?_⟩
 have hi2 : i < xs.length := by simpa using hi
 obtain ⟨a, cs, ha, hc, hrow⟩ := h.2.2.2 i hi2
 obtain ⟨rfl, h1, h2, h3, h4⟩ := hc
 refine ⟨a, xs[i].1, ha, ?_, by rw [List.getElem_map]; exact h1, h3⟩
 have := hrow.1
 have e : (a.add (i * Rd.ints.n)).add 0 = a.add (i * 1) := by simp [Addr.add, Rd.ints]
 rw [e] at this
 exact this
theorem pI (u : Int) (w : World) : Calls Tryz.prog bY ⟨[.int .i64 u]⟩ w fun e w' => e = .returned (.bool (decide (u < 0 \/ 12 <= u))) /\ w' = w := by
 refine mb _ ?_
 unfold jr
 refine af (fun h => ⟨by rw [decide_eq_true (.inl h)], rfl⟩) (fun h => ⟨?_, rfl⟩)
 by_cases h2 : (12 : Int) <= u
 ·rw [decide_eq_true h2, decide_eq_true (.inr h2)]
 ·rw [decide_eq_false h2, decide_eq_false (by omega)]
def pJ (c : List Int) : Prop := ∀ u ∈ c, 0 <= u /\ u < 12
theorem kl (s : Slc) (c : List Int) (w : World) (h : cI w s c) (hl : c.length <= 2 ^ 40) :
  Calls Tryz.prog aW ⟨[s.v, .func (.func bY) ⟨[]⟩ ⟨[]⟩]⟩ w fun e w' => ∃ b, e = .returned (.bool b) /\ (b = false ↔ pJ c) /\ w' = w := by
 have hsl := h.1
 have hi : Calls Tryz.prog bx ⟨[s.v, .func (.func bY) ⟨[]⟩ ⟨[]⟩]⟩ w fun e w' => ∃ i : Int, e = .returned (.int .i64 i) /\ (i < 0 ↔ pJ c) /\ w' = w := by
  refine ec _ ?_
  unfold bZ
  refine ⟨fun i w2 => w2 = w /\ ∃ k : Nat, i = k /\ k <= c.length /\ pJ (c.take k), fun i _ => ((c.length : Int) - i).toNat, ⟨rfl, 0, rfl, by omega, by intro u hu; simp at hu⟩, ?_⟩
  rintro i w2 ⟨rfl, k, rfl, hk, hno⟩
  intros
  refine af (fun h1 => ?_) (fun h1 => ?_)
  ·have hkl : k < c.length := by omega
   obtain ⟨a, ha, hc⟩ := gN h hkl
   refine aa ha ⟨by omega, h1, c[k], by rw [show Int.toNat (k : Int) * 1 = k by omega]; exact hc, ?_⟩
   refine (pI c[k] w2).mono ?_
   rintro e w21 ⟨rfl, rfl⟩
   refine ⟨_, rfl, af (fun h2 => ⟨_, rfl, ⟨fun hh => by omega, fun hh => by have := hh _ (List.getElem_mem hkl); omega⟩, rfl⟩) (fun h2 => ?_)⟩
   refine ⟨ar (by omega), ⟨rfl, k + 1, rfl, hkl, fun u hu => ?_⟩, by dsimp only; omega⟩
   have e5 : c.take (k + 1) = c.take k ++ [c[k]] := by rw [List.take_add_one, List.getElem?_eq_getElem hkl]; rfl
   rw [e5, List.mem_append, List.mem_singleton] at hu
   rcases hu with h6 | rfl
   ·exact hno u h6
   ·omega
  ·rw [List.take_of_length_le (by omega)] at hno
   exact ⟨_, rfl, ⟨fun _ => hno, fun _ => by decide⟩, rfl⟩
 refine dE _ ?_
 unfold bN
 refine hi.mono ?_
 rintro e w' ⟨i, rfl, hv, rfl⟩
 refine ⟨i, rfl, _, rfl, ⟨fun hh => hv.1 (by simpa using hh), fun hh => by have := hv.2 hh; simp; omega⟩, rfl⟩
def iu (c : List Int) : Prop := 1 <= c.length /\ c.length <= 3 /\ pJ c
theorem re (s : Slc) (c : List Int) (w : World) (h : cI w s c) :
  Calls Tryz.prog fp ⟨[s.v]⟩ w fun e w' => ∃ b, e = .returned (.bool b) /\ (b = true ↔ iu c) /\ w' = w := by
 have hsl := h.1
 refine nN _ ?_
 unfold lh
 refine af (fun h1 => af (fun h2 => ?_) (fun h2 => ⟨_, rfl, ⟨fun hh => (by cases hh), fun hh => by have := hh.2.1; omega⟩, rfl⟩)) (fun h1 => ⟨_, rfl, ⟨fun hh => (by cases hh), fun hh => by have := hh.1; omega⟩, rfl⟩)
 refine (kl s c w h (by omega)).mono ?_
 rintro e w' ⟨b, rfl, hb, rfl⟩
 refine ⟨b, rfl, _, rfl, ⟨fun hh => ⟨by omega, by omega, hb.1 (by simpa using hh)⟩, fun hh => by rw [hb.2 hh.2.2]; rfl⟩, rfl⟩
theorem jT (s : Slc) (cs : List (List Int)) (w : World) (h : Chs w s cs) (hl : cs.length <= 2 ^ 40) :
  Calls Tryz.prog cn ⟨[s.v, .func (.func dZ) ⟨[]⟩ ⟨[]⟩]⟩ w fun e w' => ∃ b, e = .returned (.bool b) /\ (b = false ↔ ∀ c ∈ cs, iu c) /\ w' = w := by
 have hsl := h.1
 have hi : Calls Tryz.prog cV ⟨[s.v, .func (.func dZ) ⟨[]⟩ ⟨[]⟩]⟩ w fun e w' => ∃ i : Int, e = .returned (.int .i64 i) /\ (i < 0 ↔ ∀ c ∈ cs, iu c) /\ w' = w := by
  refine eY _ ?_
  unfold cD
  refine ⟨fun i w2 => w2 = w /\ ∃ k : Nat, i = k /\ k <= cs.length /\ ∀ c ∈ cs.take k, iu c, fun i _ => ((cs.length : Int) - i).toNat, ⟨rfl, 0, rfl, by omega, by intro u hu; simp at hu⟩, ?_⟩
  rintro i w2 ⟨rfl, k, rfl, hk, hno⟩
  intros
  refine af (fun h1 => ?_) (fun h1 => ?_)
  ·have hkl : k < cs.length := by omega
   obtain ⟨a, sl, ha, hc, hint, _⟩ := h.2 k hkl
   refine aa ha ⟨by omega, h1, sl, by rw [show Int.toNat (k : Int) * 1 = k * 1 by omega]; exact hc, ?_⟩
   have hr1 : Calls Tryz.prog dZ ⟨[sl.v]⟩ w2 fun e w' => ∃ b, e = .returned (.bool b) /\ (b = false ↔ iu cs[k]) /\ w' = w2 := by
    refine qX _ ?_
    unfold oV
    refine (re sl cs[k] w2 hint).mono ?_
    rintro e w3 ⟨b, rfl, hb, rfl⟩
    exact ⟨b, rfl, _, rfl, ⟨fun hh => hb.1 (by simpa using hh), fun hh => by rw [hb.2 hh]; rfl⟩, rfl⟩
   refine hr1.mono ?_
   rintro e w21 ⟨b, rfl, hb, rfl⟩
   refine ⟨b, rfl, ai (fun h2 => ⟨_, rfl, ⟨fun hh => by omega, fun hh => by have := hb.2 (hh _ (List.getElem_mem hkl)); rw [h2] at this; cases this⟩, rfl⟩) (fun h2 => ?_)⟩
   refine ⟨ar (by omega), ⟨rfl, k + 1, rfl, hkl, fun u hu => ?_⟩, by dsimp only; omega⟩
   have e5 : cs.take (k + 1) = cs.take k ++ [cs[k]] := by rw [List.take_add_one, List.getElem?_eq_getElem hkl]; rfl
   rw [e5, List.mem_append, List.mem_singleton] at hu
   rcases hu with h6 | rfl
   ·exact hno u h6
   ·exact hb.1 h2
  ·rw [List.take_of_length_le (by omega)] at hno
   exact ⟨_, rfl, ⟨fun _ => hno, fun _ => by decide⟩, rfl⟩
 refine ew _ ?_
 unfold cj
 refine hi.mono ?_
 rintro e w' ⟨i, rfl, hv, rfl⟩
 refine ⟨i, rfl, _, rfl, ⟨fun hh => hv.1 (by simpa using hh), fun hh => by have := hv.2 hh; simp; omega⟩, rfl⟩
theorem DW (c : Nat) : Slc.sub (⟨none, 0, 0⟩ : Slc) 1 0 c c = ⟨none, c, c⟩ := by
 unfold Slc.sub; split <;> simp
theorem AK (n : Nat) (hn : n <= 1000) (w : World) :
  Calls Tryz.prog fv ⟨[Slc.v ⟨none, 0, 0⟩, .int .i64 (n : Int)]⟩ w fun e w' => ∃ t : Slc, e = .returned t.v /\ az w' t [] /\ aj w w' /\ ∀ k, ah t k -> w.heap.size <= k := by
 refine nM _ _ ?_
 unfold lg
 refine ⟨fun w2 => w2 = w, af (fun h => by omega) (fun _ => rfl), ?_⟩
 rintro w4 rfl
 intros
 dsimp only
 refine ⟨ar (by omega), ar (by omega), af (fun h => ?_) (fun h => ⟨_, rfl, az.nil _, Ext.refl _ _, by rintro k ⟨a, ha, _⟩; cases ha⟩)⟩
 refine ⟨by omega, by omega, by omega, by omega, ?_⟩
 rw [DW]
 have en : Int.toNat ((n : Int) - (((0 : Nat) : Int) - ((0 : Nat) : Int))) = n := by omega
 refine ⟨by omega, by simp only [en]; omega, [], rfl, .inl rfl, fun _ a ha => (by cases ha), fun s9 w10 hA => ?_⟩
 rw [en] at hA
 rcases hA with ⟨hf, _⟩ | ⟨hg, cap, hc, rfl, rfl⟩
 ·simp only at hf; omega
 simp only [Nat.zero_add] at hc ⊢
 have hb : (w4.drew.alloc (.cells ⟨[] ++ bh n [.int .i64 0] ++ bh (cap - n) [.int .i64 0]⟩ 3)).heap[w4.heap.size]? = some (.cells ⟨bh n [.int .i64 0] ++ bh (cap - n) [.int .i64 0]⟩ 3) := iA w4.drew _
 refine ⟨by omega, by omega, by omega, by omega, ?_⟩
 have e1 : Slc.sub (⟨some ⟨w4.heap.size, 0, none⟩, n, cap⟩ : Slc) 1 0 0 cap = ⟨some ⟨w4.heap.size, 0, none⟩, 0, cap⟩ := by
  unfold Slc.sub; split <;> simp [Addr.add]
 rw [e1]
 refine ⟨_, rfl, ⟨⟨rfl, .inr ⟨_, bh n [.int .i64 0] ++ bh (cap - n) [.int .i64 0], 3, (0, 0), rfl, hb, ?_, vj _⟩⟩, rfl, fun i h => by simp at h, fun k hk => (kh (l := []) hk).elim⟩, (Ext.drew jW w4).trans (Ext.alloc _ _ _) (fun _ h => h) (fun _ h => .inl h), by rintro k ⟨a, ha, rfl⟩; cases ha; exact Nat.le_refl _⟩
 simp [bX, qZ]; omega
theorem az.app {E : TypeId} {z : List Value} {w : World} {s sl : Slc} {l c : List Int} {K : Slc -> World -> Prop} (h : az w s l) (hz : z.length = 1) (hc : cI w sl c) (hlen : l.length + c.length <= 2 ^ 30)
  (hK : ∀ s' w', az w' s' (l ++ c) -> Ext (ah s) w w' -> (∀ k, ah s' k -> ah s k \/ w.heap.size <= k) -> K s' w') : aM 1 E z w s (.slc sl) K := by
 have hsl := h.sl
 have hcl := hc.1
 have ho := h.own
 rw [gj] at ho
 have hone : ∀ v ∈ c.map (fun x => Value.int .i64 x), v.oneCell' = true := by
  intro v hv
  obtain ⟨x, _, rfl⟩ := List.mem_map.1 hv
  rfl
 refine dK ho (by decide) hz (iw hc.2 (by simp [hcl])) hone (by simp only [Src.n]; omega) (fun s' w' q1 q2 q3 q4 => hK s' w' ⟨?_, by simp, fun i hi hi' => by rw [List.getElem_map]; rfl, fun k hk => (kh hk).elim⟩ q2 q3)
 rw [gj, List.map_append]
 exact q1
theorem tH (cs : List (List Int)) (k : Nat) (hk : k < cs.length) : (cs.take (k + 1)).flatten = (cs.take k).flatten ++ cs[k] := by
 have e5 : cs.take (k + 1) = cs.take k ++ [cs[k]] := by rw [List.take_add_one, List.getElem?_eq_getElem hk]; rfl
 rw [e5, List.flatten_append]; simp
theorem xI (cs : List (List Int)) (k : Nat) : (cs.take k).flatten.length <= cs.flatten.length := by
 conv => rhs; rw [<- List.take_append_drop k cs]
 rw [List.flatten_append, List.length_append]; omega
theorem xJ (s : Slc) (cs : List (List Int)) (w : World) (h : Chs w s cs) (hl : cs.flatten.length <= 1000) (hcl : cs.length <= 2 ^ 40) :
  Calls Tryz.prog eG ⟨[s.v]⟩ w fun e w' => ∃ t : Slc, e = .returned t.v /\ az w' t cs.flatten /\ aj w w' /\ ∀ k, ah t k -> w.heap.size <= k := by
 have hsl := h.1
 refine ma _ ?_
 unfold jq
 refine ⟨fun n i w2 => w2 = w /\ ∃ k : Nat, i = k /\ k <= cs.length /\ n = ((cs.take k).flatten.length : Nat), fun _ i _ => ((cs.length : Int) - i).toNat, ⟨rfl, 0, rfl, by omega, by simp⟩, ?_⟩
 rintro n i w6 ⟨rfl, k, rfl, hk, rfl⟩
 intros
 refine af (fun h1 => ?_) (fun h1 => ?_)
 ·have hkl : k < cs.length := by omega
  obtain ⟨a, sl, ha, hc, hint, _⟩ := h.2 k hkl
  have hil := hint.1
  have h3 := tH cs k hkl
  have h4 := xI cs (k + 1)
  rw [h3, List.length_append] at h4
  refine aa ha ⟨by omega, h1, sl, by rw [show Int.toNat (k : Int) * 1 = k * 1 by omega]; exact hc, ar (by omega), af (fun h2 => by omega) (fun _ => ⟨ar (by omega), ⟨rfl, k + 1, rfl, hkl, ?_⟩, by dsimp only; omega⟩)⟩
  rw [h3, List.length_append]; omega
 ·obtain rfl : k = cs.length := by omega
  rw [List.take_length]
  refine (AK _ hl w6).mono ?_
  rintro e w22 ⟨t, rfl, ht, k22, ft⟩
  refine ⟨t, rfl, fun t i w2 => ∃ k : Nat, i = k /\ k <= cs.length /\ az w2 t (cs.take k).flatten /\ aj w6 w2 /\ ∀ k, ah t k -> w6.heap.size <= k, fun _ i _ => ((cs.length : Int) - i).toNat, ⟨0, rfl, by omega, ht, k22, ft⟩, ?_⟩
  rintro t2 i w28 ⟨k, rfl, hk, ht2, k28, ft2⟩
  intros
  refine af (fun h1 => ?_) (fun h1 => ?_)
  ·have hkl : k < cs.length := by omega
   obtain ⟨a, sl, ha, hc, hint, _⟩ := (h.ae k28).2 k hkl
   have h3 := tH cs k hkl
   have h4 := xI cs (k + 1)
   rw [h3, List.length_append] at h4
   refine aa ha ⟨by omega, h1, sl, by rw [show Int.toNat (k : Int) * 1 = k * 1 by omega]; exact hc, ht2.app rfl hint (by omega) (fun s' w' g1 g2 g3 => ?_)⟩
   have z28 := k28.size
   exact ⟨ar (by omega), ⟨k + 1, rfl, hkl, by rw [h3]; exact g1, k28.ext g2 ft2, fun x hx => (g3 x hx).elim (ft2 x) (fun h => by omega)⟩, by dsimp only; omega⟩
  ·obtain rfl : k = cs.length := by omega
   rw [List.take_length] at ht2
   exact ⟨t2, rfl, ht2, k28, ft2⟩
theorem xK (ep : Int) (s : Slc) (cs : List (List Int)) (w : World) (h : Chs w s cs) (hl : cs.flatten.length <= 12) (hcl : cs.length <= 2 ^ 40) :
  Calls Tryz.prog jc ⟨[.agg ⟨[.int .i64 ep, s.v]⟩]⟩ w fun e w' => ∃ (t : Slc) (l : List Int), e = .returned t.v /\ l.Perm cs.flatten /\ fj l l.length /\ az w' t l /\ aj w w' /\ ∀ k, ah t k -> w.heap.size <= k := by
 refine wS _ _ ?_
 unfold wQ
 refine ak (fun r3 w4 hr3 hb3 k4 hs4 => ?_)
 refine ⟨s, (ao.eV hb3).cell 1 (by simp), ?_⟩
 refine (xJ s cs w4 (h.ae k4) (by omega) hcl).mono ?_
 rintro e w7 ⟨t, rfl, ht, k7, ft⟩
 refine ⟨t, rfl, (AJ t _ w7 ht hl).mono ?_⟩
 rintro e w10 ⟨rfl, l', hp, hs, hi, he⟩
 have z4 := k4.size
 have ft' : ∀ k, ah t k -> w.heap.size <= k := fun k hk => by have := ft k hk; omega
 exact ⟨rfl, t, l', rfl, hp, by rw [hp.length_eq]; exact hs, hi, (k4.trans k7).ext he ft', ft'⟩
theorem qO (s : Slc) (l : List Int) (w : World) (h : cI w s l) (hl : l.length <= 2 ^ 30) :
  Calls Tryz.prog dm ⟨[s.v]⟩ w fun e w' => ∃ t : Slc, e = .returned t.v /\ az w' t l /\ aj w w' /\ ∀ k, ah t k -> w.heap.size <= k := by
 refine mS _ ?_
 unfold j6
 refine ai (fun h1 => ?_) (fun h1 => ?_)
 ·have hp : s.p = none := by simpa using h1
  have hb0 : l = [] := by
   rcases h.2 with h0 | ⟨a, ha, _⟩
   ·simpa using h0
   ·rw [hp] at ha; cases ha
  subst hb0
  exact ⟨_, rfl, az.nil _, Ext.refl _ _, by rintro k ⟨a, ha, _⟩; cases ha⟩
 ·refine ak (fun r2 w3 hr2 hb2 k3 hs3 => ?_)
  refine (az.new hb2).app rfl (dL h k3) (by simp; omega) (fun s' w' g1 g2 g3 => ⟨s', rfl, by simpa using g1, k3.ext g2 (fun k hk => ?_), fun k hk => ?_⟩)
  ·obtain ⟨a, ha, rfl⟩ := hk; cases ha; show w.heap.size <= r2; omega
  ·have := k3.size
   rcases g3 k hk with h2 | h2
   ·obtain ⟨a, ha, rfl⟩ := h2; cases ha; show w.heap.size <= r2; omega
   ·omega
def zN (l : List Int) : Prop := ∀ j (h : j < l.length), 0 < j -> l[j] ≠ l[j - 1]'(by omega)
theorem vM (s : Slc) (l : List Int) (w : World) (h : az w s l) (hl : l.length <= 2 ^ 30) :
  Calls Tryz.prog ei ⟨[s.v]⟩ w fun e w' => ∃ t : Slc, e = .returned t.v /\ (t.l = l.length ↔ zN l) /\ Ext (ah s) w w' := by
 have hsl := h.sl
 have hcap := h.cap
 refine ly _ ?_
 unfold iK
 refine af (fun h1 => ⟨s, rfl, ⟨fun _ j hj h0 => by omega, fun _ => hsl⟩, Ext.refl _ _⟩) (fun h1 => ?_)
 refine ⟨fun k w2 => ∃ m : Nat, k = m /\ 1 <= m /\ m <= l.length /\ (∀ j (h : j < l.length), 0 < j -> j < m -> l[j] ≠ l[j - 1]'(by omega)) /\ aj w w2, fun k _ => ((l.length : Int) - k).toNat, ⟨1, rfl, by omega, by omega, fun j _ _ _ => by omega, Ext.refl _ _⟩, ?_⟩
 rintro k w5 ⟨m, rfl, hm1, hml, hno, k5⟩
 intros
 refine af (fun h2 => ?_) (fun h2 => ⟨s, rfl, ⟨fun _ j hj h0 => hno j hj h0 (by omega), fun _ => hsl⟩, k5.mono (fun _ h => h.elim)⟩)
 have hm : m < l.length := by omega
 have kd := k5.drew
 have hd := h.ae kd
 have hm1' : m - 1 < l.length := by omega
 obtain ⟨a, ha, c1⟩ := hd.get hm
 obtain ⟨a', ha', c2⟩ := hd.get hm1'
 rw [ha] at ha'
 cases ha'
 have e1 : Int.toNat ((m : Int) - 1) * 1 = (m - 1) * 1 := by omega
 have e2 : Int.toNat (m : Int) * 1 = m * 1 := by omega
 refine aa ha ⟨by omega, by omega, _, by rw [e2]; exact c1, ar (by omega), aa ha ⟨by omega, by omega, _, by rw [e1]; exact c2, af (fun h3 => ?_) (fun h3 => ?_)⟩⟩
 ·-- the second loop
  have hsp : a.spot = none := by
   obtain ⟨_, ⟨hp, _⟩ | ⟨b, pad, T, f, hp, _⟩⟩ := h.own
   ·rw [hp] at ha; cases ha
   ·rw [hp] at ha; cases ha; rfl
  rw [show Int.toNat (m : Int) = m by omega]
  have es : Slc.sub s 1 m s.l s.c = ⟨some (a.add (m * 1)), s.l - m, s.c - m⟩ := by
   unfold Slc.sub
   rw [if_neg (by omega), ha]; rfl
  rw [es]
  dsimp only
  refine ⟨by omega, by omega, by omega, by omega, fun k i w2 => ∃ (x y : Nat) (l2 : List Int), k = x /\ i = y /\ 1 <= y /\ x + 1 <= m + y /\ y <= l.length - m /\ l2.length = l.length /\ az w2 s l2 /\ Ext (ah s) w w2, fun _ i _ => ((l.length : Int) - m - i).toNat,
   ⟨m, 1, l, rfl, rfl, by omega, by omega, by omega, rfl, hd, kd.mono (fun _ h => h.elim)⟩, ?_⟩
  rintro k i w68 ⟨x, y, l2, rfl, rfl, hy1, hxy, hy, hl2, h68, e68⟩
  intros
  have h68d := h68.ae (Ext.drew _ w68)
  have e68d : Ext (ah s) w w68.drew := e68.trans (Ext.drew _ _) (fun _ h => h) (fun _ h => .inl h)
  refine af (fun h4 => ?_) (fun h4 => ?_)
  ·have i1 : m + y < l2.length := by omega
   have i2 : m + (y - 1) < l2.length := by omega
   have at_ : ∀ j (hj : m + j < l2.length), World.cell? w68.drew (Addr.add (a.add (m * 1)) (j * 1)) = some (.int .i64 l2[m + j]) := by
    intro j hj
    obtain ⟨a', ha', c⟩ := h68d.get hj
    rw [ha] at ha'
    cases ha'
    rw [oD a (m * 1) (j * 1) hsp, show m * 1 + j * 1 = (m + j) * 1 by omega]
    exact c
   have next : ∀ (x' : Nat) (l3 : List Int) (w3 : World), x' <= x + 1 -> l3.length = l.length -> az w3 s l3 -> Ext (ah s) w w3 -> inR .i64 ((y : Int) + 1) /\ (∃ (x2 y2 : Nat) (l2 : List Int), (x' : Int) = x2 /\ ((y : Int) + 1) = y2 /\ 1 <= y2 /\ x2 + 1 <= m + y2 /\ y2 <= l.length - m /\ l2.length = l.length /\ az w3 s l2 /\ Ext (ah s) w w3) /\ ((l.length : Int) - m - ((y : Int) + 1)).toNat < ((l.length : Int) - m - (y : Int)).toNat :=
    fun x' l3 w3 b1 b2 b3 b4 => ⟨ar (by omega), ⟨x', y + 1, l3, rfl, by omega, by omega, by omega, by omega, b2, b3, b4⟩, by omega⟩
   have f1 : Int.toNat ((y : Int) - 1) * 1 = (y - 1) * 1 := by omega
   have f2 : Int.toNat (y : Int) * 1 = y * 1 := by omega
   refine aa rfl ⟨by omega, by omega, _, by rw [f2]; exact at_ y i1, ar (by omega), aa rfl ⟨by omega, by omega, _, by rw [f1]; exact at_ (y - 1) i2, dY (fun h5 => ?_) (fun h5 => next x l2 _ (by omega) hl2 h68d e68d)⟩⟩
   have hx : x < l2.length := by omega
   obtain ⟨cw, g⟩ := h68d.set hx l2[m + y] ha
   have f3 : Int.toNat (x : Int) * 1 = x * 1 := by omega
   refine aa rfl ⟨by omega, by omega, _, by rw [f2]; exact at_ y i1, aa ha ⟨by omega, by omega, by rw [f3]; exact cw, fun w101 hw => ?_⟩⟩
   obtain ⟨g1, g2, g3⟩ := g w101 (by rw [hw, f3])
   exact ⟨ar (by omega), next (x + 1) _ w101 (by omega) (by simp [hl2]) g1 (e68d.trans g2 (fun _ h => h) (fun _ h => .inl h))⟩
  ·refine ⟨by omega, by omega, by omega, by omega, ?_⟩
   rw [show Int.toNat (x : Int) = x by omega]
   refine h68.cut (by omega) (fun w' g1 g2 g3 => ⟨by omega, by omega, by omega, by omega, _, rfl, ⟨fun hh => ?_, fun hh => absurd h3 (hh m hm (by omega))⟩, e68.trans g2 (fun _ h => h) (fun _ h => .inl h)⟩)
   simp only [Slc.sub] at hh
   omega
 ·refine ⟨ar (by omega), ⟨m + 1, rfl, by omega, by omega, fun j hj h0 hjm => ?_, kd⟩, by dsimp only; omega⟩
  by_cases hjm2 : j = m
  ·subst hjm2; exact h3
  ·exact hno j hj h0 (by omega)
end Go.D
namespace Go.D
open Go Go.Proofs
def ct (ep : Int) (cs : List (List Int)) : Prop := (0 <= ep /\ ep <= 1073741824) /\ (1 <= cs.length /\ cs.length <= 3) /\ (∀ c ∈ cs, iu c) /\ cs.flatten.Nodup
theorem rm (m : Nat) : ∀ (cs : List (List Int)), (∀ c ∈ cs, c.length <= m) -> cs.flatten.length <= cs.length * m
 | [], _ => by simp
 | c :: cs, h => by
  have h1 := rm m cs (fun d hd => h d (by simp [hd]))
  have h2 := h c (by simp)
  rw [List.flatten_cons, List.length_append, List.length_cons, Nat.add_mul]; omega
theorem uq {l : List Int} (h : fj l l.length) : zN l ↔ l.Nodup := by
 constructor
 ·intro hn
  rw [List.nodup_iff_pairwise_ne, List.pairwise_iff_getElem]
  intro i j hi hj hij he
  have h1 := h i (j - 1) hi (by omega)
  have h2 := h (j - 1) j (by omega) hj (by omega) (by omega)
  have h3 : l[i] <= l[j - 1]'(by omega) := by
   by_cases e : i = j - 1
   ·subst e; exact Int.le_refl _
   ·exact h i (j - 1) hi (by omega) (by omega) (by omega)
  have h4 := hn j hj (by omega)
  omega
 ·intro hn j hj h0 he
  rw [List.nodup_iff_pairwise_ne, List.pairwise_iff_getElem] at hn
  exact hn (j - 1) j (by omega) hj (by omega) he.symm
theorem kM (ep : Int) (s : Slc) (cs : List (List Int)) (w : World) (h : Chs w s cs) (hcl : cs.length <= 2 ^ 40) :
  Calls Tryz.prog ef ⟨[.agg ⟨[.int .i64 ep, s.v]⟩]⟩ w fun e w' => ∃ b, e = .returned (.bool b) /\ (b = true ↔ ct ep cs) /\ aj w w' := by
 have hsl := h.1
 refine tX _ _ ?_
 unfold sB
 refine ak (fun r3 w4 hr3 hb3 k4 hs4 => ?_)
 have o4 := ao.eV hb3
 have no : ∀ w', aj w w' -> ¬ ct ep cs -> ∃ b, Ending.returned (Value.bool false) = .returned (.bool b) /\ (b = true ↔ ct ep cs) /\ aj w w' := fun w' k hn => ⟨false, rfl, ⟨fun hh => (by cases hh), fun hh => absurd hh hn⟩, k⟩
 refine ⟨fun w' => w' = w4 /\ (0 <= ep /\ ep <= 1073741824) /\ (1 <= cs.length /\ cs.length <= 3), ?_, ?_⟩
 ·refine ⟨ep, o4.cell 0 (by simp), af (fun h1 => no _ k4 (fun hh => by have := hh.1; omega)) (fun h1 => ?_)⟩
  refine ⟨ep, o4.cell 0 (by simp), af (fun h2 => no _ k4 (fun hh => by have := hh.1; omega)) (fun h2 => ?_)⟩
  refine ⟨s, o4.cell 1 (by simp), af (fun h3 => no _ k4 (fun hh => by have := hh.2.1; omega)) (fun h3 => ?_)⟩
  exact ⟨s, o4.cell 1 (by simp), af (fun h4 => no _ k4 (fun hh => by have := hh.2.1; omega)) (fun h4 => ⟨rfl, by omega, by omega⟩)⟩
 rintro w10 ⟨rfl, hep, hlen⟩
 intros
 have h4 := h.ae k4
 refine ⟨s, o4.cell 1 (by simp), (jT s cs w10 h4 hcl).mono ?_⟩
 rintro e w34 ⟨b, rfl, hb, rfl⟩
 refine ⟨b, rfl, ai (fun h1 => no _ k4 (fun hh => by have := hb.2 hh.2.2.1; rw [h1] at this; cases this)) (fun h1 => ?_)⟩
 have hch := hb.1 h1
 have hfl : cs.flatten.length <= 9 := by
  have := rm 3 cs (fun c hc => (hch c hc).2.1)
  omega
 refine ⟨ep, s, o4.row, (xK ep s cs w34 h4 (by omega) hcl).mono ?_⟩
 rintro e w39 ⟨t, l, rfl, hp, hs, ht, k39, ft⟩
 have hpl := hp.length_eq
 have htl := ht.sl
 refine ⟨t, rfl, (qO t l w39 ht.ints (by omega)).mono ?_⟩
 rintro e w42 ⟨t2, rfl, ht2, k42, ft2⟩
 refine ⟨t2, rfl, (vM t2 l w42 ht2 (by omega)).mono ?_⟩
 rintro e w45 ⟨t3, rfl, h3, e45⟩
 have z4 := k4.size
 have z39 := k39.size
 refine ⟨t3, rfl, _, rfl, ?_, ((k4.trans k39).trans k42).ext e45 (fun k hk => by have := ft2 k hk; omega)⟩
 have e1 : (decide (((t3.l : Nat) : Int) = ((t.l : Nat) : Int)) = true) ↔ t3.l = l.length := by rw [htl, decide_eq_true_iff]; omega
 rw [e1, h3, uq hs, hp.nodup_iff]
 exact ⟨fun hh => ⟨hep, hlen, hch, hh⟩, fun hh => hh.2.2.2⟩
theorem AL {l : List Int} (h : fj l l.length) (hn : l.Nodup) : l.Pairwise (·< ·) := by
 rw [List.pairwise_iff_getElem]
 intro i j hi hj hij
 have h1 := h i j hi hj hij hj
 rw [List.nodup_iff_pairwise_ne, List.pairwise_iff_getElem] at hn
 have h2 := hn i j hi hj hij
 omega
end Go.D
namespace Go.D
open Go Go.Proofs
theorem y9 (ep : Int) (s : Slc) (cs : List (List Int)) (w : World) (h : Chs w s cs) (hcl : cs.length <= 2 ^ 40) :
  Calls Tryz.prog jI ⟨[.agg ⟨[.int .i64 ep, s.v]⟩]⟩ w fun e w' => ∃ (t : Slc) (l : List Int), e = .returned t.v /\ cI w' t l /\ aj w w' /\ (¬ ct ep cs -> l = []) /\ (ct ep cs -> l.Pairwise (·< ·) /\ ∀ x, x ∈ l ↔ x ∈ cs.flatten) := by
 refine tY _ _ ?_
 unfold sC
 refine ak (fun r3 w4 hr3 hb3 k4 hs4 => ?_)
 have o4 := ao.eV hb3
 refine ⟨ep, s, o4.row, (kM ep s cs w4 (h.ae k4) hcl).mono ?_⟩
 rintro e w8 ⟨b, rfl, hb, k8'⟩
 have k8 := k4.trans k8'
 refine ⟨b, rfl, ai (fun h1 => ?_) (fun h1 => ?_)⟩
 ·have hn : ¬ ct ep cs := fun hh => by rw [hb.2 hh] at h1; cases h1
  exact ⟨_, [], rfl, ⟨rfl, .inl rfl⟩, k8, fun _ => rfl, fun hh => absurd hh hn⟩
 ·have hr : ct ep cs := hb.1 (by simpa using h1)
  have hfl : cs.flatten.length <= 9 := by
   have := rm 3 cs (fun c hc => (hr.2.2.1 c hc).2.1)
   have := hr.2.1
   omega
  refine ⟨ep, s, (o4.ae k8').row, (xK ep s cs w8 (h.ae k8) (by omega) hcl).mono ?_⟩
  rintro e w13 ⟨t, l, rfl, hp, hs, ht, k13, ft⟩
  exact ⟨t, rfl, t, l, rfl, ht.ints, k8.trans k13, fun hh => absurd hr hh, fun _ => ⟨AL hs (hp.nodup_iff.2 hr.2.2.2), fun x => hp.mem_iff⟩⟩
def plG : List Nat := [aD, av]
theorem zc (A : Nat -> Addr) (n0 : Nat) (ep : Int) (s : Slc) (cs : List (List Int)) (a : Int) (w : World) (h : Chs w s cs) (hcl : cs.length <= 2 ^ 40) (hE : bn plG A n0 w) :
    Calls Tryz.prog jL ⟨[.agg ⟨[.int .i64 ep, s.v]⟩, .int .i64 a]⟩ w fun e w' => aj w w' /\
      ((¬ ct ep cs /\ e = .returned (.tuple ⟨[.int .i64 0, .int .i64 0, iV A (eM.getD 3 0)]⟩)) \/
       (ct ep cs /\ ¬ (0 <= a /\ a < 4096) /\ e = .returned (.tuple ⟨[.int .i64 0, .int .i64 0, iV A (eM.getD 0 0)]⟩)) \/
       (ct ep cs /\ (0 <= a /\ a < 4096) /\ e = .returned (.tuple ⟨[.int .i64 (a % (cs.length : Int)), .int .i64 (a / (cs.length : Int)), .nilIface]⟩))) := by
  have hsl := h.1
  refine tZ _ _ _ ?_
  unfold sD
  refine ak (fun r3 w4 hr3 hb3 k4 hs4 => ?_)
  have o4 := ao.eV hb3
  refine ⟨ep, s, o4.row, (kM ep s cs w4 (h.ae k4) hcl).mono ?_⟩
  rintro e w8 ⟨b, rfl, hb, k8'⟩
  have k8 := k4.trans k8'
  have kd := k8.drew
  refine ⟨b, rfl, ai (fun h1 => ?_) (fun h1 => ?_)⟩
  · have hn : ¬ ct ep cs := fun hh => by rw [hb.2 hh] at h1; cases h1
    exact ⟨_, dx (hE.ae kd) 3 _ rfl (by simp [plG]), kd, .inl ⟨hn, rfl⟩⟩
  · have hr : ct ep cs := hb.1 (by simpa using h1)
    refine af (fun h2 => ⟨_, dx (hE.ae kd) 0 _ rfl (by simp [plG]), kd, .inr (.inl ⟨hr, by omega, rfl⟩)⟩) (fun h2 => ?_)
    refine af (fun h3 => ⟨_, dx (hE.ae kd) 0 _ rfl (by simp [plG]), kd, .inr (.inl ⟨hr, by omega, rfl⟩)⟩) (fun h3 => ?_)
    have h5 := hr.2.1
    refine ⟨s, (o4.ae k8').cell 1 (by simp), by omega, by omega, by omega, by omega, ar (by omega), kd, .inr (.inr ⟨hr, by omega, ?_⟩)⟩
    rw [hsl]
def stepT (n c : Nat) (out t : Int) : Int :=
 if 0 < t then (if out < ((if 4096 < t then 4096 else t) - 1) * (n : Int) + c + 1 then ((if 4096 < t then 4096 else t) - 1) * (n : Int) + c + 1 else out) else out
def tl (n : Nat) (ts : List Int) : Nat -> Int
 | 0 => 0
 | c + 1 => stepT n c (tl n ts c) (ts.getD c 0)
end Go.D
namespace Go.D
open Go Go.Proofs
theorem tI {w : World} {a : Addr} {k : Nat} {v : Value} (h : w.cell? (a.add k) = some v) : a.block < w.heap.size := by
 have := World.block_lt_of_cell? w _ h
 rwa [cM] at this
structure kN (w : World) (F : Nat -> Prop) (s : Slc) (c : List Int) : Prop where
 i : cI w s c
 cap : s.l <= s.c
 ne : 0 < c.length
 f : ∀ k, ah s k -> ¬ F k
structure PlF (w : World) (F : Nat -> Prop) (s : Slc) (cs : List (List Int)) : Prop where
 l : s.l = cs.length
 row : ∀ i (h : i < cs.length), ∃ (a : Addr) (sl : Slc), s.p = some a /\ World.cell? w (a.add (i * 1)) = some sl.v /\ cI w sl cs[i] /\ sl.l <= sl.c /\ ¬ F a.block /\ (0 < cs[i].length -> ∀ k, ah sl k -> ¬ F k)
section
variable {A : Nat -> Addr} {w w' : World} {n0 N m m' : Nat} {r rd : Nat -> Nat} {f f' f'' : Nat -> UnF} {d d' : Nat -> aF} {S S' : Nat -> UnS} {us : Slc} {up : Nat -> Bool} {s sc : Slc} {cs : List (List Int)} {c : List Int}
theorem mu (h : cI w s c) (hc : 0 < c.length) : ∀ k, ah s k -> k < w.heap.size := by
 rintro k ⟨a, ha, rfl⟩
 obtain ⟨a', ha', hcell⟩ := gN h hc
 rw [ha] at ha'; cases ha'
 exact tI hcell
theorem kN.to (h : kN w (FB N r rd f) s c) (ht : FTo N r rd f f' w w') : kN w' (FB N r rd f') s c :=
 ⟨nu h.i ht.1 h.f, h.cap, h.ne, fun k hk hh => (ht.2.1 k hh).elim (h.f k hk) (fun g => by have := mu h.i h.ne k hk; omega)⟩
theorem kN.ae {F : Nat -> Prop} (h : kN w F s c) (hk : aj w w') : kN w' F s c := ⟨dL h.i hk, h.cap, h.ne, h.f⟩
theorem PlF.chs {F : Nat -> Prop} (h : PlF w F s cs) : Chs w s cs := ⟨h.l, fun i hi => by
 obtain ⟨a, sl, h1, h2, h3, h4, _⟩ := h.row i hi
 exact ⟨a, sl, h1, h2, h3, h4⟩⟩
theorem PlF.ae {F : Nat -> Prop} (h : PlF w F s cs) (hk : aj w w') : PlF w' F s cs := ⟨h.l, fun i hi => by
 obtain ⟨a, sl, h1, h2, h3, h4, h5, h6⟩ := h.row i hi
 exact ⟨a, sl, h1, hk.cell h2, dL h3 hk, h4, h5, h6⟩⟩
theorem vN {M : Nat -> Prop} (h : cI w s c) (he : Ext M w w') (hm : 0 < c.length -> ∀ k, ah s k -> ¬ M k) : cI w' s c := by
 rcases Nat.eq_zero_or_pos c.length with h0 | h0
 ·have : c = [] := List.length_eq_zero_iff.1 h0
  subst this
  exact ⟨h.1, .inl rfl⟩
 ·exact nu h he (hm h0)
theorem PlF.ext {F M : Nat -> Prop} {F' : Nat -> Prop} (h : PlF w F s cs) (he : Ext M w w') (hm : ∀ k, M k -> F k) (hf : ∀ k, F' k -> F k \/ w.heap.size <= k) : PlF w' F' s cs := ⟨h.l, fun i hi => by
 obtain ⟨a, sl, h1, h2, h3, h4, h5, h6⟩ := h.row i hi
 refine ⟨a, sl, h1, he.cell h2 (fun hh => h5 (hm _ (by rw [cM] at hh; exact hh))), vN h3 he (fun h0 k hk hh => h6 h0 k hk (hm k hh)), h4, fun hh => (hf _ hh).elim h5 (fun g => by have := tI h2; omega), fun h0 k hk hh => (hf k hh).elim (h6 h0 k hk) (fun g => by have := mu h3 h0 k hk; omega)⟩⟩
theorem PlF.to (h : PlF w (FB N r rd f) s cs) (ht : FTo N r rd f f' w w') : PlF w' (FB N r rd f') s cs := h.ext ht.1 (fun _ h => h) ht.2.1
theorem PlF.old {w0 : World} (h : Chs w0 s cs) (hk : aj w0 w) {F : Nat -> Prop} (hF : ∀ k, F k -> w0.heap.size <= k) : PlF w F s cs := ⟨h.1, fun i hi => by
 obtain ⟨a, sl, h1, h2, h3, h4⟩ := h.2 i hi
 exact ⟨a, sl, h1, hk.cell h2, dL h3 hk, h4, fun hh => by have := hF _ hh; have := tI h2; omega, fun h0 k hk hh => by have := hF _ hh; have := mu h3 h0 k hk; omega⟩⟩
theorem PlF.at {F : Nat -> Prop} (h : PlF w F s cs) {i : Nat} (hi : i < cs.length) (hne : 0 < cs[i].length) : ∃ (a : Addr) (sl : Slc), s.p = some a /\ World.cell? w (a.add (i * 1)) = some sl.v /\ kN w F sl cs[i] := by
 obtain ⟨a, sl, h1, h2, h3, h4, h5, h6⟩ := h.row i hi
 exact ⟨a, sl, h1, h2, h3, h4, hne, h6 hne⟩
instance DX (ep : Int) (cs : List (List Int)) : Decidable (ct ep cs) := by unfold ct iu pJ; infer_instance
def plE (ep : Int) (cs : List (List Int)) (a : Int) : Option Nat := if ¬ ct ep cs then some 3 else if ¬ (0 <= a /\ a < 4096) then some 0 else none
def iT (cs : List (List Int)) (a : Int) : List Int := cs.getD (a % (cs.length : Int)).toNat []
theorem DC {ep : Int} {a : Int} (h : plE ep cs a = none) : ct ep cs /\ 0 <= a /\ a < 4096 := by
 unfold plE at h
 by_cases h1 : ct ep cs
 ·rw [if_neg (by simpa using h1)] at h
  by_cases h2 : 0 <= a /\ a < 4096
  ·exact ⟨h1, h2⟩
  ·rw [if_pos h2] at h; cases h
 ·rw [if_pos h1] at h; cases h
theorem kO {ep : Int} (h : ct ep cs) {a : Int} : ∃ i, ∃ hi : i < cs.length, (a % (cs.length : Int)).toNat = i /\ iT cs a = cs[i] /\ iu cs[i] /\ a % (cs.length : Int) = i := by
 have h2 := h.2.1
 have h3 := Int.emod_nonneg a (show (cs.length : Int) ≠ 0 by omega)
 have h4 := Int.emod_lt_of_pos a (show (0 : Int) < cs.length by omega)
 refine ⟨(a % (cs.length : Int)).toNat, by omega, rfl, ?_, h.2.2.1 _ (List.getElem_mem _), by omega⟩
 unfold iT
 rw [List.getD_eq_getElem?_getD, List.getElem?_eq_getElem (by omega), Option.getD_some]
theorem kP {F : Nat -> Prop} (ep : Int) (a : Int) (h : PlF w F s cs) (hcl : cs.length <= 2 ^ 40) (hE : cE A n0 w) :
  Calls Tryz.prog dB ⟨[.agg ⟨[.int .i64 ep, s.v]⟩, .int .i64 a]⟩ w fun e w' => aj w w' /\ ((∃ j, plE ep cs a = some j /\ e = .returned (.tuple ⟨[(⟨none, 0, 0⟩ : Slc).v, .int .i64 0, errO A (some j)]⟩)) \/
   (plE ep cs a = none /\ ∃ sc : Slc, e = .returned (.tuple ⟨[sc.v, .int .i64 (a / (cs.length : Int)), .nilIface]⟩) /\ kN w' F sc (iT cs a))) := by
 refine sj _ _ _ ?_
 unfold qB
 refine ak (fun r4 w5 hr4 hb4 k4 hs4 => ?_)
 have o4 := ao.eV hb4
 refine ⟨ep, s, o4.row, (zc A n0 ep s cs a w5 (h.ae k4).chs hcl ((hE.ae k4).g.sub (by decide))).mono ?_⟩
 rintro e w9 ⟨k9, hcase⟩
 have kk := k4.trans k9
 have o9 := o4.ae k9
 rcases hcase with ⟨hn, rfl⟩ | ⟨hr, hn, rfl⟩ | ⟨hr, ha, rfl⟩
 ·exact ⟨_, _, _, rfl, trivial, ai (fun _ => ⟨kk, .inl ⟨3, by unfold plE; rw [if_pos hn], rfl⟩⟩) (fun g => by cases g)⟩
 ·exact ⟨_, _, _, rfl, trivial, ai (fun _ => ⟨kk, .inl ⟨0, by unfold plE; rw [if_neg (by simpa using hr), if_pos hn], rfl⟩⟩) (fun g => by cases g)⟩
 ·obtain ⟨i, hi, e1, e2, hok, e3⟩ := kO hr (a := a)
  obtain ⟨a14, sl, ha14, hcell, hI⟩ := (h.ae kk).at hi hok.1
  have hl := h.l
  refine ⟨_, _, _, rfl, trivial, ai (fun g => by cases g) (fun _ => ⟨s, o9.cell 1 (by simp), aa ha14 ⟨by omega, by omega, sl, by rw [e1]; exact hcell, kk, .inr ⟨?_, sl, rfl, by rw [e2]; exact hI⟩⟩⟩)⟩
  unfold plE
  rw [if_neg (by simpa using hr), if_neg (by simpa using ha)]
theorem kN.cell {F : Nat -> Prop} (h : kN w F s c) {i : Nat} (hi : i < c.length) : ∃ a, s.p = some a /\ w.cell? (a.add (i * 1)) = some (.int .i64 c[i]) := by
 obtain ⟨a, ha, hc⟩ := gN h.i hi
 exact ⟨a, ha, by rw [Nat.mul_one]; exact hc⟩
theorem kN.sl {F : Nat -> Prop} (h : kN w F s c) : s.l = c.length := h.i.1
theorem add_zero' (a : Addr) : a.add 0 = a := by simp [Addr.add]
theorem kN.first {F : Nat -> Prop} (h : kN w F s c) : ∃ a, s.p = some a /\ w.cell? a = some (.int .i64 (c.getD 0 0)) := by
 obtain ⟨a, ha, hc⟩ := h.cell h.ne
 refine ⟨a, ha, ?_⟩
 rw [Nat.zero_mul, add_zero'] at hc
 rw [hc, List.getD_eq_getElem?_getD, List.getElem?_eq_getElem h.ne, Option.getD_some]
def zd (A : Nat -> Addr) (w : World) (n0 N m : Nat) (r rd : Nat -> Nat) (f : Nat -> UnF) (us : Slc) (up : Nat -> Bool) (p : Option Nat × (Nat -> UnS)) (x : Ending) (w' : World) : Prop :=
 x = .returned (errO A p.1) /\ ChP A w n0 N m r rd f us up p.2 w'
theorem ChP.from (ht : FTo N r rd f f' w w') {w'' : World} (h : ChP A w' n0 N m r rd f' us up S w'') : ChP A w n0 N m r rd f us up S w'' := by
 obtain ⟨f2, d2, h1, h2⟩ := h
 exact ⟨f2, d2, h1, ht.trans h2⟩
theorem qh (e a : Int) (t : List UInt8) (n : Int) (l : List Int) : othP N up e a t (n :: l) S = if (putP N up false e a t n S).1 = none then othP N up e a t l (putP N up false e a t n S).2 else putP N up false e a t n S := rfl
theorem mv (h : ChU A w n0 N m r rd f d S us up) (hm : m <= 2 ^ 57) (e a : Int) (hc : kN w (FB N r rd f) sc c) (hl : c.length <= 3) (b : Slc) (t : List UInt8) (hb : Txt w (FB N r rd f) b t) :
  Calls Tryz.prog ea ⟨[us.v, .int .i64 e, sc.v, .int .i64 a, b.v]⟩ w fun x w' => zd A w n0 N (m + 3) r rd f us up (othP N up e a t c.tail S) x w' := by
 refine qW _ _ _ _ _ ?_
 unfold oU
 have hsl := hc.sl
 have hne := hc.ne
 have hcap := hc.cap
 refine af (fun h1 => by omega) (fun _ => ⟨by omega, by omega, by omega, by omega, ?_⟩)
 have sub_l : (Slc.sub sc 1 1 sc.l sc.c).l = c.length - 1 := by simp [Slc.sub]; omega
 refine ⟨fun i w2 => ∃ (j : Nat) (f2 : Nat -> UnF) (d2 : Nat -> aF) (S2 : Nat -> UnS), i = j /\ j + 1 <= c.length /\ ChU A w2 n0 N (m + j) r rd f2 d2 S2 us up /\ FTo N r rd f f2 w w2 /\ othP N up e a t c.tail S = othP N up e a t (c.drop (j + 1)) S2, fun i _ => ((c.length : Int) - i).toNat,
  ⟨0, f, d, S, rfl, by omega, h, FTo.refl, by rw [List.drop_one]⟩, ?_⟩
 rintro i w10 ⟨j, f2, d2, S2, rfl, hj, h10, ft, heq⟩
 intros
 rw [sub_l]
 refine af (fun h1 => ?_) (fun h1 => ?_)
 ·have hj2 : j + 1 < c.length := by omega
  have hcw := hc.to ft
  obtain ⟨a27, ha27, hcell⟩ := gN (ym hcw.i (lo := 1) (hi := sc.l) (c := sc.c) (by omega) (by omega) (by omega)) (i := j) (by simp; omega)
  have hget : ((c.take sc.l).drop 1)[j]'(by simp; omega) = c[j + 1] := by simp [Nat.add_comm]
  rw [hget] at hcell
  refine aa ha27 ⟨by omega, by omega, _, by rw [Int.toNat_natCast, Nat.mul_one]; exact hcell, ?_⟩
  refine (jD h10 (by omega) c[j + 1] e a false b t (hb.to ft)).mono ?_
  rintro x w30 ⟨rfl, f3, d3, h30, ft3⟩
  have hd : c.drop (j + 1) = c[j + 1] :: c.drop (j + 2) := List.drop_eq_getElem_cons hj2
  rw [hd, qh] at heq
  refine ⟨_, rfl, aB A _, ?_⟩
  cases hp : (putP N up false e a t c[j + 1] S2).1 with
  | some x =>
   rw [hp, if_neg (by simp)] at heq
   refine ai (fun _ => ?_) (fun g => by cases g)
   rw [heq]
   exact ⟨by rw [hp], ChP.from ft ⟨f3, d3, h30.lift (by omega), ft3⟩⟩
  | none =>
   rw [hp, if_pos rfl] at heq
   refine ai (fun g => by cases g) (fun _ => ⟨ar (by omega), ⟨j + 1, f3, d3, _, rfl, by omega, h30.lift (by omega), ft.trans ft3, heq⟩, by dsimp only; omega⟩)
 ·have hjl : j + 1 = c.length := by omega
  rw [hjl, List.drop_length] at heq
  rw [heq]
  exact ⟨rfl, f2, d2, h10.lift (by omega), ft⟩
def B8 (A : Nat -> Addr) (w : World) (n0 N m : Nat) (r rd : Nat -> Nat) (f : Nat -> UnF) (us : Slc) (up : Nat -> Bool) (p : yY) (x : Ending) (w' : World) : Prop :=
 ∃ u : Slc, x = .returned (.tuple ⟨[u.v, errO A p.1]⟩) /\ aq w' u p.2.1 /\ aU w u /\ ChP A w n0 N m r rd f us up p.2.2 w'
theorem ou (w : World) : aq w (⟨none, 0, 0⟩ : Slc) [] := ⟨rfl, .inl rfl⟩
theorem jU (h : ChU A w n0 N m r rd f d S us up) {i : Nat} (hi : i < N) (e a : Int) :
  Calls Tryz.prog bE ⟨[aw (r i), .int .i64 e, .int .i64 a]⟩ w fun x w' => ∃ u : Slc, x = .returned (.tuple ⟨[u.v, errO A (rdE (S i) e a)]⟩) /\ Txt w' (FB N r rd f) u (if rdE (S i) e a = none then pgD (S i) a else []) /\ aU w u /\ aj w w' := by
 have hU := h.F.U i hi
 refine (tq A hU.M e a (h.F.E.g.sub px)).mono ?_
 rintro x w30 ⟨u, rfl, ho, hf, k30⟩
 have lt := h.F.lt
 have hl : ((pgM (S i).U (S i).tr a).getD []).length <= 2048 := by
  cases hg : pgM (S i).U (S i).tr a with
  | none => simp
  | some y =>
   cases hl : lookL (f i).x.pl a with
   | none => have := (hU.M.pv a).2 hl; rw [hg] at this; cases this
   | some sl => obtain ⟨y', e1, _, e2⟩ := (hU.M.pv a).1 sl hl; rw [hg] at e1; cases e1; exact e2
 have e9 : (if (readE (S i).tr (S i).ep (pgM (S i).U (S i).tr) e a).isNone = true then (pgM (S i).U (S i).tr a).getD [] else []) = if rdE (S i) e a = none then pgD (S i) a else [] := by
  unfold rdE
  cases readE (S i).tr (S i).ep (pgM (S i).U (S i).tr) e a <;> simp
 rw [e9] at ho
 refine ⟨u, rfl, ⟨ho.bytes, fun k hk => ⟨eF ho k hk, fun hh => by have := hf k hk; have := lt.1 k hh; omega⟩, ?_⟩, hf, k30⟩
 split
 ·show (pgD (S i) a).length <= _; unfold pgD; omega
 ·simp
end
end Go.D
namespace Go.D
open Go Go.Proofs
def wrA (N : Nat) (up : Nat -> Bool) (ep : Int) (cs : List (List Int)) (a : Int) (t : List UInt8) (S : Nat -> UnS) : Option Nat × (Nat -> UnS) :=
 if plE ep cs a = none then CY N up ep (a / (cs.length : Int)) t (iT cs a) S else (plE ep cs a, S)
def rdA (N : Nat) (up : Nat -> Bool) (ep : Int) (cs : List (List Int)) (a : Int) (S : Nat -> UnS) : yY :=
 if plE ep cs a = none then B3 N up ep (a / (cs.length : Int)) (iT cs a) S else (plE ep cs a, [], S)
def flA (N : Nat) (up : Nat -> Bool) (ep : Int) (cs : List (List Int)) (a : Int) (S : Nat -> UnS) : yY :=
 if plE ep cs a = none then B4 N up ep (a / (cs.length : Int)) (iT cs a) S else (plE ep cs a, [], S)
structure ObF (w : World) (F : Nat -> Prop) (o : Nat) (cs : List Value) : Prop where
 ob : ao w o cs
 f : ¬ F o
section
variable {A : Nat -> Addr} {w w' : World} {n0 N m m' : Nat} {r rd : Nat -> Nat} {f f' f'' : Nat -> UnF} {d d' : Nat -> aF} {S S' : Nat -> UnS} {us : Slc} {up : Nat -> Bool} {s sc : Slc} {cs : List (List Int)} {c : List Int} {o : Nat} {vs : List Value}
theorem ObF.to (h : ObF w (FB N r rd f) o vs) (ht : FTo N r rd f f' w w') : ObF w' (FB N r rd f') o vs :=
 ⟨h.ob.ext ht.1 h.f, fun hh => (ht.2.1 _ hh).elim h.f (fun g => by have := h.ob.lt; omega)⟩
theorem ObF.ae {F : Nat -> Prop} (h : ObF w F o vs) (hk : aj w w') : ObF w' F o vs := ⟨h.ob.ae hk, h.f⟩
theorem ChU.obj (h : ChU A w n0 N m r rd f d S us up) {T : TypeId} {w1 : World} (hk : aj w w1) (ho : o = w.heap.size) (hb : w1.heap[o]? = some (.cells ⟨vs⟩ T)) : ObF w1 (FB N r rd f) o vs :=
 ⟨ao.eV hb, fun hh => by have := h.F.lt.1 o hh; omega⟩
theorem qi {ep a : Int} (h : plE ep cs a = none) : (iT cs a).length <= 3 /\ cs.length <= 3 := by
 obtain ⟨hr, _⟩ := DC h
 obtain ⟨i, hi, _, e2, hok, _⟩ := kO hr (a := a)
 rw [e2]
 exact ⟨hok.2.1, hr.2.1.2⟩
theorem ChP.lift (h : ChP A w n0 N m r rd f us up S w') (hm : m <= m') : ChP A w n0 N m' r rd f us up S w' := by
 obtain ⟨f3, d3, g1, g2⟩ := h
 exact ⟨f3, d3, g1.lift hm, g2⟩
theorem tJ (h : ChU A w n0 N m r rd f d S us up) (hm : m <= 2 ^ 56) (ep a : Int) (hP : PlF w (FB N r rd f) s cs) (hcl : cs.length <= 2 ^ 40) (b : Slc) (t : List UInt8) (hb : Txt w (FB N r rd f) b t) :
  Calls Tryz.prog fS ⟨[us.v, .agg ⟨[.int .i64 ep, s.v]⟩, .int .i64 a, b.v]⟩ w fun x w' => zd A w n0 N (m + 4) r rd f us up (wrA N up ep cs a t S) x w' := by
 refine sq _ _ _ _ _ ?_
 unfold qC
 refine ak (fun r6 w7 hr6 hb6 k6 hs6 => ?_)
 have o7 := h.obj k6 hr6 hb6
 refine ⟨ep, s, o7.ob.row, (kP ep a (hP.ae k6) hcl (h.F.E.ae k6)).mono ?_⟩
 rintro e w11 ⟨k11, ⟨j, hj, rfl⟩ | ⟨hn, sc, rfl, hI⟩⟩
 ·refine ⟨_, _, _, rfl, aB A _, ai (fun _ => ?_) (fun g => by cases g)⟩
  unfold wrA
  rw [hj, if_neg (by simp)]
  exact ⟨rfl, f, d, (h.ae (k6.trans k11)).lift (by omega), FTo.ae (k6.trans k11)⟩
 have kd : aj w (World.drew w11) := (k6.trans k11).drew
 have hd := h.ae kd
 have od := (o7.ae k11).ae (Ext.drew _ _)
 have hId : kN (World.drew w11) (FB N r rd f) sc (iT cs a) := hI.ae (Ext.drew _ _)
 obtain ⟨a15, ha15, hc15⟩ := hId.first
 have hlen := qi hn
 unfold wrA
 rw [if_pos hn]
 unfold CY
 have hsl := hId.sl
 have hne := hId.ne
 refine ⟨_, _, _, rfl, trivial, ai (fun g => by cases g) (fun _ => aa ha15 ⟨by omega, by omega, _, hc15, _, od.ob.cell 0 (by simp), ?_⟩)⟩
 refine (jD hd (by omega) _ ep (a / (cs.length : Int)) true b t (hb.ae kd)).mono ?_
 rintro x w19 ⟨rfl, f3, d3, h19, ft3⟩
 have ft19 : FTo N r rd f f3 w w19 := (FTo.ae kd).trans ft3
 have o19 := od.to ft3
 generalize hp : putP N up true ep (a / (cs.length : Int)) t ((iT cs a).getD 0 0) S = p at h19 ⊢
 refine ⟨_, rfl, aB A _, ?_⟩
 cases hp1 : p.1 with
 | some x =>
  refine ai (fun _ => ?_) (fun g => by cases g)
  rw [if_neg (by simp)]
  exact ⟨by rw [hp1], f3, d3, h19.lift (by omega), ft19⟩
 | none =>
  refine ai (fun g => by cases g) (fun _ => ⟨_, o19.ob.cell 0 (by simp), ?_⟩)
  rw [if_pos rfl]
  refine (mv h19 (by omega) ep _ (hId.to ft3) hlen.1 b t ((hb.ae kd).to ft3)).mono ?_
  rintro x w23 ⟨rfl, hx⟩
  exact ⟨_, rfl, rfl, (ChP.from ft19 hx).lift (by omega)⟩
theorem Txt.mono {F F' : Nat -> Prop} {b : Slc} {t : List UInt8} (h : Txt w F b t) (hf : ∀ k, F' k -> F k) : Txt w F' b t := ⟨h.tb, fun k hk => ⟨(h.s k hk).1, fun hh => (h.s k hk).2 (hf k hh)⟩, h.l⟩
theorem tK (h : ChU A w n0 N m r rd f d S us up) {e a : Int} {t : List UInt8} {c : List Int} {x : Ending} {b : Slc} {wz : World} (hfr : aU wz b) (hb : Txt w (FB N r rd f) b t) {w2 : World} (ftz : FTo N r rd f'' f wz w) (hx : zd A w n0 N m' r rd f us up (othP N up e a t c S) x w2) :
  ∃ e58 : Value, x = .returned e58 /\ isI e58 /\ BIf (!isNilI e58) (B8 A wz n0 N m' r rd f'' us up (vK N up e a t c S) (.returned (.tuple ⟨[(⟨none, 0, 0⟩ : Slc).v, e58]⟩)) w2) (B8 A wz n0 N m' r rd f'' us up (vK N up e a t c S) (.returned (.tuple ⟨[b.v, .nilIface]⟩)) w2) := by
 obtain ⟨rfl, f3, d3, h3, ft3⟩ := hx
 refine ⟨_, rfl, aB A _, ?_⟩
 unfold vK
 cases hp : (othP N up e a t c S).1 with
 | some x =>
  refine ai (fun _ => ?_) (fun g => by cases g)
  rw [if_neg (by simp)]
  exact ⟨_, rfl, ou _, aU.nil _ _ _, f3, d3, h3, ftz.trans ft3⟩
 | none =>
  refine ai (fun g => by cases g) (fun _ => ?_)
  rw [if_pos rfl]
  exact ⟨b, rfl, (hb.to ft3).tb, hfr, f3, d3, h3, ftz.trans ft3⟩
theorem uW (h : ChU A w n0 N m r rd f d S us up) (hm : m <= 2 ^ 56) (ep a : Int) (hP : PlF w (FB N r rd f) s cs) (hcl : cs.length <= 2 ^ 40) :
  Calls Tryz.prog gJ ⟨[us.v, .agg ⟨[.int .i64 ep, s.v]⟩, .int .i64 a]⟩ w fun x w' => B8 A w n0 N (m + 4) r rd f us up (rdA N up ep cs a S) x w' := by
 refine tU _ _ _ _ ?_
 unfold ss
 refine ak (fun r5 w6 hr5 hb5 k5 hs5 => ?_)
 have o6 := h.obj k5 hr5 hb5
 refine ⟨ep, s, o6.ob.row, (kP ep a (hP.ae k5) hcl (h.F.E.ae k5)).mono ?_⟩
 rintro e w10 ⟨k10', ⟨j, hj, rfl⟩ | ⟨hn, sc, rfl, hI⟩⟩
 ·refine ⟨_, _, _, rfl, aB A _, ai (fun _ => ?_) (fun g => by cases g)⟩
  unfold rdA
  rw [hj, if_neg (by simp)]
  exact ⟨_, rfl, ou _, aU.nil _ _ _, f, d, (h.ae (k5.trans k10')).lift (by omega), FTo.ae (k5.trans k10')⟩
 have k10 : aj w w10 := k5.trans k10'
 have h10 := h.ae k10
 have o10 := o6.ae k10'
 have hlen := qi hn
 have hsl := hI.sl
 have hne := hI.ne
 unfold rdA
 rw [if_pos hn]
 generalize a / (cs.length : Int) = at_ 
 generalize hcc : iT cs a = c at hI hlen hsl hne ⊢
 have stay : ∀ {w2 : World} {u : Slc} {e' : Option Nat} {t : List UInt8}, aj w w2 -> aq w2 u t -> aU w u -> B8 A w n0 N (m + 4) r rd f us up (e', t, S) (.returned (.tuple ⟨[u.v, errO A e']⟩)) w2 := fun {w2 u e' t} hk hb hf => ⟨u, rfl, hb, hf, f, d, (h.ae hk).lift (by omega), FTo.ae hk⟩
 obtain ⟨a14, ha14, hc14⟩ := hI.cell (i := c.length - 1) (by omega)
 have hlast : c.getD (c.length - 1) 0 = c[c.length - 1]'(by omega) := by rw [List.getD_eq_getElem?_getD, List.getElem?_eq_getElem (by omega), Option.getD_some]
 rw [<- hlast] at hc14
 refine ⟨_, _, _, rfl, trivial, ai (fun g => by cases g) (fun _ => ⟨ar (by omega), aa ha14 ⟨by omega, by omega, _, by rw [show Int.toNat (((sc.l : Nat) : Int) - 1) = c.length - 1 by omega]; exact hc14, ?_⟩⟩)⟩
 unfold B3
 refine (mL h10 (c.getD (c.length - 1) 0)).mono ?_
 rintro x w17 ⟨k17', ⟨hu, hi, rfl⟩ | ⟨hu, rfl⟩⟩
 rotate_left
 ·rw [hu, if_neg (by decide)]
  exact ⟨_, _, rfl, aB A _, ai (fun _ => stay (k10.trans k17') (ou _) (aU.nil _ _ _)) (fun g => by cases g)⟩
 rw [if_pos hu]
 have k17 := k10.trans k17'
 have h17 := h.ae k17
 generalize hin : (c.getD (c.length - 1) 0).toNat = i at hi ⊢
 refine ⟨_, _, rfl, trivial, ai (fun g => by cases g) (fun _ => ⟨_, (o10.ae k17').ob.cell 0 (by simp), ?_⟩)⟩
 refine (jU h17 hi ep at_).mono ?_
 rintro x w22 ⟨u, rfl, hu22, hf22, k22'⟩
 have k22 := k17.trans k22'
 have h22 := h.ae k22
 have frz : aU w u := hf22.mono k17.size
 have hlt : ∀ j, rdE (S i) ep at_ = some j -> j < 19 := xG
 refine ⟨u, _, rfl, fun w2 => aj w22 w2 /\ rdE (S i) ep at_ = some 9 /\ c.length ≠ 1, ⟨_, b7.at h22.F.E.1 9 (by omega), (qg A _ hlt 9 (by omega) w22 h22.F.E.1).mono ?_⟩, ?_⟩
 ·rintro x w28 ⟨rfl, rfl⟩
  refine ⟨_, rfl, dY (fun h1 => ?_) (fun h1 => af (fun h2 => ?_) (fun h2 => ⟨Ext.refl _ _, h1, by omega⟩))⟩
  ·by_cases h0 : rdE (S i) ep at_ = none
   ·rw [if_pos h0] at hu22 ⊢
    rw [h0]
    exact stay (e' := none) k22 hu22.tb frz
   ·rw [if_neg h0] at hu22 ⊢
    rw [if_pos (.inl h1)]
    exact stay k22 hu22.tb frz
  ·rw [if_neg (by rw [h1]; simp)] at hu22 ⊢
   rw [if_pos (.inr (by omega))]
   exact stay k22 hu22.tb frz
 rintro w30 ⟨k30', h9, hc1⟩
 intros
 have k30 := k22.trans k30'
 have h30 := h.ae k30
 have kk : aj w10 w30 := k17'.trans (k22'.trans k30')
 obtain ⟨a44, ha44, hc44⟩ := (hI.ae kk).first
 rw [if_neg (by rw [h9]; simp), if_neg (fun hh => hh.elim (fun g => g h9) hc1)]
 refine aa ha44 ⟨by omega, by omega, _, hc44, (mL h30 (c.getD 0 0)).mono ?_⟩
 rintro x w47 ⟨k47', ⟨hu2, hi2, rfl⟩ | ⟨hu2, rfl⟩⟩
 rotate_left
 ·rw [hu2, if_neg (by decide)]
  exact ⟨_, _, rfl, aB A _, ai (fun _ => stay (k30.trans k47') (ou _) (aU.nil _ _ _)) (fun g => by cases g)⟩
 rw [if_pos hu2]
 have k47 := k30.trans k47'
 have h47 := h.ae k47
 have o47 := (o10.ae kk).ae k47'
 generalize hin2 : (c.getD 0 0).toNat = i2 at hi2 ⊢
 refine ⟨_, _, rfl, trivial, ai (fun g => by cases g) (fun _ => ⟨_, o47.ob.cell 0 (by simp), ?_⟩)⟩
 refine (jU h47 hi2 ep at_).mono ?_
 rintro x w52 ⟨u2, rfl, hu52, hf52, k52'⟩
 have k52 := k47.trans k52'
 have h52 := h.ae k52
 have frz2 : aU w u2 := hf52.mono k47.size
 refine ⟨u2, _, rfl, aB A _, ?_⟩
 cases hr : rdE (S i2) ep at_ with
 | some x =>
  rw [if_neg (by simp)]
  exact ai (fun _ => stay k52 (ou _) (aU.nil _ _ _)) (fun g => by cases g)
 | none =>
  rw [hr] at hu52
  rw [if_pos rfl] at hu52 ⊢
  refine ai (fun g => by cases g) (fun _ => ⟨_, (o47.ae k52').ob.cell 0 (by simp), ?_⟩)
  refine (mv h52 (by omega) ep at_ (((hI.ae kk).ae k47').ae k52') hlen.1 u2 _ hu52).mono ?_
  rintro x w57 hx
  exact tK h52 frz2 hu52 (FTo.ae k52) ⟨hx.1, hx.2.lift (by omega)⟩
theorem AM (w : World) : Calls Tryz.prog kz ⟨[]⟩ w fun x w' => ∃ u : Slc, x = .returned u.v /\ aq w' u [0] /\ aU w u /\ (∀ k, ah u k -> k < w'.heap.size) /\ aj w w' := by
 refine vw ?_
 unfold uL
 refine ak (fun r1 w2 hr1 hb1 k1 hs1 => ?_)
 rintro w4 rfl
 obtain ⟨hm1, hm2⟩ := rR hb1
 have ho : Own (markW w2 r1) ⟨some ⟨r1, 0, none⟩, 1, 1⟩ 1 (([0] : List UInt8).map aQ) := Own.new (sz := 1) (n := 1) hm1 (rS _) rfl
 exact ⟨_, rfl, ho.bytes, aU.at (by omega), eF ho, k1.step (r := r1) (by omega) hm2⟩
end
end Go.D
namespace Go.D
open Go Go.Proofs
def stA (N : Nat) (up : Nat -> Bool) (ep : Int) (cs : List (List Int)) (a k : Int) (t : List UInt8) (S : Nat -> UnS) : Option Nat × (Nat -> UnS) :=
 if plE ep cs a = none then (if k < 0 \/ ((iT cs a).length : Int) <= k then (some 0, S) else putP N up (decide (k = 0)) ep (a / (cs.length : Int)) t ((iT cs a).getD k.toNat 0) S) else (plE ep cs a, S)
def trA (N : Nat) (up : Nat -> Bool) (ep : Int) (cs : List (List Int)) (to : Int) (S : Nat -> UnS) : Option Nat × (Nat -> UnS) :=
 if ¬ ct ep cs then (some 3, S) else if to < 0 \/ 4096 < to then (some 0, S) else vL N up ep to cs.length 0 cs S
section
variable {A : Nat -> Addr} {w w' : World} {n0 N m m' : Nat} {r rd : Nat -> Nat} {f f' f'' : Nat -> UnF} {d d' : Nat -> aF} {S S' : Nat -> UnS} {us : Slc} {up : Nat -> Bool} {s sc : Slc} {cs : List (List Int)} {c : List Int} {o : Nat} {vs : List Value}
theorem DE (h : ChU A w n0 N m r rd f d S us up) (hm : m <= 2 ^ 56) (ep a k : Int) (hP : PlF w (FB N r rd f) s cs) (hcl : cs.length <= 2 ^ 40) (b : Slc) (t : List UInt8) (hb : Txt w (FB N r rd f) b t) :
  Calls Tryz.prog mZ ⟨[us.v, .agg ⟨[.int .i64 ep, s.v]⟩, .int .i64 a, .int .i64 k, b.v]⟩ w fun x w' => zd A w n0 N (m + 4) r rd f us up (stA N up ep cs a k t S) x w' := by
 refine tS _ _ _ _ _ _ ?_
 unfold sk
 refine ak (fun r6 w7 hr6 hb6 k6 hs6 => ?_)
 have o7 := h.obj k6 hr6 hb6
 refine ⟨ep, s, o7.ob.row, (kP ep a (hP.ae k6) hcl (h.F.E.ae k6)).mono ?_⟩
 rintro e w11 ⟨k11, ⟨j, hj, rfl⟩ | ⟨hn, sc, rfl, hI⟩⟩
 ·refine ⟨_, _, _, rfl, aB A _, ai (fun _ => ?_) (fun g => by cases g)⟩
  unfold stA
  rw [hj, if_neg (by simp)]
  exact ⟨rfl, f, d, (h.ae (k6.trans k11)).lift (by omega), FTo.ae (k6.trans k11)⟩
 have kk := k6.trans k11
 have kd : aj w (World.drew w11) := kk.drew
 have h11 := h.ae kk
 have hd := h.ae kd
 have od := (o7.ae k11).ae (Ext.drew _ _)
 have hId : kN (World.drew w11) (FB N r rd f) sc (iT cs a) := hI.ae (Ext.drew _ _)
 have hsl := hI.sl
 unfold stA
 rw [if_pos hn]
 have bad : (k < 0 \/ ((iT cs a).length : Int) <= k) -> ∀ {x : Value}, x = errO A (some 0) -> zd A w n0 N (m + 4) r rd f us up (if k < 0 \/ ((iT cs a).length : Int) <= k then (some 0, S) else putP N up (decide (k = 0)) ep (a / (cs.length : Int)) t ((iT cs a).getD k.toNat 0) S) (.returned x) w11 := fun hb x hx => by
  rw [if_pos hb, hx]
  exact ⟨rfl, f, d, h11.lift (by omega), FTo.ae kk⟩
 refine ⟨_, _, _, rfl, trivial, ai (fun g => by cases g) (fun _ => af (fun h1 => ⟨_, b7.at h11.F.E.1 0 (by omega), bad (.inl h1) rfl⟩) (fun h1 => af (fun h2 => ⟨_, b7.at h11.F.E.1 0 (by omega), bad (.inr (by omega)) rfl⟩) (fun h2 => ?_)))⟩
 have hk : k.toNat < (iT cs a).length := by omega
 obtain ⟨a18, ha18, hc18⟩ := hId.cell hk
 rw [if_neg (by omega)]
 have e9 : (iT cs a).getD k.toNat 0 = (iT cs a)[k.toNat] := by rw [List.getD_eq_getElem?_getD, List.getElem?_eq_getElem hk, Option.getD_some]
 rw [e9]
 refine aa ha18 ⟨by omega, by omega, _, hc18, _, od.ob.cell 0 (by simp), ?_⟩
 refine (jD hd (by omega) _ ep (a / (cs.length : Int)) (decide (k = 0)) b t (hb.ae kd)).mono ?_
 rintro x w19 ⟨rfl, hx⟩
 exact ⟨_, rfl, rfl, (ChP.from (FTo.ae kd) hx).lift (by omega)⟩
theorem DD {first : Bool} {e a : Int} {t : List UInt8} {n : Int} (h : (putP N up first e a t n S).1 = some 8) : upB N up n = true := by
 unfold putP at h
 split at h
 ·assumption
 ·cases h
theorem AN (h : ChU A w n0 N m r rd f d S us up) (hm : m <= 2 ^ 56) (ep a : Int) (hP : PlF w (FB N r rd f) s cs) (hcl : cs.length <= 2 ^ 40) :
  Calls Tryz.prog jK ⟨[us.v, .agg ⟨[.int .i64 ep, s.v]⟩, .int .i64 a]⟩ w fun x w' => B8 A w n0 N (m + 4) r rd f us up (flA N up ep cs a S) x w' := by
 refine tV _ _ _ _ ?_
 unfold sv
 refine ak (fun r5 w6 hr5 hb5 k5 hs5 => ?_)
 have o6 := h.obj k5 hr5 hb5
 refine ⟨ep, s, o6.ob.row, (kP ep a (hP.ae k5) hcl (h.F.E.ae k5)).mono ?_⟩
 rintro e w10 ⟨k10', ⟨j, hj, rfl⟩ | ⟨hn, sc, rfl, hI⟩⟩
 ·refine ⟨_, _, _, rfl, aB A _, ai (fun _ => ?_) (fun g => by cases g)⟩
  unfold flA
  rw [hj, if_neg (by simp)]
  exact ⟨_, rfl, ou _, aU.nil _ _ _, f, d, (h.ae (k5.trans k10')).lift (by omega), FTo.ae (k5.trans k10')⟩
 have k10 : aj w w10 := k5.trans k10'
 have h10 := h.ae k10
 have o10 := o6.ae k10'
 have hlen := qi hn
 have hsl := hI.sl
 have hne := hI.ne
 unfold flA
 rw [if_pos hn]
 generalize a / (cs.length : Int) = at_
 generalize hcc : iT cs a = c at hI hlen hsl hne ⊢
 refine ⟨_, _, _, rfl, trivial, ai (fun g => by cases g) (fun _ => (AM w10).mono ?_)⟩
 rintro x w15 ⟨s16, rfl, hb16, hf16, hl16, k15⟩
 have kd : aj w10 (World.drew w15) := k15.drew
 have kdd := k10.trans kd
 have hd := h.ae kdd
 have od := o10.ae kd
 have hId := hI.ae kd
 have frz : aU w s16 := hf16.mono k10.size
 have b16 : Txt (World.drew w15) (FB N r rd f) s16 [0] := ⟨aH hb16 (Ext.drew _ _), fun k hk => ⟨hl16 k hk, fun hh => by have := frz k hk; have := h.F.lt.1 k hh; omega⟩, by simp⟩
 obtain ⟨a17, ha17, hc17⟩ := hId.first
 refine ⟨s16, rfl, aa ha17 ⟨by omega, by omega, _, hc17, _, od.ob.cell 0 (by simp), ?_⟩⟩
 refine (jD hd (by omega) (c.getD 0 0) ep at_ true s16 [0] b16).mono ?_
 rintro x w21 ⟨rfl, f3, d3, h21, ft3⟩
 have ft21 : FTo N r rd f f3 w w21 := (FTo.ae kdd).trans ft3
 have o21 := od.to ft3
 have hI21 := hId.to ft3
 have b21 := b16.to ft3
 have hupq : (putP N up true ep at_ [0] (c.getD 0 0) S).1 = some 8 -> upB N up (c.getD 0 0) = true := DD
 have hltq := yZ (N := N) (up := up) (S := S) trivial true ep at_ [0] (c.getD 0 0)
 unfold B4
 generalize hq : putP N up true ep at_ [0] (c.getD 0 0) S = q at h21 hupq hltq ⊢
 refine ⟨_, rfl, fun err b w2 => ∃ (e' : Option Nat) (t' : List UInt8), err = errO A e' /\ aU w b /\ ObF w2 (FB N r rd f3) r5 [.int .i64 ep, s.v] /\ kN w2 (FB N r rd f3) sc c /\ ChU A w2 n0 N (m + 1) r rd f3 d3 q.2 us up /\ FTo N r rd f f3 w w2 /\ (e' = none -> Txt w2 (FB N r rd f3) b t') /\
   uV N up ep at_ c q = (if e' = none then vK N up ep at_ t' c.tail q.2 else (e', [], q.2)), ⟨_, b7.at h21.F.E.1 8 (by omega), (qg A _ hltq 8 (by omega) w21 h21.F.E.1).mono ?_⟩, ?_⟩
 ·rintro x w26 ⟨rfl, rfl⟩
  refine ⟨_, rfl, af (fun h1 => ?_) (fun h1 => ⟨q.1, [0], rfl, frz, o21, hI21, h21, ft21, fun _ => b21, ?_⟩)⟩
  ·have kd26 : aj w26 (World.drew w26) := Ext.drew _ _
   obtain ⟨a28, ha28, hc28⟩ := (hI21.ae kd26).first
   obtain ⟨⟨hu1, hu2⟩, hu3⟩ := mK.1 (hupq h1)
   have hi : (c.getD 0 0).toNat < N := by omega
   have hdd := h21.ae kd26
   obtain ⟨a30, ha30, hc30⟩ := hdd.get hi
   rw [hu3, if_pos rfl] at hc30
   have husl := hdd.sl
   refine aa ha28 ⟨by omega, by omega, _, hc28, aa ha30 ⟨by omega, by omega, _, by rw [Nat.mul_one]; exact hc30, _, (o21.ae kd26).ob.cell 0 (by simp), ?_⟩⟩
   refine (jU hdd hi ep at_).mono ?_
   rintro x w34 ⟨u, rfl, hu34, hf34, k34'⟩
   have k34 := kd26.trans k34'
   refine ⟨u, _, rfl, rdE (q.2 (c.getD 0 0).toNat) ep at_, pgD (q.2 (c.getD 0 0).toNat) at_, rfl, hf34.mono (by have := ft21.1.size; exact this), o21.ae k34, hI21.ae k34, h21.ae k34, ft21.trans (FTo.ae k34), fun h0 => by rw [if_pos h0] at hu34; exact hu34, ?_⟩
   unfold uV
   rw [if_neg (by rw [h1]; simp), if_pos h1]
  ·unfold uV
   rw [if_neg h1]
 rintro err b w39 ⟨e', t', rfl, hfb, o39, hI39, h39, ft39, hb39, heq⟩
 intros
 rw [heq]
 refine ⟨aB A _, ?_⟩
 cases e' with
 | some x =>
  refine ai (fun _ => ?_) (fun g => by cases g)
  rw [if_neg (by simp)]
  exact ⟨_, rfl, ou _, aU.nil _ _ _, f3, d3, h39.lift (by omega), ft39⟩
 | none =>
  refine ai (fun g => by cases g) (fun _ => ⟨_, o39.ob.cell 0 (by simp), ?_⟩)
  rw [if_pos rfl]
  refine (mv h39 (by omega) ep at_ hI39 hlen.1 b t' (hb39 rfl)).mono ?_
  rintro x w58 hx
  exact tK h39 hfb (hb39 rfl) ft39 ⟨hx.1, hx.2.lift (by omega)⟩
theorem uX (e own : Int) (n : Int) (l : List Int) : ot N up e own (n :: l) S = if upB N up n then (if (gu 2 (S n.toNat) e own).1 = none then ot N up e own l (aV S n.toNat (gu 2 (S n.toNat) e own).2) else ((gu 2 (S n.toNat) e own).1, aV S n.toNat (gu 2 (S n.toNat) e own).2)) else (some 11, S) := rfl
theorem uY (e to : Int) (n k : Nat) (l : List Int) (q : List (List Int)) : vL N up e to n k (l :: q) S = if (ot N up e (mr n k to) l S).1 = none then vL N up e to n (k + 1) q (ot N up e (mr n k to) l S).2 else ot N up e (mr n k to) l S := rfl
theorem vO (to : Int) (k n : Nat) (ht : 0 <= to /\ to <= 4096) (hk : k < n) (hn : n <= 3) (w : World) :
  Calls Tryz.prog iC ⟨[.int .i64 to, .int .i64 (k : Int), .int .i64 (n : Int)]⟩ w fun x w' => ∃ v : Int, x = .returned (.int .i64 v) /\ w' = w /\ (if v > 0 then v else 0) = mr n k to := by
 refine sy _ _ _ ?_
 unfold qD
 refine ⟨ar (by omega), ar (by omega), ar (by omega), by omega, by omega, ar (by omega), _, rfl, rfl, ?_⟩
 unfold mr
 split <;> omega
theorem AO (h : ChU A w n0 N m r rd f d S us up) (hm : m <= 2 ^ 56) (ep to : Int) (hP : PlF w (FB N r rd f) s cs) (hcl : cs.length <= 2 ^ 40) :
  Calls Tryz.prog jJ ⟨[us.v, .agg ⟨[.int .i64 ep, s.v]⟩, .int .i64 to]⟩ w fun x w' => zd A w n0 N (m + 9) r rd f us up (trA N up ep cs to S) x w' := by
 refine tW _ _ _ _ ?_
 unfold sA
 refine ak (fun r5 w6 hr5 hb5 k5 hs5 => ?_)
 have o6 := h.obj k5 hr5 hb5
 refine ⟨fun w2 => aj w6 w2 /\ ct ep cs /\ 0 <= to /\ to <= 4096, ⟨ep, s, o6.ob.row, (kM ep s cs w6 (hP.ae k5).chs hcl).mono ?_⟩, ?_⟩
 ·rintro e w11 ⟨b, rfl, hb, k11'⟩
  have k11 := k5.trans k11'
  have h11 := h.ae k11
  refine ⟨b, rfl, ai (fun h1 => ?_) (fun h1 => ?_)⟩
  ·have hn : ¬ ct ep cs := fun hh => by rw [hb.2 hh] at h1; cases h1
   refine ⟨_, b7.at h11.F.E.1 3 (by omega), ?_⟩
   unfold trA
   rw [if_pos hn]
   exact ⟨rfl, f, d, h11.lift (by omega), FTo.ae k11⟩
  have hr : ct ep cs := hb.1 (by simpa using h1)
  have bad : (to < 0 \/ 4096 < to) -> zd A w n0 N (m + 9) r rd f us up (trA N up ep cs to S) (.returned (errO A (some 0))) w11 := fun hb => by
   unfold trA
   rw [if_neg (by simpa using hr), if_pos hb]
   exact ⟨rfl, f, d, h11.lift (by omega), FTo.ae k11⟩
  exact af (fun h2 => ⟨_, b7.at h11.F.E.1 0 (by omega), bad (.inl h2)⟩) (fun h2 => af (fun h3 => ⟨_, b7.at h11.F.E.1 0 (by omega), bad (.inr h3)⟩) (fun h3 => ⟨k11', hr, by omega⟩))
 rintro w16 ⟨k16', hr, ht⟩
 intros
 have k16 := k5.trans k16'
 have h16 := h.ae k16
 have o16 := o6.ae k16'
 have hP16 := hP.ae k16
 have hl3 := hr.2.1
 have hsl := hP.l
 unfold trA
 rw [if_neg (by simpa using hr), if_neg (by omega)]
 refine ⟨s, o16.ob.cell 1 (by simp), fun i w2 => ∃ (j : Nat) (f2 : Nat -> UnF) (d2 : Nat -> aF) (S2 : Nat -> UnS), i = j /\ j <= cs.length /\ ChU A w2 n0 N (m + 3 * j) r rd f2 d2 S2 us up /\ FTo N r rd f f2 w w2 /\ ObF w2 (FB N r rd f2) r5 [.int .i64 ep, s.v] /\ PlF w2 (FB N r rd f2) s cs /\
   vL N up ep to cs.length 0 cs S = vL N up ep to cs.length j (cs.drop j) S2, fun i _ => ((cs.length : Int) - i).toNat, ⟨0, f, d, S, rfl, by omega, h16, FTo.ae k16, o16, hP16, rfl⟩, ?_⟩
 rintro i w35 ⟨j, f2, d2, S2, rfl, hj, h35, ft35, o35, hP35, heq⟩
 intros
 refine af (fun h1 => ?_) (fun h1 => ?_)
 ·have hjl : j < cs.length := by omega
  obtain ⟨hc1, hc3, hcu⟩ := hr.2.2.1 _ (List.getElem_mem hjl)
  obtain ⟨a80, sl, ha80, hcell, hI⟩ := hP35.at hjl hc1
  have hisl := hI.sl
  refine aa ha80 ⟨by omega, by omega, sl, by rw [Int.toNat_natCast]; exact hcell, s, o35.ob.cell 1 (by simp), ?_⟩
  rw [hsl]
  refine (vO to j cs.length ht hjl hl3.2 w35).mono ?_
  rintro x w84 ⟨v, rfl, rfl, hv⟩
  rw [List.drop_eq_getElem_cons hjl, uY] at heq
  refine ⟨v, rfl, fun i w2 => ∃ (q : Nat) (f4 : Nat -> UnF) (d4 : Nat -> aF) (S4 : Nat -> UnS), i = q /\ q <= cs[j].length /\ ChU A w2 n0 N (m + 3 * j + q) r rd f4 d4 S4 us up /\ FTo N r rd f f4 w w2 /\ ObF w2 (FB N r rd f4) r5 [.int .i64 ep, s.v] /\ PlF w2 (FB N r rd f4) s cs /\ kN w2 (FB N r rd f4) sl cs[j] /\
   ot N up ep (mr cs.length j to) cs[j] S2 = ot N up ep (mr cs.length j to) (cs[j].drop q) S4, fun i _ => ((cs[j].length : Int) - i).toNat, ⟨0, f2, d2, S2, rfl, by omega, h35, ft35, o35, hP35, hI, rfl⟩, ?_⟩
  rintro i w89 ⟨q, f4, d4, S4, rfl, hq, h89, ft89, o89, hP89, hI89, heq2⟩
  intros
  refine af (fun h2 => ?_) (fun h2 => ?_)
  ·have hql : q < cs[j].length := by omega
   obtain ⟨a116, ha116, hc116⟩ := hI89.cell hql
   refine aa ha116 ⟨by omega, h2, _, by rw [Int.toNat_natCast]; exact hc116, (mL h89 cs[j][q]).mono ?_⟩
   rw [List.drop_eq_getElem_cons hql, uX] at heq2
   rintro x w119 ⟨k119, ⟨hu, hi, rfl⟩ | ⟨hu, rfl⟩⟩
   rotate_left
   ·refine ⟨_, _, rfl, aB A _, ai (fun _ => ?_) (fun g => by cases g)⟩
    rw [hu, if_neg (by decide)] at heq2
    rw [heq2, if_neg (by simp)] at heq
    rw [heq]
    exact ⟨rfl, f4, d4, (h89.ae k119).lift (by omega), ft89.trans (FTo.ae k119)⟩
   rw [hu, if_pos rfl] at heq2
   have h119 := h89.ae k119
   generalize hin : (cs[j][q]).toNat = i at hi heq2 ⊢
   refine ⟨_, _, rfl, trivial, ai (fun g => by cases g) (fun _ => ⟨_, (o89.ae k119).ob.cell 0 (by simp), ?_⟩)⟩
   rw [hv]
   refine (yX A (h119.F.U i hi) h119.F.E (by omega) ep (mr cs.length j to)).mono ?_
   rintro x w124 ⟨e', rfl, hout⟩
   obtain ⟨rfl, f1, d1, hU1, hn1, hs1, uf⟩ := hout.live (h119.F.k i hi).2
   rw [(h119.F.k i hi).1] at hU1 ⊢
   obtain ⟨hF124, ftn⟩ := h119.F.step hi hU1 (by omega) hn1 hs1 uf
   have h124 := h119.to hF124 ftn
   have ft124 := (ft89.trans (FTo.ae k119)).trans ftn
   refine ⟨_, rfl, aB A _, ?_⟩
   generalize hp : gu 2 (S4 i) ep (mr cs.length j to) = p at h124 heq2 ⊢
   cases hp1 : p.1 with
   | some x =>
    refine ai (fun _ => ?_) (fun g => by cases g)
    rw [hp1, if_neg (by simp)] at heq2
    rw [heq2, if_neg (by simp)] at heq
    rw [heq]
    exact ⟨rfl, _, _, h124.lift (by omega), ft124⟩
   | none =>
    rw [hp1, if_pos rfl] at heq2
    exact ai (fun g => by cases g) (fun _ => ⟨ar (by omega), ⟨q + 1, _, _, _, rfl, hql, h124.lift (by omega), ft124, (o89.ae k119).to ftn, (hP89.ae k119).to ftn, (hI89.ae k119).to ftn, heq2⟩, by dsimp only; omega⟩)
  ·have hqe : q = cs[j].length := by omega
   rw [hqe, List.drop_length] at heq2
   rw [heq2] at heq
   exact ⟨ar (by omega), ⟨j + 1, f4, d4, S4, rfl, hjl, h89.lift (by omega), ft89, o89, hP89, heq⟩, by dsimp only; omega⟩
 ·have hjl : j = cs.length := by omega
  rw [hjl, List.drop_length] at heq
  rw [heq]
  exact ⟨rfl, f2, d2, h35.lift (by omega), ft35⟩
end
end Go.D
namespace Go.D
open Go Go.Proofs
section
variable {w w' : World} {r k m : Nat} {f : RuF} {P : List RuE} {top : Int} {s : UnS}
end
end Go.D
namespace Go.D
open Go Go.Proofs
section
variable {w w' : World} {r k m : Nat} {f : RuF} {P : List RuE} {top : Int} {s : UnS}
theorem vP (w : World) (k : Nat) :
  Calls Tryz.prog eo ⟨[.int .i64 (k : Int)]⟩ w fun e w' => ∃ r f, e = .returned (aw r) /\ RuS w' r k f [] 0 ⟨[], 0, 0, 0⟩ /\ (∀ j, RuW r f j -> w.heap.size <= j) /\ (∀ j, ¬ RuY f j) /\ aj w w' := by
 refine lx _ ?_
 unfold iJ
 refine ak (fun r2 w3 hr2 hb2 k2 hs2 => ak (fun r4 w5 hr4 hb4 k4 hs4 => ?_))
 have nob : ∀ j, ¬ ah (⟨none, 0, 0⟩ : Slc) j := by rintro j ⟨a, ha, _⟩; cases ha
 have R0 : q9 w5 r2 k ⟨none, 0, 0⟩ [] := ⟨(ao.eV hb2).ae k4, Rows.nil _ _, by simp, by simp, List.Pairwise.nil, nob _, by simp, by simp⟩
 have noW : ∀ j, RfW r2 ⟨none, 0, 0⟩ [] j -> j = r2 := by
  rintro j (hj | hj | ⟨z, hz, _⟩)
  ·exact hj
  ·exact (nob j hj).elim
  ·simp at hz
 have noY : ∀ j, ¬ RuY ⟨r2, ⟨none, 0, 0⟩, [], ⟨none, 0, 0⟩, ⟨none, 0, 0⟩, ⟨none, 0, 0⟩, []⟩ j := by
  rintro j (⟨z, hz, _⟩ | ⟨cs, hc, _⟩)
  ·simp at hz
  ·simp at hc
 have z2 := k2.size
 refine ⟨r4, ⟨r2, ⟨none, 0, 0⟩, [], ⟨none, 0, 0⟩, ⟨none, 0, 0⟩, ⟨none, 0, 0⟩, []⟩, rfl, ⟨⟨ao.eV hb4, R0, az.nil _, Rows.nil _ _, az.nil _, fun j => if j = r4 then 0 else 1, ?_, fun j hj => ?_, fun j hj => (nob j hj).elim, fun j hj => (nob j hj).elim, fun j hj => (nob j hj).elim, fun j hj => (noY j hj).elim⟩, rfl, zM.nil⟩, ?_, noY, k2.trans k4⟩
 ·rw [if_pos rfl]
 ·have := noW j hj
  rw [if_neg (by omega)]
 ·rintro j (hj | hj | hj | hj | hj)
  ·omega
  ·have := noW j hj; omega
  ·exact (nob j hj).elim
  ·exact (nob j hj).elim
  ·exact (nob j hj).elim
end
end Go.D
namespace Go.D
open Go Go.Proofs
def RB (N : Nat) (r : Nat -> Nat) (f : Nat -> RuF) (b : Nat) : Prop := ∃ i, i < N /\ RuW (r i) (f i) b
def RY (N : Nat) (f : Nat -> RuF) (b : Nat) : Prop := ∃ i, i < N /\ RuY (f i) b
structure qj (w : World) (N m : Nat) (r : Nat -> Nat) (f : Nat -> RuF) (P : Nat -> List RuE) (top : Nat -> Int) (S : Nat -> UnS) : Prop where
 R : ∀ i, i < N -> RuS w (r i) 2 (f i) (P i) (top i) (S i)
 pl : ∀ i, i < N -> (P i).length <= m /\ UPl 2 m (S i)
 sep : ∀ i j, i < N -> j < N -> i ≠ j -> ∀ b, RuW (r i) (f i) b -> ¬ RuW (r j) (f j) b /\ ¬ RuY (f j) b
def RTo (N : Nat) (r : Nat -> Nat) (f f' : Nat -> RuF) (w w' : World) : Prop :=
 Ext (RB N r f) w w' /\ (∀ b, RB N r f' b -> RB N r f b \/ w.heap.size <= b) /\ ∀ b, RY N f' b -> RY N f b \/ w.heap.size <= b
section
variable {w w' : World} {N m m' : Nat} {r : Nat -> Nat} {f f' f'' : Nat -> RuF} {P P' : Nat -> List RuE} {top top' : Nat -> Int} {S S' : Nat -> UnS} {us : Slc} {up : Nat -> Bool}
theorem RTo.ae (hk : aj w w') : RTo N r f f w w' := ⟨hk.mono (fun _ h => h.elim), fun b h => .inl h, fun b h => .inl h⟩
theorem RTo.trans {w'' : World} (h1 : RTo N r f f' w w') (h2 : RTo N r f' f'' w' w'') : RTo N r f f'' w w'' := by
 have z := h1.1.size
 refine ⟨h1.1.trans h2.1 (fun _ h => h) (fun b hb => h1.2.1 b hb), fun b hb => ?_, fun b hb => ?_⟩
 ·exact (h2.2.1 b hb).elim (h1.2.1 b) (fun g => .inr (by omega))
 ·exact (h2.2.2 b hb).elim (h1.2.2 b) (fun g => .inr (by omega))
theorem qj.lt (h : qj w N m r f P top S) : (∀ b, RB N r f b -> b < w.heap.size) /\ ∀ b, RY N f b -> b < w.heap.size :=
 ⟨fun b ⟨i, hi, hb⟩ => (h.R i hi).A.lt.1 b hb, fun b ⟨i, hi, hb⟩ => (h.R i hi).A.lt.2 b hb⟩
theorem RuS.ext {M : Nat -> Prop} {r k : Nat} {f : RuF} {P : List RuE} {top : Int} {s : UnS} (h : RuS w r k f P top s) (he : Ext M w w') (h1 : ∀ j, RuW r f j -> ¬ M j) (h2 : ∀ j, RuY f j -> ¬ M j) : RuS w' r k f P top s := ⟨h.A.ext he h1 h2, h.z, h.K⟩
theorem qj.ext {M : Nat -> Prop} (h : qj w N m r f P top S) (he : Ext M w w') (h1 : ∀ b, RB N r f b -> ¬ M b) (h2 : ∀ b, RY N f b -> ¬ M b) : qj w' N m r f P top S :=
 ⟨fun i hi => (h.R i hi).ext he (fun b hb => h1 b ⟨i, hi, hb⟩) (fun b hb => h2 b ⟨i, hi, hb⟩), h.pl, h.sep⟩
theorem qj.ae (h : qj w N m r f P top S) (hk : aj w w') : qj w' N m r f P top S := h.ext hk (fun _ _ h => h) (fun _ _ h => h)
structure ChR (w : World) (N m : Nat) (r : Nat -> Nat) (f : Nat -> RuF) (P : Nat -> List RuE) (top : Nat -> Int) (S : Nat -> UnS) (us : Slc) (up : Nat -> Bool) : Prop where
 F : qj w N m r f P top S
 uo : Own w us 1 (usL N up r)
 ub : ∀ b, ah us b -> ¬ RB N r f b
theorem ChR.to (h : ChR w N m r f P top S us up) (hF : qj w' N m' r f' P' top' S') (ht : RTo N r f f' w w') : ChR w' N m' r f' P' top' S' us up :=
 ⟨hF, h.uo.ext ht.1 h.ub, fun b hb hh => (ht.2.1 b hh).elim (h.ub b hb) (fun g => by have := eF h.uo b hb; omega)⟩
theorem ChR.ae (h : ChR w N m r f P top S us up) (hk : aj w w') : ChR w' N m r f P top S us up := h.to (h.F.ae hk) (RTo.ae hk)
end
structure Uns (A : Nat -> Addr) (w : World) (n0 N m : Nat) (r rd r2 : Nat -> Nat) (f : Nat -> UnF) (d : Nat -> aF) (fr : Nat -> RuF) (P : Nat -> List RuE) (top : Nat -> Int) (S : Nat -> UnS) (us ws : Slc) (up : Nat -> Bool) : Prop where
 U : ChU A w n0 N m r rd f d S us up
 R : ChR w N m r2 fr P top S ws up
 rb : ∀ b, RB N r2 fr b -> ¬ FB N r rd f b /\ ¬ FY N f b
 ry : ∀ b, RY N fr b -> ¬ FB N r rd f b
 ub : ∀ b, ah us b -> ¬ FY N f b /\ ¬ RB N r2 fr b /\ ¬ RY N fr b /\ ¬ ah ws b
 wb : ∀ b, ah ws b -> ¬ FB N r rd f b /\ ¬ FY N f b /\ ¬ RY N fr b
 rn : ∀ b, RB N r2 fr b -> n0 <= b
 z : n0 <= w.heap.size
def xL (N : Nat) (r rd r2 : Nat -> Nat) (f : Nat -> UnF) (fr : Nat -> RuF) (b : Nat) : Prop := FB N r rd f b \/ FY N f b \/ RB N r2 fr b \/ RY N fr b
section
variable {A : Nat -> Addr} {w w' : World} {n0 N m m' : Nat} {r rd r2 : Nat -> Nat} {f f' : Nat -> UnF} {d d' : Nat -> aF} {fr fr' : Nat -> RuF} {P P' : Nat -> List RuE} {top top' : Nat -> Int} {S S' : Nat -> UnS} {us ws : Slc} {up : Nat -> Bool}
theorem Uns.lt (h : Uns A w n0 N m r rd r2 f d fr P top S us ws up) : ∀ b, xL N r rd r2 f fr b -> b < w.heap.size := by
 rintro b (hb | hb | hb | hb)
 ·exact h.U.F.lt.1 b hb
 ·exact h.U.F.lt.2 b hb
 ·exact h.R.F.lt.1 b hb
 ·exact h.R.F.lt.2 b hb
theorem Uns.ae (h : Uns A w n0 N m r rd r2 f d fr P top S us ws up) (hk : aj w w') : Uns A w' n0 N m r rd r2 f d fr P top S us ws up :=
 ⟨h.U.ae hk, h.R.ae hk, h.rb, h.ry, h.ub, h.wb, h.rn, Nat.le_trans h.z hk.size⟩
end
end Go.D

