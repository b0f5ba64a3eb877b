/-
  WHAT IS PROVED: contracts of functions, and the plain law, for this proof. No further conditions.
-/
import Derived.Test.YtfnibbccnbmkoaaDoorAll1
import Derived.Test.YtfnibbccnbmkoaaDoorVCref24
import Derived.Test.YtfnibbccnbmkoaaDoorVClaw24
import Derived.Test.YtfnibbccnbmkoaaDoorVClaw24b
set_option linter.unusedVariables false
set_option linter.unusedSimpArgs false
set_option maxRecDepth 8000
namespace Go.D
open Go Go.Proofs
theorem lS {a i : Nat} {L : List Fd} (h : aE a i L) (hi : a + 1 <= i) (hl : ¬ kf L i < kf L (i - 1)) : aE a (i + 1) L := by
 intro x y h1 h2 h3
 by_cases hy : y = i
 ·subst hy
  by_cases hx : x = y - 1
  ·subst hx; omega
  ·have := h x (y - 1) h1 (by omega) (by omega)
   omega
 ·exact h x y h1 h2 (by omega)
theorem nf {a i j k b : Nat} {L : List Fd} (h : aE a i L) (hj : i <= j /\ j < b) (hk : i <= k /\ k < b) (hb : b <= L.length) : aE a i (swapF L j k) := by
 intro x y h1 h2 h3
 rw [cJ (by omega) (by omega), cJ (by omega) (by omega), if_neg (by omega), if_neg (by omega), if_neg (by omega), if_neg (by omega)]
 exact h x y h1 h2 h3
theorem pn {a i : Nat} {L : List Fd} (h : aE a i L) (hi : a + 1 <= i) (hl : i < L.length) : kc a (i - 1) (i - 1) (swapF L i (i - 1)) := by
 refine ⟨fun x y h1 h2 h3 h4 h5 => ?_, fun y h1 h2 => by omega⟩
 rw [cJ hl (by omega), cJ hl (by omega), if_neg (by omega), if_neg (by omega), if_neg (by omega), if_neg (by omega)]
 exact h x y h1 h2 (by omega)
def iH (a b : Nat) (L : List Fd) : Prop := a = 0 \/ ∀ k, a <= k -> k < b -> kf L (a - 1) <= kf L k
theorem iH.loc {a b : Nat} {L L' : List Fd} (h : iH a b L) (g : Loc a b L L') : iH a b L' := by
 rcases h with h | h
 ·exact .inl h
 ·rcases Nat.eq_zero_or_pos a with h0 | h0
  ·exact .inl h0
  ·right
   rw [g.out (a - 1) (by omega)]
   exact g.inn (fun v => kf L (a - 1) <= v) h
theorem kI (s : Slc) (L : List Fd) (a b : Nat) (w0 w : World) (hS : StF w0 s L w) (hab : a + 1 <= b) (hb : b <= L.length) (hL : L.length <= 60) (hpre : iH a b L) :
  Calls Tryd.prog aG ⟨[s.v, .int .i64 (a : Int), .int .i64 (b : Int), fdf]⟩ w fun e w' => ∃ (r : Bool) (L' : List Fd), e = .returned (.bool r) /\ StF w0 s L' w' /\ Loc a b L L' /\ (r = true -> aE a b L') := by
 refine bz _ _ _ ?_
 unfold aL
 -- comparing neighbours
 have cmpN : ∀ {L2 : List Fd} {w2 : World} {k : Nat} {i : Int} {Q : Prop} {K : Int -> World -> Prop}, StF w0 s L2 w2 -> L2.length = L.length -> i = (k : Int) -> 1 <= k -> k < b -> Q -> (∀ n w3, StF w0 s L2 w3 -> (n < 0 ↔ kf L2 k < kf L2 (k - 1)) -> K n w3) ->
   needSome s.p fun a1 => 0 <= i /\ i < ((s.l : Nat) : Int) /\ ∃ n1 : Int, ∃ n2 : Int, ∃ n3 : Int, ∃ n4 : Int, ∃ sd : Slc, rowAt w2.drew (a1.add (Int.toNat i * 5)) 0 [.int .i64 n1, .int .i64 n2, .int .i64 n3, .int .i64 n4, sd.v] /\ Q /\
   needSome s.p fun a2 => 0 <= i - 1 /\ i - 1 < ((s.l : Nat) : Int) /\ ∃ m1 : Int, ∃ m2 : Int, ∃ m3 : Int, ∃ m4 : Int, ∃ se : Slc, rowAt w2.drew (a2.add (Int.toNat (i - 1) * 5)) 0 [.int .i64 m1, .int .i64 m2, .int .i64 m3, .int .i64 m4, se.v] /\
   Calls Tryd.prog ak ⟨[.agg ⟨[.int .i64 n1, .int .i64 n2, .int .i64 n3, .int .i64 n4, sd.v]⟩, .agg ⟨[.int .i64 m1, .int .i64 m2, .int .i64 m3, .int .i64 m4, se.v]⟩]⟩ w2.drew fun e w3 => ∃ n : Int, e = .returned (.int .i64 n) /\ K n w3 := by
  intro L2 w2 k i Q K hS2 hl hi h1 hk hQ hK
  refine get_at hS2 (m := k) hi (by omega) (fun sd => ⟨hQ, get_at hS2 (m := k - 1) (by omega) (by omega) (fun se => ?_)⟩)
  refine (dG _ _ sd se _ (hS2.ok _ (List.getElem_mem _)) (hS2.ok _ (List.getElem_mem _))).mono ?_
  rintro e w3 ⟨n, rfl, hn, k3⟩
  rw [<- eo, <- eo] at hn
  exact ⟨n, rfl, hK n w3 (hS2.drew.ah k3) hn⟩
 refine ⟨af (by omega), fun i j w8 => ∃ (x : Nat) (L1 : List Fd), i = (x : Int) /\ (a + 1 <= x /\ x <= b) /\ (0 <= j /\ j <= 5) /\ StF w0 s L1 w8 /\ Loc a b L L1 /\ aE a x L1, fun _ j _ => (5 - j).toNat, ⟨a + 1, L, by omega, by omega, by omega, hS, Loc.refl _ _ _, fun x y h1 h2 h3 => by omega⟩, ?_⟩
 rintro i6 j7 w8 ⟨x0, L1, rfl, hx0, hj7, hS1, hloc, hsort0⟩
 intros
 have hl1 := hloc.len
 refine aa (fun hj5 => ?_) (fun _ => ⟨false, L1, rfl, hS1, hloc, fun h => by cases h⟩)
 refine ⟨fun i w' => ∃ x : Nat, i = (x : Int) /\ (a + 1 <= x /\ x <= b) /\ StF w0 s L1 w' /\ aE a x L1, ?_, ?_⟩
 ·refine ⟨fun i w' => ∃ x : Nat, i = (x : Int) /\ (a + 1 <= x /\ x <= b) /\ StF w0 s L1 w' /\ aE a x L1, fun i _ => b + 1 - i.toNat, ⟨x0, rfl, hx0, hS1, hsort0⟩, ?_⟩
  rintro i w142 ⟨x, rfl, hx, hS2, hsort⟩
  intros
  refine aa (fun h1 => ?_) (fun _ => ⟨x, rfl, hx, hS2.drew, hsort⟩)
  refine cmpN (k := x) hS2 hl1 rfl (by omega) (by omega) (af (by omega)) (fun n w3 hS3 hn => ?_)
  exact aR (fun h2 => ⟨af (by omega), ⟨x + 1, by omega, by omega, hS3, lS hsort (by omega) (fun h => h2 (hn.2 h))⟩, by dsimp only; omega⟩) (fun h2 => ⟨x, rfl, hx, hS3, hsort⟩)
 rintro i178 w179 ⟨x, rfl, hx, hS2, hsort⟩
 intros
 refine aa (fun h1 => ⟨true, L1, rfl, hS2, hloc, fun _ => (show x = b by omega) ▸ hsort⟩) (fun h1 => ?_)
 refine ⟨af (by omega), aa (fun _ => ⟨false, L1, rfl, hS2, hloc, fun h => by cases h⟩) (fun _ => ⟨af (by omega), af (by omega), ?_⟩)⟩
 refine cC hS2 (mi := x) (mj := x - 1) rfl (by omega) (by omega) (by omega) (fun w215 hS3 _ => ?_)
 have hloc2 : Loc a b L (swapF L1 x (x - 1)) := hloc.trans (Loc.swap ⟨by omega, by omega⟩ ⟨by omega, by omega⟩ (by omega))
 have hnear0 := pn hsort hx.1 (show x < L1.length by omega)
 obtain ⟨L2, hL2⟩ : ∃ L2, L2 = swapF L1 x (x - 1) := ⟨_, rfl⟩
 rw [<- hL2] at hS3 hloc2 hnear0
 have hpost : ∀ L3, aE a (x - 1 + 1) L3 -> aE a x L3 := fun L3 h => by rwa [show x - 1 + 1 = x by omega] at h
 refine ⟨fun w' => ∃ L3, StF w0 s L3 w' /\ Loc a b L L3 /\ aE a x L3, ?_, ?_⟩
 ·refine ⟨af (by omega), aa (fun h2 => ⟨af (by omega), ?_⟩) (fun h2 => ⟨L2, hS3, hloc2, fun p q h3 h4 h5 => by omega⟩)⟩
  refine ⟨fun j w' => ∃ (m : Nat) (L3 : List Fd), j = (m : Int) /\ (a <= m /\ m <= x - 1) /\ StF w0 s L3 w' /\ Loc a b L L3 /\ kc a (x - 1) m L3, fun j _ => j.toNat, ⟨x - 1, L2, by omega, by omega, hS3, hloc2, hnear0⟩, ?_⟩
  rintro j w220 ⟨m, L3, rfl, hm, hS4, hloc3, hnear⟩
  intros
  have hl3 := hloc3.len
  refine aa (fun h3 => ?_) (fun h3 => ⟨L3, hS4, hloc3, hpost _ (gM hnear hm.2 (.inl (by omega)))⟩)
  refine cmpN (k := m) hS4 hl3 rfl (by omega) (by omega) (af (by omega)) (fun n w3 hS5 hn => ?_)
  refine aR (fun h4 => ⟨L3, hS5, hloc3, hpost _ (gM hnear hm.2 ?_)⟩) (fun h4 => ⟨af (by omega), af (by omega), ?_⟩)
  ·by_cases hma : m = a
   ·exact .inl hma
   ·exact .inr ⟨by omega, fun h => h4 (hn.2 h)⟩
  ·have ham : a < m := by
    by_cases hma : m = a
    ·exfalso
     subst hma
     rcases hpre.loc hloc3 with h0 | h0
     ·omega
     ·have := h0 m (Nat.le_refl _) (by omega)
      have := hn.1 h4
      omega
    ·omega
   refine cC hS5 (mi := m) (mj := m - 1) rfl (by omega) (by omega) (by omega) (fun w284 hS6 _ => ?_)
   exact ⟨af (by omega), ⟨m - 1, _, by omega, by omega, hS6, hloc3.trans (Loc.swap ⟨by omega, by omega⟩ ⟨by omega, by omega⟩ (by omega)), ke hnear ham hm.2 (by omega) (hn.1 h4)⟩, by dsimp only; omega⟩
 rintro w285 ⟨L3, hS4, hloc3, hsort3⟩
 intros
 have again : ∀ {L4 : List Fd} {w' : World}, StF w0 s L4 w' -> Loc a b L L4 -> aE a x L4 -> inR .i64 (j7 + 1) /\ ((∃ (y : Nat) (L5 : List Fd), (x : Int) = (y : Int) /\ (a + 1 <= y /\ y <= b) /\ (0 <= j7 + 1 /\ j7 + 1 <= 5) /\ StF w0 s L5 w' /\ Loc a b L L5 /\ aE a y L5) /\ (5 - (j7 + 1)).toNat < (5 - j7).toNat) :=
  fun h1 h2 h3 => ⟨af (by omega), ⟨x, _, rfl, hx, by omega, h1, h2, h3⟩, by omega⟩
 refine ⟨af (by omega), aa (fun h2 => ⟨af (by omega), ?_⟩) (fun h2 => again hS4 hloc3 hsort3)⟩
 refine ⟨fun j w' => ∃ (m : Nat) (L4 : List Fd), j = (m : Int) /\ (x + 1 <= m /\ m <= b) /\ StF w0 s L4 w' /\ Loc a b L L4 /\ aE a x L4, fun j _ => b + 1 - j.toNat, ⟨x + 1, L3, by omega, by omega, hS4, hloc3, hsort3⟩, ?_⟩
 rintro j w329 ⟨m, L4, rfl, hm, hS5, hloc4, hsort4⟩
 intros
 have hl4 := hloc4.len
 refine aa (fun h3 => ?_) (fun h3 => again hS5 hloc4 hsort4)
 refine cmpN (k := m) hS5 hl4 rfl (by omega) (by omega) (af (by omega)) (fun n w3 hS6 hn => ?_)
 refine aR (fun h4 => again hS6 hloc4 hsort4) (fun h4 => ⟨af (by omega), af (by omega), ?_⟩)
 refine cC hS6 (mi := m) (mj := m - 1) rfl (by omega) (by omega) (by omega) (fun w394 hS7 _ => ?_)
 exact ⟨af (by omega), ⟨m + 1, _, by omega, by omega, hS7, hloc4.trans (Loc.swap ⟨by omega, by omega⟩ ⟨by omega, by omega⟩ (by omega)), nf (b := b) hsort4 ⟨by omega, by omega⟩ ⟨by omega, by omega⟩ (by omega)⟩, by dsimp only; omega⟩
end Go.D
namespace Go.D
open Go Go.Proofs
def dH (L : List Fd) : Prop := (L.map dg).Nodup
theorem dH.loc {a b : Nat} {L L' : List Fd} (h : dH L) (g : Loc a b L L') : dH L' := (g.perm.map dg).nodup_iff.2 h
theorem dH.ne {L : List Fd} (h : dH L) {i j : Nat} (hi : i < L.length) (hj : j < L.length) (hij : i ≠ j) : kf L i ≠ kf L j := by
 rw [eo hi, eo hj]
 intro he
 unfold dH at h
 have hp := List.pairwise_iff_getElem.1 h
 rcases Nat.lt_or_gt_of_ne hij with h1 | h1
 ·exact hp i j (by simpa using hi) (by simpa using hj) h1 (by rw [List.getElem_map, List.getElem_map]; exact he)
 ·exact hp j i (by simpa using hj) (by simpa using hi) h1 (by rw [List.getElem_map, List.getElem_map]; exact he.symm)
theorem iH.sub {a b b' : Nat} {L : List Fd} (h : iH a b L) (hb : b' <= b) : iH a b' L := h.imp id (fun h k h1 h2 => h k h1 (by omega))
theorem iI {a b : Nat} {L L' : List Fd} (h : aE a b L) (he : ∀ k, a <= k -> k < b -> kf L' k = kf L k) : aE a b L' := fun i j h1 h2 h3 => by
 rw [he i h1 (by omega), he j (by omega) h3]; exact h i j h1 h2 h3
theorem ri {x y m : Nat} {v : Int} {L : List Fd} (hl : ∀ k, x <= k -> k < m -> kf L k <= v) (hm : kf L m = v) (hr : ∀ k, m + 1 <= k -> k < y -> v <= kf L k) (s1 : aE x m L) (s2 : aE (m + 1) y L) : aE x y L := by
 intro p q h1 h2 h3
 by_cases hq : q < m
 ·exact s1 p q h1 h2 hq
 by_cases hqm : q = m
 ·subst hqm; rw [hm]; exact hl p h1 h2
 by_cases hp : p < m
 ·have := hl p h1 hp; have := hr q (by omega) h3; omega
 by_cases hpm : p = m
 ·subst hpm; rw [hm]; exact hr q (by omega) h3
 exact s2 p q (by omega) h2 h3
theorem po (s : Slc) (w0 : World) : ∀ (N : Nat) (L : List Fd) (a b : Nat) (lim : Int) (w : World), b - a <= N -> StF w0 s L w -> a <= b -> b <= L.length -> L.length <= 60 -> (0 <= lim /\ lim <= 100) -> iH a b L -> dH L ->
  Calls Tryd.prog aF ⟨[s.v, .int .i64 (a : Int), .int .i64 (b : Int), .int .i64 lim, fdf]⟩ w fun e w' => e = .returned (.tuple #[]) /\ ∃ L', StF w0 s L' w' /\ Loc a b L L' /\ aE a b L' := by
 intro N
 induction N using Nat.strongRecOn with
 | ind N ih =>
 intro L a b lim w hN hS hab hb hL hlim hpre hap
 refine cu _ _ _ _ ?_
 unfold bp
 refine ⟨fun a' b' lim' _ _ w12 => ∃ (x y : Nat) (L1 : List Fd), a' = (x : Int) /\ b' = (y : Int) /\ (a <= x /\ x <= y /\ y <= b) /\ (0 <= lim' /\ lim' <= 100) /\ StF w0 s L1 w12 /\ Loc a b L L1 /\ iH x y L1 /\ ∀ L', Loc x y L1 L' -> aE x y L' -> aE a b L',
  fun a' b' _ _ _ _ => (b' - a').toNat, ⟨a, b, L, rfl, rfl, by omega, hlim, hS, Loc.refl _ _ _, hpre, fun L' _ h => h⟩, ?_⟩
 rintro a7 b8 lim9 wb wp w12 ⟨x, y, L1, rfl, rfl, hxy, hlim1, hS1, hloc1, hpre1, hfin⟩
 intros
 have hl1 := hloc1.len
 have done : ∀ {L' : List Fd} {w' : World}, StF w0 s L' w' -> Loc x y L1 L' -> aE x y L' -> ∃ L', StF w0 s L' w' /\ Loc a b L L' /\ aE a b L' :=
  fun h1 h2 h3 => ⟨_, h1, hloc1.trans (h2.mono hxy.1 hxy.2.2), hfin _ h2 h3⟩
 refine ⟨af (by omega), aa (fun _ => ?_) (fun h12 => aa (fun _ => ?_) (fun hl0 => ?_))⟩
 ·refine (jo s L1 x y w0 w12 hS1 (by omega) (by omega) (by omega)).mono ?_
  rintro e w150 ⟨rfl, L', h1, h2, h3⟩
  exact ⟨rfl, rfl, done h1 h2 h3⟩
 ·refine (nQ s L1 x y w0 w12 hS1 (by omega) (by omega) (by omega)).mono ?_
  rintro e w152 ⟨rfl, L', h1, h2, h3⟩
  exact ⟨rfl, rfl, done h1 h2 h3⟩
 refine ⟨fun lim' w' => (0 <= lim' /\ lim' <= 100) /\ ∃ L2, StF w0 s L2 w' /\ Loc x y L1 L2, ?_, ?_⟩
 ·refine aN (fun _ => ?_) (fun _ => ⟨hlim1, L1, hS1, Loc.refl _ _ _⟩)
  refine (nb s L1 x y w0 w12 hS1 (by omega) (by omega) (by omega)).mono ?_
  rintro e w155 ⟨rfl, L2, h1, h2⟩
  exact ⟨rfl, af (by omega), by omega, L2, h1, h2⟩
 rintro lim156 w157 ⟨hlim2, L2, hS2, hloc2⟩
 intros
 have hl2 := hloc2.len
 refine (nc s L2 x y w0 w157 hS2 (by omega) (by omega) (by omega)).mono ?_
 rintro e w168 ⟨pv, hint, rfl, hpv, hS3⟩
 refine ⟨_, _, rfl, fun p _ w' => ∃ (pv : Nat) (L3 : List Fd), p = (pv : Int) /\ (x <= pv /\ pv < y) /\ StF w0 s L3 w' /\ Loc x y L1 L3, ?_, ?_⟩
 ·refine aa (fun _ => ?_) (fun _ => ⟨pv, L2, rfl, hpv, hS3, hloc2⟩)
  refine (kH s L2 x y w0 w168 hS3 (by omega) (by omega) (by omega)).mono ?_
  rintro e w173 ⟨rfl, L3, h1, h2⟩
  exact ⟨rfl, af (by omega), af (by omega), af (by omega), (y - 1) - (pv - x), L3, by omega, by omega, h1, hloc2.trans h2⟩
 clear hpv hS3 hS2 hl2 hloc2
 rintro p174 hint175 w176 ⟨pv, L3, rfl, hpv, hS3, hloc3⟩
 intros
 have hl3 := hloc3.len
 refine ⟨fun w' => ∃ L4, StF w0 s L4 w' /\ Loc x y L1 L4, ?_, ?_⟩
 ·have go : ∀ w', StF w0 s L3 w' -> ∃ L4, StF w0 s L4 w' /\ Loc x y L1 L4 := fun w' h => ⟨L3, h, hloc3⟩
  refine aN (fun _ => aN (fun _ => aa (fun _ => ?_) (fun _ => go _ hS3)) (fun _ => go _ hS3)) (fun _ => go _ hS3)
  refine (kI s L3 x y w0 w176 hS3 (by omega) (by omega) (by omega) (hpre1.loc hloc3)).mono ?_
  rintro e w192 ⟨r, L4, rfl, h1, h2, h3⟩
  refine ⟨r, rfl, aN (fun hr => ⟨rfl, done h1 (hloc3.trans h2) (h3 hr)⟩) (fun _ => ⟨L4, h1, hloc3.trans h2⟩)⟩
 clear hS3 hl3 hloc3
 rintro w194 ⟨L4, hS4, hloc4⟩
 intros
 have hl4 := hloc4.len
 have hpre4 := hpre1.loc hloc4
 have hap4 : dH L4 := (hap.loc hloc1).loc hloc4
 refine ⟨fun a' w' => a' = (x : Int) /\ StF w0 s L4 w', ?_, ?_⟩
 ·refine aa (fun h1 => ⟨af (by omega), ?_⟩) (fun _ => ⟨rfl, hS4.drew⟩)
  refine get_at hS4 (m := x - 1) (by omega) (by omega) (fun sd => get_at hS4 (m := pv) rfl (by omega) (fun se => ?_))
  refine (dG _ _ sd se _ (hS4.ok _ (List.getElem_mem _)) (hS4.ok _ (List.getElem_mem _))).mono ?_
  rintro e w222 ⟨n, rfl, hn, k222⟩
  rw [<- eo, <- eo] at hn
  refine ⟨n, rfl, aR (fun h2 => absurd (hn.2 ?_) h2) (fun _ => ⟨rfl, hS4.drew.ah k222⟩)⟩
  rcases hpre4 with h0 | h0
  ·omega
  ·have h3 := h0 pv hpv.1 hpv.2
   have h4 := hap4.ne (i := x - 1) (j := pv) (by omega) (by omega) (by omega)
   omega
 rintro a227 w228 ⟨rfl, hS5⟩
 intros
 refine (nS s L4 x y pv w0 w228 hS5 hpv (by omega) (by omega)).mono ?_
 rintro e w255 ⟨mid, fl, L5, rfl, hmid, hS6, hloc5, hleft, hright⟩
 have hl5 := hloc5.len
 have hap5 := hap4.loc hloc5
 have hpre5 := hpre4.loc hloc5
 have hloc15 := hloc4.trans hloc5
 refine ⟨_, _, rfl, af (by omega), af (by omega), by omega, by omega, af (by omega), aa (fun hcmp => ?_) (fun hcmp => ⟨af (by omega), ?_⟩)⟩
 ·refine (ih (mid - x) (by omega) L5 x mid lim156 w255 (Nat.le_refl _) hS6 (by omega) (by omega) (by omega) hlim2 (hpre5.sub (by omega)) hap5).mono ?_
  rintro e w259 ⟨rfl, L6, hS7, hloc6, hs6⟩
  have e1 : (mid : Int) + 1 = ((mid + 1 : Nat) : Int) := by omega
  have hr6 : ∀ k, mid <= k -> kf L6 k = kf L5 k := fun k hk => hloc6.out k (by omega)
  have hl6 : ∀ k, x <= k -> k < mid -> kf L6 k <= kf L5 mid := hloc6.inn (fun v => v <= kf L5 mid) hleft
  have hm1 : mid + 1 - 1 = mid := rfl
  refine ⟨rfl, af (by omega), ⟨mid + 1, y, L6, e1, rfl, by omega, hlim2, hS7, (hloc1.trans (hloc15.mono hxy.1 hxy.2.2)).trans (hloc6.mono (by omega) (by omega)), .inr (fun k h1 h2 => by rw [hm1, hr6 mid (Nat.le_refl _), hr6 k (by omega)]; exact hright k (by omega) h2), fun L' g1 g2 => ?_⟩, by dsimp only; omega⟩
  refine hfin L' ((hloc15.trans (hloc6.mono (Nat.le_refl _) (by omega))).trans (g1.mono (by omega) (Nat.le_refl _))) ?_
  have o1 : ∀ k, k < mid + 1 -> kf L' k = kf L6 k := fun k hk => g1.out k (by omega)
  refine ri (m := mid) (v := kf L5 mid) (fun k h1 h2 => by rw [o1 k (by omega)]; exact hl6 k h1 h2) (by rw [o1 mid (by omega), hr6 mid (Nat.le_refl _)]) ?_ (iI hs6 (fun k h1 h2 => o1 k (by omega))) g2
  exact g1.inn (fun v => kf L5 mid <= v) (fun k h1 h2 => by rw [hr6 k (by omega)]; exact hright k (by omega) h2)
 ·have e1 : (mid : Int) + 1 = ((mid + 1 : Nat) : Int) := by omega
  rw [e1]
  refine (ih (y - (mid + 1)) (by omega) L5 (mid + 1) y lim156 w255 (Nat.le_refl _) hS6 (by omega) (by omega) (by omega) hlim2 (.inr (fun k h1 h2 => hright k (by omega) h2)) hap5).mono ?_
  rintro e w261 ⟨rfl, L6, hS7, hloc6, hs6⟩
  have hl6 : ∀ k, k < mid + 1 -> kf L6 k = kf L5 k := fun k hk => hloc6.out k (by omega)
  have hr6 : ∀ k, mid + 1 <= k -> k < y -> kf L5 mid <= kf L6 k := hloc6.inn (fun v => kf L5 mid <= v) (fun k h1 h2 => hright k (by omega) h2)
  have hloc6' : Loc x y L5 L6 := hloc6.mono (by omega) (Nat.le_refl _)
  refine ⟨rfl, ⟨x, mid, L6, rfl, rfl, by omega, hlim2, hS7, (hloc1.trans (hloc15.mono hxy.1 hxy.2.2)).trans (hloc6'.mono hxy.1 hxy.2.2), (hpre5.loc hloc6').sub (by omega), fun L' g1 g2 => ?_⟩, by dsimp only; omega⟩
  refine hfin L' ((hloc15.trans hloc6').trans (g1.mono (Nat.le_refl _) (by omega))) ?_
  have o1 : ∀ k, mid <= k -> kf L' k = kf L6 k := fun k hk => g1.out k (by omega)
  refine ri (m := mid) (v := kf L5 mid) ?_ (by rw [o1 mid (Nat.le_refl _), hl6 mid (by omega)]) (fun k h1 h2 => by rw [o1 k (by omega)]; exact hr6 k h1 h2) g2 (iI hs6 (fun k h1 h2 => o1 k (by omega)))
  exact g1.inn (fun v => v <= kf L5 mid) (fun k h1 h2 => by rw [hl6 k (by omega)]; exact hleft k h1 h2)
theorem nT (s : Slc) (L : List Fd) (css : List (List Value)) (w : World) (hR : Rows FdR w s L css) (hok : ∀ x ∈ L, m6 x) (hL : L.length <= 60) (hap : dH L) :
  Calls Tryd.prog bU ⟨[s.v, fdf]⟩ w fun e w' => e = .returned (.tuple #[]) /\ ∃ L', StF w s L' w' /\ L'.Perm L /\ aE 0 L'.length L' := by
 have hS := StF.start hR hok
 have hsl := hR.sl
 refine cW _ ?_
 unfold bI
 rw [show IntKind.wrap .u64 ((s.l : Nat) : Int) = ((s.l : Nat) : Int) from bu (gn (by omega))]
 have hlen : Calls Tryd.prog bG ⟨[.int .u64 ((s.l : Nat) : Int)]⟩ w fun e w' => ∃ k : Int, e = .returned (.int .i64 k) /\ (0 <= k /\ k <= 100) /\ w' = w := by
  rcases Nat.eq_zero_or_pos s.l with h0 | h0
  ·rw [h0]; exact pk w
  ·refine (ld s.l h0 (by omega) w).mono ?_
   rintro e w' ⟨k, rfl, hk, rfl⟩
   exact ⟨k, rfl, by omega, rfl⟩
 refine hlen.mono ?_
 rintro e w3 ⟨k, rfl, hk, rfl⟩
 refine ⟨k, rfl, ?_⟩
 have e0 : (0 : Int) = ((0 : Nat) : Int) := rfl
 rw [hsl]
 refine (po s w3 L.length L 0 L.length k w3 (by omega) hS (by omega) (Nat.le_refl _) hL hk (.inl rfl) hap).mono ?_
 rintro e w6 ⟨rfl, L', h1, h2, h3⟩
 exact ⟨rfl, rfl, L', h1, h2.perm, by rw [h2.len]; exact h3⟩
end Go.D
namespace Go.D
open Go Go.Proofs
theorem kj (sh : Int) (L : List Pg) : (db sh L).length <= L.length := by
 have key : ∀ (ps : List Pg) (G : List (Ky × List (Int × Pg))), (ps.foldl gd G).length <= G.length + ps.length := by
  intro ps
  induction ps with
  | nil => intro G; simp
  | cons p ps ih =>
   intro G
   rw [List.foldl_cons]
   have h1 := ih (gd G p)
   have h2 : (gd G p).length <= G.length + 1 := by
    unfold gd
    rw [List.length_map]
    split
    ·omega
    ·simp
   rw [List.length_cons]
   omega
 have h1 := key (L.filter (bZ sh)) []
 have h2 := List.length_filter_le (bZ sh) L
 unfold db
 simp at h1
 omega
theorem pq (A : List (Ky × dp)) {ks ks' : List Ky} (h : ks.Perm ks') : (fR A ks).Perm (fR A ks') := h.filterMap _
theorem qw {A : List (Ky × dp)} (hn : (A.map (·.1)).Nodup) : fR A (A.map (·.1)) = (fw A).filterMap fun e => bC e.1 e.2 := by
 unfold fR fw
 rw [List.filterMap_map, List.filterMap_map]
 have key : ∀ B : List (Ky × dp), (∀ e ∈ B, e ∈ A) -> B.filterMap ((fun k => bC k (((lookL A k).map (·.l)).getD [])) ∘ fun e => e.1) = B.filterMap ((fun e : Ky × List (Int × Pg) => bC e.1 e.2) ∘ fun e => (e.1, e.2.l)) := by
  intro B
  induction B with
  | nil => intro _; rfl
  | cons e B ih =>
   intro hB
   rw [List.filterMap_cons, List.filterMap_cons, ih (fun e' he => hB e' (by simp [he]))]
   simp only [Function.comp_apply]
   rw [eC hn (hB e (by simp))]
   rfl
 exact key A (fun _ h => h)
theorem fx {k : Ky} {l : List (Int × Pg)} {f : Fd} (h : bC k l = some f) : f.1 = k.1 /\ f.2.1 = k.2 := by
 unfold bC at h
 split at h
 ·cases h
 ·split at h
  ·cases h
  ·split at h
   ·cases h; exact ⟨rfl, rfl⟩
   ·cases h
theorem qX {A : List (Ky × dp)} {ks : List Ky} (h : ∀ k ∈ ks, iC k) : ∀ x ∈ fR A ks, m6 x := by
 intro x hx
 obtain ⟨k, hk, hf⟩ := List.mem_filterMap.1 hx
 obtain ⟨h1, h2⟩ := fx hf
 have := h k hk
 unfold m6
 rw [h1, h2]
 exact this
theorem kl {A : List (Ky × dp)} : ∀ {ks : List Ky}, (∀ k ∈ ks, iC k) -> ks.Nodup -> dH (fR A ks)
 | [], _, _ => by simp [dH, fR]
 | k :: ks, hok, hn => by
  rw [List.nodup_cons] at hn
  have ih := kl (A := A) (fun k' hk => hok k' (by simp [hk])) hn.2
  unfold dH fR at ih ⊢
  rw [List.filterMap_cons]
  split
  ·exact ih
  ·rename_i f hf
   rw [List.map_cons, List.nodup_cons]
   refine ⟨fun hm => ?_, ih⟩
   obtain ⟨g, hg, hgk⟩ := List.mem_map.1 hm
   obtain ⟨k', hk', hf'⟩ := List.mem_filterMap.1 hg
   obtain ⟨a1, a2⟩ := fx hf
   obtain ⟨b1, b2⟩ := fx hf'
   have o1 := hok k (by simp)
   have o2 := hok k' (by simp [hk'])
   unfold dg at hgk
   rw [a1, a2, b1, b2] at hgk
   have : k = k' := Prod.ext (by have := o1.2; have := o2.2; omega) (by have := o1.2; have := o2.2; omega)
   subst this
   exact hn.1 hk'
theorem pr {L : List Fd} (h : aE 0 L.length L) : L.Pairwise fun x y => dg x <= dg y :=
 List.pairwise_iff_getElem.2 (fun i j hi hj hij => by
  have := h i j (Nat.zero_le _) hij hj
  rwa [eo hi, eo hj] at this)
theorem km : ∀ {L R : List Fd}, L.Perm R -> L.Pairwise (fun x y => dg x <= dg y) -> R.Pairwise (fun x y => dg x < dg y) -> L = R
 | [], R, h, _, _ => (List.nil_perm.1 h).symm
 | x :: L, [], h, _, _ => absurd h.length_eq (by simp)
 | x :: L, y :: R, h, h1, h2 => by
  rw [List.pairwise_cons] at h1 h2
  have hxy : x = y := by
   have hx : x ∈ y :: R := h.mem_iff.1 (by simp)
   have hy : y ∈ x :: L := h.mem_iff.2 (by simp)
   rcases List.mem_cons.1 hx with h3 | h3
   ·exact h3
   ·rcases List.mem_cons.1 hy with h4 | h4
    ·exact h4.symm
    ·have := h1.1 y h4
     have := h2.1 x h3
     omega
  subst hxy
  rw [km (List.perm_cons _ |>.1 h) h1.2 h2.2]
theorem pw {L R : List Fd} (h : L.Perm R) (h1 : aE 0 L.length L) (h2 : R.Pairwise (fun x y => dg x < dg y)) : L = R := km h (pr h1) h2
theorem kn (s : Slc) (sh : Int) (L : List Pg) (css : List (List Value)) (w : World) (hR : Rows PgR w s L css) (hL : L.length <= 60) (R : List Fd) (hRp : R.Perm (kb sh L)) (hRs : R.Pairwise fun x y => dg x < dg y) :
  Calls Tryd.prog dJ ⟨[s.v, .int .i64 sh]⟩ w fun x w' => ∃ (t : Slc) (fs : List (List Value)), x = .returned t.v /\ av w w' /\ Rows FdR w' t R fs /\ cX w t /\ (∀ j, cY fs j -> w.heap.size <= j) := by
 refine kF _ _ ?_
 unfold j2
 refine (mX s sh L css w hR (by omega)).mono ?_
 rintro e w4 ⟨m, A, rfl, k4, hA, hp⟩
 have hAlen : A.length <= 60 := by
  have : (fw A).length = A.length := by unfold fw; simp
  rw [<- this, hp]; exact Nat.le_trans (kj sh L) hL
 have hinv := rW sh L
 rw [<- hp] at hinv
 obtain ⟨it, hit, hnew⟩ := hA.map.range (K := fun r7 w8 => r7 = w4.heap.size /\ gA KM w8 r7 m A [] /\ av w4 w8 /\ w8.heap.size = r7 + 1) (fun r w1 h1 h2 h3 h4 => ⟨h1, h2, h3, h4⟩)
 refine ⟨some m, rfl, it, hit, ?_⟩
 intro r7 w8 hr7' hw8'
 obtain ⟨hr7, hit8, k8, hs8⟩ := hnew r7 w8 hr7' hw8'
 have hml := hA.map.lt
 let I : Slc -> World -> Prop := fun out w12 => ∃ ks, gA KM w12 r7 m A ks /\ ks.Nodup /\ (∀ k ∈ ks, k ∈ A.map (·.1)) /\ av w w12 /\ bN w12 w.heap.size m A /\
  ∃ fs, Rows FdR w12 out (fR A ks) fs /\ (∀ j, aC out j -> r7 < j) /\ ∀ j, cY fs j -> r7 < j
 refine ⟨I, fun _ w12 => A.length - qa w12 r7, ⟨[], hit8, by simp, by simp, k4.trans k8, hA.ah k8, [], Rows.nil _ _, (by rintro j ⟨a, ha, _⟩; cases ha), (by rintro j ⟨cs, hc, _⟩; simp at hc)⟩, ?_⟩
 rintro out w12 ⟨ks, hit12, hnd, hks, k12, hA12, fs, hfs, hout, hfoot⟩
 intros
 have hr7w : w.heap.size <= r7 := by have := k4.size; omega
 refine hit12.next hA.map.nd (fun hall => ?_) (fun k a w32 hka hkn hit32 x32 z32 hent => ?_)
 ·have hkl : ks.length <= A.length := by
   have := hnd.length_le_of_subset (fun x hx => hks x hx)
   simpa using this
  have hxp : (fR A ks).Perm (kb sh L) := by
   have e0 : ks.Perm (A.map (·.1)) := (List.perm_ext_iff_of_nodup hnd hA.map.nd).2 (fun k => ⟨hks k, fun hk => by
    obtain ⟨p, hp2, rfl⟩ := List.mem_map.1 hk
    exact hall p hp2⟩)
   have e1 := pq A e0
   rw [qw hA.map.nd, hp] at e1
   exact e1
  have hok : ∀ x ∈ fR A ks, m6 x := qX (fun k hk => by
   obtain ⟨p, hp2, rfl⟩ := List.mem_map.1 (hks k hk)
   exact hA.ok p hp2)
  have hkok : ∀ k ∈ ks, iC k := fun k hk => by
   obtain ⟨p, hp2, rfl⟩ := List.mem_map.1 (hks k hk)
   exact hA.ok p hp2
  have hap : dH (fR A ks) := kl hkok hnd
  have hxl : (fR A ks).length <= 60 := Nat.le_trans (List.length_filterMap_le _ _) (by omega)
  refine (nT out (fR A ks) fs w12 hfs hok hxl hap).mono ?_
  rintro e w57 ⟨rfl, L', hS', hperm, hsort⟩
  obtain ⟨fs', hfs', hft⟩ := hS'.rows
  have hR' : L' = R := pw (hperm.trans (hxp.trans hRp.symm)) hsort hRs
  subst hR'
  have hr7s := hfs.lt
  refine ⟨rfl, out, fs', rfl, k12.ext hS'.ext (fun j hj => by have := hout j hj; omega), hfs', fun j hj => by have := hout j hj; omega, fun j hj => ?_⟩
  have := hfoot j ((oC hfs).2 (hft j hj).2)
  omega
 have hksl : ks.length < A.length := by
  have h1 : (ks ++ [k]).Nodup := by
   rw [List.nodup_append]
   exact ⟨hnd, by simp, fun x hx y hy => by simp at hy; subst hy; rintro rfl; exact hkn hx⟩
  have h2 : (ks ++ [k]) ⊆ A.map (·.1) := by
   intro x hx
   rcases List.mem_append.1 hx with hx | hx
   ·exact hks x hx
   ·rw [List.mem_singleton] at hx; subst hx; exact List.mem_map.2 ⟨(x, a), hka, rfl⟩
  have := h1.length_le_of_subset h2
  simp at this
  omega
 have hseen12 := hit12.seen
 have r7lt : r7 < w12.heap.size := by
  obtain ⟨_, _, _, _, _, _, h1, _⟩ := hit12
  exact bH h1
 have k32 : av w w32 := k12.ext x32 (fun j hj => by omega)
 have obj7 : ∀ {r : Nat} {c : List Value}, ab w12 r c -> r ≠ r7 := by
  rintro r c ⟨T, f, h, _⟩ rfl
  obtain ⟨_, _, _, _, _, _, h1, _⟩ := hit12
  rw [h] at h1; cases h1
 have map7 : ∀ {r : Nat} {l : List (Int × Pg)}, dU PM w12 r l -> r ≠ r7 := by
  rintro r l h rfl
  obtain ⟨es, ck, h2, _⟩ := h.at
  obtain ⟨_, _, _, _, _, _, h1, _⟩ := hit12
  rw [h2] at h1; cases h1
 have hA32 : bN w32 w.heap.size m A := ⟨hA12.map.ext x32 (fun hh => by omega), hA12.ok, fun e he => ⟨(hA12.at' e he).1.ext x32 (obj7 (hA12.at' e he).1), (hA12.at' e he).2.ext x32 (map7 (hA12.at' e he).2)⟩, hA12.mm, hA12.mo, hA12.lo⟩
 have hfs32 : Rows FdR w32 out (fR A ks) fs := hfs.ext x32 (fun j hj hh => by have := hout j hj; omega) (fun j hj hh => by have := hfoot j hj; omega)
 obtain ⟨oa, ma⟩ := hA32.at' _ hka
 have hlk : lookL A k = some a := eC hA.map.nd hka
 have hR32 := hR.ah k32
 refine ⟨_, _, hent, Sh.q8 (s := .ptr) (x := (some ⟨a.r, 0, none⟩ : Option Addr)) ?_⟩
 have hpg : ∀ q ∈ a.l, (0 <= q.1 /\ q.1 < k.2) /\ fQ w32 q.2 /\ q.2.dat.length <= 256 := by
  intro q hq
  obtain ⟨h1, h2, h3, h4⟩ := hinv (k, a.l) (List.mem_map.2 ⟨(k, a), hka, rfl⟩) q hq
  obtain ⟨_, _, _, _, h5⟩ := dc h3
  have h6 := h5.2.2.2.1
  have hparts : q.2.parts = k.2 := congrArg Prod.snd h4
  obtain ⟨i, hi, hgi⟩ := List.getElem_of_mem h1
  have hd := hR32.row i (by rw [hR32.len]; exact hi) hi
  rw [hgi] at hd
  exact ⟨by rw [h2, <- hparts]; exact h6, hd.2.1, by have := h5.2.2.2.2; have := hd.2.1.1.1; omega⟩
 refine (nN a.r a.m k a.l w32 oa ma (hA.ok _ hka) hpg).mono ?_
 rintro e w37 ⟨k37, hfnd⟩
 have hlt32 : w32.heap.size = w12.heap.size := z32
 -- the next state
 have hnext : ∀ (w5 : World) (out' : Slc) (fs' : List (List Value)) , av w32 w5 -> True -> True := fun _ _ _ _ _ => trivial
 have hnd' : (ks ++ [k]).Nodup := by
  rw [List.nodup_append]
  exact ⟨hnd, by simp, fun x hx y hy => by simp at hy; subst hy; rintro rfl; exact hkn hx⟩
 have hks' : ∀ x ∈ ks ++ [k], x ∈ A.map (·.1) := by
  intro x hx
  rcases List.mem_append.1 hx with hx | hx
  ·exact hks x hx
  ·rw [List.mem_singleton] at hx; subst hx; exact List.mem_map.2 ⟨(x, a), hka, rfl⟩
 have hsn := pg A ks k
 rw [hlk] at hsn
 dsimp only [Option.map_some, Option.getD_some] at hsn
 cases hf : bC k a.l with
 | none =>
  rw [hf] at hfnd hsn
  dsimp only at hfnd
  subst hfnd
  refine ⟨_, _, _, _, _, _, rfl, ai (fun r44 w45 hr44 hb44 k44 hs44 => ?_)⟩
  have o44 : ab w45 r44 fd0 := ab.bS hb44
  obtain ⟨c1, c2⟩ := o44.bh (cs := fd0) (n := 5) rfl rfl
  refine ⟨c1, fun w46 hw46 => ?_⟩
  obtain ⟨p44, x46, z46⟩ := c2 w46 hw46
  have z37 := k37.size
  have k46 : av w32 w46 := (k37.trans k44).ext x46 (fun j hj => by omega)
  refine aN (fun h => by cases h) (fun _ => ?_)
  have hit46 := hit32.ext k46 (fun h => h) (fun h => h)
  refine ⟨⟨ks ++ [k], hit46, hnd', hks', k32.trans k46, hA32.ah k46, fs, ?_, hout, hfoot⟩, ?_⟩
  ·rw [hsn]
   simpa using hfs32.ah k46
  ·have := hit46.seen
   dsimp only
   rw [this, hseen12, List.length_append]
   simp
   omega
 | some f =>
  rw [hf] at hfnd hsn
  dsimp only at hfnd
  obtain ⟨sd, rfl, hsd, hsdc, hsdf⟩ := hfnd
  refine ⟨_, _, _, _, _, _, rfl, ai (fun r44 w45 hr44 hb44 k44 hs44 => ?_)⟩
  have o44 : ab w45 r44 fd0 := ab.bS hb44
  obtain ⟨c1, c2⟩ := o44.bh (cs := fdC f sd) (n := 5) rfl rfl
  refine ⟨c1, fun w46 hw46 => ?_⟩
  obtain ⟨p44, x46, z46⟩ := c2 w46 hw46
  have z37 := k37.size
  have k3746 : av w37 w46 := k44.ext x46 (fun j hj => by omega)
  have k46 : av w32 w46 := k37.trans k3746
  refine aN (fun _ => ?_) (fun h => by cases h)
  refine ⟨_, _, _, _, _, p44.row, ai (fun r52 w53 hr52 hb52 k52 hs52 => ?_)⟩
  have k53 := k46.trans k52
  have hfs53 := hfs32.ah k53
  refine hfs53.snoc (cs := fdC f sd) (x := f) (z := _) rfl ⟨sd, rfl, az hsd (k3746.trans k52), hsdc⟩ (fun j hj ho => ?_) hb52 (.inl (by simp)) ?_ (fun s' w' g1 g2 g3 => ?_)
  ·have h1 := hsdf j (gL hj).2
   have h2 := hfs32.lt j ho
   omega
  ·have : (fR A ks).length <= ks.length := List.length_filterMap_le _ _
   omega
  have hit' := (hit32.ext k53 (fun h => h) (fun h => h)).ext g2 (fun hh => by have := hout _ hh; omega) (fun hh => by have := hout _ hh; omega)
  have hout' : ∀ j, aC s' j -> r7 < j := fun j hj => (g3 j hj).elim (fun h => hout j h) (fun h => by have := k53.size; omega)
  have hA' : bN w' w.heap.size m A := by
   have h0 := hA32.ah k53
   refine ⟨h0.map.ext g2 (fun hh => by have := hout _ hh; omega), h0.ok, fun e he => ?_, h0.mm, h0.mo, h0.lo⟩
   obtain ⟨q1, q2⟩ := h0.at' e he
   have l1 := (hA.at' e he).1.lt
   have l2 := (hA.at' e he).2.lt
   exact ⟨q1.ext g2 (fun hh => by have := hout _ hh; omega), q2.ext g2 (fun hh => by have := hout _ hh; omega)⟩
  refine ⟨⟨ks ++ [k], hit', hnd', hks', (k32.trans k53).ext g2 (fun j hj => by have := hout j hj; omega), hA', fs ++ [fdC f sd], ?_, hout', ?_⟩, ?_⟩
  ·rw [hsn]; exact g1
  ·rintro j ⟨cs, hc, hj⟩
   rcases List.mem_append.1 hc with h | h
   ·exact hfoot j ⟨cs, h, hj⟩
   ·rw [List.mem_singleton] at h; subst h
    have := hsdf j (gL hj).2
    omega
  ·have := hit'.seen
   dsimp only
   rw [this, hseen12, List.length_append]
   simp
   omega
end Go.D
namespace Go.D
open Go Go.Proofs
theorem fW (n m : Int) (w : World) : Calls Tryd.prog au ⟨[.int .i64 n, .int .i64 m]⟩ w fun e w' => e = .returned (.bool (decide (1 <= n /\ n <= m))) /\ w' = w := by
 refine fK _ _ ?_
 unfold ei
 refine aa (fun h => ⟨?_, rfl⟩) (fun h => ⟨?_, rfl⟩)
 ·rw [show decide (1 <= n /\ n <= m) = decide (n <= m) from decide_eq_decide.2 ⟨fun x => x.2, fun x => ⟨h, x⟩⟩]
 ·rw [decide_eq_false (fun x => h x.1)]
theorem ko (sh cl sq sv ot : Int) (ops : Slc) (key : List UInt8) (up p q : Int) (sd : Slc) (w : World) :
  Calls Tryd.prog cm ⟨[.agg ⟨bg 5 sh cl sq sv ot ops key up p q sd⟩]⟩ w fun x w' => x = .returned (.bool (cI sh up q p sd.l)) /\ av w w' := by
 refine fr _ _ _ _ _ _ _ _ _ _ _ _ ?_
 unfold dW
 refine ai (fun r w14 hr hb k14 hs => ?_)
 have o : ab w14 r (bg 5 sh cl sq sv ot ops key up p q sd) := ab.bS hb
 refine ⟨fun _ w' => w' = w14, ?_, ?_⟩
 ·refine ⟨sh, o.cell 1 (by simp [bg]), (fW _ _ _).mono ?_⟩
  rintro e w18 ⟨rfl, rfl⟩
  refine ⟨_, rfl, aN (fun _ => ⟨cl, o.cell 2 (by simp [bg]), (fW _ _ _).mono ?_⟩) (fun _ => rfl)⟩
  rintro e w22 ⟨rfl, rfl⟩
  exact ⟨_, rfl, aN (fun _ => ⟨_, o.cell 1 (by simp [bg]), _, o.cell 2 (by simp [bg]), rfl⟩) (fun _ => rfl)⟩
 rintro two w27 rfl
 intros
 have no : ¬ eH sh up q p sd.l -> (Ending.returned (Value.bool false) = .returned (.bool (cI sh up q p sd.l)) /\ av w w27) := fun h => ⟨by rw [re h], k14⟩
 refine ⟨5, o.cell 0 (by simp [bg]), aa (fun h => absurd h (by decide)) (fun _ => aa (fun h => absurd h (by decide)) (fun _ => aa (fun h => absurd h (by decide)) (fun _ => aa (fun h => absurd h (by decide)) (fun _ => aa (fun _ => ?_) (fun h => absurd rfl h)))))⟩
 refine ⟨sh, o.cell 1 (by simp [bg]), aa (fun h1 => ?_) (fun h1 => no (fun h => h1 h.1.1))⟩
 refine ⟨sh, o.cell 1 (by simp [bg]), aa (fun h2 => ?_) (fun h2 => no (fun h => h2 h.1.2))⟩
 refine ⟨up, o.cell 8 (by simp [bg]), aa (fun h3 => ?_) (fun h3 => no (fun h => h3 h.2.1.1))⟩
 refine ⟨up, o.cell 8 (by simp [bg]), aa (fun h4 => ?_) (fun h4 => no (fun h => h4 h.2.1.2))⟩
 refine ⟨q, o.cell 10 (by simp [bg]), (fW _ _ _).mono ?_⟩
 rintro e w185 ⟨rfl, rfl⟩
 refine ⟨_, rfl, aa (fun h5 => ?_) (fun h5 => no (fun h => h5 h.2.2.1))⟩
 refine ⟨p, o.cell 9 (by simp [bg]), aa (fun h6 => ?_) (fun h6 => no (fun h => h6 h.2.2.2.1.1))⟩
 refine ⟨p, o.cell 9 (by simp [bg]), q, o.cell 10 (by simp [bg]), aa (fun h7 => ?_) (fun h7 => no (fun h => h7 h.2.2.2.1.2))⟩
 refine ⟨sd, o.cell 11 (by simp [bg]), ?_, k14⟩
 have : decide (((sd.l : Nat) : Int) <= 256) = cI sh up q p sd.l := decide_eq_decide.2 ⟨fun h => ⟨⟨h1, h2⟩, ⟨h3, h4⟩, h5, ⟨h6, h7⟩, by omega⟩, fun h => by have := h.2.2.2.2; omega⟩
 rw [this]
def jq (sh : Int) (k : Ky) (i : Int) (p : Pg) : Bool := bZ sh p && decide ((p.up = k.1 /\ p.parts = k.2) /\ p.part = i)
def bB (sh : Int) (k : Ky) (i : Int) (L : List Pg) : Option Pg := L.find? (jq sh k i)
def dq (ps : List Pg) : Int := ps.foldl (fun f p => if f < 0 then p.at' else if p.at' < f then p.at' else f) (-1)
def gC (ps : List Pg) : Int := ps.foldl (fun m p => if m < p.at' then p.at' else m) 0
def ct (sh : Int) (k : Ky) (L : List Pg) (n : Nat) : List Pg := (List.range n).map fun (i : Nat) => (bB sh k (i : Int) L).getD da
theorem px (sh : Int) (k : Ky) (L : List Pg) (n : Nat) : ct sh k L (n + 1) = ct sh k L n ++ [(bB sh k (n : Int) L).getD da] := by
 unfold ct; rw [List.range_succ, List.map_append]; rfl
def eK (sh : Int) (k : Ky) (L : List Pg) : Option Fd :=
 if (List.range k.2.toNat).all (fun (i : Nat) => (bB sh k (i : Int) L).isSome) = false then none
 else if (dF (ct sh k L k.2.toNat)).length < 4 then none
 else if dK ((dF (ct sh k L k.2.toNat)).drop 4) = dF (ct sh k L k.2.toNat) then
  some (k.1, k.2, dq (ct sh k L k.2.toNat), gC (ct sh k L k.2.toNat), (dF (ct sh k L k.2.toNat)).drop 4)
 else none
theorem fh {sh : Int} {k : Ky} {i : Int} {p : Pg} (h : jq sh k i p = true) : bZ sh p = true /\ (p.up = k.1 /\ p.parts = k.2) /\ p.part = i := by
 unfold jq at h
 simp only [Bool.and_eq_true, decide_eq_true_eq] at h
 exact h
theorem qx (s : Slc) (sh : Int) (k : Ky) (L : List Pg) (css : List (List Value)) (w : World) (hR : Rows PgR w s L css) (hL : L.length <= 60) (hk : iC k) :
  Calls Tryd.prog cF ⟨[s.v, .int .i64 sh, .int .i64 k.1, .int .i64 k.2]⟩ w fun x w' => av w w' /\
   match eK sh k L with
   | none => ∃ (c1 c2 c3 c4 : Int) (t : Slc), x = .returned (.tuple ⟨[.agg ⟨[.int .i64 c1, .int .i64 c2, .int .i64 c3, .int .i64 c4, t.v]⟩, .bool false]⟩)
   | some f => ∃ t : Slc, x = .returned (.tuple ⟨[.agg ⟨fdC f t⟩, .bool true]⟩) /\ ar w' t f.2.2.2.2 /\ t.l <= t.c /\ cX w t := by
 have hsl := hR.sl
 obtain ⟨N, hN⟩ : ∃ N : Nat, N = k.2.toNat := ⟨_, rfl⟩
 have hk2 : k.2 = (N : Int) := by have := hk.2; omega
 have hN64 : 1 <= N /\ N <= 64 := by have := hk.2; omega
 refine fZ _ _ _ _ ?_
 unfold eF
 refine ai (fun r5 w6 hr5 hb5 k5 hs5 => ai (fun r7 w8 hr7 hb7 k7 hs7 => ?_))
 have o5 : ab w8 r5 fd0 := ab.ah (c := fd0) (ab.bS hb5) k7
 have o7 : ab w8 r7 fd0 := ab.bS hb7
 obtain ⟨c1, c2⟩ := o7.bh (cs := [.int .i64 k.1, .int .i64 k.2, .int .i64 (-1), .int .i64 0, (⟨none, 0, 0⟩ : Slc).v]) (n := 5) rfl rfl
 refine ⟨c1, fun w9 hw9 => ?_⟩
 obtain ⟨p7, x9, z9⟩ := c2 w9 hw9
 have z5 := k5.size
 have k9 : av w w9 := (k5.trans k7).ext x9 (fun j hj => by omega)
 have q5 := o5.ext x9 (fun hh => by omega)
 refine ai (fun r10 w11 hr10 hb10 k10 hs10 => ?_)
 have hr7w : w.heap.size <= r7 := by omega
 have z9' : w9.heap.size = w8.heap.size := z9
 have r7lt := p7.lt
 let S : Slc -> List Pg -> World -> Prop := fun all ps w2 => Own w2 all 1 ((dF ps).map ba) /\ ab w2 r7 [.int .i64 k.1, .int .i64 k.2, .int .i64 (dq ps), .int .i64 (gC ps), (⟨none, 0, 0⟩ : Slc).v] /\ ab w2 r5 fd0 /\ av w w2 /\ (∀ j, aC all j -> r7 < j) /\ ps.length <= N /\ ∀ p ∈ ps, p.dat.length <= 256
 have hallP : ∀ n, (∀ i : Nat, i < n -> (bB sh k (i : Int) L).isSome = true) ↔ (List.range n).all (fun (i : Nat) => (bB sh k (i : Int) L).isSome) = true := by
  intro n
  simp [List.all_eq_true]
 refine ⟨fun all i w16 => ∃ n : Nat, i = (n : Int) /\ n <= N /\ (∀ i : Nat, i < n -> (bB sh k (i : Int) L).isSome = true) /\ S all (ct sh k L n) w16, fun _ i _ => N - i.toNat,
  ⟨0, rfl, by omega, by omega, Own.new (sz := 1) (n := 0) hb10 (.inl (by simp)) rfl, p7.ah k10, q5.ah k10, k9.trans k10, (by rintro j ⟨a, ha, rfl⟩; cases ha; show r7 < r10; omega), Nat.zero_le _, (by intro p hp; simp [ct] at hp)⟩, ?_⟩
 rintro all i w16 ⟨n, rfl, hn, hsome, hS⟩
 intros
 -- nothing is found
 have no : ∀ {all : Slc} {ps : List Pg} {w5 : World}, S all ps w5 -> eK sh k L = none -> ∃ n1 n2 n3 n4 : Int, ∃ sd : Slc, rowAt w5 (⟨r7, 0, none⟩ : Addr) 0 [.int .i64 n1, .int .i64 n2, .int .i64 n3, .int .i64 n4, sd.v] /\
   aw w5 (⟨r5, 0, none⟩ : Addr) 5 /\ ∀ w3 : World, w3 = setCells w5 (⟨r5, 0, none⟩ : Addr) 0 [.int .i64 n1, .int .i64 n2, .int .i64 n3, .int .i64 n4, sd.v] ->
   ∃ m1 m2 m3 m4 : Int, ∃ se : Slc, rowAt w3 (⟨r5, 0, none⟩ : Addr) 0 [.int .i64 m1, .int .i64 m2, .int .i64 m3, .int .i64 m4, se.v] /\
   (av w w3 /\ match eK sh k L with
   | none => ∃ (c1 c2 c3 c4 : Int) (t : Slc), Ending.returned (.tuple ⟨[.agg ⟨[.int .i64 m1, .int .i64 m2, .int .i64 m3, .int .i64 m4, se.v]⟩, .bool false]⟩) = .returned (.tuple ⟨[.agg ⟨[.int .i64 c1, .int .i64 c2, .int .i64 c3, .int .i64 c4, t.v]⟩, .bool false]⟩)
   | some f => ∃ t : Slc, Ending.returned (.tuple ⟨[.agg ⟨[.int .i64 m1, .int .i64 m2, .int .i64 m3, .int .i64 m4, se.v]⟩, .bool false]⟩) = .returned (.tuple ⟨[.agg ⟨fdC f t⟩, .bool true]⟩) /\ ar w3 t f.2.2.2.2 /\ t.l <= t.c /\ cX w t) := by
  intro all ps w5 h hf
  obtain ⟨d1, d2⟩ := h.2.2.1.bh (cs := [.int .i64 k.1, .int .i64 k.2, .int .i64 (dq ps), .int .i64 (gC ps), (⟨none, 0, 0⟩ : Slc).v]) (n := 5) rfl rfl
  refine ⟨_, _, _, _, _, h.2.1.row, d1, fun w3 hw3 => ?_⟩
  obtain ⟨d3, d4, d5⟩ := d2 w3 hw3
  refine ⟨_, _, _, _, _, d3.row, h.2.2.2.1.ext d4 (fun j hj => by omega), ?_⟩
  rw [hf]
  exact ⟨_, _, _, _, _, rfl⟩
 have hSk : ∀ {all : Slc} {ps : List Pg} {w5 w6 : World}, S all ps w5 -> av w5 w6 -> S all ps w6 := fun h kk => ⟨h.1.ah kk, h.2.1.ah kk, h.2.2.1.ah kk, h.2.2.2.1.trans kk, h.2.2.2.2⟩
 have hSl : ∀ {all : Slc} {ps : List Pg} {w5 : World}, S all ps w5 -> (dF ps).length <= 64 * 256 := by
  intro all ps w5 h
  have h1 := mZ h.2.2.2.2.2.2
  have := Nat.mul_le_mul_right 256 (show ps.length <= 64 by have := h.2.2.2.2.2.1; omega)
  omega
 refine aa (fun hlt => ?_) (fun hge => ?_)
 ·have hnN : n < N := by omega
  -- over the pages
  have hpn : (ct sh k L n).length = n := by unfold ct; simp
  refine ⟨fun all got i w107 => ∃ m : Nat, i = (m : Int) /\ m <= L.length /\ got = (bB sh k (n : Int) (L.take m)).isSome /\ S all (ct sh k L n ++ (bB sh k (n : Int) (L.take m)).toList) w107, fun _ _ i _ => L.length - i.toNat,
   ⟨0, rfl, by omega, rfl, by simpa [bB] using hS⟩, ?_⟩
  rintro all2 got i2 w107 ⟨m, rfl, hm, rfl, hS2⟩
  intros
  refine aa (fun h1 => ?_) (fun h1 => ?_)
  rotate_left
  ·have hmL : m = L.length := by omega
   subst hmL
   rw [List.take_length] at hS2 ⊢
   refine aN (fun hg => ?_) (fun hg => ?_)
   ·have hnone : eK sh k L = none := by
     unfold eK
     rw [if_pos]
     rw [<- Bool.not_eq_true, <- hN]
     intro hh
     have := (hallP N).2 hh n hnN
     rw [this] at hg; cases hg
    exact no hS2 hnone
   ·have hs : (bB sh k (n : Int) L).isSome = true := by simpa using hg
    refine ⟨af (by omega), ⟨n + 1, by omega, by omega, fun i hi => ?_, ?_⟩, by dsimp only; omega⟩
    ·rcases Nat.lt_or_ge i n with h | h
     ·exact hsome i h
     ·have : i = n := by omega
      subst this; exact hs
    ·rw [px]
     obtain ⟨p, hp⟩ := Option.isSome_iff_exists.1 hs
     rw [hp] at hS2 ⊢
     exact hS2
  have hmL : m < L.length := by omega
  have hmc : m < css.length := by rw [hR.len]; exact hmL
  have hR2 := hR.ah hS2.2.2.2.1
  obtain ⟨a, ha, _, hrow⟩ := hR2.get hmc
  have hrowx := hR2.row m hmc hmL
  obtain ⟨x, hx⟩ : ∃ x, x = L[m] := ⟨_, rfl⟩
  rw [<- hx] at hrowx
  obtain ⟨hcs, hdat, hft⟩ := hrowx
  rw [hcs] at hrow
  have htk : bB sh k (n : Int) (L.take (m + 1)) = (bB sh k (n : Int) (L.take m)).or (if jq sh k (n : Int) x = true then some x else none) := by
   unfold bB
   rw [ep hmL, List.find?_append, <- hx]
   congr 1
   rw [List.find?_cons]
   cases jq sh k (n : Int) x <;> rfl
  refine ao ha ⟨by omega, by omega, x.at', x.kind, x.sh, x.cl, x.sq, x.sv, x.ot, x.ops, x.key, x.up, x.part, x.parts, x.ds, x.j9, x.gb, by rw [show (Int.toNat ((m : Nat) : Int)) * 15 = m * 15 by omega]; exact hrow, ?_⟩
  refine ai (fun r196 w197 hr196 hb196 k196 hs196 => ?_)
  have o196 : ab w197 r196 (pgC da) := ab.bS hb196
  obtain ⟨d1, d2⟩ := o196.bh (cs := pgC x) (n := 15) rfl rfl
  refine ⟨d1, fun w198 hw198 => ?_⟩
  obtain ⟨p196, x198, z198⟩ := d2 w198 hw198
  have k198 : av w107 w198 := k196.ext x198 (fun j hj => by omega)
  refine ⟨x.kind, x.sh, x.cl, x.sq, x.sv, x.ot, x.ops, x.key, x.up, x.part, x.parts, x.ds, p196.rJ 1 rfl, ?_⟩
  refine ai (fun r211 w212 hr211 hb211 k211 hs211 => ?_)
  have o211 : ab w212 r211 (bg 0 0 0 0 0 0 ⟨none, 0, 0⟩ [] 0 0 0 ⟨none, 0, 0⟩) := ab.bS hb211
  obtain ⟨d3, d4⟩ := o211.bh (cs := pgE x) (n := 12) rfl rfl
  refine ⟨d3, fun w213 hw213 => ?_⟩
  obtain ⟨p211, x213, z213⟩ := d4 w213 hw213
  have k213 : av w198 w213 := k211.ext x213 (fun j hj => by omega)
  have kk := k198.trans k213
  have p196' := p196.ah k213
  -- the page is passed by
  have skip : ∀ w' : World, av w107 w' -> ((bB sh k (n : Int) (L.take m)).isSome = true \/ jq sh k (n : Int) x = false) -> inR .i64 (((m : Nat) : Int) + 1) /\ ((∃ m' : Nat, ((m : Nat) : Int) + 1 = (m' : Int) /\ m' <= L.length /\ (bB sh k (n : Int) (L.take m)).isSome = (bB sh k (n : Int) (L.take m')).isSome /\ S all2 (ct sh k L n ++ (bB sh k (n : Int) (L.take m')).toList) w') /\ L.length - (((m : Nat) : Int) + 1).toNat < L.length - ((m : Nat) : Int).toNat) := by
   intro w' kw hc
   have e : bB sh k (n : Int) (L.take (m + 1)) = bB sh k (n : Int) (L.take m) := by
    rw [htk]
    rcases hc with h | h
    ·obtain ⟨p, hp⟩ := Option.isSome_iff_exists.1 h
     rw [hp]; rfl
    ·rw [h]; cases bB sh k (n : Int) (L.take m) <;> rfl
   exact ⟨af (by omega), ⟨m + 1, by omega, by omega, by rw [e], by rw [e]; exact hSk hS2 kw⟩, by omega⟩
  have selF : ∀ {P : Prop}, ¬ P -> (jq sh k (n : Int) x = true -> P) -> jq sh k (n : Int) x = false := fun h1 h2 => by
   cases hh : jq sh k (n : Int) x with
   | false => rfl
   | true => exact absurd (h2 hh) h1
  refine ⟨fun w' => (bB sh k (n : Int) (L.take m)).isSome = false /\ jq sh k (n : Int) x = true /\ av w107 w' /\ ab w' r196 (pgC x) /\ ab w' r211 (pgE x), ?_, ?_⟩
  ·refine aN (fun hg => skip _ kk (.inl hg)) (fun hg => ?_)
   refine ⟨x.gb, p196'.cell 14 (by simp [pgC]), aN (fun hj => skip _ kk (.inr (selF (P := x.gb = false) (by rw [hj]; simp) (fun h => (dc (fh h).1).2.2.2.1)))) (fun hj => ?_)⟩
   refine ⟨x.kind, p211.cell 0 (by simp [pgE, bg]), aR (fun h5 => skip _ kk (.inr (selF h5 (fun h => (dc (fh h).1).2.1)))) (fun h5 => ?_)⟩
   refine ⟨x.kind, x.sh, x.cl, x.sq, x.sv, x.ot, x.ops, x.key, x.up, x.part, x.parts, x.ds, p211.row, ?_⟩
   rw [h5]
   refine (ko _ _ _ _ _ _ _ _ _ _ _ _).mono ?_
   rintro e w230 ⟨rfl, k230⟩
   have kk2 := kk.trans k230
   have s211 := p211.ah k230
   refine ⟨_, rfl, aN (fun hb => skip _ kk2 (.inr (selF (P := cI x.sh x.up x.parts x.part x.ds.l = true) (by simpa using hb) (fun h => decide_eq_true (dc (fh h).1).2.2.2.2)))) (fun hb => ?_)⟩
   refine ⟨x.sh, s211.cell 1 (by simp [pgE, bg]), aR (fun h6 => skip _ kk2 (.inr (selF h6 (fun h => (dc (fh h).1).2.2.1)))) (fun h6 => ?_)⟩
   refine ⟨x.up, s211.cell 8 (by simp [pgE, bg]), aR (fun h7 => skip _ kk2 (.inr (selF h7 (fun h => (fh h).2.1.1)))) (fun h7 => ?_)⟩
   refine ⟨x.parts, s211.cell 10 (by simp [pgE, bg]), aR (fun h8 => skip _ kk2 (.inr (selF h8 (fun h => (fh h).2.1.2)))) (fun h8 => ?_)⟩
   refine ⟨x.part, s211.cell 9 (by simp [pgE, bg]), aR (fun h9 => skip _ kk2 (.inr (selF h9 (fun h => (fh h).2.2)))) (fun h9 => ?_)⟩
   refine ⟨hg, ?_, kk2, p196'.ah k230, s211⟩
   have hb' : cI x.sh x.up x.parts x.part x.ds.l = true := by simpa using hb
   unfold jq bZ
   rw [hj, decide_eq_true h5, decide_eq_true h6, hb', decide_eq_true ⟨⟨h7, h8⟩, h9⟩]
   rfl
  ·rintro w236 ⟨hg, hsel, k236, s196, s211⟩
   intros
   have hnone : bB sh k (n : Int) (L.take m) = none := by
    cases hh : bB sh k (n : Int) (L.take m) with
    | none => rfl
    | some p => rw [hh] at hg; cases hg
   have hS3 := hSk hS2 k236
   rw [hnone] at hS3
   have e0 : ct sh k L n ++ (none : Option Pg).toList = ct sh k L n := by simp
   rw [e0] at hS3
   obtain ⟨hO, h7o, h5o, hkw, hown, hlen, h256⟩ := hS3
   have hd1 : fQ w236 x := ea hdat k236
   have hck := (dc (fh hsel).1).2.2.2.2
   have hx256 : x.dat.length <= 256 := by have := hck.2.2.2.2; have := hdat.1.1; omega
   have hlen0 : (dF (ct sh k L n)).length <= 64 * 256 := hSl ⟨hO, h7o, h5o, hkw, hown, hlen, h256⟩
   have hal : all2.l = (dF (ct sh k L n)).length := hO.bytes.1
   refine ⟨x.ds, s211.cell 11 (by simp [pgE, bg]), dP hO (by omega) rfl (dO hd1.1) (iQ _) (by simp only [Src.n]; have := hd1.1.1; omega) (fun s' w' g1 g2 g3 g4 => ?_)⟩
   have hne7 : ¬ aC all2 r7 := fun hh => by have := hown _ hh; omega
   have h7b := h7o.ext g2 hne7
   have h5b := h5o.ext g2 (fun hh => by have := hown _ hh; omega)
   have h107 : r7 < w107.heap.size := hS2.2.1.lt
   have l196 : w107.heap.size <= r196 := by omega
   have hbnd : ∀ j, aC all2 j -> j < w107.heap.size := p5 hS2.1
   have t196 := s196.ext g2 (fun hh => by have := hbnd _ hh; omega)
   have kw' : av w w' := hkw.ext g2 (fun j hj => by have := hown j hj; omega)
   have hown' : ∀ j, aC s' j -> r7 < j := fun j hj => (g3 j hj).elim (fun h => hown j h) (fun h => by have := k236.size; omega)
   -- with the page
   have fin : ∀ (w9 : World) (f l : Int), f = dq (ct sh k L n ++ [x]) -> l = gC (ct sh k L n ++ [x]) -> Ext (fun j => j = r7) w' w9 -> ab w9 r7 [.int .i64 k.1, .int .i64 k.2, .int .i64 f, .int .i64 l, (⟨none, 0, 0⟩ : Slc).v] ->
     inR .i64 (((m : Nat) : Int) + 1) /\ ((∃ m' : Nat, ((m : Nat) : Int) + 1 = (m' : Int) /\ m' <= L.length /\ true = (bB sh k (n : Int) (L.take m')).isSome /\ S s' (ct sh k L n ++ (bB sh k (n : Int) (L.take m')).toList) w9) /\ L.length - (((m : Nat) : Int) + 1).toNat < L.length - ((m : Nat) : Int).toNat) := by
    rintro w9 f l rfl rfl e9 o9
    have e : bB sh k (n : Int) (L.take (m + 1)) = some x := by rw [htk, hnone, hsel]; rfl
    refine ⟨af (by omega), ⟨m + 1, by omega, by omega, by rw [e]; rfl, ?_⟩, by omega⟩
    rw [e]
    refine ⟨?_, o9, h5b.ext e9 (fun hh => by omega), kw'.ext e9 (fun j hj => by omega), hown', by simp; omega, fun p hp => ?_⟩
    ·have : dF (ct sh k L n ++ (some x).toList) = dF (ct sh k L n) ++ x.dat := by simp [dF]
     rw [this, List.map_append]
     exact g1.ext e9 (fun j hj hh => by have := hown' j hj; omega)
    ·rcases List.mem_append.1 hp with h | h
     ·exact h256 p h
     ·have : p = x := by simpa using h
      subst this; exact hx256
   have ef : dq (ct sh k L n ++ [x]) = if dq (ct sh k L n) < 0 then x.at' else if x.at' < dq (ct sh k L n) then x.at' else dq (ct sh k L n) := by unfold dq; rw [List.foldl_append]; rfl
   have el : gC (ct sh k L n ++ [x]) = if gC (ct sh k L n) < x.at' then x.at' else gC (ct sh k L n) := by unfold gC; rw [List.foldl_append]; rfl
   have n196 : r196 ≠ r7 := by omega
   -- the last address
   have tail : ∀ (w9 : World) (f : Int), f = dq (ct sh k L n ++ [x]) -> Ext (fun j => j = r7) w' w9 -> ab w9 r7 [.int .i64 k.1, .int .i64 k.2, .int .i64 f, .int .i64 (gC (ct sh k L n)), (⟨none, 0, 0⟩ : Slc).v] -> ab w9 r196 (pgC x) -> True := fun _ _ _ _ _ _ => trivial
   refine ⟨_, h7b.cell 2 (by simp), aa (fun hneg => ?_) (fun hneg => ?_)⟩
   ·obtain ⟨f1, f2⟩ := h7b.cN 2 (by simp) (.int .i64 x.at')
    refine ⟨x.at', t196.cell 0 (by simp [pgC]), f1, fun w281 hw281 => ?_⟩
    obtain ⟨f3, f4, f5⟩ := f2 w281 hw281
    have u196 := t196.ext f4 n196
    refine ⟨x.at', u196.cell 0 (by simp [pgC]), _, f3.cell 3 (by simp), aa (fun hl => ?_) (fun hl => ?_)⟩
    ·obtain ⟨g5, g6⟩ := f3.cN 3 (by simp) (.int .i64 x.at')
     refine ⟨x.at', u196.cell 0 (by simp [pgC]), g5, fun w285 hw285 => ?_⟩
     obtain ⟨g7, g8, g9⟩ := g6 w285 hw285
     exact fin w285 _ _ (by rw [ef, if_pos hneg]) (by rw [el, if_pos hl]) (f4.trans g8 (fun _ h => h) (fun _ h => .inl h)) g7
    ·exact fin w281 _ _ (by rw [ef, if_pos hneg]) (by rw [el, if_neg hl]) f4 f3
   ·refine ⟨x.at', t196.cell 0 (by simp [pgC]), _, h7b.cell 2 (by simp), aa (fun hf => ?_) (fun hf => ?_)⟩
    ·obtain ⟨f1, f2⟩ := h7b.cN 2 (by simp) (.int .i64 x.at')
     refine ⟨x.at', t196.cell 0 (by simp [pgC]), f1, fun w289 hw289 => ?_⟩
     obtain ⟨f3, f4, f5⟩ := f2 w289 hw289
     have u196 := t196.ext f4 n196
     refine ⟨x.at', u196.cell 0 (by simp [pgC]), _, f3.cell 3 (by simp), aa (fun hl => ?_) (fun hl => ?_)⟩
     ·obtain ⟨g5, g6⟩ := f3.cN 3 (by simp) (.int .i64 x.at')
      refine ⟨x.at', u196.cell 0 (by simp [pgC]), g5, fun w293 hw293 => ?_⟩
      obtain ⟨g7, g8, g9⟩ := g6 w293 hw293
      exact fin w293 _ _ (by rw [ef, if_neg hneg, if_pos hf]) (by rw [el, if_pos hl]) (f4.trans g8 (fun _ h => h) (fun _ h => .inl h)) g7
     ·exact fin w289 _ _ (by rw [ef, if_neg hneg, if_pos hf]) (by rw [el, if_neg hl]) f4 f3
    ·refine ⟨x.at', t196.cell 0 (by simp [pgC]), _, h7b.cell 3 (by simp), aa (fun hl => ?_) (fun hl => ?_)⟩
     ·obtain ⟨g5, g6⟩ := h7b.cN 3 (by simp) (.int .i64 x.at')
      refine ⟨x.at', t196.cell 0 (by simp [pgC]), g5, fun w297 hw297 => ?_⟩
      obtain ⟨g7, g8, g9⟩ := g6 w297 hw297
      exact fin w297 _ _ (by rw [ef, if_neg hneg, if_neg hf]) (by rw [el, if_pos hl]) g8 g7
     ·exact fin w' _ _ (by rw [ef, if_neg hneg, if_neg hf]) (by rw [el, if_neg hl]) (Ext.refl _ _) h7b
 -- all parts are there
 have hnN : n = N := by omega
 subst hnN
 have hall := (hallP n).1 hsome
 have hSd := hSk hS (Ext.drew dN _)
 have hal : all.l = (dF (ct sh k L n)).length := hS.1.bytes.1
 have hlen0 := hSl hS
 refine aa (fun h4 => ?_) (fun h4 => ?_)
 ·refine no hSd ?_
  unfold eK
  rw [<- hN, if_neg (by rw [hall]; simp), if_pos (by omega)]
 have hcap : all.l <= all.c := hS.1.le (by omega)
 refine ⟨by omega, by omega, by omega, by omega, _, hSd.1.bytes, ?_⟩
 have hsub := gq hSd.1.bytes (lo := 4) (hi := all.l) (c := all.c) (by omega) (by omega) hcap
 rw [hal, List.take_length, <- hal] at hsub
 refine (j6 _ _ _ hsub (by simp; omega)).mono ?_
 rintro e w323 ⟨s324, rfl, h324, f324, k323⟩
 have hS3 := hSk hSd k323
 refine ⟨s324, rfl, ⟨_, hS3.1.bytes, rfl⟩, _, h324.bytes, aR (fun hne => ?_) (fun he => ?_)⟩
 ·refine no hS3 ?_
  unfold eK
  rw [<- hN, if_neg (by rw [hall]; simp), if_neg (by omega), if_neg hne]
 have hf : eK sh k L = some (k.1, k.2, dq (ct sh k L n), gC (ct sh k L n), (dF (ct sh k L n)).drop 4) := by
  unfold eK
  rw [<- hN, if_neg (by rw [hall]; simp), if_neg (by omega), if_pos he]
 refine ⟨by omega, by omega, by omega, by omega, ?_⟩
 obtain ⟨hO, h7o, h5o, hkw, hown, _⟩ := hS3
 obtain ⟨f1, f2⟩ := h7o.cN 4 (by simp) (Slc.sub all 1 4 all.l all.c).v
 refine ⟨f1, fun w339 hw339 => ?_⟩
 obtain ⟨f3, f4, f5⟩ := f2 w339 hw339
 refine ⟨_, _, _, _, _, f3.row, ?_⟩
 have h5b := h5o.ext f4 (fun hh => by omega)
 obtain ⟨g1, g2⟩ := h5b.bh (cs := [.int .i64 k.1, .int .i64 k.2, .int .i64 (dq (ct sh k L n)), .int .i64 (gC (ct sh k L n)), (Slc.sub all 1 4 all.l all.c).v]) (n := 5) rfl rfl
 refine ⟨g1, fun w345 hw345 => ?_⟩
 obtain ⟨g3, g4, g5⟩ := g2 w345 hw345
 refine ⟨_, _, _, _, _, g3.row, (hkw.ext f4 (fun j hj => by omega)).ext g4 (fun j hj => by omega), ?_⟩
 rw [hf]
 have hob : ∀ j, aC (Slc.sub all 1 4 all.l all.c) j -> aC all j := by
  rintro j ⟨a, ha, rfl⟩
  unfold Slc.sub at ha
  dsimp only at ha
  cases hpp : all.p with
  | none => rw [hpp] at ha; simp at ha
  | some a0 =>
   rw [hpp] at ha
   refine ⟨a0, hpp, ?_⟩
   simp at ha
   split at ha <;> (cases ha; simp [cD])
 have hb1 := az hsub k323
 exact ⟨_, rfl, di (di hb1 f4 (fun j hj hh => by have := hown j (hob j hj); omega)) g4 (fun j hj hh => by have := hown j (hob j hj); omega), by simp only [Slc.sub]; omega, fun j hj => by have := hown j (hob j hj); omega⟩
end Go.D
namespace Go.D
open Go Go.Proofs
def gO (sh : Int) (L : List Pg) (u n : Nat) : List Fd := (List.range n).filterMap fun (p : Nat) => eK sh ((u : Int), (p : Int) + 1) L
def eL (sh : Int) (L : List Pg) (u : Nat) : List Fd := (List.range u).flatMap fun u => gO sh L u 64
theorem lf (sh : Int) (L : List Pg) (u n : Nat) : gO sh L u (n + 1) = gO sh L u n ++ (eK sh ((u : Int), (n : Int) + 1) L).toList := by
 unfold gO
 rw [List.range_succ, List.filterMap_append]
 congr 1
theorem fy (sh : Int) (L : List Pg) (u : Nat) : eL sh L (u + 1) = eL sh L u ++ gO sh L u 64 := by
 unfold eL
 rw [List.range_succ, List.flatMap_append]
 simp
def fz (sh : Int) (u : Nat) (p : Pg) : Bool := decide (p.kind = 5) && (decide (p.up = (u : Int)) && decide (p.sh = sh))
theorem qy {sh : Int} {L : List Pg} {u : Nat} (h : L.any (fz sh u) = false) (p : Nat) : eK sh ((u : Int), (p : Int) + 1) L = none := by
 unfold eK
 rw [if_pos]
 rw [<- Bool.not_eq_true]
 intro hh
 rw [List.all_eq_true] at hh
 have h0 := hh 0 (by simp)
 obtain ⟨q, hq⟩ := Option.isSome_iff_exists.1 h0
 have h1 := List.find?_some hq
 have h2 := List.mem_of_find?_eq_some hq
 obtain ⟨a1, a2, a3⟩ := fh h1
 obtain ⟨_, b1, b2, _⟩ := dc a1
 rw [List.any_eq_false] at h
 refine h q h2 ?_
 unfold fz
 rw [decide_eq_true b1, decide_eq_true a2.1, decide_eq_true b2]; rfl
theorem ng {sh : Int} {L : List Pg} {u : Nat} (h : L.any (fz sh u) = false) (n : Nat) : gO sh L u n = [] := by
 unfold gO
 rw [List.filterMap_eq_nil_iff]
 intro p _
 exact qy h p
theorem iJ (s : Slc) (sh : Int) (L : List Pg) (css : List (List Value)) (w : World) (hR : Rows PgR w s L css) (hL : L.length <= 60) :
  Calls Tryd.prog bD ⟨[s.v, .int .i64 sh]⟩ w fun x w' => ∃ (t : Slc) (fs : List (List Value)), x = .returned t.v /\ av w w' /\ Rows FdR w' t (eL sh L 4097) fs /\ cX w t /\ (∀ j, cY fs j -> w.heap.size <= j) := by
 have hsl := hR.sl
 refine fL _ _ ?_
 unfold ek
 refine ai (fun r3 w4 hr3 hb3 k3 hs3 => ?_)
 have hR0 : Rows FdR w4 ⟨some ⟨r3, 0, none⟩, 0, 0⟩ [] [] := ⟨Own.new (sz := 5) (n := 0) hb3 (.inl (by simp)) rfl, rfl, fun i h => by simp at h, fun k ⟨_, h, _⟩ => by simp at h⟩
 let S : Slc -> List Fd -> World -> Prop := fun out xs w2 => av w w2 /\ ∃ fs, Rows FdR w2 out xs fs /\ (∀ j, aC out j -> r3 <= j) /\ ∀ j, cY fs j -> r3 <= j
 have hSk : ∀ {out : Slc} {xs : List Fd} {w5 w6 : World}, S out xs w5 -> av w5 w6 -> S out xs w6 := fun h kk => ⟨h.1.trans kk, let ⟨fs, h1, h2⟩ := h.2; ⟨fs, h1.ah kk, h2⟩⟩
 have hlenR : ∀ u n, (gO sh L u n).length <= n := fun u n => by
  have := List.length_filterMap_le (fun (p : Nat) => eK sh ((u : Int), (p : Int) + 1) L) (List.range n)
  simpa [gO] using this
 have hlenA : ∀ u, (eL sh L u).length <= u * 64 := by
  intro u
  induction u with
  | zero => simp [eL]
  | succ u ih => rw [fy, List.length_append]; have := hlenR u 64; omega
 refine ⟨fun out up w9 => ∃ u : Nat, up = (u : Int) /\ u <= 4097 /\ S out (eL sh L u) w9, fun _ up _ => 4097 - up.toNat, ⟨0, rfl, by omega, k3, [], hR0, (by rintro j ⟨a, ha, rfl⟩; cases ha; exact Nat.le_refl _), (by rintro j ⟨cs, hc, _⟩; simp at hc)⟩, ?_⟩
 rintro out up w9 ⟨u, rfl, hu, hS⟩
 intros
 refine aa (fun h1 => ?_) (fun h1 => ?_)
 rotate_left
 ·have : u = 4097 := by omega
  subst this
  obtain ⟨kk, fs, h2, h3, h4⟩ := hS
  exact ⟨out, fs, rfl, kk, h2, fun j hj => by have := h3 j hj; omega, fun j hj => by have := h4 j hj; omega⟩
 refine ⟨fun b i w71 => ∃ m : Nat, i = (m : Int) /\ m <= L.length /\ b = (L.take m).any (fz sh u) /\ S out (eL sh L u) w71, fun _ i _ => L.length - i.toNat, ⟨0, rfl, by omega, rfl, hS⟩, ?_⟩
 rintro b i w71 ⟨m, rfl, hm, rfl, hS2⟩
 intros
 refine aa (fun h2 => ?_) (fun h2 => ?_)
 ·have hmL : m < L.length := by omega
  have hmc : m < css.length := by rw [hR.len]; exact hmL
  have hR2 := hR.ah hS2.1
  obtain ⟨a, ha, _, hrow⟩ := hR2.get hmc
  have hrowx := hR2.row m hmc hmL
  obtain ⟨x, hx⟩ : ∃ x, x = L[m] := ⟨_, rfl⟩
  rw [<- hx] at hrowx
  obtain ⟨hcs, hdat, hft⟩ := hrowx
  rw [hcs] at hrow
  refine ao ha ⟨by omega, by omega, x.at', x.kind, x.sh, x.cl, x.sq, x.sv, x.ot, x.ops, x.key, x.up, x.part, x.parts, x.ds, x.j9, x.gb, by rw [show (Int.toNat ((m : Nat) : Int)) * 15 = m * 15 by omega]; exact hrow, ?_⟩
  refine ai (fun r114 w115 hr114 hb114 k114 hs114 => ?_)
  have o114 : ab w115 r114 (pgC da) := ab.bS hb114
  obtain ⟨d1, d2⟩ := o114.bh (cs := pgC x) (n := 15) rfl rfl
  refine ⟨d1, fun w116 hw116 => ?_⟩
  obtain ⟨p114, x116, z116⟩ := d2 w116 hw116
  have k116 : av w71 w116 := k114.ext x116 (fun j hj => by omega)
  have hany : (L.take (m + 1)).any (fz sh u) = ((L.take m).any (fz sh u) || fz sh u x) := by
   rw [ep hmL, List.any_append, <- hx]; simp
  have nxt : ∀ b : Bool, b = ((L.take m).any (fz sh u) || fz sh u x) -> inR .i64 (((m : Nat) : Int) + 1) /\ ((∃ m' : Nat, ((m : Nat) : Int) + 1 = (m' : Int) /\ m' <= L.length /\ b = (L.take m').any (fz sh u) /\ S out (eL sh L u) w116) /\ L.length - (((m : Nat) : Int) + 1).toNat < L.length - ((m : Nat) : Int).toNat) :=
   fun b hb => ⟨af (by omega), ⟨m + 1, by omega, by omega, by rw [hany]; exact hb, hSk hS2 k116⟩, by omega⟩
  refine aN (fun hg => nxt _ (by rw [hg]; rfl)) (fun hg => ?_)
  refine ⟨x.kind, p114.cell 1 (by simp [pgC]), aa (fun h5 => ?_) (fun h5 => nxt _ (by rw [hg]; unfold fz; rw [decide_eq_false h5]; rfl))⟩
  refine ⟨x.up, p114.cell 9 (by simp [pgC]), aa (fun h6 => ?_) (fun h6 => nxt _ (by rw [hg]; unfold fz; rw [decide_eq_true h5, decide_eq_false h6]; rfl))⟩
  exact ⟨x.sh, p114.cell 2 (by simp [pgC]), nxt _ (by rw [hg]; unfold fz; rw [decide_eq_true h5, decide_eq_true h6]; simp)⟩
 have hmL : m = L.length := by omega
 subst hmL
 rw [List.take_length]
 refine ⟨fun out pt w124 => ∃ n : Nat, pt = (n : Int) + 1 /\ n <= 64 /\ S out (eL sh L u ++ gO sh L u n) w124, fun _ pt _ => 65 - pt.toNat, ⟨0, rfl, by omega, by simpa [gO] using hS2⟩, ?_⟩
 rintro out2 pt w124 ⟨n, rfl, hn, hS3⟩
 intros
 refine ⟨fun w' => w' = w124 /\ n < 64, ?_, ?_⟩
 ·refine aa (fun h3 => aN (fun _ => ⟨rfl, by omega⟩) (fun hg => ⟨af (by omega), ⟨u + 1, by omega, by omega, ?_⟩, by dsimp only; omega⟩)) (fun h3 => ⟨af (by omega), ⟨u + 1, by omega, by omega, ?_⟩, by dsimp only; omega⟩)
  ·rw [fy, ng hg]
   rw [ng hg] at hS3
   exact hS3
  ·have : n = 64 := by omega
   subst this
   rw [fy]; exact hS3
 rintro w148 ⟨rfl, hn64⟩
 intros
 have hk : iC ((u : Int), (n : Int) + 1) := ⟨⟨by dsimp only; omega, by dsimp only; omega⟩, by dsimp only; omega, by dsimp only; omega⟩
 refine (qx s sh ((u : Int), (n : Int) + 1) L css w148 (hR.ah hS3.1) hL hk).mono ?_
 rintro e w155 ⟨k155, hres⟩
 have hsucc := lf sh L u n
 cases hf : eK sh ((u : Int), (n : Int) + 1) L with
 | none =>
  rw [hf] at hres hsucc
  dsimp only at hres
  obtain ⟨q1, q2, q3, q4, q5, rfl⟩ := hres
  refine ⟨_, _, _, _, _, _, rfl, ai (fun r162 w163 hr162 hb162 k162 hs162 => ?_)⟩
  have o162 : ab w163 r162 fd0 := ab.bS hb162
  obtain ⟨d1, d2⟩ := o162.bh (cs := [.int .i64 q1, .int .i64 q2, .int .i64 q3, .int .i64 q4, q5.v]) (n := 5) rfl rfl
  refine ⟨d1, fun w164 hw164 => ?_⟩
  obtain ⟨p162, x164, z164⟩ := d2 w164 hw164
  have z155 := k155.size
  have kk : av w148 w164 := (k155.trans k162).ext x164 (fun j hj => by omega)
  refine aN (fun h => by cases h) (fun _ => ⟨af (by omega), ⟨n + 1, by omega, by omega, ?_⟩, by dsimp only; omega⟩)
  rw [hsucc]
  simpa using hSk hS3 kk
 | some f =>
  rw [hf] at hres hsucc
  dsimp only at hres
  obtain ⟨sd, rfl, hsd, hsdc, hsdf⟩ := hres
  refine ⟨_, _, _, _, _, _, rfl, ai (fun r162 w163 hr162 hb162 k162 hs162 => ?_)⟩
  have o162 : ab w163 r162 fd0 := ab.bS hb162
  obtain ⟨d1, d2⟩ := o162.bh (cs := fdC f sd) (n := 5) rfl rfl
  refine ⟨d1, fun w164 hw164 => ?_⟩
  obtain ⟨p162, x164, z164⟩ := d2 w164 hw164
  have z155 := k155.size
  have k2 : av w155 w164 := k162.ext x164 (fun j hj => by omega)
  have kk : av w148 w164 := k155.trans k2
  refine aN (fun _ => ?_) (fun h => by cases h)
  refine ⟨_, _, _, _, _, p162.row, ai (fun r170 w171 hr170 hb170 k170 hs170 => ?_)⟩
  have k171 := kk.trans k170
  obtain ⟨hkw, fs, hfs, hout, hfoot⟩ := hS3
  have hfs2 := hfs.ah k171
  refine hfs2.snoc (cs := fdC f sd) (x := f) (z := _) rfl ⟨sd, rfl, az hsd (k2.trans k170), hsdc⟩ (fun j hj ho => ?_) hb170 (.inl (by simp)) ?_ (fun s' w' g1 g2 g3 => ?_)
  ·have h1 := hsdf j (gL hj).2
   have h2 := hfs.lt j ho
   omega
  ·have := hlenA u
   have := hlenR u n
   rw [List.length_append]
   omega
  have z148 := hkw.size
  have r3lt : w.heap.size <= r3 := by omega
  have l3 : r3 <= w148.heap.size := by
   have := k3.size
   have h9 := hS2.1.size
   omega
  refine ⟨af (by omega), ⟨n + 1, by omega, by omega, ?_⟩, by dsimp only; omega⟩
  rw [hsucc, <- List.append_assoc]
  refine ⟨(hkw.trans k171).ext g2 (fun j hj => by have := hout j hj; omega), fs ++ [fdC f sd], g1, fun j hj => (g3 j hj).elim (fun h => hout j h) (fun h => by have := k171.size; omega), ?_⟩
  rintro j ⟨cs, hc, hj⟩
  rcases List.mem_append.1 hc with h | h
  ·exact hfoot j ⟨cs, h, hj⟩
  ·rw [List.mem_singleton] at h; subst h
   have := hsdf j (gL hj).2
   omega
theorem kq (s : Slc) (sh up : Int) (L : List Pg) (css : List (List Value)) (w : World) (hR : Rows PgR w s L css) (hL : L.length <= 60) :
  Calls Tryd.prog bT ⟨[s.v, .int .i64 sh, .int .i64 up]⟩ w fun x w' => qt w (latP (eL sh L 4097) up) x w' := by
 refine ff _ _ _ ?_
 unfold dz
 refine ai (fun r4 w5 hr4 hb4 k4 hs4 => ?_)
 have o4 : ab w5 r4 fd0 := ab.bS hb4
 refine (iJ s sh L css w5 (hR.ah k4) hL).mono ?_
 rintro e w7 ⟨t, fs, rfl, k7, hfs, hft, hff⟩
 obtain ⟨xs, hxs⟩ : ∃ xs, xs = eL sh L 4097 := ⟨_, rfl⟩
 rw [<- hxs] at hfs ⊢
 have hxl : xs.length <= 4097 * 64 := by
  rw [hxs]
  have hlenA : ∀ u, (eL sh L u).length <= u * 64 := by
   intro u
   induction u with
   | zero => simp [eL]
   | succ u ih =>
    rw [fy, List.length_append]
    have := List.length_filterMap_le (fun (p : Nat) => eK sh ((u : Int), (p : Int) + 1) L) (List.range 64)
    have : (gO sh L u 64).length <= 64 := by simpa [gO] using this
    omega
  exact hlenA 4097
 have htl := hfs.sl
 refine ⟨t, rfl, af (by omega), fun i w12 => ∃ n : Nat, i = (n : Int) - 1 /\ n <= xs.length /\ w12 = w7 /\ ∀ j (hj : j < xs.length), n <= j -> ¬ xs[j].1 <= up, fun i _ => (i + 1).toNat, ⟨xs.length, by omega, Nat.le_refl _, rfl, fun j hj h => by omega⟩, ?_⟩
 rintro i w12 ⟨n, rfl, hn, rfl, hno⟩
 intros
 have o4' := o4.ah k7
 have z4 := k4.size
 refine aa (fun h1 => ?_) (fun h1 => ?_)
 ·obtain ⟨m, rfl⟩ : ∃ m, n = m + 1 := ⟨n - 1, by omega⟩
  have hm : m < xs.length := by omega
  obtain ⟨hmc, a, sd, ha, hcs, hrow⟩ := fS hfs hm
  obtain ⟨sd', hcs', hbd, hsc⟩ := hfs.row m hmc hm
  have e1 : (((m + 1 : Nat) : Int) - 1) = (m : Int) := by omega
  rw [e1]
  have hc0 : w12.cell? (a.add (Int.toNat (m : Int) * 5)) = some (.int .i64 xs[m].1) := by
   have := dE hrow 0 (by simp [fdC])
   rw [Int.toNat_natCast]
   have e0 : (a.add (m * 5)).add (0 + 0) = a.add (m * 5) := by simp [Addr.add]
   rw [e0] at this
   exact this
  refine ao ha ⟨by omega, by omega, _, hc0, aa (fun h2 => ?_) (fun h2 => ⟨af (by omega), ⟨m, rfl, by omega, rfl, fun j hj hj2 => ?_⟩, by dsimp only; omega⟩)⟩
  ·have esd : fdC xs[m] sd = fdC xs[m] sd' := by rw [<- hcs, <- hcs']
   have inj : ∀ {x : Fd} {a b : Slc}, fdC x a = fdC x b -> a = b := by
    rintro x ⟨p, l, c⟩ ⟨p', l', c'⟩ hh
    simp [fdC, Slc.v] at hh
    obtain ⟨rfl, rfl, rfl⟩ := hh
    rfl
   have := inj esd
   subst this
   refine ao ha ⟨by omega, by omega, _, _, _, _, sd, by rw [Int.toNat_natCast]; exact hrow, ?_⟩
   obtain ⟨d1, d2⟩ := o4'.bh (cs := fdC xs[m] sd) (n := 5) rfl rfl
   refine ⟨d1, fun w37 hw37 => ?_⟩
   obtain ⟨p4, x37, z37⟩ := d2 w37 hw37
   refine ⟨_, _, _, _, _, p4.row, (k4.trans k7).ext x37 (fun j hj => by omega), ?_⟩
   rw [oB hm h2 (fun j hj hlt => hno j hj (by omega))]
   refine ⟨sd, rfl, aP hbd x37 (fun h0 j hj hh => ?_), hsc⟩
   have := hff j ⟨fs[m], List.getElem_mem hmc, sd, by rw [hcs]; simp [fdC], h0, hj⟩
   omega
  ·by_cases hjm : j = m
   ·subst hjm; exact h2
   ·exact hno j hj (by omega)
 ·obtain ⟨d1, d2⟩ := o4'.bh (cs := fd0) (n := 5) rfl rfl
  refine ⟨d1, fun w43 hw43 => ?_⟩
  obtain ⟨p4, x43, z43⟩ := d2 w43 hw43
  refine ⟨_, _, _, _, _, p4.row, (k4.trans k7).ext x43 (fun j hj => by omega), ?_⟩
  rw [iU (fun x hx => by
   obtain ⟨j, hj, rfl⟩ := List.getElem_of_mem hx
   exact hno j hj (by omega))]
  rfl
end Go.D
namespace Go.D
open Go Go.Proofs
theorem nU {l : List (Int × Pg)} {p : Pg} (h : (l.map (·.1)).Nodup) : ((eJ l p).map (·.1)).Nodup := by
 unfold eJ
 split
 ·exact h
 ·rename_i hn
  rw [List.map_append, List.nodup_append]
  refine ⟨h, by simp, fun x hx y hy => ?_⟩
  simp at hy
  subst hy
  rintro rfl
  exact hn (eU.2 hx)
end Go.D
namespace Go.D
open Go Go.Proofs
abbrev GG := List (Ky × List (Int × Pg))
def grp (G : GG) (k : Ky) : List (Int × Pg) := (lookL G k).getD []
theorem kr (kp : Ky) (p : Pg) (k : Ky) : ∀ G : GG, lookL (G.map fun e => if e.1 = kp then (e.1, eJ e.2 p) else e) k = if k = kp then (lookL G k).map (fun l => eJ l p) else lookL G k
 | [] => by simp [lookL]
 | (k0, l0) :: G => by
  have ih := kr kp p k G
  rw [List.map_cons]
  by_cases h0 : k0 = kp
  ·subst h0
   simp only [if_true, lookL]
   by_cases h1 : k = k0
   ·subst h1; simp
   ·simp only [if_neg h1] at ih ⊢; exact ih
  ·simp only [if_neg h0, lookL]
   by_cases h1 : k = k0
   ·subst h1; simp [h0]
   ·simp only [if_neg h1]; exact ih
theorem nh (kp k : Ky) : ∀ G : GG, lookL (G ++ [(kp, [])]) k = (lookL G k).or (if k = kp then some [] else none)
 | [] => by simp [lookL]
 | (k0, l0) :: G => by
  rw [List.cons_append, lookL, lookL, nh kp k G]
  split <;> rfl
theorem lg (p : Pg) (i : Int) (l : List (Int × Pg)) : lookL (eJ l p) i = (lookL l i).or (if i = p.part then some p else none) := by
 have app : ∀ l : List (Int × Pg), lookL (l ++ [(p.part, p)]) i = (lookL l i).or (if i = p.part then some p else none) := by
  intro l
  induction l with
  | nil => simp [lookL]
  | cons q l ih =>
   obtain ⟨k0, a0⟩ := q
   rw [List.cons_append, lookL, lookL, ih]
   split <;> rfl
 unfold eJ
 split
 ·rename_i h
  by_cases hi : i = p.part
  ·subst hi
   obtain ⟨y, hy⟩ := Option.isSome_iff_exists.1 h
   rw [hy]; rfl
  ·rw [if_neg hi]; cases lookL l i <;> rfl
 ·exact app l
theorem qY (G : GG) (p : Pg) (k : Ky) (i : Int) : lookL (grp (gd G p) k) i = (lookL (grp G k) i).or (if k = (p.up, p.parts) /\ i = p.part then some p else none) := by
 unfold grp
 cases hl : lookL G (p.up, p.parts) with
 | some l0 =>
  rw [iE (by rw [hl]; rfl), kr]
  by_cases hk : k = (p.up, p.parts)
  ·subst hk
   rw [if_pos rfl, hl, Option.map_some, Option.getD_some, Option.getD_some, lg]
   simp
  ·rw [if_neg hk, if_neg (fun h => hk h.1)]; cases lookL ((lookL G k).getD []) i <;> rfl
 | none =>
  rw [iD hl, kr, nh]
  by_cases hk : k = (p.up, p.parts)
  ·subst hk
   rw [if_pos rfl, if_pos rfl, hl]
   simp only [Option.none_or, Option.map_some, Option.getD_some, Option.getD_none]
   rw [lg]
   simp [lookL]
  ·rw [if_neg hk, if_neg hk, if_neg (fun h => hk h.1)]
   have : (lookL G k).or none = lookL G k := by cases lookL G k <;> rfl
   rw [this]; cases lookL ((lookL G k).getD []) i <;> rfl
theorem ni (k : Ky) (i : Int) : ∀ (ps : List Pg) (G : GG), lookL (grp (ps.foldl gd G) k) i = (lookL (grp G k) i).or (ps.find? fun p => decide ((p.up = k.1 /\ p.parts = k.2) /\ p.part = i))
 | [], G => by simp
 | p :: ps, G => by
  rw [List.foldl_cons, ni k i ps, qY, List.find?_cons]
  have e : (k = (p.up, p.parts) /\ i = p.part) ↔ ((p.up = k.1 /\ p.parts = k.2) /\ p.part = i) :=
   ⟨fun h => ⟨by rw [h.1]; exact ⟨rfl, rfl⟩, h.2.symm⟩, fun h => ⟨Prod.ext h.1.1.symm h.1.2.symm, h.2.symm⟩⟩
  by_cases hc : (p.up = k.1 /\ p.parts = k.2) /\ p.part = i
  ·rw [if_pos (e.2 hc), decide_eq_true hc]
   cases lookL (grp G k) i <;> rfl
  ·rw [if_neg (fun h => hc (e.1 h)), decide_eq_false hc]
   cases lookL (grp G k) i <;> rfl
theorem qz (sh : Int) (L : List Pg) (k : Ky) (i : Int) : lookL (grp (db sh L) k) i = bB sh k i L := by
 unfold db
 rw [ni, List.find?_filter]
 have e0 : lookL (grp [] k) i = none := rfl
 rw [e0, Option.none_or]
 unfold bB
 congr 1
 funext a
 unfold jq
 cases bZ sh a <;> simp
structure GNd (G : GG) : Prop where
 keys : (G.map (·.1)).Nodup
 parts : ∀ e ∈ G, (e.2.map (·.1)).Nodup
theorem qZ {G : GG} (h : GNd G) (p : Pg) : GNd (gd G p) := by
 have upd : ∀ G' : GG, GNd G' -> GNd (G'.map fun e => if e.1 = (p.up, p.parts) then (e.1, eJ e.2 p) else e) := by
  intro G' h'
  refine ⟨?_, fun e he => ?_⟩
  ·have : (G'.map fun e => if e.1 = (p.up, p.parts) then (e.1, eJ e.2 p) else e).map (·.1) = G'.map (·.1) := by
    rw [List.map_map]
    refine List.map_congr_left (fun e _ => ?_)
    simp only [Function.comp_apply]
    split <;> rfl
   rw [this]; exact h'.keys
  ·obtain ⟨e0, h0, rfl⟩ := List.mem_map.1 he
   by_cases hk : e0.1 = (p.up, p.parts)
   ·rw [if_pos hk]; exact nU (h'.parts e0 h0)
   ·rw [if_neg hk]; exact h'.parts e0 h0
 cases hl : lookL G (p.up, p.parts) with
 | some l0 => rw [iE (by rw [hl]; rfl)]; exact upd G h
 | none =>
  rw [iD hl]
  refine upd _ ⟨?_, fun e he => ?_⟩
  ·rw [List.map_append, List.nodup_append]
   refine ⟨h.keys, by simp, fun x hx y hy => ?_⟩
   simp at hy
   subst hy
   rintro rfl
   exact fo.1 hl hx
  ·rcases List.mem_append.1 he with h1 | h1
   ·exact h.parts e h1
   ·rw [List.mem_singleton] at h1; subst h1; simp
theorem gnd (sh : Int) (L : List Pg) : GNd (db sh L) := by
 have : ∀ (ps : List Pg) (G : GG), GNd G -> GNd (ps.foldl gd G) := by
  intro ps
  induction ps with
  | nil => intro G h; exact h
  | cons p ps ih => intro G h; rw [List.foldl_cons]; exact ih _ (qZ h p)
 exact this _ _ ⟨by simp, by simp⟩
theorem lh : ∀ (ps : List Pg) (f : Int), 0 <= f -> (∀ p ∈ ps, 0 <= p.at') -> ps.foldl (fun f p => if f < 0 then p.at' else if p.at' < f then p.at' else f) f = eI f ps
 | [], f, _, _ => rfl
 | p :: ps, f, hf, hp => by
  unfold eI
  rw [List.foldl_cons, List.foldl_cons, if_neg (by omega)]
  have h1 := hp p (by simp)
  exact lh ps _ (by split <;> omega) (fun q hq => hp q (by simp [hq]))
theorem lk {sh : Int} {L : List Pg} {k : Ky} (hk : iC k) (hat : ∀ p ∈ L, 0 <= p.at') : eK sh k L = bC k (grp (db sh L) k) := by
 obtain ⟨l, hl⟩ : ∃ l, l = grp (db sh L) k := ⟨_, rfl⟩
 have hpick : ∀ i : Int, lookL l i = bB sh k i L := fun i => by rw [hl]; exact qz sh L k i
 rw [<- hl]
 have hps : ∀ n, ct sh k L n = aD l n := by
  intro n
  unfold ct aD
  refine List.map_congr_left (fun i _ => ?_)
  rw [hpick]
 obtain ⟨N, hN⟩ : ∃ N : Nat, N = k.2.toNat := ⟨_, rfl⟩
 have hk2 : k.2 = (N : Int) := by have := hk.2; omega
 have hN1 : 1 <= N := by have := hk.2; omega
 have hnd : (l.map (·.1)).Nodup := by
  rw [hl]
  unfold grp
  cases h : lookL (db sh L) k with
  | none => simp
  | some l0 => exact (gnd sh L).parts _ (bY h)
 have hrange : ∀ q ∈ l, 0 <= q.1 /\ q.1 < (N : Int) := by
  intro q hq
  have h1 : lookL l q.1 = some q.2 := eC hnd hq
  rw [hpick] at h1
  have h2 := List.find?_some h1
  obtain ⟨a1, a2, a3⟩ := fh h2
  obtain ⟨_, _, _, _, a4⟩ := dc a1
  have h3 := a4.2.2.2.1
  rw [a2.2, a3] at h3
  omega
 have hiff : (List.range N).all (fun (i : Nat) => (bB sh k (i : Int) L).isSome) = true ↔ ((l.length : Nat) : Int) = k.2 := by
  rw [hk2]
  constructor
  ·intro h
   rw [List.all_eq_true] at h
   have h1 : ((List.range N).map fun (j : Nat) => (j : Int)) ⊆ l.map (·.1) := by
    intro x hx
    obtain ⟨j, hj, rfl⟩ := List.mem_map.1 hx
    have := h j hj
    rw [<- hpick] at this
    exact eU.1 this
   have h2 : l.map (·.1) ⊆ (List.range N).map fun (j : Nat) => (j : Int) := by
    intro x hx
    obtain ⟨q, hq, rfl⟩ := List.mem_map.1 hx
    have := hrange q hq
    exact List.mem_map.2 ⟨q.1.toNat, List.mem_range.2 (by omega), by omega⟩
   have n1 : ((List.range N).map fun (j : Nat) => (j : Int)).Nodup := iR _ (fun a b h => by omega) List.nodup_range
   have e1 := n1.length_le_of_subset h1
   have e2 := hnd.length_le_of_subset h2
   simp at e1 e2
   omega
  ·intro h
   rw [List.all_eq_true]
   intro i hi
   obtain ⟨p, hp⟩ := kW hnd hrange (by omega) (List.mem_range.1 hi)
   rw [<- hpick, hp]; rfl
 unfold eK bC
 rw [<- hN, hps]
 by_cases hall : (List.range N).all (fun (i : Nat) => (bB sh k (i : Int) L).isSome) = true
 ·have c1 : ¬ (List.range N).all (fun (i : Nat) => (bB sh k (i : Int) L).isSome) = false := by rw [hall]; simp
  have c2 : ¬ ¬ ((l.length : Nat) : Int) = k.2 := fun h => h (hiff.1 hall)
  rw [if_neg c1, if_neg c2]
  have hat2 : ∀ p ∈ aD l N, 0 <= p.at' := by
   intro p hp
   obtain ⟨i, hi, rfl⟩ := List.mem_map.1 hp
   rw [hpick]
   cases h : bB sh k (i : Int) L with
   | none => exact Int.le_refl _
   | some q => exact hat q (List.mem_of_find?_eq_some h)
  have hf : dq (aD l N) = eI ((lookL l 0).getD da).at' (aD l N) := by
   obtain ⟨M, rfl⟩ : ∃ M, N = M + 1 := ⟨N - 1, by omega⟩
   have hc : aD l (M + 1) = (lookL l 0).getD da :: ((List.range M).map Nat.succ).map fun (i : Nat) => (lookL l (i : Int)).getD da := by
    unfold aD
    rw [List.range_succ_eq_map, List.map_cons]; rfl
   rw [hc] at hat2 ⊢
   have h0 := hat2 _ (List.mem_cons_self ..)
   unfold dq
   rw [List.foldl_cons, if_pos (by omega), lh _ _ h0 (fun p hp => hat2 p (List.mem_cons_of_mem _ hp))]
   unfold eI
   rw [List.foldl_cons, if_neg (by omega)]
  rw [hf]
  rfl
 ·have c1 : (List.range N).all (fun (i : Nat) => (bB sh k (i : Int) L).isSome) = false := by simpa using hall
  have c2 : ¬ ((l.length : Nat) : Int) = k.2 := fun h => hall (hiff.2 h)
  rw [if_pos c1, if_pos c2]
theorem q6 {sh : Int} {k : Ky} {L : List Pg} {f : Fd} (h : eK sh k L = some f) : f.1 = k.1 /\ f.2.1 = k.2 := by
 unfold eK at h
 split at h
 ·cases h
 ·split at h
  ·cases h
  ·split at h
   ·cases h; exact ⟨rfl, rfl⟩
   ·cases h
theorem jc (sh : Int) (L : List Pg) (u : Nat) : ∀ n : Nat, (gO sh L u n).Pairwise (fun x y => dg x < dg y) /\ ∀ x ∈ gO sh L u n, (u : Int) * 65 < dg x /\ dg x <= (u : Int) * 65 + n
 | 0 => by simp [gO]
 | n + 1 => by
  obtain ⟨h1, h2⟩ := jc sh L u n
  rw [lf]
  cases hf : eK sh ((u : Int), (n : Int) + 1) L with
  | none => simp; exact ⟨h1, fun a b c d e he => by have := h2 _ he; omega⟩
  | some f =>
   obtain ⟨k1, k2⟩ := q6 hf
   have hk : dg f = (u : Int) * 65 + (n : Int) + 1 := by
    unfold dg
    rw [k1, k2]; dsimp only; omega
   refine ⟨?_, fun x hx => ?_⟩
   ·rw [List.pairwise_append]
    refine ⟨h1, by simp, fun x hx y hy => ?_⟩
    have : y = f := by simpa using hy
    subst this
    have := h2 x hx
    omega
   ·rcases List.mem_append.1 hx with h | h
    ·have := h2 x h; omega
    ·have : x = f := by simpa using h
     subst this; omega
theorem gD (sh : Int) (L : List Pg) : ∀ u : Nat, (eL sh L u).Pairwise (fun x y => dg x < dg y) /\ ∀ x ∈ eL sh L u, dg x < (u : Int) * 65
 | 0 => by simp [eL]
 | u + 1 => by
  obtain ⟨h1, h2⟩ := gD sh L u
  obtain ⟨h3, h4⟩ := jc sh L u 64
  rw [fy]
  refine ⟨List.pairwise_append.2 ⟨h1, h3, fun x hx y hy => by have := h2 x hx; have := h4 y hy; omega⟩, fun x hx => ?_⟩
  rcases List.mem_append.1 hx with h | h
  ·have := h2 x h; omega
  ·have := h4 x h; omega
theorem py {sh : Int} {L : List Pg} (hat : ∀ p ∈ L, 0 <= p.at') : (eL sh L 4097).Perm (kb sh L) := by
 have hinv := rW sh L
 have hG := gnd sh L
 have n1 : (eL sh L 4097).Nodup := (gD sh L 4097).1.imp (fun h e => by subst e; omega)
 have n2 : (kb sh L).Nodup := by
  unfold kb
  have : ∀ G : GG, (G.map (·.1)).Nodup -> (G.filterMap fun e => bC e.1 e.2).Nodup := by
   intro G
   induction G with
   | nil => intro _; simp
   | cons e G ih =>
    intro hn
    rw [List.map_cons, List.nodup_cons] at hn
    rw [List.filterMap_cons]
    split
    ·exact ih hn.2
    ·rename_i f hf
     rw [List.nodup_cons]
     refine ⟨fun hm => ?_, ih hn.2⟩
     obtain ⟨e', he', hf'⟩ := List.mem_filterMap.1 hm
     obtain ⟨a1, a2⟩ := fx hf
     obtain ⟨b1, b2⟩ := fx hf'
     refine hn.1 (List.mem_map.2 ⟨e', he', Prod.ext ?_ ?_⟩)
     ·rw [<- b1, a1]
     ·rw [<- b2, a2]
  exact this _ hG.keys
 refine (List.perm_ext_iff_of_nodup n1 n2).2 (fun x => ?_)
 constructor
 ·intro hx
  unfold eL at hx
  obtain ⟨u, hu, hx⟩ := List.mem_flatMap.1 hx
  obtain ⟨p, hp, hf⟩ := List.mem_filterMap.1 hx
  rw [List.mem_range] at hu hp
  have hk : iC ((u : Int), (p : Int) + 1) := ⟨⟨by dsimp only; omega, by dsimp only; omega⟩, by dsimp only; omega, by dsimp only; omega⟩
  rw [lk hk hat] at hf
  unfold grp at hf
  cases hl : lookL (db sh L) ((u : Int), (p : Int) + 1) with
  | none =>
   rw [hl] at hf
   exfalso
   unfold bC at hf
   rw [if_pos] at hf
   ·cases hf
   ·simp; omega
  | some l =>
   rw [hl] at hf
   exact List.mem_filterMap.2 ⟨_, bY hl, hf⟩
 ·intro hx
  obtain ⟨e, he, hf⟩ := List.mem_filterMap.1 hx
  have hne : e.2 ≠ [] := by
   intro h0
   unfold bC at hf
   rw [h0] at hf
   split at hf
   ·cases hf
   ·rename_i h1
    have h1' : (0 : Int) = e.1.2 := by simpa using h1
    have : e.1.2 = 0 := h1'.symm
    rw [this] at hf
    simp [aD, dF] at hf
  obtain ⟨q, hq⟩ := List.exists_mem_of_ne_nil _ hne
  obtain ⟨a1, a2, a3, a4⟩ := hinv e he q hq
  have hk : iC e.1 := by rw [<- a4]; exact (dc a3).1
  have hlk : lookL (db sh L) e.1 = some e.2 := eC hG.keys he
  have hone : eK sh e.1 L = some x := by
   rw [lk hk hat]
   unfold grp
   rw [hlk]; exact hf
  unfold eL
  refine List.mem_flatMap.2 ⟨e.1.1.toNat, List.mem_range.2 (by have := hk.1; omega), List.mem_filterMap.2 ⟨(e.1.2 - 1).toNat, List.mem_range.2 (by have := hk.2; omega), ?_⟩⟩
  have e1 : (((e.1.1.toNat : Nat) : Int), (((e.1.2 - 1).toNat : Nat) : Int) + 1) = e.1 := Prod.ext (by have := hk.1; dsimp only; omega) (by have := hk.2; dsimp only; omega)
  rw [e1]; exact hone
end Go.D
namespace Go.D
open Go Go.Proofs
theorem lT (s : Slc) (sh up : Int) (L : List Pg) (css : List (List Value)) (w : World) (hR : Rows PgR w s L css) (hL : L.length <= 60) (xs : List Fd) (hRp : xs.Perm (kb sh L)) (hRs : xs.Pairwise fun x y => dg x < dg y) :
  Calls Tryd.prog eb ⟨[s.v, .int .i64 sh, .int .i64 up]⟩ w fun x w' => qt w (latP xs up) x w' := by
 refine jl _ _ _ ?_
 unfold ix
 refine ai (fun r4 w5 hr4 hb4 k4 hs4 => ai (fun r6 w7 hr6 hb6 k6 hs6 => ai (fun r8 w9 hr8 hb8 k8 hs8 => ?_)))
 have z4 := k4.size
 have z6 := k6.size
 have k9 := (k4.trans k6).trans k8
 have o4 : ab w9 r4 [.int .i64 up] := ((ab.bS hb4).ah k6).ah k8
 have o6 : ab w9 r6 fd0 := ab.ah (c := fd0) (ab.bS hb6) k8
 have o8 : ab w9 r8 [.bool false] := ab.bS hb8
 refine (kn s sh L css w9 (hR.ah k9) hL xs hRp hRs).mono ?_
 rintro e w11 ⟨t, fs, rfl, k11, hfs, hft, hff⟩
 refine ⟨t, rfl, (iT t w11).mono ?_⟩
 rintro e w14 ⟨b, rfl, ob, k14, hb⟩
 refine ⟨_, rfl, aO, [], [iy b], rfl, by rfl, ?_⟩
 intro D lr rc w19 hD hlr hw19 hY
 have N := mL hD hlr hw19
 have hxl : xs.length <= 60 := by
  rw [hRp.length_eq]; exact Nat.le_trans (List.length_filterMap_le _ _) (Nat.le_trans (kj sh L) hL)
 have z11 := k11.size
 have z14 := k14.size
 have hdw := N.dw
 have hdl := N.dl
 have kk : av w9 w19 := (k11.trans k14).trans N.k
 have k19 : av w w19 := k9.trans kk
 have o4' := o4.ah kk
 have o6' := o6.ah kk
 have o8' := o8.ah kk
 have ob' := ob.ah N.k
 have hfs' := (hfs.ah k14).ah N.k
 have hbD : b < D := by have := ob.lt; omega
 have htD : ∀ j, aC t j -> w9.heap.size <= j /\ j < D := fun j hj => ⟨hft j hj, by have := hfs.lt j hj; omega⟩
 have hfD : ∀ j, cY fs j -> w9.heap.size <= j /\ j < D := fun j hj => ⟨hff j hj, by have := hfs.flt j hj; omega⟩
 let J : Nat -> World -> Prop := fun k w2 => Ext (fun j => D <= j) w19 w2 /\ w2.heap[lr]? = some (.loop (rc .ready none)) /\ w2.heap[D]? = some (.deferred (some [])) /\ ∀ j (hj : j < xs.length), k <= j -> ¬ xs[j].1 <= up
 let X : World -> Prop := fun w2 => Ext (fun j => j = r6 \/ j = r8 \/ D <= j) w19 w2 /\ w2.heap[lr]? = some (.loop (rc .done (some Code.ret))) /\ w2.heap[D]? = some (.deferred (some [])) /\
  ∃ (f : Fd) (sd : Slc), latP xs up = some f /\ ab w2 r6 (fdC f sd) /\ ab w2 r8 [.bool true] /\ ar w2 sd f.2.2.2.2 /\ sd.l <= sd.c /\ ∀ j, 0 < sd.l -> aC sd j -> j < D /\ r8 < j
 have hfsJ : ∀ {k w2}, J k w2 -> Rows FdR w2 t xs fs := fun hj => hfs'.ext hj.1 (fun j hj2 hh => by have := htD j hj2; omega) (fun j hj2 hh => by have := hfD j hj2; omega)
 have step : ∀ k (hk : k < xs.length) (w : World) (sd : Slc), J (k + 1) w -> ar w sd xs[k].2.2.2.2 -> sd.l <= sd.c -> (∀ j, 0 < sd.l -> aC sd j -> cY fs j) ->
   dD Tryd.prog lr ⟨[.int .i64 (k : Int), .agg ⟨fdC xs[k] sd⟩]⟩ w fun e w' => (e = .returned (.bool true) /\ J k w') \/ (e = .returned (.bool false) /\ X w') := by
  intro k hk w28 sd hj hbd hcd hfo
  have hsdD : ∀ j, 0 < sd.l -> aC sd j -> w9.heap.size <= j /\ j < D := fun j h0 hj2 => hfD j (hfo j h0 hj2)
  refine hY _ _ _ _ _ _ _ _ hj.2.1 ?_
  refine rC (cs := fdC xs[k] sd) rfl rfl (fun r33 w35 hr33 o33 k33 hs33 => ?_)
  have hl35 := k33.heap hj.2.1
  have hD35 := k33.heap hj.2.2.1
  refine ⟨hl35, fun w36 hw36 => ?_⟩
  have e36 : Ext (fun j => j = lr) w35 w36 := by rw [hw36]; exact Ext.putObj _ _ _
  have hl36 : w36.heap[lr]? = some (.loop (rc .busy none)) := by rw [hw36]; exact eA hl35
  have hD36 : w36.heap[D]? = some (.deferred (some [])) := e36.heap hD35 (fun hh => by omega)
  have hlrlt := bH hj.2.1
  have o33' := o33.ext e36 (fun hh => by omega)
  have x36 : Ext (fun j => D <= j) w19 w36 := (hj.1.trans k33 (fun _ h => h) (fun _ h => h.elim)).trans e36 (fun _ h => h) (fun k hk => .inl (by omega))
  have o4'' := o4'.ext x36 (fun hh => by omega)
  refine ⟨_, o33'.cell 0 (by simp [fdC]), _, o4''.cell 0 (by simp), aa (fun he => ?_) (fun he => ?_)⟩
  ·have hbd36 : ar w36 sd xs[k].2.2.2.2 := aP (az hbd k33) e36 (fun h0 j hj2 hh => by have := hsdD j h0 hj2; omega)
   refine ⟨_, _, _, _, _, o33'.row, ?_⟩
   have a6 := o6'.ext x36 (fun hh => by omega)
   have a8 := o8'.ext x36 (fun hh => by omega)
   obtain ⟨g1, g2⟩ := a6.bh (cs := fdC xs[k] sd) (n := 5) rfl rfl
   refine ⟨g1, fun w39 hw39 => ?_⟩
   obtain ⟨g3, g4, g5⟩ := g2 w39 hw39
   obtain ⟨f1, f2⟩ := (a8.ext g4 (fun hh => by omega)).cN 0 (by simp) (.bool true)
   refine ⟨f1, fun w40 hw40 => ?_⟩
   obtain ⟨f3, f4, f5⟩ := f2 w40 hw40
   have hl40 := f4.heap (g4.heap hl36 (fun hh => by omega)) (fun hh => by omega)
   have hD40 := f4.heap (g4.heap hD36 (fun hh => by omega)) (fun hh => by omega)
   refine ⟨hl40, fun w41 hw41 => .inr ⟨rfl, ?_⟩⟩
   have e41 : Ext (fun j => j = lr) w40 w41 := by rw [hw41]; exact Ext.putObj _ _ _
   refine ⟨?_, by rw [hw41]; exact eA hl40, e41.heap hD40 (fun hh => by omega), xs[k], sd, oB hk he (fun j hj2 hlt => hj.2.2.2 j hj2 (by omega)), (g3.ext f4 (fun hh => by omega)).ext e41 (fun hh => by omega), f3.ext e41 (fun hh => by omega), ?_, hcd, fun j h0 hj2 => by have := hsdD j h0 hj2; omega⟩
   ·exact (((x36.mono (fun k hk => .inr (.inr hk))).trans g4 (fun _ h => h) (fun k hk => .inl (.inl hk))).trans f4 (fun _ h => h) (fun k hk => .inl (.inr (.inl hk)))).trans e41 (fun _ h => h) (fun k hk => .inl (.inr (.inr (by omega))))
   ·exact aP (aP (aP hbd36 g4 (fun h0 j hj2 hh => by have := hsdD j h0 hj2; omega)) f4 (fun h0 j hj2 hh => by have := hsdD j h0 hj2; omega)) e41 (fun h0 j hj2 hh => by have := hsdD j h0 hj2; omega)
  ·refine ⟨hl36, fun w46 hw46 => .inl ⟨rfl, ?_⟩⟩
   have e46 : Ext (fun j => j = lr) w36 w46 := by rw [hw46]; exact Ext.putObj _ _ _
   refine ⟨x36.trans e46 (fun _ h => h) (fun k hk => .inl (by omega)), by rw [hw46]; exact eA hl36, e46.heap hD36 (fun hh => by omega), fun j hj2 hkj => ?_⟩
   by_cases hjk : j = k
   ·subst hjk; exact he
   ·exact hj.2.2.2 j hj2 (by omega)
 have hcall := gZ t xs fs lr b J X (by omega) (fun k w2 hj => ⟨(ob'.ext hj.1 (fun hh => by omega)).cell 0 (by simp), hfsJ hj⟩) step w19 ⟨Ext.refl _ _, N.l, N.d, fun j hj hk => by omega⟩
 refine Calls.mono (show Calls Tryd.prog aO _ w19 _ from hcall) ?_
 rintro e w51 ⟨rfl, hj | hx⟩
 ·refine ⟨⟨_, rfl⟩, .inr ⟨hj.2.1, fun w56 hw56 => ?_⟩⟩
  have e56 : Ext (fun j => j = lr) w51 w56 := by rw [hw56]; exact Ext.putObj _ _ _
  have x56 : Ext (fun j => D <= j) w19 w56 := hj.1.trans e56 (fun _ h => h) (fun k hk => .inl (by omega))
  have a6 := o6'.ext x56 (fun hh => by omega)
  have a8 := o8'.ext x56 (fun hh => by omega)
  have hD56 := e56.heap hj.2.2.1 (fun hh => by omega)
  obtain ⟨g1, g2⟩ := a6.bh (cs := fd0) (n := 5) rfl rfl
  refine ⟨g1, fun w57 hw57 => ?_⟩
  obtain ⟨g3, g4, g5⟩ := g2 w57 hw57
  obtain ⟨f1, f2⟩ := (a8.ext g4 (fun hh => by omega)).cN 0 (by simp) (.bool false)
  refine ⟨f1, fun w58 hw58 => ?_⟩
  obtain ⟨f3, f4, f5⟩ := f2 w58 hw58
  have hD58 := f4.heap (g4.heap hD56 (fun hh => by omega)) (fun hh => by omega)
  refine ⟨hD58, fun w59 hw59 => ?_⟩
  have e59 : Ext (fun j => j = D) w58 w59 := by rw [hw59]; exact Ext.putObj _ _ _
  have h6 := (g3.ext f4 (fun hh => by omega)).ext e59 (fun hh => by omega)
  have h8 := f3.ext e59 (fun hh => by omega)
  refine ⟨_, _, _, _, _, h6.row, _, h8.cell 0 (by simp), ?_, ?_⟩
  ·exact (((k19.ext x56 (fun k hk => by omega)).ext g4 (fun k hk => by omega)).ext f4 (fun k hk => by omega)).ext e59 (fun k hk => by omega)
  ·rw [iU (fun x hx => by
    obtain ⟨j, hj2, rfl⟩ := List.getElem_of_mem hx
    exact hj.2.2.2 j hj2 (Nat.zero_le _))]
   rfl
 ·obtain ⟨x51, l51, d51, f, sd, hlat, h6, h8, hbd, hcd, hown⟩ := hx
  refine ⟨⟨_, rfl⟩, .inl ⟨l51, fun w48 hw48 => ?_⟩⟩
  have e48 : Ext (fun j => j = lr) w51 w48 := by rw [hw48]; exact Ext.putObj _ _ _
  have d48 := e48.heap d51 (fun hh => by omega)
  refine ⟨d48, fun w49 hw49 => ?_⟩
  have e49 : Ext (fun j => j = D) w48 w49 := by rw [hw49]; exact Ext.putObj _ _ _
  have g6 := (h6.ext e48 (fun hh => by omega)).ext e49 (fun hh => by omega)
  have g8 := (h8.ext e48 (fun hh => by omega)).ext e49 (fun hh => by omega)
  refine ⟨_, _, _, _, _, g6.row, _, g8.cell 0 (by simp), ?_, ?_⟩
  ·exact ((k19.ext x51 (fun k hk => by omega)).ext e48 (fun k hk => by omega)).ext e49 (fun k hk => by omega)
  ·rw [hlat]
   exact ⟨sd, rfl, aP (aP hbd e48 (fun h0 j hj hh => by have := hown j h0 hj; omega)) e49 (fun h0 j hj hh => by have := hown j h0 hj; omega), hcd⟩
end Go.D
namespace Go.D
open Go Go.Proofs
abbrev nV : Rd (Int × List UInt8 × List UInt8 × List UInt8 × Int) := Rd.pair (Rd.int .i64) (Rd.pair Rd.str (Rd.pair Rd.str (Rd.pair Rd.str (Rd.int .i64))))
abbrev nj := Int × Int × Int × Int × Int × Int × (Slc × List (Int × List UInt8 × List UInt8 × List UInt8 × Int)) × List UInt8 × Int × Int × Int × (Slc × List UInt8)
abbrev rL : Rd nj :=
 Rd.pair (Rd.int .i64) (Rd.pair (Rd.int .i64) (Rd.pair (Rd.int .i64) (Rd.pair (Rd.int .i64) (Rd.pair (Rd.int .i64) (Rd.pair (Rd.int .i64) (Rd.pair (Rd.slice nV) (Rd.pair Rd.str (Rd.pair (Rd.int .i64) (Rd.pair (Rd.int .i64) (Rd.pair (Rd.int .i64) Rd.bytes))))))))))
theorem rM {w : World} {s : Slc} {xs : List (Int × List UInt8 × List UInt8 × List UInt8 × Int)} (h : jW nV w s xs) (h0 : 0 < s.l) : ∀ k, aC s k -> k < w.heap.size := by
 rintro k ⟨a, ha, rfl⟩
 obtain ⟨h1, _, _, h3⟩ := h
 obtain ⟨a', cs, ha', hx, hrow⟩ := h3 0 (by omega)
 rw [ha] at ha'; cases ha'
 obtain ⟨l1, l2, hcs, ⟨rfl, _⟩, _⟩ := hx
 subst hcs
 have hc := dE hrow 0 (by simp)
 have := World.block_lt_of_cell? w _ hc
 rwa [cD, cD] at this
theorem ku {sh up : Int} {b : List UInt8} (h : jx sh up = true) (hn : c9 b <= 64) : fP sh up b = .ok (fv (dK b) (c9 b) (c9 b) (c9 b)) := by
 unfold fP; rw [if_neg (by rw [h]; simp), if_neg (by omega)]
theorem kJ (A : Nat -> Addr) {n0 : Nat} (w : World) (hG : eG ckG A n0 w) : Calls Tryd.prog cf ⟨[]⟩ w fun e w' => e = .returned (.bool true) /\ av w w' := by
 refine ft ?_
 unfold dX
 refine ⟨by omega, by omega, by omega, ai (fun r1 w2 hr1 hb1 k1 hs1 => ?_)⟩
 have o1 := Own.rb hb1
 refine (j8 A 1 0 _ _ w2 o1.bytes (by simp) (hG.ah k1)).mono ?_
 rintro x w4 ⟨k4, hres⟩
 rw [ku rfl (by simp [c9])] at hres
 obtain ⟨t1, css1, rfl, hR1⟩ := hres
 refine ⟨t1, _, rfl, by omega, by omega, by omega, ai (fun r7 w8 hr7 hb7 k7 hs7 => ?_)⟩
 have k48 := (k1.trans k4).trans k7
 have o7 := Own.rb hb7
 refine (j8 A 1 0 _ _ w8 o7.bytes (by simp) (hG.ah k48)).mono ?_
 rintro x w10 ⟨k10, hres⟩
 rw [ku rfl (by simp [c9])] at hres
 obtain ⟨t2, css2, rfl, hR2⟩ := hres
 have hl1 := hR1.sl
 have hl2 := hR2.sl
 rw [dZ] at hl1 hl2
 have hn1 : c9 (List.replicate 252 0) = 1 := by simp [c9]
 have hn2 : c9 (List.replicate 253 0) = 2 := by simp [c9]
 have hc2 : 1 < css2.length := by rw [hR2.len, dZ, hn2]; omega
 obtain ⟨a, ha, _, hrow⟩ := hR2.get hc2
 obtain ⟨sd, hcs, hbd, _⟩ := hR2.row 1 hc2 (by rw [dZ, hn2]; omega)
 rw [hcs] at hrow
 have hsd := hbd.1
 rw [iB] at hsd
 have hch : (de (dK (List.replicate 253 0)) 256 1).length = 1 := by
  unfold de
  rw [List.length_take, List.length_drop, gY, List.length_replicate]; rfl
 rw [hch] at hsd
 refine ⟨t2, _, rfl, trivial, aN (fun _ => ⟨trivial, aN (fun _ => aa (fun _ => aa (fun _ => ?_) (fun h => absurd (by omega) h)) (fun h => absurd (by omega) h)) (fun h => by cases h)⟩) (fun h => by cases h)⟩
 refine ao ha ⟨by omega, by omega, sd, qS hrow 11 (by simp [ptC]), ?_, k48.trans k10⟩
 rw [decide_eq_true (by omega)]
end Go.D
namespace Go.D
open Go Go.Proofs
theorem q7 {x : Pg} {k : Nat} (h : dT (pgC x) k) : (0 < x.ops.l /\ aC x.ops k) \/ (0 < x.ds.l /\ aC x.ds k) \/ (0 < x.j9.l /\ aC x.j9 k) := by
 obtain ⟨s, hs, h1, h2⟩ := h
 have inj : ∀ {a b : Slc}, a.v = b.v -> a = b := by
  rintro ⟨p, l, c⟩ ⟨p', l', c'⟩ hh
  simp [Slc.v] at hh
  obtain ⟨rfl, rfl, rfl⟩ := hh
  rfl
 have : s.v = x.ops.v \/ s.v = x.ds.v \/ s.v = x.j9.v := by
  simp [pgC] at hs
  rcases hs with h | h | h | h | h | h | h | h | h | h | h | h | h | h | h
  all_goals first | exact .inl h | exact .inr (.inl h) | exact .inr (.inr h) | (simp [Slc.v, aq] at h)
 rcases this with h | h | h
 ·have := inj h; subst this; exact .inl ⟨h1, h2⟩
 ·have := inj h; subst this; exact .inr (.inl ⟨h1, h2⟩)
 ·have := inj h; subst this; exact .inr (.inr ⟨h1, h2⟩)
end Go.D
namespace Go.D
open Go Go.Proofs
abbrev kx : Rd (Int × (nj × Bool)) := Rd.pair (Rd.int .i64) (Rd.pair rL Rd.bool)
theorem pz {w : World} {b : Int × (nj × Bool)} {l : List Value} (hx : kx.R w b l) : ∃ (at' kd sh cl sq sv ot : Int) (ops : Slc) (key : List UInt8) (up p q : Int) (sd : Slc) (dat : List UInt8) (gb : Bool) (xs : List (Int × List UInt8 × List UInt8 × List UInt8 × Int)),
  l = .int .i64 at' :: (bg kd sh cl sq sv ot ops key up p q sd ++ [.bool gb]) /\ ar w sd dat /\ sd.l <= sd.c /\ jW nV w ops xs := by
 obtain ⟨b0, ⟨⟨b1, b2, b3, b4, b5, b6, ⟨so, ops⟩, b8, b9, b10, b11, ⟨sd, dat⟩⟩, jk⟩⟩ := b
 obtain ⟨_, _, hl, ⟨rfl, _⟩, ⟨_, lj, rfl, ⟨_, _, rfl, ⟨rfl, _⟩, ⟨_, _, rfl, ⟨rfl, _⟩, ⟨_, _, rfl, ⟨rfl, _⟩, ⟨_, _, rfl, ⟨rfl, _⟩, ⟨_, _, rfl, ⟨rfl, _⟩, ⟨_, _, rfl, ⟨rfl, _⟩, ⟨_, _, rfl, ⟨rfl, ho⟩, ⟨_, _, rfl, ⟨rfl, _⟩, ⟨_, _, rfl, ⟨rfl, _⟩, ⟨_, _, rfl, ⟨rfl, _⟩, ⟨_, _, rfl, ⟨rfl, _⟩, ⟨rfl, hd, hdc⟩⟩⟩⟩⟩⟩⟩⟩⟩⟩⟩⟩, hj⟩⟩ := hx
 have hj2 : lj = [Value.bool jk] := by first | exact hj | exact hj.1
 refine ⟨b0, b1, b2, b3, b4, b5, b6, so, b8, b9, b10, b11, sd, dat, jk, ops, ?_, hd, by first | exact hdc | exact hdc.1, ho⟩
 rw [hl, hj2]; rfl
theorem ll {w : World} {all : Slc} {L : List Pg} {css : List (List Value)} {x : Pg} {T : TypeId} {K : Slc -> World -> Prop} (hR : Rows PgR w all L css) (hx : fQ w x)
  (hft : ∀ k, dT (pgC x) k -> k < w.heap.size /\ ¬ aC all k) (hlen : L.length <= 2 ^ 20)
  (hK : ∀ s' w', Rows PgR w' s' (L ++ [x]) (css ++ [pgC x]) -> Ext (aC all) w w' -> (∀ j, aC s' j -> aC all j \/ w.heap.size <= j) -> K s' w') :
  aK w (.cells ⟨pgC x⟩ T) fun r w1 => bA 15 T (pgC da) w1 all (.slc ⟨some ⟨r, 0, none⟩, 1, 1⟩) K := by
 refine ai (fun r w1 hr hb1 k1 hs1 => ?_)
 have hR1 := hR.ah k1
 refine hR1.snoc (cs := pgC x) (x := x) (z := _) rfl ⟨rfl, ea hx k1, fun k hk => by have := (hft k hk).1; have := k1.size; omega⟩ (fun j hj => (hft j hj).2) hb1 (.inl (by simp)) (by omega) (fun s' w' g1 g2 g3 => ?_)
 exact hK s' w' g1 (Ext.trans k1 g2 (fun _ h => h.elim) (fun j hj => .inl hj)) (fun j hj => (g3 j hj).elim .inl (fun h => .inr (by have := k1.size; omega)))
theorem nW (s : Slc) (xs : List (Int × (nj × Bool))) (w : World) (hl : jW kx w s xs) :
  Calls Tryd.prog cg ⟨[s.v]⟩ w fun x w' => av w w' /\ ((∃ p q : Slc, x = .returned (.tuple ⟨[p.v, q.v, .bool false]⟩)) \/
   ∃ (a b : Slc) (L : List Pg) (ca cb : List (List Value)), x = .returned (.tuple ⟨[a.v, b.v, .bool true]⟩) /\ Rows PgR w' a L ca /\ Rows PgR w' b L cb /\ L.length <= 60 /\ ∀ p ∈ L, 0 <= p.at') := by
 have hsl := hl.1
 refine fu _ ?_
 unfold dY
 refine ai (fun r2 w3 hr2 hb2 k2 hs2 => ai (fun r4 w5 hr4 hb4 k4 hs4 => ?_))
 have k5 := k2.trans k4
 have bad : ∀ {w' : World}, av w w' -> av w w' /\ ((∃ p q : Slc, Ending.returned (.tuple ⟨[(⟨none, 0, 0⟩ : Slc).v, (⟨none, 0, 0⟩ : Slc).v, .bool false]⟩) = .returned (.tuple ⟨[p.v, q.v, .bool false]⟩)) \/
   ∃ (a b : Slc) (L : List Pg) (ca cb : List (List Value)), Ending.returned (.tuple ⟨[(⟨none, 0, 0⟩ : Slc).v, (⟨none, 0, 0⟩ : Slc).v, .bool false]⟩) = .returned (.tuple ⟨[a.v, b.v, .bool true]⟩) /\ Rows PgR w' a L ca /\ Rows PgR w' b L cb /\ L.length <= 60 /\ ∀ p ∈ L, 0 <= p.at') :=
  fun k => ⟨k, .inl ⟨_, _, rfl⟩⟩
 refine aa (fun _ => bad k5) (fun h60 => ?_)
 have Ra0 : Rows PgR w5 ⟨some ⟨r2, 0, none⟩, 0, 0⟩ [] [] := ⟨Own.new (sz := 15) (n := 0) (k4.heap hb2) (.inl (by simp)) rfl, rfl, fun i h => by simp at h, fun k ⟨_, h, _⟩ => by simp at h⟩
 have Rb0 : Rows PgR w5 ⟨some ⟨r4, 0, none⟩, 0, 0⟩ [] [] := ⟨Own.new (sz := 15) (n := 0) hb4 (.inl (by simp)) rfl, rfl, fun i h => by simp at h, fun k ⟨_, h, _⟩ => by simp at h⟩
 refine ⟨fun a b i w11 => ∃ (n : Nat) (L : List Pg) (ca cb : List (List Value)), i = (n : Int) /\ n <= xs.length /\ L.length = n /\ av w w11 /\ Rows PgR w11 a L ca /\ Rows PgR w11 b L cb /\ (∀ j, aC a j -> r2 <= j) /\ (∀ j, aC b j -> r2 <= j) /\ (∀ j, aC a j -> ¬ aC b j) /\ (∀ j, cY ca j -> j < r2) /\ (∀ j, cY cb j -> j < r2) /\ ∀ p ∈ L, 0 <= p.at',
  fun _ _ i _ => xs.length - i.toNat, ⟨0, [], [], [], rfl, by omega, rfl, k5, Ra0, Rb0, (by rintro j ⟨a, ha, rfl⟩; cases ha; exact Nat.le_refl _), (by rintro j ⟨a, ha, rfl⟩; cases ha; show r2 <= r4; omega), (by rintro j ⟨a, ha, rfl⟩ ⟨a', ha', h⟩; cases ha; cases ha'; dsimp only at h; omega), (by rintro j ⟨cs, hc, _⟩; simp at hc), (by rintro j ⟨cs, hc, _⟩; simp at hc), by simp⟩, ?_⟩
 rintro a8 b9 i10 w11 ⟨n, L, ca, cb, rfl, hn, hLn, k11, hRa, hRb, hoa, hob, hsep, hfa, hfb, hat⟩
 intros
 refine aa (fun hlt => ?_) (fun hge => ⟨k11, .inr ⟨a8, b9, L, ca, cb, rfl, hRa, hRb, by omega, hat⟩⟩)
 obtain ⟨a, cs, ha, hx, hrow⟩ := hl.2.2.2 n (by omega)
 obtain ⟨at', kd, sh, cl, sq, sv, ot, ops, key, up, p, q, sd, dat, gb, opsx, rfl, hd, hdc, ho⟩ := pz hx
 have hrow11 := gW hrow k11
 refine ao ha ⟨by omega, by omega, at', kd, sh, cl, sq, sv, ot, ops, key, up, p, q, sd, gb, by rw [show (Int.toNat ((n : Nat) : Int)) * 14 = n * 14 by omega]; exact hrow11, ?_⟩
 refine ai (fun r95 w96 hr95 hb95 k95 hs95 => ?_)
 have o95 : ab w96 r95 (.int .i64 0 :: (bg 0 0 0 0 0 0 ⟨none, 0, 0⟩ [] 0 0 0 ⟨none, 0, 0⟩ ++ [.bool false])) := ab.bS hb95
 obtain ⟨c1, c2⟩ := o95.bh (cs := .int .i64 at' :: (bg kd sh cl sq sv ot ops key up p q sd ++ [.bool gb])) (n := 14) rfl rfl
 refine ⟨c1, fun w97 hw97 => ?_⟩
 obtain ⟨p95, x97, z97⟩ := c2 w97 hw97
 have k97 : av w11 w97 := k95.ext x97 (fun j hj => by omega)
 refine ⟨kd, sh, cl, sq, sv, ot, ops, key, up, p, q, sd, p95.rJ 1 rfl, ?_⟩
 refine ai (fun r110 w111 hr110 hb110 k110 hs110 => ?_)
 have o110 : ab w111 r110 (bg 0 0 0 0 0 0 ⟨none, 0, 0⟩ [] 0 0 0 ⟨none, 0, 0⟩) := ab.bS hb110
 obtain ⟨c3, c4⟩ := o110.bh (cs := bg kd sh cl sq sv ot ops key up p q sd) (n := 12) rfl rfl
 refine ⟨c3, fun w112 hw112 => ?_⟩
 obtain ⟨p110, x112, z112⟩ := c4 w112 hw112
 have k112 : av w97 w112 := k110.ext x112 (fun j hj => by omega)
 have kk := k97.trans k112
 have p95' := p95.ah k112
 have kw := k11.trans kk
 refine ⟨fun w' => w' = w112 /\ 0 <= at', ?_, ?_⟩
 ·refine ⟨at', p95'.cell 0 (by simp [bg]), aa (fun _ => bad kw) (fun h1 => ?_)⟩
  refine ⟨at', p95'.cell 0 (by simp [bg]), aa (fun _ => bad kw) (fun _ => ?_)⟩
  refine ⟨ops, p110.cell 6 (by simp [bg]), aa (fun _ => bad kw) (fun _ => ?_)⟩
  refine ⟨key, p110.cell 7 (by simp [bg]), aa (fun _ => bad kw) (fun _ => ?_)⟩
  exact ⟨sd, p110.cell 11 (by simp [bg]), aa (fun _ => bad kw) (fun _ => ⟨rfl, by omega⟩)⟩
 rintro w119 ⟨rfl, hat0⟩
 intros
 have hopl := ho.1
 have hopc : opsx.length <= 9223372036854775807 := by
  have h1 := ho.2.1
  have h2 := ho.2.2.1
  have h3 : maxLen <= 9223372036854775807 := by decide
  omega
 refine ⟨ops, p110.cell 6 (by simp [bg]), fun i w153 => ∃ m : Nat, i = (m : Int) /\ m <= opsx.length /\ av w119 w153, fun i _ => opsx.length - i.toNat, ⟨0, rfl, by omega, Ext.refl _ _⟩, ?_⟩
 rintro i152 w153 ⟨m, rfl, hm, k153⟩
 intros
 refine aa (fun h1 => ?_) (fun h1 => ?_)
 ·obtain ⟨oa, ocs, hoa2, hox, horow⟩ := ho.2.2.2 m (by omega)
  obtain ⟨ob, hob2⟩ : ∃ ob, ob = opsx[m] := ⟨_, rfl⟩
  rw [<- hob2] at hox
  obtain ⟨o1, o2, o3, o4, o5⟩ := ob
  obtain ⟨_, _, hocs, ⟨rfl, _⟩, ⟨_, _, rfl, ⟨rfl, _⟩, ⟨_, _, rfl, ⟨rfl, _⟩, ⟨_, _, rfl, ⟨rfl, _⟩, ⟨rfl, _⟩⟩⟩⟩⟩ := hox
  subst hocs
  have horow2 := gW horow (kw.trans k153)
  refine ao hoa2 ⟨by omega, by omega, o1, o2, o3, o4, o5, by rw [show (Int.toNat ((m : Nat) : Int)) * 5 = m * 5 by omega]; exact horow2, ?_⟩
  refine ai (fun r172 w173 hr172 hb172 k172 hs172 => ?_)
  have o172 : ab w173 r172 [.int .i64 0, aq [], aq [], aq [], .int .i64 0] := ab.bS hb172
  obtain ⟨d1, d2⟩ := o172.bh (cs := [.int .i64 o1, aq o2, aq o3, aq o4, .int .i64 o5]) (n := 5) rfl rfl
  refine ⟨d1, fun w174 hw174 => ?_⟩
  obtain ⟨p172, x174, z174⟩ := d2 w174 hw174
  have k174 : av w153 w174 := k172.ext x174 (fun j hj => by omega)
  refine ⟨o2, p172.cell 1 (by simp), aa (fun _ => bad (kw.trans (k153.trans k174))) (fun _ => ⟨af (by omega), ⟨m + 1, by omega, by omega, k153.trans k174⟩, by dsimp only; omega⟩)⟩
 have q95 := p95'.ah k153
 have q110 := p110.ah k153
 have kw2 := kw.trans k153
 have kk2 := kk.trans k153
 have hz11 := k11.size
 obtain ⟨x, hxx⟩ : ∃ x : Pg, x = ⟨at', kd, sh, cl, sq, sv, ot, ops, key, up, p, q, sd, dat, ⟨none, 0, 0⟩, gb⟩ := ⟨_, rfl⟩
 have hfx : ∀ j, dT (pgC x) j -> j < r2 := by
  intro j hj
  rcases q7 hj with ⟨h0, h2⟩ | ⟨h0, h2⟩ | ⟨h0, _⟩
  ·rw [hxx] at h0 h2; have := rM ho h0 j h2; omega
  ·rw [hxx] at h0 h2; have := gB hd h0 j h2; omega
  ·rw [hxx] at h0; exact absurd h0 (by simp)
 have hr2 : r2 <= w153.heap.size := by have := kw2.size; omega
 have hdx : fQ w x := by rw [hxx]; exact ⟨hd, hdc⟩
 refine ⟨at', q95.cell 0 (by simp [bg]), kd, sh, cl, sq, sv, ot, ops, key, up, p, q, sd, q110.row, gb, q95.cell 13 (by simp [bg]), ?_⟩
 have ex : ∀ T, (Obj.cells ⟨pgC x⟩ T) = .cells ⟨[.int .i64 at', .int .i64 kd, .int .i64 sh, .int .i64 cl, .int .i64 sq, .int .i64 sv, .int .i64 ot, ops.v, aq key, .int .i64 up, .int .i64 p, .int .i64 q, sd.v, (⟨none, 0, 0⟩ : Slc).v, .bool gb]⟩ T := fun T => by rw [hxx]; rfl
 rw [<- ex]
 refine ll (hRa.ah kk2) (ea hdx kw2) (fun j hj => ⟨by have := hfx j hj; omega, fun h => by have := hfx j hj; have := hoa j h; omega⟩) (by omega) (fun s1 w1 g1 g2 g3 => ?_)
 have l95 := q95.lt
 have la : ∀ j, aC a8 j -> j < w11.heap.size := hRa.lt
 have lb : ∀ j, aC b9 j -> j < w11.heap.size := hRb.lt
 have l96 : w11.heap.size <= r95 := by omega
 have l111 : w11.heap.size <= r110 := by have := k97.size; omega
 have t95 := q95.ext g2 (fun hh => by have := la _ hh; omega)
 have t110 := q110.ext g2 (fun hh => by have := la _ hh; omega)
 have hRb1 : Rows PgR w1 b9 L cb := (hRb.ah kk2).ext g2 (fun j hj hh => hsep j hh hj) (fun j hj hh => by have := hfb j hj; have := hoa j hh; omega)
 have kw3 : av w w1 := kw2.ext g2 (fun j hj => by have := hoa j hj; omega)
 refine ⟨at', t95.cell 0 (by simp [bg]), kd, sh, cl, sq, sv, ot, ops, key, up, p, q, sd, t110.row, gb, t95.cell 13 (by simp [bg]), ?_⟩
 rw [<- ex]
 refine ll hRb1 (ea hdx kw3) (fun j hj => ⟨by have := hfx j hj; have := g2.size; omega, fun h => by have := hfx j hj; have := hob j h; omega⟩) (by omega) (fun s2 w2 f1 f2 f3 => ?_)
 have hs1b : ∀ j, aC s1 j -> ¬ aC b9 j := fun j hj hh => (g3 j hj).elim (fun h => hsep j h hh) (fun h => by have := lb j hh; have := kk2.size; omega)
 have hs1r : ∀ j, aC s1 j -> r2 <= j := fun j hj => (g3 j hj).elim (fun h => hoa j h) (fun h => by omega)
 have hfoot' : ∀ (c : List (List Value)), (∀ j, cY c j -> j < r2) -> ∀ j, cY (c ++ [pgC x]) j -> j < r2 := by
  rintro c hc j ⟨cs, hm2, hj⟩
  rcases List.mem_append.1 hm2 with h | h
  ·exact hc j ⟨cs, h, hj⟩
  ·rw [List.mem_singleton] at h; subst h; exact hfx j hj
 have hRa2 : Rows PgR w2 s1 (L ++ [x]) (ca ++ [pgC x]) := g1.ext f2 (fun j hj hh => hs1b j hj hh) (fun j hj hh => by have := hfoot' ca hfa j hj; have := hob j hh; omega)
 refine ⟨af (by omega), ⟨n + 1, L ++ [x], _, _, by omega, by omega, by simp [hLn], kw3.ext f2 (fun j hj => by have := hob j hj; omega), hRa2, f1, hs1r, fun j hj => (f3 j hj).elim (fun h => hob j h) (fun h => by have := g2.size; omega), fun j hj hh => (f3 j hh).elim (fun h => hs1b j hj h) (fun h => by have := g1.lt j hj; omega), hfoot' ca hfa, hfoot' cb hfb, fun y hy => ?_⟩, by dsimp only; omega⟩
 rcases List.mem_append.1 hy with h | h
 ·exact hat y h
 ·have : y = x := by simpa using h
  rw [this, hxx]; exact hat0
theorem jd (x : Fd) (s1 s2 : Slc) (w : World) (h1 : ar w s1 x.2.2.2.2) (h2 : ar w s2 x.2.2.2.2) :
  Calls Tryd.prog bE ⟨[.agg ⟨fdC x s1⟩, .agg ⟨fdC x s2⟩]⟩ w fun e w' => e = .returned (.bool true) /\ av w w' := by
 refine fM _ _ _ _ _ _ _ _ _ _ ?_
 unfold en
 refine ai (fun r11 w12 hr1 hb1 k1 hs1 => ai (fun r13 w14 hr2 hb2 k2 hs2 => ?_))
 have kk := k1.trans k2
 have o1 : ab w14 r11 (fdC x s1) := ab.ah (c := fdC x s1) (ab.bS hb1) k2
 have o2 : ab w14 r13 (fdC x s2) := ab.bS hb2
 refine ⟨_, o1.cell 0 (by simp [fdC]), _, o2.cell 0 (by simp [fdC]), aa (fun _ => ?_) (fun h => absurd rfl h)⟩
 refine ⟨_, o1.cell 1 (by simp [fdC]), _, o2.cell 1 (by simp [fdC]), aa (fun _ => ?_) (fun h => absurd rfl h)⟩
 refine ⟨_, o1.cell 2 (by simp [fdC]), _, o2.cell 2 (by simp [fdC]), aa (fun _ => ?_) (fun h => absurd rfl h)⟩
 refine ⟨_, o1.cell 3 (by simp [fdC]), _, o2.cell 3 (by simp [fdC]), aa (fun _ => ?_) (fun h => absurd rfl h)⟩
 refine ⟨s1, o1.cell 4 (by simp [fdC]), _, az h1 kk, s2, o2.cell 4 (by simp [fdC]), _, az h2 kk, ?_, kk⟩
 rw [decide_eq_true rfl]
theorem jm (s : Slc) (xs : List (Int × (nj × Bool))) (sh up : Int) (w : World) (hl : jW kx w s xs) (A : Nat -> Addr) (hE : eZ mI ckG A w) :
  Calls Tryd.prog cz ⟨[s.v, .int .i64 sh, .int .i64 up]⟩ w fun e w' => e = .returned (.bool true) /\ av w w' := by
 refine ee _ _ _ ?_
 unfold cZ
 refine (kJ A w hE.g).mono ?_
 rintro e w5 ⟨rfl, k5⟩
 refine ⟨_, rfl, aN (fun h => by cases h) (fun _ => (nW s xs w5 (jX hl k5)).mono ?_)⟩
 rintro e w8 ⟨k8, ⟨p, q, rfl⟩ | ⟨a, b, L, ca, cb, rfl, hRa, hRb, hL, hat⟩⟩
 ·exact ⟨_, _, _, rfl, aN (fun _ => ⟨rfl, k5.trans k8⟩) (fun h => by cases h)⟩
 have kw8 := k5.trans k8
 refine ⟨_, _, _, rfl, aN (fun h => by cases h) (fun _ => ?_)⟩
 obtain ⟨R, hRR⟩ : ∃ R, R = eL sh L 4097 := ⟨_, rfl⟩
 have hperm : R.Perm (kb sh L) := by rw [hRR]; exact py hat
 have hsort : R.Pairwise fun x y => dg x < dg y := by rw [hRR]; exact (gD sh L 4097).1
 refine (kn a sh L ca w8 hRa hL R hperm hsort).mono ?_
 rintro e w13 ⟨t, fs, rfl, k13, hfs, _, _⟩
 refine ⟨t, rfl, (iJ b sh L cb w13 (hRb.ah k13) hL).mono ?_⟩
 rintro e w16 ⟨t2, fs2, rfl, k16, hfs2, _, _⟩
 rw [<- hRR] at hfs2
 have hl1 := hfs.sl
 have hl2 := hfs2.sl
 have hRlen : R.length <= 60 := by rw [hperm.length_eq]; exact Nat.le_trans (List.length_filterMap_le _ _) (Nat.le_trans (kj sh L) hL)
 refine ⟨t2, rfl, aR (fun h => absurd (by omega) h) (fun _ => ?_)⟩
 refine ⟨fun i w21 => ∃ n : Nat, i = (n : Int) /\ n <= R.length /\ av w16 w21, fun i _ => R.length - i.toNat, ⟨0, rfl, by omega, Ext.refl _ _⟩, ?_⟩
 rintro i w21 ⟨n, rfl, hn, k21⟩
 intros
 have kd := k21.drew
 refine aa (fun h1 => ?_) (fun h1 => ?_)
 ·have hnR : n < R.length := by omega
  have hfd := (hfs.ah k16).ah kd
  have hfd2 := hfs2.ah kd
  obtain ⟨hc1, a1, sd1, ha1, hcs1, hrow1⟩ := fS hfd hnR
  obtain ⟨hc2, a2, sd2, ha2, hcs2, hrow2⟩ := fS hfd2 hnR
  obtain ⟨sd1', hcs1', hb1, _⟩ := hfd.row n hc1 hnR
  obtain ⟨sd2', hcs2', hb2, _⟩ := hfd2.row n hc2 hnR
  have inj : ∀ {x : Fd} {a b : Slc}, fdC x a = fdC x b -> a = b := by
   rintro x ⟨p, l, c⟩ ⟨p', l', c'⟩ hh
   simp [fdC, Slc.v] at hh
   obtain ⟨rfl, rfl, rfl⟩ := hh
   rfl
  have i1 := inj (hcs1.symm.trans hcs1')
  have i2 := inj (hcs2.symm.trans hcs2')
  subst i1; subst i2
  refine ao ha1 ⟨by omega, by omega, _, _, _, _, sd1, by rw [Int.toNat_natCast]; exact hrow1, ao ha2 ⟨by omega, by omega, _, _, _, _, sd2, by rw [Int.toNat_natCast]; exact hrow2, ?_⟩⟩
  refine (jd R[n] sd1 sd2 _ hb1 hb2).mono ?_
  rintro e w50 ⟨rfl, k50⟩
  exact ⟨_, rfl, aN (fun h => by cases h) (fun _ => ⟨af (by omega), ⟨n + 1, by omega, by omega, kd.trans k50⟩, by dsimp only; omega⟩)⟩
 have k821 := (k13.trans k16).trans k21
 refine (lT a sh up L ca w21 (hRa.ah k821) hL R hperm hsort).mono ?_
 rintro e w53 ⟨k53, hlat⟩
 have e5 : ∃ (x1 x2 x3 x4 : Int) (x5 : Slc) (bb : Bool), e = .returned (.tuple ⟨[.agg ⟨[.int .i64 x1, .int .i64 x2, .int .i64 x3, .int .i64 x4, x5.v]⟩, .bool bb]⟩) /\ bb = (latP R up).isSome /\ ∀ f, latP R up = some f -> [.int .i64 x1, .int .i64 x2, .int .i64 x3, .int .i64 x4, x5.v] = fdC f x5 /\ ar w53 x5 f.2.2.2.2 := by
  cases hf : latP R up with
  | none => rw [hf] at hlat; exact ⟨_, _, _, _, _, _, hlat, rfl, fun f h => by cases h⟩
  | some f =>
   rw [hf] at hlat
   obtain ⟨sd, he, hb, _⟩ := hlat
   exact ⟨_, _, _, _, sd, _, he, rfl, fun f' h => by cases h; exact ⟨rfl, hb⟩⟩
 obtain ⟨x1, x2, x3, x4, x5, bb, rfl, hbb, hx⟩ := e5
 refine ⟨x1, x2, x3, x4, x5, bb, rfl, ai (fun r60 w61 hr60 hb60 k60 hs60 => ?_)⟩
 have o60 : ab w61 r60 fd0 := ab.bS hb60
 obtain ⟨c1, c2⟩ := o60.bh (cs := [.int .i64 x1, .int .i64 x2, .int .i64 x3, .int .i64 x4, x5.v]) (n := 5) rfl rfl
 refine ⟨c1, fun w62 hw62 => ?_⟩
 obtain ⟨p60, x62, z62⟩ := c2 w62 hw62
 have k62 : av w53 w62 := k60.ext x62 (fun j hj => by omega)
 have k2162 := k53.trans k62
 refine (kq b sh up L cb w62 ((hRb.ah k821).ah k2162) hL).mono ?_
 rintro e w64 ⟨k64, hlat2⟩
 rw [<- hRR] at hlat2
 have e6 : ∃ (y1 y2 y3 y4 : Int) (y5 : Slc) (bc : Bool), e = .returned (.tuple ⟨[.agg ⟨[.int .i64 y1, .int .i64 y2, .int .i64 y3, .int .i64 y4, y5.v]⟩, .bool bc]⟩) /\ bc = (latP R up).isSome /\ ∀ f, latP R up = some f -> [.int .i64 y1, .int .i64 y2, .int .i64 y3, .int .i64 y4, y5.v] = fdC f y5 /\ ar w64 y5 f.2.2.2.2 := by
  cases hf : latP R up with
  | none => rw [hf] at hlat2; exact ⟨_, _, _, _, _, _, hlat2, rfl, fun f h => by cases h⟩
  | some f =>
   rw [hf] at hlat2
   obtain ⟨sd, he, hb, _⟩ := hlat2
   exact ⟨_, _, _, _, sd, _, he, rfl, fun f' h => by cases h; exact ⟨rfl, hb⟩⟩
 obtain ⟨y1, y2, y3, y4, y5, bc, rfl, hbc, hy⟩ := e6
 refine ⟨y1, y2, y3, y4, y5, bc, rfl, ai (fun r71 w72 hr71 hb71 k71 hs71 => ?_)⟩
 have o71 : ab w72 r71 fd0 := ab.bS hb71
 obtain ⟨c3, c4⟩ := o71.bh (cs := [.int .i64 y1, .int .i64 y2, .int .i64 y3, .int .i64 y4, y5.v]) (n := 5) rfl rfl
 refine ⟨c3, fun w73 hw73 => ?_⟩
 obtain ⟨p71, x73, z73⟩ := c4 w73 hw73
 have k73 : av w64 w73 := k71.ext x73 (fun j hj => by omega)
 have k6273 := k64.trans k73
 have kall : av w w73 := ((kw8.trans k821).trans k2162).trans k6273
 have p60' := p60.ah k6273
 refine aN (fun _ => ?_) (fun h => by rw [hbb, hbc] at h; simp at h)
 refine aN (fun _ => ⟨rfl, kall⟩) (fun hs => ?_)
 have hsome : (latP R up).isSome = true := by rw [<- hbb]; simpa using hs
 obtain ⟨f, hf⟩ := Option.isSome_iff_exists.1 hsome
 obtain ⟨f1, f2⟩ := hx f hf
 obtain ⟨g1, g2⟩ := hy f hf
 refine ⟨x1, x2, x3, x4, x5, p60'.row, y1, y2, y3, y4, y5, p71.row, ?_⟩
 rw [f1, g1]
 refine (jd f x5 y5 w73 (az f2 (k62.trans k6273)) (az g2 k73)).mono ?_
 rintro e w85 ⟨rfl, k85⟩
 exact ⟨_, rfl, rfl, kall.trans k85⟩
end Go.D

