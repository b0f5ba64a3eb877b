/-
  WHAT IS PROVED: contracts of functions, and the plain law, for this proof. No further conditions.
-/
import Derived.Test.YtfnibbccnbmkoaaDoorMem
import Derived.Test.YtfnibbccnbmkoaaDoorRd
import Derived.Test.YtfnibbccnbmkoaaDoorVCchunk
import Derived.Test.YtfnibbccnbmkoaaDoorRowsM
import Derived.Test.YtfnibbccnbmkoaaDoorRangeM
import Derived.Test.YtfnibbccnbmkoaaDoorSub
import Derived.Test.YtfnibbccnbmkoaaDoorVCsums
import Derived.Test.YtfnibbccnbmkoaaDoorArgs
import Derived.Test.YtfnibbccnbmkoaaDoorBase
import Derived.Test.YtfnibbccnbmkoaaDoorLaid
import Derived.Test.YtfnibbccnbmkoaaDoorVCparts
import Derived.Test.YtfnibbccnbmkoaaDoorCopyM
import Derived.Test.YtfnibbccnbmkoaaDoorVCentryR
import Derived.Test.YtfnibbccnbmkoaaDoorVCcheck
import Derived.Test.YtfnibbccnbmkoaaDoorMapW
import Derived.Test.YtfnibbccnbmkoaaDoorVCfind
import Derived.Test.YtfnibbccnbmkoaaDoorVClaw24
set_option linter.unusedVariables false
set_option linter.unusedSimpArgs false
namespace Go.D
open Go
theorem ee {w : World} {s : Slc} {b : List UInt8} (h : ag w s b) (hl : 0 < s.l) : ∀ k, aA s k -> k < w.heap.size := by
 rintro k ⟨a, ha, rfl⟩
 have hb : 0 < (b.map aJ).length := by rw [List.length_map, <- h.1]; exact hl
 obtain ⟨a', ha', hc⟩ := bG h.2 hb
 rw [ha] at ha'
 cases ha'
 have := World.block_lt_of_cell? w _ hc
 rwa [bO] at this
theorem aF {M : Nat -> Prop} {w w' : World} {s : Slc} {b : List UInt8} (h : ag w s b) (he : Ext M w w') (hm : 0 < s.l -> ∀ k, aA s k -> ¬ M k) : ag w' s b := by
 rcases Nat.eq_zero_or_pos s.l with h0 | h0
 ·have : b = [] := by have := h.1; rw [h0] at this; exact List.length_eq_zero_iff.1 this.symm
  subst this
  exact ⟨h.1, .inl rfl⟩
 ·exact cX h he (hm h0)
abbrev fj (r : Nat) : Value := .pointer (some ⟨r, 0, none⟩)
theorem ns {w : World} {a : Addr} {cs : List Value} (h : rowAt w a 0 cs) (j : Nat) (hj : j < cs.length) : w.cell? (a.add j) = some cs[j] := by
 have := cm h j hj
 rwa [Nat.zero_add] at this
end Go.D
namespace Go.D
open Go Go.Proofs
theorem kE (s : Slc) (n : Int) (hn : 1 <= n) (w : World) :
  Calls Tryd.prog bI ⟨[s.v, .int .i64 n]⟩ w fun e w' => ∃ b1 b2, e = .returned (.func (.func aR) ⟨[]⟩ ⟨[fj b1, fj b2]⟩) /\ ae w' b1 [s.v] /\ ae w' b2 [.int .i64 n] /\ ai w w' /\ w.heap.size <= b1 /\ w.heap.size <= b2 := by
 refine dZ _ _ ?_
 unfold da
 refine aj (fun r w1 hr hb hk hs => aj (fun r2 w2 hr2 hb2 hk2 hs2 => ?_))
 have o2 := ae.cn hb2
 have z1 := hk.size
 refine ⟨_, o2.cell 0 (by simp), ab (fun h => by omega) (fun h => ⟨r, r2, rfl, (ae.cn hb).af hk2, o2, hk.trans hk2, by omega, by omega⟩)⟩
def aL (B : List UInt8) (n k : Nat) : List UInt8 := (B.drop (k * n)).take n
theorem iU (s : Slc) (B : List UInt8) (n lr b1 b2 : Nat) (J : Nat -> World -> Prop) (hn : 0 < n) (hnl : n <= 2 ^ 20) (hl : B.length <= 2 ^ 30) (hsc : s.l <= s.c)
  (hJ : ∀ k w, J k w -> w.cell? ⟨b1, 0, none⟩ = some s.v /\ w.cell? ⟨b2, 0, none⟩ = some (.int .i64 (n : Int)) /\ ag w s B)
  (hd : ∀ k w, J k w -> J k w.drew)
  (hstep : ∀ k (hk : k * n < B.length) (w : World) (sd : Slc), J k w -> ag w sd (aL B n k) ->
   cj Tryd.prog lr ⟨[sd.v]⟩ w fun e w' => e = .returned (.bool true) /\ J (k + 1) w')
  (w : World) (h0 : J 0 w) :
  Calls Tryd.prog aR ⟨[.func (.yield lr) ⟨[]⟩ ⟨[]⟩, fj b1, fj b2]⟩ w fun e w' => e = .returned (.tuple #[]) /\ ∃ k, B.length <= k * n /\ (k = 0 \/ (k - 1) * n < B.length) /\ J k w' := by
 refine dG _ _ _ ?_
 unfold cF
 refine ⟨fun i w2 => ∃ k : Nat, i = ((k * n : Nat) : Int) /\ (k = 0 \/ (k - 1) * n < B.length) /\ J k w2, fun i _ => ((B.length : Int) - i).toNat, ⟨0, by simp, .inl rfl, h0⟩, ?_⟩
 rintro i w7 ⟨k, rfl, hk, h7⟩
 intros
 obtain ⟨hc1, hc2, hB⟩ := hJ _ _ h7
 have hsl := hB.1
 have h7d := hd _ _ h7
 obtain ⟨hd1, hd2, hBd⟩ := hJ _ _ h7d
 refine aq rfl ⟨s, hc1, ab (fun h1 => ?_) (fun h1 => ⟨rfl, k, by omega, hk, h7⟩)⟩
 have hkl : k * n < B.length := by omega
 have hknn : (k + 1) * n = k * n + n := by rw [Nat.add_mul, Nat.one_mul]
 have hsubl : (Slc.sub s 1 (Int.toNat ((k * n : Nat) : Int)) s.l s.c).l = s.l - k * n := by simp only [Slc.sub]; omega
 obtain ⟨m, hm⟩ : ∃ m : Nat, (m : Int) = if ((s.l - k * n : Nat) : Int) < (n : Int) then ((s.l - k * n : Nat) : Int) else (n : Int) := by split; exact ⟨_, rfl⟩; exact ⟨_, rfl⟩
 have hmn : m = min n (B.length - k * n) := by split at hm <;> omega
 refine aq rfl ⟨_, hd2, aq rfl ⟨s, hd1, by omega, by omega, by omega, by omega, aq rfl ⟨s, hd1, ?_⟩⟩⟩
 rw [hsubl, <- hm]
 refine ⟨bb (by omega), bb (by omega), by omega, by omega, by omega, by omega, ?_⟩
 have e1 : Int.toNat ((k * n : Nat) : Int) = k * n := by omega
 have e2 : Int.toNat (((k * n : Nat) : Int) + (m : Int)) = k * n + m := by omega
 rw [e1, e2]
 have hsd : ag w7.drew (Slc.sub s 1 (k * n) (k * n + m) (k * n + m)) (aL B n k) := by
  have := fG hBd (lo := k * n) (hi := k * n + m) (c := k * n + m) (by omega) (by omega) (by omega)
  have e3 : aL B n k = (B.take (k * n + m)).drop (k * n) := by
   unfold aL
   rw [List.drop_take, show k * n + m - k * n = m by omega]
   by_cases hmm : m = n
   ·rw [hmm]
   ·rw [List.take_of_length_le (by simp; omega), List.take_of_length_le (by simp; omega)]
  rw [e3]; exact this
 refine (hstep k hkl _ _ h7d hsd).mono ?_
 rintro e w45 ⟨rfl, h45⟩
 obtain ⟨hf1, hf2, _⟩ := hJ _ _ h45
 refine ⟨true, rfl, bp (fun h => by cases h) (fun _ => aq rfl ⟨_, hf2, bb (by omega), ⟨k + 1, by omega, .inr (by rw [Nat.add_sub_cancel]; exact hkl), h45⟩, by first | (dsimp only; omega) | omega⟩)⟩
end Go.D
namespace Go.D
def eu (s : Nat) : Nat := if s &&& 1 = 1 then (s / 2) ^^^ 3988292384 else s / 2
def iterB : Nat -> Nat -> Nat
 | 0, s => s
 | n + 1, s => eu (iterB n s)
def mI (s : Nat) (c : UInt8) : Nat := iterB 8 (s ^^^ c.toNat)
def gP (s : Nat) (b : List UInt8) : Nat := b.foldl mI s
def crc (b : List UInt8) : Nat := 4294967295 ^^^ gP 4294967295 b
theorem kF {s : Nat} (h : s < 4294967296) : eu s < 4294967296 := by
 unfold eu
 split
 ·exact Nat.xor_lt_two_pow (n := 32) (by omega) (by decide)
 ·omega
theorem gQ {s : Nat} (h : s < 4294967296) : ∀ n, iterB n s < 4294967296
 | 0 => h
 | n + 1 => kF (gQ h n)
theorem mJ {s : Nat} (h : s < 4294967296) (c : UInt8) : mI s c < 4294967296 :=
 gQ (Nat.xor_lt_two_pow (n := 32) h (by have := c.toNat_lt; omega)) 8
theorem jV (s : Nat) (a b : List UInt8) : gP s (a ++ b) = gP (gP s a) b := by simp [gP]
end Go.D
namespace Go.D
open Go
theorem nC (n : Nat) : Value.int .u8 (IntKind.wrap .u8 (n : Int)) = aJ (UInt8.ofNat n) := by
 have h : IntKind.wrap .u8 (n : Int) = ((n % 256 : Nat) : Int) := by
  simp [IntKind.wrap, IntKind.signed, IntKind.bits]
 rw [h, aJ, UInt8.toNat_ofNat']
theorem kG (n d : Nat) : Value.int .u8 (IntKind.wrap .u8 ((n : Int) / (d : Int))) = aJ (UInt8.ofNat (n / d)) := nC (n / d)
def le4 (n : Nat) : List UInt8 := [UInt8.ofNat n, UInt8.ofNat (n / 256), UInt8.ofNat (n / 65536), UInt8.ofNat (n / 16777216)]
theorem jW {α : Type} {l : List α} {k : Nat} (h : k < l.length) : l.drop k = l[k] :: l.drop (k + 1) := List.drop_eq_getElem_cons h
end Go.D
namespace Go.D
open Go Go.Proofs
theorem ir (a : Nat) : bitsI .and (a : Int) 1 = ((a &&& 1 : Nat) : Int) := rfl
theorem lP (s : Nat) (c : UInt8) (hs : s < 4294967296) (w : World) :
  Calls Tryd.prog dF ⟨[.int .u32 (s : Int), .int .u8 (c.toNat : Int)]⟩ w fun e w' => e = .returned (.int .u32 (mI s c : Int)) /\ w' = w := by
 have hc := c.toNat_lt
 refine iQ _ _ ?_
 unfold im
 refine ⟨fF (by omega), by omega, by omega, fF (by omega), fF (by omega), ?_⟩
 refine ⟨fun s' i w' => w' = w /\ ∃ k : Nat, i = k /\ k <= 8 /\ s' = (iterB k (s ^^^ c.toNat) : Nat), fun _ i _ => (8 - i).toNat, ⟨rfl, 0, rfl, by omega, rfl⟩, ?_⟩
 rintro s' i w' ⟨rfl, k, rfl, hk, rfl⟩
 intros
 have hx : s ^^^ c.toNat < 4294967296 := Nat.xor_lt_two_pow (n := 32) hs (by omega)
 have hb := gQ hx k
 refine ab (fun h => ?_) (fun h => ?_)
 ·refine ⟨by omega, by omega, fF (by omega), fF (by omega), by omega, by omega, ?_⟩
  have e : eu (iterB k (s ^^^ c.toNat)) = iterB (k + 1) (s ^^^ c.toNat) := rfl
  refine ab (fun h1 => ?_) (fun h1 => ?_)
  ·refine ⟨by omega, by omega, fF (by omega), fF (by omega), bb (by omega), ⟨rfl, k + 1, rfl, by omega, ?_⟩, by dsimp only; omega⟩
   have h2 : iterB k (s ^^^ c.toNat) &&& 1 = 1 := by have := ir (iterB k (s ^^^ c.toNat)); omega
   rw [<- e, eu, if_pos h2]
   rfl
  ·refine ⟨bb (by omega), ⟨rfl, k + 1, rfl, by omega, ?_⟩, by dsimp only; omega⟩
   have h2 : ¬ iterB k (s ^^^ c.toNat) &&& 1 = 1 := by have := ir (iterB k (s ^^^ c.toNat)); omega
   rw [<- e, eu, if_neg h2]
   rfl
 ·obtain rfl : k = 8 := by omega
  exact ⟨rfl, rfl⟩
theorem mK (parts : Slc) (ps : List Slc) (bs : List (List UInt8)) (w : World) (h : mz w parts ps bs) (hl : parts.l <= 2 ^ 40) (hll : ∀ i (h : i < ps.length), ps[i].l <= 2 ^ 40) :
  Calls Tryd.prog dW ⟨[parts.v]⟩ w fun e w' => e = .returned (.int .u32 (crc bs.flatten : Int)) /\ w' = w := by
 obtain ⟨h1, h2, h3, h4⟩ := h
 refine jS _ ?_
 unfold jR
 refine ⟨fun s i w' => w' = w /\ ∃ k t : Nat, i = k /\ k <= ps.length /\ s = t /\ t < 4294967296 /\ gP t (bs.drop k).flatten = gP 4294967295 bs.flatten, fun _ i _ => (ps.length - i).toNat,
  ⟨rfl, 0, 4294967295, rfl, by omega, rfl, by omega, rfl⟩, ?_⟩
 rintro s i w' ⟨rfl, k, t, rfl, hk, rfl, ht, hsum⟩
 intros
 refine ab (fun h => ?_) (fun h => ?_)
 ·have hk' : k < ps.length := by omega
  refine eF h2 (i := k) (by simpa using hk') (fun a ha hc => ⟨by omega, h, ps[k], ?_, ?_⟩)
  ·simpa using hc
  ·have hb := h4 k hk' (by omega)
   have hlk := hll k hk'
   rw [jW (show k < bs.length by omega), List.flatten_cons, jV] at hsum
   refine ⟨fun s2 j w2 => w2 = w' /\ ∃ m u : Nat, j = m /\ m <= bs[k].length /\ s2 = u /\ u < 4294967296 /\ gP u (bs[k].drop m) = gP t bs[k], fun _ j _ => (bs[k].length - j).toNat,
    ⟨rfl, 0, t, rfl, by omega, rfl, ht, rfl⟩, ?_⟩
   rintro s2 j w2 ⟨rfl, m, u, rfl, hm, rfl, hu, hsum2⟩
   intros
   have hbl := hb.1
   refine ab (fun h5 => ?_) (fun h5 => ?_)
   ·have hm' : m < bs[k].length := by omega
    refine eF hb.2 (i := m) (by simpa using hm') (fun a2 ha2 hc2 => ⟨by omega, h5, (bs[k][m].toNat : Int), ?_, ?_⟩)
    ·simpa [aJ] using hc2
    ·refine (lP u bs[k][m] hu w2).mono ?_
     rintro e w3 ⟨rfl, rfl⟩
     refine ⟨_, rfl, bb (by omega), ⟨rfl, m + 1, _, rfl, by omega, rfl, mJ hu _, ?_⟩, by dsimp only; omega⟩
     rw [jW hm'] at hsum2
     exact hsum2
   ·have hme : m = bs[k].length := by omega
    rw [hme, List.drop_length] at hsum2
    refine ⟨bb (by omega), ⟨rfl, k + 1, u, rfl, by omega, rfl, hu, ?_⟩, by dsimp only; omega⟩
    have hsum2' : u = gP t bs[k] := hsum2
    rw [hsum2']
    exact hsum
 ·obtain rfl : k = ps.length := by omega
  rw [h3] at hsum
  simp only [List.drop_length, List.flatten_nil] at hsum
  refine ⟨by omega, fF (by omega), ?_, rfl⟩
  have hsum' : t = gP 4294967295 bs.flatten := hsum
  rw [hsum']
  rfl
end Go.D
namespace Go.D
open Go Go.Proofs
def fX : List Nat := [bK, jH, ku, ky, lK, kr, kx, iP, g7, fS, g9, kz, eK, jI, jJ, kA, jK, jL, jM]
abbrev nT (A : Nat -> Addr) (g : Nat) : Value := .iface jN (.pointer (some (A g)))
abbrev nU (A : Nat -> Addr) (w : World) : Prop := di jN fX A w
theorem mL {k : Nat} (hk : k < 19) : fX.getD k 0 ∈ fX := by
 have : fX.getD k 0 = fX[k]'(by simpa [fX] using hk) := by
  simp only [List.getD]
  rw [List.getElem?_eq_getElem (by simpa [fX] using hk)]
  rfl
 rw [this]
 exact List.getElem_mem _
theorem nU.at {A : Nat -> Addr} {w : World} (h : nU A w) (k : Nat) (hk : k < 19) : w.cell? (⟨fX.getD k 0, 0, none⟩ : Addr) = some (nT A (fX.getD k 0)) := (h.1 _ (mL hk)).1
end Go.D
namespace Go.D
open Go Go.Proofs
def mM (A : Nat -> Addr) (n0 : Nat) (w : World) : Prop := nU A w /\ ∀ g ∈ fX, g < n0 /\ (A g).block < n0
abbrev Old (n0 : Nat) := Ext (fun k => n0 <= k)
theorem Old.trans {n0 : Nat} {a b c : World} (h1 : Old n0 a b) (h2 : Old n0 b c) : Old n0 a c := Ext.trans h1 h2 (fun _ h => h) (fun _ h => .inl h)
theorem mM.ext {A : Nat -> Addr} {n0 : Nat} {M : Nat -> Prop} {w w' : World} (h : mM A n0 w) (he : Ext M w w') (hm : ∀ k, M k -> n0 <= k) : mM A n0 w' := by
 refine ⟨⟨fun g hg => ?_, h.1.2⟩, h.2⟩
 obtain ⟨h1, c, t, h2⟩ := h.1.1 g hg
 obtain ⟨b1, b2⟩ := h.2 g hg
 exact ⟨he.cell h1 (fun hh => by have := hm _ hh; simp only at this; omega), c, t, he.heap h2 (fun hh => by have := hm _ hh; omega)⟩
def cP (G : List Nat) (A : Nat -> Addr) (n0 : Nat) (w : World) : Prop := di jN G A w /\ ∀ g ∈ G, g < n0 /\ (A g).block < n0
theorem di.g {G : List Nat} {A : Nat -> Addr} {w : World} (h : di jN G A w) : cP G A w.heap.size w := by
 refine ⟨h, fun g hg => ?_⟩
 obtain ⟨h1, c, t, h2⟩ := h.1 g hg
 refine ⟨?_, aS h2⟩
 have := World.block_lt_of_cell? w _ h1
 exact this
theorem cP.ext {G : List Nat} {A : Nat -> Addr} {n0 : Nat} {M : Nat -> Prop} {w w' : World} (h : cP G A n0 w) (he : Ext M w w') (hm : ∀ k, M k -> n0 <= k) : cP G A n0 w' := by
 refine ⟨⟨fun g hg => ?_, h.1.2⟩, h.2⟩
 obtain ⟨h1, c, t, h2⟩ := h.1.1 g hg
 obtain ⟨b1, b2⟩ := h.2 g hg
 exact ⟨he.cell h1 (fun hh => by have := hm _ hh; simp only at this; omega), c, t, he.heap h2 (fun hh => by have := hm _ hh; omega)⟩
theorem cP.af {G : List Nat} {A : Nat -> Addr} {n0 : Nat} {w w' : World} (h : cP G A n0 w) (he : ai w w') : cP G A n0 w' := h.ext he (fun _ h => h.elim)
theorem cP.sub {G H : List Nat} {A : Nat -> Addr} {n0 : Nat} {w : World} (h : cP G A n0 w) (k : ∀ g ∈ H, g ∈ G) : cP H A n0 w := ⟨h.1.sub k, fun g hg => h.2 g (k g hg)⟩
theorem cP.at {G : List Nat} {A : Nat -> Addr} {n0 : Nat} {w : World} (h : cP G A n0 w) {g : Nat} (hg : g ∈ G) : w.cell? (⟨g, 0, none⟩ : Addr) = some (nT A g) := (h.1.1 g hg).1
def nt (A : Nat -> Addr) : Option Nat -> Value
 | none => .nilIface
 | some k => nT A (fX.getD k 0)
theorem Own.le {w : World} {s : Slc} {sz : Nat} {vs : List Value} (h : Own w s sz vs) (hsz : 0 < sz) : s.l <= s.c := by
 obtain ⟨hl, ⟨_, hv, hc⟩ | ⟨b, pad, T, f, _, _, h1, _⟩⟩ := h
 ·subst hv
  have : s.l * sz = 0 := by simpa using hl
  rcases Nat.mul_eq_zero.1 this with h | h <;> omega
 ·rw [List.length_append] at h1
  exact Nat.le_of_mul_le_mul_right (by omega) hsz
theorem kZ {G : List Nat} {A : Nat -> Addr} {n0 : Nat} {w : World} (h : cP G A n0 w) (k : Nat) (g : Nat) (hg : g = fX.getD k 0) (hm : g ∈ G) : w.cell? (⟨g, 0, none⟩ : Addr) = some (nt A (some k)) := by
 subst hg; exact h.at hm
end Go.D
namespace Go.D
open Go Go.Proofs
theorem kH (s : Slc) (b : List UInt8) (w : World) (hb : ag w s b) (hl : s.l <= 2 ^ 30) :
  Calls Tryd.prog bJ ⟨[s.v]⟩ w fun e w' => ∃ t : Slc, e = .returned t.v /\ Own w' t 1 (b.map aJ) /\ cx w t /\ ai w w' := by
 refine ea _ ?_
 unfold dc
 refine bp (fun h => ?_) (fun h => ?_)
 ·have hp : s.p = none := by simpa using h
  have hb0 : b = [] := by
   rcases hb.2 with h0 | ⟨a, ha, _⟩
   ·simpa using h0
   ·rw [hp] at ha; cases ha
  subst hb0
  exact ⟨_, rfl, Own.nil _ _, cx.nil _ _ _, Ext.refl _ _⟩
 ·refine aj (fun r w1 hr hb1 hk hs => ?_)
  refine fa (vs := []) (w0 := w) (Own.new (sz := 1) (n := 0) hb1 (.inl (by simp)) rfl) rfl (cx.at (by omega)) hk (dT (ar hb hk)) (by simp only [Src.n]; omega) (fun s' w' h1 h2 h3 h4 => ?_)
  exact ⟨s', rfl, by simpa using h1, h3, h2⟩
end Go.D
namespace Go.D
open Go Go.Proofs
def bc (b : List UInt8) : List UInt8 := le4 (crc b) ++ b
theorem mN {w : World} {r : Nat} {T : TypeId} {f : Nat × Nat} {s : Slc} {b : List UInt8} (h : w.heap[r]? = some (.cells ⟨[s.v]⟩ T f)) (hb : ag w s b) :
  mz w ⟨some ⟨r, 0, none⟩, 1, 1⟩ [s] [b] := by
 refine ⟨rfl, .inr ⟨_, rfl, fun i hi => ?_⟩, rfl, fun i hi _ => ?_⟩
 ·have hi : i < 1 := by simpa using hi
  rw [add_lit, cell_of h, Nat.zero_add]
  match i, hi with
  | 0, _ => rfl
 ·have hi : i < 1 := by simpa using hi
  match i, hi with
  | 0, _ => exact hb
theorem fM (s : Slc) (b : List UInt8) (w : World) (hb : ag w s b) (hl : b.length <= 2 ^ 20) :
  Calls Tryd.prog br ⟨[s.v]⟩ w fun e w' => ∃ t : Slc, e = .returned t.v /\ Own w' t 1 ((bc b).map aJ) /\ cx w t /\ ai w w' := by
 have hsl := hb.1
 refine fV _ ?_
 unfold ff
 refine aj (fun r2 w3 hr2 hb2 k2 hs2 => ?_)
 have hb3 := ar hb k2
 refine (mK _ _ _ _ (mN hb2 hb3) (by simp) (fun i h => by
  have hi : i < 1 := by simpa using h
  match i, hi with
  | 0, _ => show s.l <= _; omega)).mono ?_
 rintro e w5 ⟨rfl, rfl⟩
 have hfl : [b].flatten = b := by simp
 rw [hfl]
 refine ⟨_, rfl, by omega, by omega, by omega, by omega, by omega, by omega, aj (fun r7 w8 hr7 hb7 k7 hs7 => ?_)⟩
 rw [nC, show (256 : Int) = ((256 : Nat) : Int) from rfl, show (65536 : Int) = ((65536 : Nat) : Int) from rfl, show (16777216 : Int) = ((16777216 : Nat) : Int) from rfl, kG, kG, kG] at hb7
 have ho : Own w8 ⟨some ⟨r7, 0, none⟩, 4, 4⟩ 1 ((le4 (crc b)).map aJ) := Own.new (sz := 1) (n := 4) hb7 (.inl (by simp)) rfl
 have z2 := k2.size
 refine fa (w0 := w) ho rfl (cx.at (by omega)) (k2.trans k7) (dT (ar hb3 k7)) (by simp only [Src.n]; omega) (fun s9 w10 g1 g2 g3 g4 => ⟨s9, rfl, g1, g3, g2⟩)
theorem cQ (b : List UInt8) : (bc b).length = 4 + b.length := by unfold bc; rw [List.length_append]; simp [le4]
end Go.D
namespace Go.D
open Go Go.Proofs
abbrev Pt := Int × Int × List UInt8
def ptC (sh up p q : Int) (sd : Slc) : List Value := [.int .i64 5, .int .i64 sh, .int .i64 0, .int .i64 0, .int .i64 0, .int .i64 0, (⟨none, 0, 0⟩ : Slc).v, ak [], .int .i64 up, .int .i64 p, .int .i64 q, sd.v]
theorem fk {sh up p q : Int} {s : Slc} {k : Nat} (h : dJ (ptC sh up p q s) k) : 0 < s.l /\ aA s k := by
 obtain ⟨s', hs, h1, h2⟩ := h
 have : s' = s := by
  obtain ⟨p, l, c⟩ := s
  obtain ⟨p', l', c'⟩ := s'
  simp [ptC, Slc.v, ak] at hs
  rcases hs with ⟨rfl, rfl, rfl⟩ | ⟨rfl, rfl, rfl⟩
  ·simp at h1
  ·rfl
 subst this
 exact ⟨h1, h2⟩
theorem dH {sh up p q : Int} {s : Slc} {k : Nat} (h0 : 0 < s.l) (h : aA s k) : dJ (ptC sh up p q s) k := ⟨s, by simp [ptC], h0, h⟩
def PtR (sh up : Int) : lL Pt where
 n := 12
 pos := by omega
 R w x cs := ∃ s : Slc, cs = ptC sh up x.1 x.2.1 s /\ ag w s x.2.2 /\ s.l <= s.c
 len := by rintro w x cs ⟨s, rfl, _⟩; rfl
 one := by rintro w x cs ⟨s, rfl, _⟩; intro v hv; simp [ptC] at hv; rcases hv with rfl | rfl | rfl | rfl | rfl | rfl | rfl | rfl | rfl <;> rfl
 ext := by
  rintro M w w' x cs ⟨s, rfl, h, h2⟩ he hm
  exact ⟨s, rfl, aF h he (fun h0 k hk => hm k (dH h0 hk)), h2⟩
 lt := by
  rintro w x cs ⟨s, rfl, h, _⟩ k hk
  obtain ⟨h0, hk⟩ := fk hk
  exact ee h h0 k hk
def dk (B : List UInt8) (n m k : Nat) : List Pt := (List.range k).map fun (i : Nat) => ((i : Int), if i < m then (n : Int) else 0, aL B 256 i)
theorem bL (B : List UInt8) (n m k : Nat) : (dk B n m k).length = k := by simp [dk]
theorem ef {B : List UInt8} {n m k i : Nat} (h : i < (dk B n m k).length) : (dk B n m k)[i] = ((i : Int), if i < m then (n : Int) else 0, aL B 256 i) := by simp [dk]
theorem lQ {B : List UInt8} {n m k : Nat} (h : m <= k) : dk B n m (k + 1) = dk B n m k ++ [((k : Int), 0, aL B 256 k)] := by
 unfold dk
 rw [List.range_succ, List.map_append]
 simp; omega
theorem mO {B : List UInt8} {n m k : Nat} (h : m < k) : (dk B n m k).set m ((m : Int), (n : Int), aL B 256 m) = dk B n (m + 1) k := by
 refine List.ext_getElem (by simp [dk]) (fun i h1 h2 => ?_)
 rw [ef h2, List.getElem_set]
 split
 ·rename_i he; subst he; simp
 ·rename_i he
  rw [ef]
  have : i < m ↔ i < m + 1 := by omega
  simp [this]
def ba (b : List UInt8) : Nat := (4 + b.length + 255) / 256
def gd (sh up : Int) : Bool := decide (0 <= sh /\ sh <= 12 /\ 0 <= up /\ up <= 4096)
def dI (sh up : Int) (b : List UInt8) : Except Nat (List Pt) :=
 if gd sh up = false then .error 0 else if 64 < ba b then .error 12 else .ok (dk (bc b) (ba b) (ba b) (ba b))
def ckG : List Nat := [bK, eK]
theorem iV {M : Nat -> Prop} {w w' : World} {sd : Slc} {b : List UInt8} {lr : Nat} {o : Loop} (h : ag w sd b) (hl : w.heap[lr]? = some (.loop o)) (he : Ext (fun k => k = lr) w w') : ag w' sd b := by
 refine aF h he (fun h0 j hj hh => ?_)
 subst hh
 obtain ⟨a, ha, rfl⟩ := hj
 obtain ⟨a', ha', hc'⟩ := bG h.2 (i := 0) (by rw [List.length_map, <- h.1]; exact h0)
 rw [ha] at ha'; cases ha'
 have : w.cell? (a.add 0) = none := by
  unfold World.cell?
  rw [bO, hl]
 rw [this] at hc'; cases hc'
def jX (A : Nat -> Addr) (w : World) (sh up : Int) (b : List UInt8) (x : Ending) (w' : World) : Prop :=
 ai w w' /\ match dI sh up b with
  | .ok L => ∃ (t : Slc) (css : List (List Value)), x = .returned (.tuple ⟨[t.v, .nilIface]⟩) /\ Rows (PtR sh up) w' t L css
  | .error k => x = .returned (.tuple ⟨[(⟨none, 0, 0⟩ : Slc).v, nt A (some k)]⟩)
theorem eM (A : Nat -> Addr) {n0 : Nat} (sh up : Int) (s : Slc) (b : List UInt8) (w : World) (hb : ag w s b) (hl : b.length <= 2 ^ 19) (hE : cP ckG A n0 w) :
  Calls Tryd.prog bH ⟨[.int .i64 sh, .int .i64 up, s.v]⟩ w fun x w' => jX A w sh up b x w' := by
 refine gL _ _ _ ?_
 unfold fK
 refine aj (fun r4 w5 hr4 hb4 k4 hs4 => aj (fun r6 w7 hr6 hb6 k6 hs6 => ?_))
 have z4 := k4.size
 have k7 := k4.trans k6
 have o4 : ae w7 r4 [.int .i64 sh] := (ae.cn hb4).af k6
 have o6 : ae w7 r6 [.int .i64 up] := ae.cn hb6
 have bad : gd sh up = false -> jX A w sh up b (.returned (.tuple ⟨[(⟨none, 0, 0⟩ : Slc).v, nt A (some 0)]⟩)) w7.drew := fun h => by
  refine ⟨k7.drew, ?_⟩
  have : dI sh up b = .error 0 := by unfold dI; rw [if_pos h]
  rw [this]
 have hErr : (World.drew w7).cell? ⟨bK, 0, none⟩ = some (nt A (some 0)) := kZ (hE.af k7.drew) 0 _ rfl (by simp [ckG])
 refine ⟨_, o4.cell 0 (by simp), ab (fun h1 => ⟨_, hErr, bad (decide_eq_false (by omega))⟩) (fun h1 => ⟨_, o4.cell 0 (by simp), ab (fun h2 => ⟨_, hErr, bad (decide_eq_false (by omega))⟩) (fun h2 =>
  ⟨_, o6.cell 0 (by simp), ab (fun h3 => ⟨_, hErr, bad (decide_eq_false (by omega))⟩) (fun h3 => ⟨_, o6.cell 0 (by simp), ab (fun h4 => ⟨_, hErr, bad (decide_eq_false (by omega))⟩) (fun h4 => ?_)⟩)⟩)⟩)⟩
 have hok : gd sh up = true := decide_eq_true (by omega)
 refine aj (fun r16 w17 hr16 hb16 k16 hs16 => ?_)
 have k17 := k7.trans k16
 have z6 := k6.size
 have o16 : ae w17 r16 [(⟨none, 0, 0⟩ : Slc).v] := ae.cn hb16
 refine (fM s b w17 (ar hb k17) (by omega)).mono ?_
 rintro e w19 ⟨s20, rfl, h20, f20, k19⟩
 refine ⟨s20, rfl, ?_⟩
 refine (kE s20 256 (by omega) w19).mono ?_
 rintro e w22 ⟨b1, b2, rfl, ob1, ob2, k22, hb1, hb2⟩
 refine ⟨_, rfl, aR, [], [fj b1, fj b2], rfl, by rfl, ?_⟩
 intro D lr rc w27 hD hlr hw27 hY
 have N := jQ hD hlr hw27
 obtain ⟨B, hB⟩ : ∃ B, B = bc b := ⟨_, rfl⟩
 rw [<- hB] at h20
 have hBl : B.length = 4 + b.length := by rw [hB, cQ]
 have k1927 : ai w19 w27 := k22.trans N.k
 have k1727 : ai w17 w27 := k19.trans k1927
 have k27 : ai w w27 := k17.trans k1727
 have z16 := k16.size
 have z19 := k19.size
 have z22 := k22.size
 have hdw := N.dw
 have hdl := N.dl
 have o4' := (o4.af k16).af k1727
 have o6' := (o6.af k16).af k1727
 have o16' := o16.af k1727
 have h20' := h20.af k1927
 have ob1' := ob1.af N.k
 have ob2' := ob2.af N.k
 have hb1D : b1 < D := by have := ob1.lt; omega
 have hb2D : b2 < D := by have := ob2.lt; omega
 have h20D : ∀ j, aA s20 j -> w17.heap.size <= j /\ j < D := fun j hj => ⟨f20 j hj, by have := nA h20 j hj; omega⟩
 have h20c : s20.l <= s20.c := h20.le (by omega)
 let J : Nat -> World -> Prop := fun k w2 => Ext (fun j => j = r16 \/ D <= j) w27 w2 /\ w2.heap[lr]? = some (.loop (rc .ready none)) /\ w2.heap[D]? = some (.deferred (some [])) /\
  ∃ (t : Slc) (css : List (List Value)), ae w2 r16 [t.v] /\ Rows (PtR sh up) w2 t (dk B 0 0 k) css /\ (∀ j, aA t j -> lr < j) /\ ∀ j, db css j -> lr < j
 have hJs : ∀ {k w2}, J k w2 -> Own w2 s20 1 (B.map aJ) := fun hj => h20'.ext hj.1 (fun k hk hh => by have := h20D k hk; omega)
 have step : ∀ k (hk : k * 256 < B.length) (w : World) (sd : Slc), J k w -> ag w sd (aL B 256 k) ->
   cj Tryd.prog lr ⟨[sd.v]⟩ w fun e w' => e = .returned (.bool true) /\ J (k + 1) w' := by
  intro k hk w28 sd hj hsd
  obtain ⟨x28, l28, d28, t, css, ot, hR, ht, hcss⟩ := hj
  refine hY _ _ _ l28 ⟨l28, fun w31 hw31 => ?_⟩
  have e31 : Ext (fun j => j = lr) w28 w31 := by rw [hw31]; exact Ext.putObj _ _ _
  have l31 : w31.heap[lr]? = some (.loop (rc .busy none)) := by rw [hw31]; exact cN l28
  have d31 : w31.heap[D]? = some (.deferred (some [])) := e31.heap d28 (fun hh => by omega)
  have hlrlt := aS l28
  have hz31 : w31.heap.size = w28.heap.size := by rw [hw31]; exact putObj_size _ _ _
  have sd31 := iV (M := dq) hsd l28 e31
  have x31 : Ext (fun j => j = r16 \/ D <= j) w27 w31 := x28.trans e31 (fun _ h => h) (fun j hj => .inl (by omega))
  have kd : ai w31 w31.drew := Ext.drew dq _
  have xd : Ext (fun j => j = r16 \/ D <= j) w27 w31.drew := x31.trans kd (fun _ h => h) (fun _ h => h.elim)
  have otd := (ot.ext e31 (fun hh => by omega)).af kd
  have o4d := o4'.ext xd (fun hh => by omega)
  have o6d := o6'.ext xd (fun hh => by omega)
  refine ⟨t, otd.cell 0 (by simp), sh, o4d.cell 0 (by simp), up, o6d.cell 0 (by simp), t, otd.cell 0 (by simp), ?_⟩
  have hcl : (aL B 256 k).length <= 256 := by unfold aL; simp; omega
  refine (kH sd _ _ (ar sd31 kd) (by rw [sd31.1]; omega)).mono ?_
  rintro e w37 ⟨s38, rfl, h38, f38, k37⟩
  have k3137 : ai w31 w37 := kd.trans k37
  have x37 : Ext (fun j => j = r16 \/ D <= j) w27 w37 := x31.trans k3137 (fun _ h => h) (fun _ h => h.elim)
  have ot37 := otd.af k37
  have o4e := o4d.af k37
  have o6e := o6d.af k37
  refine ⟨s38, rfl, ⟨t, ot37.cell 0 (by simp), rfl⟩, ⟨up, o6e.cell 0 (by simp), rfl⟩, ⟨sh, o4e.cell 0 (by simp), rfl⟩, ⟨t, ot37.cell 0 (by simp), rfl⟩, aj (fun r43 w44 hr43 hb43 k43 hs43 => ?_)⟩
  have k3144 := k3137.trans k43
  have ot44 := ot37.af k43
  refine ⟨⟨t, ot44.cell 0 (by simp), rfl⟩, ?_⟩
  have z37 := k3137.size
  have z43 := k43.size
  have hR44 : Rows (PtR sh up) w44 t (dk B 0 0 k) css := (hR.ext e31 (fun j hj hh => by have := ht j hj; omega) (fun j hj hh => by have := hcss j hj; omega)).af k3144
  have hf38 : ∀ j, aA s38 j -> w31.heap.size <= j := fun j hj => f38 j hj
  have hkl : t.l = k := by rw [hR44.sl, bL]
  rw [hkl] at hb43
  refine hR44.snoc (cs := ptC sh up k 0 s38) (x := ((k : Int), 0, aL B 256 k)) (z := _) rfl ⟨s38, rfl, (h38.af k43).bytes, h38.le (by omega)⟩ (fun j hj ho => ?_) hb43 (.inl (by simp)) (by rw [bL]; omega) (fun s' w' g1 g2 g3 => ?_)
  ·have h1 := hf38 j (fk hj).2
   have h2 := hR.lt j ho
   omega
  rw [<- lQ (by omega)] at g1
  have hnr : ¬ aA t r16 := fun hh => by have := ht _ hh; omega
  have ot47 := ot44.ext g2 hnr
  obtain ⟨c1, c2⟩ := ot47.fx 0 (by simp) s'.v
  refine ⟨c1, fun w48 hw48 => ?_⟩
  obtain ⟨ot48, g4, hz48⟩ := c2 w48 hw48
  have hownt : ∀ j, aA t j -> D <= j := fun j hj => by have := ht j hj; omega
  have x48 : Ext (fun j => j = r16 \/ D <= j) w27 w48 := ((x31.trans k3144 (fun _ h => h) (fun _ h => h.elim)).trans g2 (fun _ h => h) (fun j hj => .inl (.inr (hownt j hj)))).trans g4 (fun _ h => h) (fun j hj => .inl (.inl hj))
  have l48 := g4.heap (g2.heap (k3144.heap l31) (fun hh => by have := ht _ hh; omega)) (fun hh => by omega)
  have d48 := g4.heap (g2.heap (k3144.heap d31) (fun hh => by have := ht _ hh; omega)) (fun hh => by omega)
  refine ⟨l48, fun w49 hw49 => ⟨rfl, ?_⟩⟩
  have e49 : Ext (fun j => j = lr) w48 w49 := by rw [hw49]; exact Ext.putObj _ _ _
  have hs' : ∀ j, aA s' j -> lr < j := fun j hj => (g3 j hj).elim (fun h => ht j h) (fun h => by omega)
  have hc' : ∀ j, db (css ++ [ptC sh up k 0 s38]) j -> lr < j := by
   rintro j ⟨cs, hc, hj⟩
   rcases List.mem_append.1 hc with h | h
   ·exact hcss j ⟨cs, h, hj⟩
   ·rw [List.mem_singleton] at h; subst h
    have := hf38 j (fk hj).2
    omega
  refine ⟨x48.trans e49 (fun _ h => h) (fun j hj => .inl (by omega)), by rw [hw49]; exact cN l48, e49.heap d48 (fun hh => by omega), s', _, ot48.ext e49 (fun hh => by omega), ?_, hs', hc'⟩
  exact (g1.ext g4 (fun j hj hh => by have := hs' j hj; omega) (fun j hj hh => by have := hc' j hj; omega)).ext e49 (fun j hj hh => by have := hs' j hj; omega) (fun j hj hh => by have := hc' j hj; omega)
 have hC := iU s20 B 256 lr b1 b2 J (by omega) (by omega) (by omega) h20c
  (fun k w2 hj => ⟨(ob1'.ext hj.1 (fun hh => by omega)).cell 0 (by simp), (ob2'.ext hj.1 (fun hh => by omega)).cell 0 (by simp), (hJs hj).bytes⟩)
  (fun k w2 hj => by
   obtain ⟨x28, l28, d28, t, css, ot, hR, ht, hcss⟩ := hj
   have kd : ai w2 w2.drew := Ext.drew dq _
   exact ⟨x28.trans kd (fun _ h => h) (fun _ h => h.elim), l28, d28, t, css, ot.af kd, hR.af kd, ht, hcss⟩)
  step w27 ⟨Ext.refl _ _, N.l, N.d, ⟨none, 0, 0⟩, [], o16', Rows.nil _ _, (by rintro j ⟨a, ha, _⟩; cases ha), (by rintro j ⟨cs, hc, _⟩; simp at hc)⟩
 refine hC.mono ?_
 rintro e w54 ⟨rfl, K, hK1, hK2, x54, l54, d54, t, css, ot, hR, ht, hcss⟩
 have hKn : K = ba b := by unfold ba; omega
 refine ⟨⟨_, rfl⟩, l54, fun w55 hw55 => ?_⟩
 have e55 : Ext (fun j => j = lr) w54 w55 := by rw [hw55]; exact Ext.putObj _ _ _
 have d55 := e55.heap d54 (fun hh => by omega)
 have ot55 := ot.ext e55 (fun hh => by have := N.dw; omega)
 have hR55 := hR.ext e55 (fun j hj hh => by have := ht j hj; omega) (fun j hj hh => by have := hcss j hj; omega)
 have htl : t.l = K := by rw [hR.sl, bL]
 have x55 : Ext (fun j => j = r16 \/ D <= j) w27 w55 := x54.trans e55 (fun _ h => h) (fun j hj => .inl (by omega))
 have k55 : ai w w55 := k27.ext x55 (fun j hj => by omega)
 refine ⟨t, ot55.cell 0 (by simp), ab (fun h5 => ?_) (fun h5 => ?_)⟩
 ·have kd : ai w55 w55.drew := Ext.drew dq _
  refine ⟨_, kZ (hE.af (k55.trans kd)) 12 _ rfl (by simp [ckG]), kd.heap d55, fun w58 hw58 => ⟨?_, ?_⟩⟩
  ·have e58 : Ext (fun j => j = D) w55.drew w58 := by rw [hw58]; exact Ext.putObj _ _ _
   exact (k55.trans kd).ext e58 (fun j hj => by omega)
  ·have : dI sh up b = .error 12 := by unfold dI; rw [if_neg (by rw [hok]; simp), if_pos (by omega)]
   rw [this]
 ·refine ⟨t, ot55.cell 0 (by simp), fun i w2 => ∃ (m : Nat) (css : List (List Value)), i = m /\ m <= K /\ Ext (aA t) w55 w2 /\ Rows (PtR sh up) w2 t (dk B K m K) css /\ ∀ j, db css j -> lr < j, fun i _ => ((K : Int) - i).toNat, ⟨0, css, rfl, by omega, Ext.refl _ _, ?_, hcss⟩, ?_⟩
  ·have : dk B K 0 K = dk B 0 0 K := by unfold dk; simp
   rw [this]; exact hR55
  rintro i w63 ⟨m, css2, rfl, hm, x63, hR63, hc63⟩
  intros
  have hnr : ¬ aA t r16 := fun hh => by have := ht _ hh; omega
  have ot63 := ot55.ext x63 hnr
  refine ab (fun h6 => ?_) (fun h6 => ?_)
  ·have hmK : m < K := by omega
   have hm2 : m < css2.length := by rw [hR63.len, bL]; exact hmK
   obtain ⟨a, ha, _, _⟩ := hR63.get hm2
   obtain ⟨sd, hcs, hbd, hcd⟩ := hR63.row m hm2 (by rw [bL]; exact hmK)
   rw [ef] at hcs hbd
   have hcs' : css2[m] = ptC sh up (m : Int) 0 sd := by rw [hcs]; simp
   obtain ⟨g1, g2⟩ := hR63.set hm2 10 [.int .i64 (K : Int)] (by simp [PtR]) ((m : Int), (K : Int), aL B 256 m) ha
    (fun w' hw' => by
     rw [hcs']
     exact ⟨sd, rfl, aF hbd hw' (fun h0 j hj hh => hR63.sep j ⟨css2[m], List.getElem_mem hm2, by rw [hcs']; exact dH h0 hj⟩ hh), hcd⟩)
    (fun j hj hh => by
     rw [hcs'] at hj
     have hj2 := fk (sh := sh) (up := up) (p := (m : Int)) (q := (K : Int)) (s := sd) hj
     exact hR63.sep j ⟨css2[m], List.getElem_mem hm2, by rw [hcs']; exact dH hj2.1 hj2.2⟩ hh)
   refine ⟨t, ot63.cell 0 (by simp), t, ot63.cell 0 (by simp), aq ha ⟨by omega, by omega, by rw [show Int.toNat (m : Int) * 12 = m * 12 by omega]; exact g1, fun w77 hw77 => ?_⟩⟩
   rw [show Int.toNat (m : Int) * 12 = m * 12 by omega, htl] at hw77
   have hw77' : w77 = setCells w63 ((a.add (m * (PtR sh up).n)).add 10) 0 [.int .i64 (K : Int)] := by
    rw [hw77]
    show World.setCell w63 ((Addr.add a (m * 12)).add 10) _ = World.setCell w63 (((Addr.add a (m * 12)).add 10).add 0) _
    rw [show (((Addr.add a (m * 12)).add 10).add 0) = ((Addr.add a (m * 12)).add 10) by simp [Addr.add]]
   obtain ⟨g3, g4, g5⟩ := g2 w77 hw77'
   rw [mO hmK] at g3
   refine ⟨bb (by omega), ⟨m + 1, _, rfl, hmK, x63.trans g4 (fun _ h => h) (fun _ h => .inl h), g3, ?_⟩, by first | (dsimp only; omega) | omega⟩
   rintro j ⟨cs, hc, hj⟩
   rcases List.mem_or_eq_of_mem_set hc with h | h
   ·exact hc63 j ⟨cs, h, hj⟩
   ·subst h
    rw [hcs'] at hj
    have hj2 := fk (sh := sh) (up := up) (p := (m : Int)) (q := (K : Int)) (s := sd) hj
    exact hc63 j ⟨css2[m], List.getElem_mem hm2, by rw [hcs']; exact dH hj2.1 hj2.2⟩
  ·have hmK : m = K := by omega
   subst hmK
   refine ⟨t, ot63.cell 0 (by simp), x63.heap d55 (fun hh => by have := ht _ hh; omega), fun w79 hw79 => ?_⟩
   have e79 : Ext (fun j => j = D) w63 w79 := by rw [hw79]; exact Ext.putObj _ _ _
   refine ⟨(k55.ext x63 (fun j hj => by have := ht j hj; omega)).ext e79 (fun j hj => by omega), ?_⟩
   have : dI sh up b = .ok (dk B m m m) := by unfold dI; rw [if_neg (by rw [hok]; simp), if_neg (by omega), hKn, hB]
   rw [this]
   exact ⟨t, css2, rfl, hR63.ext e79 (fun j hj hh => by have := ht j hj; omega) (fun j hj hh => by have := hc63 j hj; omega)⟩
end Go.D
set_option maxRecDepth 8000
namespace Go.D
open Go Go.Proofs
theorem mP (v : Value) (w : World) : (method (Array.size Tryd.prog.types + Made.depth) cZ v "tidewater/entry.right").run Tryd.prog w = .ok (bj, v) w := by kernel_rfl
theorem dm (n m : Int) (w : World) : Calls Tryd.prog bt ⟨[.int .i64 n, .int .i64 m]⟩ w fun e w' => e = .returned (.bool (decide (1 <= n /\ n <= m))) /\ w' = w := by
 refine fT _ _ ?_
 unfold fc
 refine ab (fun h => ⟨?_, rfl⟩) (fun h => ⟨?_, rfl⟩)
 ·rw [show decide (1 <= n /\ n <= m) = decide (n <= m) from decide_eq_decide.2 ⟨fun x => x.2, fun x => ⟨h, x⟩⟩]
 ·rw [decide_eq_false (fun x => h x.1)]
theorem iW (n : Int) (w : World) : Calls Tryd.prog cM ⟨[.int .i64 n]⟩ w fun e w' => e = .returned (.bool (decide (1 <= n /\ n <= 12))) /\ w' = w := by
 refine gJ _ ?_
 unfold fI
 refine (dm n 12 w).mono ?_
 rintro e w3 ⟨rfl, rfl⟩
 exact ⟨_, rfl, rfl, rfl⟩
def cR (sh up p q : Int) (l : Nat) : Prop := (0 <= sh /\ sh <= 12) /\ (0 <= up /\ up <= 4096) /\ (1 <= p /\ p <= 64) /\ (0 <= q /\ q < p) /\ l <= 256
instance (sh up p q : Int) (l : Nat) : Decidable (cR sh up p q l) := by unfold cR; infer_instance
def cu (sh up p q : Int) (l : Nat) : Bool := decide (cR sh up p q l)
theorem oo {sh up p q : Int} {l : Nat} (h : ¬ cR sh up p q l) : false = cu sh up p q l := (decide_eq_false h).symm
theorem ez (sh up p q : Int) (s : Slc) (w : World) :
  Calls Tryd.prog bj ⟨[.agg ⟨[.int .i64 sh, .int .i64 up, .int .i64 p, .int .i64 q, s.v]⟩]⟩ w fun e w' => e = .returned (.bool (cu sh up p q s.l)) /\ ai w w' := by
 refine du _ _ _ _ _ ?_
 unfold cy
 refine aj (fun r w6 hr hb k6 hs6 => ?_)
 have o : ae w6 r [.int .i64 sh, .int .i64 up, .int .i64 p, .int .i64 q, s.v] := ae.cn hb
 have no : ∀ {w7 : World} (k : ai w w7), ¬ cR sh up p q s.l -> (Ending.returned (Value.bool false) = .returned (.bool (cu sh up p q s.l)) /\ ai w w7) := fun k h => ⟨by rw [oo h], k⟩
 refine ⟨_, o.cell 0 (by simp), ab (fun g0 => ?_) (fun g0 => ?_)⟩
 ·refine ⟨_, o.cell 1 (by simp), ab (fun g1 => ⟨_, o.cell 1 (by simp), ab (fun g2 => ⟨_, o.cell 2 (by simp), (dm _ _ _).mono ?_⟩) (fun g2 => no k6 (fun h => g2 h.2.1.2))⟩) (fun g1 => no k6 (fun h => g1 h.2.1.1))⟩
  rintro x w13 ⟨rfl, rfl⟩
  refine ⟨_, rfl, ab (fun g3 => ⟨_, o.cell 3 (by simp), ab (fun g4 => ⟨_, o.cell 3 (by simp), _, o.cell 2 (by simp), ab (fun g5 => ⟨s, o.cell 4 (by simp), ?_, k6⟩) (fun g5 => no k6 (fun h => g5 h.2.2.2.1.2))⟩) (fun g4 => no k6 (fun h => g4 h.2.2.2.1.1))⟩) (fun g3 => no k6 (fun h => g3 h.2.2.1))⟩
  have : decide (((s.l : Nat) : Int) <= 256) = cu sh up p q s.l := decide_eq_decide.2 ⟨fun h => ⟨by omega, ⟨g1, g2⟩, g3, ⟨g4, g5⟩, by omega⟩, fun h => by have := h.2.2.2.2; omega⟩
  rw [this]
 ·refine ⟨_, o.cell 0 (by simp), (iW _ _).mono ?_⟩
  rintro x w21 ⟨rfl, rfl⟩
  refine ⟨_, rfl, ab (fun ga => ?_) (fun ga => no k6 (fun h => ga (by have := h.1; omega)))⟩
  refine ⟨_, o.cell 1 (by simp), ab (fun g1 => ⟨_, o.cell 1 (by simp), ab (fun g2 => ⟨_, o.cell 2 (by simp), (dm _ _ _).mono ?_⟩) (fun g2 => no k6 (fun h => g2 h.2.1.2))⟩) (fun g1 => no k6 (fun h => g1 h.2.1.1))⟩
  rintro x w13 ⟨rfl, rfl⟩
  refine ⟨_, rfl, ab (fun g3 => ⟨_, o.cell 3 (by simp), ab (fun g4 => ⟨_, o.cell 3 (by simp), _, o.cell 2 (by simp), ab (fun g5 => ⟨s, o.cell 4 (by simp), ?_, k6⟩) (fun g5 => no k6 (fun h => g5 h.2.2.2.1.2))⟩) (fun g4 => no k6 (fun h => g4 h.2.2.2.1.1))⟩) (fun g3 => no k6 (fun h => g3 h.2.2.1))⟩
  have : decide (((s.l : Nat) : Int) <= 256) = cu sh up p q s.l := decide_eq_decide.2 ⟨fun h => ⟨by omega, ⟨g1, g2⟩, g3, ⟨g4, g5⟩, by omega⟩, fun h => by have := h.2.2.2.2; omega⟩
  rw [this]
def bl (kd sh cl sq sv ot : Int) (ops : Slc) (key : List UInt8) (up p q : Int) (sd : Slc) : List Value :=
 [.int .i64 kd, .int .i64 sh, .int .i64 cl, .int .i64 sq, .int .i64 sv, .int .i64 ot, ops.v, ak key, .int .i64 up, .int .i64 p, .int .i64 q, sd.v]
theorem mQ (sh cl sq sv ot : Int) (ops : Slc) (key : List UInt8) (up p q : Int) (sd : Slc) (w : World) :
  Calls Tryd.prog dX ⟨[.agg ⟨bl 5 sh cl sq sv ot ops key up p q sd⟩]⟩ w fun x w' => x = .returned (.iface cZ (.agg ⟨[.int .i64 sh, .int .i64 up, .int .i64 q, .int .i64 p, sd.v]⟩)) /\ ai w w' := by
 refine jP _ _ _ _ _ _ _ _ _ _ _ _ ?_
 unfold jO
 refine aj (fun r w14 hr hb k14 hs => ?_)
 have o : ae w14 r (bl 5 sh cl sq sv ot ops key up p q sd) := ae.cn hb
 refine ⟨_, o.cell 0 (by simp [bl]), ab (fun h => absurd h (by simp [bl])) (fun _ => ab (fun h => absurd h (by simp [bl])) (fun _ => ab (fun h => absurd h (by simp [bl])) (fun _ => ab (fun h => absurd h (by simp [bl])) (fun _ => ab (fun _ => ?_) (fun h => absurd rfl h)))))⟩
 exact ⟨_, o.cell 1 (by simp [bl]), _, o.cell 8 (by simp [bl]), _, o.cell 10 (by simp [bl]), _, o.cell 9 (by simp [bl]), _, o.cell 11 (by simp [bl]), rfl, k14⟩
theorem jY (sh cl sq sv ot : Int) (ops : Slc) (key : List UInt8) (up p q : Int) (sd : Slc) (w : World) :
  Calls Tryd.prog cL ⟨[.agg ⟨bl 5 sh cl sq sv ot ops key up p q sd⟩]⟩ w fun x w' => x = .returned (.bool (cu sh up q p sd.l)) /\ ai w w' := by
 refine gK _ _ _ _ _ _ _ _ _ _ _ _ ?_
 unfold fJ
 refine aj (fun r w14 hr hb k14 hs => ?_)
 have o : ae w14 r (bl 5 sh cl sq sv ot ops key up p q sd) := ae.cn hb
 refine ⟨_, _, _, _, _, _, _, _, _, _, _, _, o.row, (mQ _ _ _ _ _ _ _ _ _ _ _ _).mono ?_⟩
 rintro x w28 ⟨rfl, k28⟩
 refine ⟨_, rfl, trivial, bp (fun _ => ?_) (fun h => by cases h)⟩
 refine ⟨_, _, _, _, rfl, mP _, by rfl, (ez _ _ _ _ _ _).mono ?_⟩
 rintro x w35 ⟨rfl, k35⟩
 exact ⟨_, rfl, rfl, (k14.trans k28).trans k35⟩
end Go.D
namespace Go.D
open Go Go.Proofs
structure Pg where
 at' : Int
 kind : Int
 sh : Int
 cl : Int
 sq : Int
 sv : Int
 ot : Int
 ops : Slc
 key : List UInt8
 up : Int
 part : Int
 parts : Int
 ds : Slc
 dat : List UInt8
 jZ : Slc
 mR : Bool
def pgE (x : Pg) : List Value := bl x.kind x.sh x.cl x.sq x.sv x.ot x.ops x.key x.up x.part x.parts x.ds
def pgC (x : Pg) : List Value := [.int .i64 x.at', .int .i64 x.kind, .int .i64 x.sh, .int .i64 x.cl, .int .i64 x.sq, .int .i64 x.sv, .int .i64 x.ot, x.ops.v, ak x.key, .int .i64 x.up, .int .i64 x.part, .int .i64 x.parts, x.ds.v, x.jZ.v, .bool x.mR]
def bX : Pg := ⟨0, 0, 0, 0, 0, 0, 0, ⟨none, 0, 0⟩, [], 0, 0, 0, ⟨none, 0, 0⟩, [], ⟨none, 0, 0⟩, false⟩
def eN (w : World) (x : Pg) : Prop := ag w x.ds x.dat /\ x.ds.l <= x.ds.c
theorem eg {w w' : World} {x : Pg} (h : eN w x) (k : ai w w') : eN w' x := ⟨ar h.1 k, h.2⟩
def PgR : lL Pg where
 n := 15
 pos := by omega
 R w x cs := cs = pgC x /\ eN w x /\ ∀ k, dJ (pgC x) k -> k < w.heap.size
 len := by rintro w x cs ⟨rfl, _⟩; rfl
 one := by rintro w x cs ⟨rfl, _⟩; intro v hv; simp [pgC] at hv; rcases hv with rfl | rfl | rfl | rfl | rfl | rfl | rfl | rfl | rfl | rfl | rfl | rfl | rfl | rfl | rfl <;> rfl
 ext := by
  rintro M w w' x cs ⟨rfl, h, h2⟩ he hm
  refine ⟨rfl, ⟨aF h.1 he (fun h0 k hk => hm k ⟨x.ds, by simp [pgC], h0, hk⟩), h.2⟩, fun k hk => ?_⟩
  have := h2 k hk
  have := he.size
  omega
 lt := by
  rintro w x cs ⟨rfl, _, h⟩ k hk
  exact h k hk
abbrev Ky := Int × Int
def kyV (k : Ky) : Value := .agg ⟨[.int .i64 k.1, .int .i64 k.2]⟩
theorem nu (a b : Ky) (h : kyV a = kyV b) : a = b := by
 simp only [kyV, Value.agg.injEq, Array.mk.injEq, List.cons.injEq, Value.int.injEq, true_and, and_true] at h
 exact Prod.ext h.1 h.2
structure cE where
 r : Nat
 m : Nat
 l : List (Int × Pg)
def KM : KW Ky cE := ⟨kyV, fun g => .pointer (some ⟨g.r, 0, none⟩), nu⟩
def PM : KV Int Pg := KV.int fun x => .agg ⟨pgC x⟩
def lR (k : Ky) : Prop := (0 <= k.1 /\ k.1 <= 4096) /\ 1 <= k.2 /\ k.2 <= 64
theorem nD {n : Int} (h : 0 <= n /\ n <= 4096) : (Lit.int .i64 n).wf = true := by
 have h1 : IntKind.i64.min <= 0 := by decide
 have h2 : (4096 : Int) <= IntKind.i64.max := by decide
 simp only [Lit.wf, Bool.and_eq_true, decide_eq_true_eq]
 omega
noncomputable def nE : Array Field := match Tryd.prog.underlying ca with | some (.struct fs) => fs | _ => #[]
theorem nV {P : Program} {t : TypeId} {f1 f2 : Field} (hu : P.underlying t = some (.struct ⟨[f1, f2]⟩)) (h1 : P.underlying f1.type = some (.int .i64)) (h2 : P.underlying f2.type = some (.int .i64))
  (ht : P.keyType t = true) (hc : P.cellsOf t = 2) (hc1 : P.cellsOf f1.type = 1) (hc2 : P.cellsOf f2.type = 1) (ho1 : f1.offset = 0) (ho2 : f2.offset = 1) (hn1 : (f1.name != "_") = true) (hn2 : (f2.name != "_") = true)
  (hs : 0 < P.types.size) {a b : Int} (ha : (Lit.int .i64 a).wf = true) (hb : (Lit.int .i64 b).wf = true) : (keyOf P t (.agg ⟨[.int .i64 a, .int .i64 b]⟩)).isSome = true := by
 obtain ⟨d, hd⟩ : ∃ d, P.types.size + 1 = d + 1 + 1 := ⟨P.types.size - 1, by omega⟩
 have k1 : P.keyLits (d + 1) f1.type [.int .i64 a] = some [.int .i64 a] := by
  unfold Program.keyLits
  simp only [h1]
  simp only [ha, and_self, if_true]
 have k2 : P.keyLits (d + 1) f2.type [.int .i64 b] = some [.int .i64 b] := by
  unfold Program.keyLits
  simp only [h2]
  simp only [hb, and_self, if_true]
 have hf : (Value.agg ⟨[.int .i64 a, .int .i64 b]⟩).formed P t = true := by
  unfold Value.formed
  simp only [hu, hc]
  rfl
 unfold keyOf
 simp only [hu, ht, hf, Bool.and_self, if_true, hd]
 unfold Program.keyLits
 simp only [hu, Value.cells, hc]
 rw [if_pos ⟨rfl, by simp [hn1, hn2]⟩]
 simp only [List.mapM_cons, List.mapM_nil, ho1, ho2, hc1, hc2, List.drop_zero, List.drop_succ_cons, List.take_succ_cons, List.take_zero, k1, k2]
 rfl
theorem iX {k : Ky} (h : lR k) : (keyOf Tryd.prog ca (kyV k)).isSome = true :=
 nV (f1 := (nE[0]?).getD default) (f2 := (nE[1]?).getD default) (by kernel_rfl) (by kernel_rfl) (by kernel_rfl) (by kernel_rfl) (by kernel_rfl) (by kernel_rfl) (by kernel_rfl) (by kernel_rfl) (by kernel_rfl) (by kernel_rfl) (by kernel_rfl)
  (of_decide_eq_true (by kernel_rfl)) (nD h.1) (nD ⟨by have := h.2; omega, by have := h.2; omega⟩)
def de (A : List (Ky × cE)) : List (Ky × List (Int × Pg)) := A.map fun e => (e.1, e.2.l)
def fl (G : List (Ky × List (Int × Pg))) (p : Pg) : List (Ky × List (Int × Pg)) :=
 (if (lookL G (p.up, p.parts)).isSome then G else G ++ [((p.up, p.parts), [])]).map fun e =>
  if e.1 = (p.up, p.parts) then (e.1, if (lookL e.2 p.part).isSome then e.2 else e.2 ++ [(p.part, p)]) else e
def aM (sh : Int) (p : Pg) : Bool := !p.mR && (decide (p.kind = 5) && (decide (p.sh = sh) && cu p.sh p.up p.parts p.part p.ds.l))
def cG (sh : Int) (L : List Pg) : List (Ky × List (Int × Pg)) := (L.filter (aM sh)).foldl fl []
structure aW (w : World) (b : Nat) (out : Nat) (A : List (Ky × cE)) : Prop where
 map : bC KM w out A
 ok : ∀ e ∈ A, lR e.1
 at' : ∀ e ∈ A, ae w e.2.r [.int .i64 e.1.1, .int .i64 e.1.2, .map (some e.2.m)] /\ cB PM w e.2.m e.2.l
 mm : ∀ e ∈ A, ∀ e' ∈ A, e.1 ≠ e'.1 -> e.2.m ≠ e'.2.m
 mo : ∀ e ∈ A, e.2.m ≠ out
 lo : b <= out /\ ∀ e ∈ A, b <= e.2.m
theorem aW.af {w w' : World} {b out : Nat} {A : List (Ky × cE)} (h : aW w b out A) (k : ai w w') : aW w' b out A :=
 ⟨h.map.af k, h.ok, fun e he => ⟨(h.at' e he).1.af k, (h.at' e he).2.af k⟩, h.mm, h.mo, h.lo⟩
theorem ae.nW {w : World} {r m : Nat} {c : List Value} {M : KV Int Pg} {l : List (Int × Pg)} (h : ae w r c) (hm : cB M w m l) : r ≠ m := by
 rintro rfl
 obtain ⟨T, f, h, _⟩ := h
 obtain ⟨es, ck, h2, _⟩ := hm.at
 rw [h] at h2; cases h2
theorem ae.la {w : World} {r m : Nat} {c : List Value} {A : List (Ky × cE)} (h : ae w r c) (hm : bC KM w m A) : r ≠ m := by
 rintro rfl
 obtain ⟨T, f, h, _⟩ := h
 obtain ⟨es, ck, h2, _⟩ := hm.at'
 rw [h] at h2; cases h2
theorem ae.oF {w : World} {r : Nat} {cs : List Value} (h : ae w r cs) (k : Nat) {ds : List Value} (hd : (cs.drop k).take ds.length = ds) : rowAt w ⟨r, k, none⟩ 0 ds := by
 refine dt fun j hj => ?_
 rw [add_lit, Nat.zero_add]
 have h1 : ((cs.drop k).take ds.length)[j]? = some ds[j] := by rw [hd, List.getElem?_eq_getElem hj]
 rw [List.getElem?_take_of_lt hj, List.getElem?_drop] at h1
 obtain ⟨h2, h3⟩ := List.getElem?_eq_some_iff.1 h1
 rw [h.cell _ h2, h3]
def cq (l : List (Int × Pg)) (p : Pg) : List (Int × Pg) := if (lookL l p.part).isSome then l else l ++ [(p.part, p)]
def hM (k : Ky) (p : Pg) (A : List (Ky × cE)) : List (Ky × cE) := A.map fun e => if e.1 = k then (e.1, { e.2 with l := cq e.2.l p }) else e
theorem j0 (k : Ky) (p : Pg) (A : List (Ky × cE)) : de (hM k p A) = (de A).map fun e => if e.1 = k then (e.1, cq e.2 p) else e := by
 unfold de hM
 rw [List.map_map, List.map_map]
 refine List.map_congr_left (fun e _ => ?_)
 simp only [Function.comp_apply]
 split <;> rfl
theorem mS (k : Ky) : ∀ A : List (Ky × cE), lookL (de A) k = (lookL A k).map (·.l)
 | [] => rfl
 | (k', g) :: A => by
  have ih := mS k A
  unfold de at ih ⊢
  rw [List.map_cons, lookL, lookL]
  split
  ·rfl
  ·exact ih
theorem gR {G : List (Ky × List (Int × Pg))} {p : Pg} (h : lookL G (p.up, p.parts) = none) : fl G p = (G ++ [((p.up, p.parts), [])]).map fun (e : Ky × List (Int × Pg)) => if e.1 = (p.up, p.parts) then (e.1, cq e.2 p) else e := by
 unfold fl cq; rw [h]; rfl
theorem gS {G : List (Ky × List (Int × Pg))} {p : Pg} (h : (lookL G (p.up, p.parts)).isSome = true) : fl G p = G.map fun e => if e.1 = (p.up, p.parts) then (e.1, cq e.2 p) else e := by
 unfold fl cq; rw [if_pos h]
theorem nX (k : Ky) (p : Pg) (A : List (Ky × cE)) : (hM k p A).map (fun e => (e.1, KM.vv e.2)) = A.map (fun e => (e.1, KM.vv e.2)) := by
 unfold hM
 rw [List.map_map]
 refine List.map_congr_left (fun e _ => ?_)
 simp only [Function.comp_apply]
 split <;> rfl
theorem ew {k : Ky} {p : Pg} {A : List (Ky × cE)} {e : Ky × cE} (h : e ∈ hM k p A) : ∃ e0 ∈ A, e.1 = e0.1 /\ e.2.r = e0.2.r /\ e.2.m = e0.2.m /\ e.2.l = if e0.1 = k then cq e0.2.l p else e0.2.l := by
 obtain ⟨e0, h0, rfl⟩ := List.mem_map.1 h
 refine ⟨e0, h0, ?_⟩
 split <;> exact ⟨rfl, rfl, rfl, rfl⟩
theorem aW.uniq {w : World} {b out : Nat} {A : List (Ky × cE)} (h : aW w b out A) {k : Ky} {g : cE} (hg : lookL A k = some g) {e : Ky × cE} (he : e ∈ A) (hk : e.1 = k) : e.2 = g := by
 have : lookL A e.1 = some e.2 := fg h.map.nd he
 rw [hk, hg] at this
 exact (Option.some.inj this).symm
theorem aW.there {w : World} {b out : Nat} {A : List (Ky × cE)} (h : aW w b out A) {k : Ky} {g : cE} (hg : lookL A k = some g) {p : Pg} (hp : (lookL g.l p.part).isSome = true) : hM k p A = A := by
 unfold hM
 conv => rhs; rw [<- List.map_id A]
 refine List.map_congr_left (fun e he => ?_)
 split
 ·rename_i hk
  have := h.uniq hg he hk
  unfold cq
  rw [this, if_pos hp]
  rw [<- this]; rfl
 ·rfl
theorem aW.put {w w1 : World} {b out : Nat} {A : List (Ky × cE)} (h : aW w b out A) {k : Ky} {g : cE} (hg : lookL A k = some g) {p : Pg} (hm : cB PM w1 g.m (cq g.l p)) (he : Ext (fun x => x = g.m) w w1) : aW w1 b out (hM k p A) := by
 have hmem := bw hg
 refine ⟨(h.map.ext he (fun hh => h.mo _ hmem hh.symm)).told (nX k p A), fun e he' => ?_, fun e he' => ?_, fun e he1 e' he2 hne => ?_, fun e he' => ?_, h.lo.1, fun e he' => ?_⟩
 ·obtain ⟨e0, h0, h1, _⟩ := ew he'
  rw [h1]; exact h.ok e0 h0
 ·obtain ⟨e0, h0, h1, h2, h3, h4⟩ := ew he'
  obtain ⟨a1, a2⟩ := h.at' e0 h0
  rw [h1, h2, h3, h4]
  refine ⟨a1.ext he (a1.nW (h.at' _ hmem).2), ?_⟩
  split
  ·rename_i hk
   rw [h.uniq hg h0 hk]; exact hm
  ·rename_i hk
   exact a2.ext he (h.mm e0 h0 _ hmem hk)
 ·obtain ⟨e0, h0, h1, _, h3, _⟩ := ew he1
  obtain ⟨e0', h0', h1', _, h3', _⟩ := ew he2
  rw [h3, h3']
  exact h.mm e0 h0 e0' h0' (by rw [<- h1, <- h1']; exact hne)
 ·obtain ⟨e0, h0, _, _, h3, _⟩ := ew he'
  rw [h3]; exact h.mo e0 h0
 ·obtain ⟨e0, h0, _, _, h3, _⟩ := ew he'
  rw [h3]; exact h.lo.2 e0 h0
theorem aW.push {w w1 : World} {b out : Nat} {A : List (Ky × cE)} (h : aW w b out A) {k : Ky} {r m : Nat} (hk : lR k) (hr : ae w r [.int .i64 k.1, .int .i64 k.2, .map (some m)]) (hm : cB PM w m [])
  (hfresh : ∀ e ∈ A, e.2.m ≠ m) (hmo : m ≠ out) (hb : b <= m) (he : Ext (fun x => x = out) w w1) (hmap : bC KM w1 out (A ++ [(k, ⟨r, m, []⟩)])) : aW w1 b out (A ++ [(k, ⟨r, m, []⟩)]) := by
 refine ⟨hmap, fun e he' => ?_, fun e he' => ?_, fun e he1 e' he2 hne => ?_, fun e he' => ?_, h.lo.1, fun e he' => ?_⟩
 ·rcases List.mem_append.1 he' with h1 | h1
  ·exact h.ok e h1
  ·rw [List.mem_singleton] at h1; subst h1; exact hk
 ·rcases List.mem_append.1 he' with h1 | h1
  ·obtain ⟨a1, a2⟩ := h.at' e h1
   exact ⟨a1.ext he (a1.la h.map), a2.ext he (h.mo e h1)⟩
  ·rw [List.mem_singleton] at h1; subst h1
   exact ⟨hr.ext he (hr.la h.map), hm.ext he hmo⟩
 ·rcases List.mem_append.1 he1 with h1 | h1 <;> rcases List.mem_append.1 he2 with h2 | h2
  ·exact h.mm e h1 e' h2 hne
  ·rw [List.mem_singleton] at h2; subst h2; exact hfresh e h1
  ·rw [List.mem_singleton] at h1; subst h1; exact fun hh => hfresh e' h2 hh.symm
  ·rw [List.mem_singleton] at h1 h2; subst h1; subst h2; exact absurd rfl hne
 ·rcases List.mem_append.1 he' with h1 | h1
  ·exact h.mo e h1
  ·rw [List.mem_singleton] at h1; subst h1; exact hmo
 ·rcases List.mem_append.1 he' with h1 | h1
  ·exact h.lo.2 e h1
  ·rw [List.mem_singleton] at h1; subst h1; exact hb
theorem lb (k : Int) (a : Pg) : ∀ {al : List (Int × Pg)}, lookL al k = none -> putL al k a = al ++ [(k, a)]
 | [], _ => rfl
 | (k0, a0) :: r, h => by
  rw [lookL] at h
  rw [putL]
  split at h
  ·cases h
  ·rename_i hk
   rw [if_neg hk, lb k a h]; rfl
theorem iu (sh : Int) (L : List Pg) (p : Pg) : cG sh (L ++ [p]) = if aM sh p = true then fl (cG sh L) p else cG sh L := by
 unfold cG
 rw [List.filter_append, List.foldl_append]
 by_cases h : aM sh p = true
 ·rw [if_pos h, List.filter_cons_of_pos h]; rfl
 ·rw [if_neg h, List.filter_cons_of_neg h]; rfl
end Go.D
namespace Go.D
open Go Go.Proofs
theorem aW.get {w : World} {b out : Nat} {A : List (Ky × cE)} (h : aW w b out A) {k : Ky} (hk : lR k) :
  ∃ es, mapIs w (some out) es /\ cJ Tryd.prog ca (kyV k) es /\ gY (kyV k) es (Option.map (Sh.v Sh.ptr) ((lookL A k).map fun g => some ⟨g.r, 0, none⟩)) := by
 obtain ⟨es, h1, h2, h3⟩ := h.map.get (P := Tryd.prog) (t := ca) (fun p hp => iX (h.ok p hp)) (k := k) (iX hk)
 refine ⟨es, h1, h2, ?_⟩
 have e : Option.map (Sh.v Sh.ptr) ((lookL A k).map fun g => (some ⟨g.r, 0, none⟩ : Option Addr)) = Option.map KM.vv (lookL A k) := by cases lookL A k <;> rfl
 rw [e]
 exact h3
theorem ey {w : World} {m : Nat} {l : List (Int × Pg)} (h : cB PM w m l) (n : Int) : ∃ es, mapIs w (some m) es /\ aQ (.int .i64) (.int .i64 n) es = some ((lookL l n).map fun x => .agg ⟨pgC x⟩) := by
 obtain ⟨es, h1, h2⟩ := h.get
 exact ⟨es, h1, h2 n⟩
theorem gT {sh : Int} {p : Pg} (h : aM sh p = true) : lR (p.up, p.parts) /\ p.kind = 5 /\ p.sh = sh /\ p.mR = false /\ cR p.sh p.up p.parts p.part p.ds.l := by
 unfold aM cu at h
 simp only [Bool.and_eq_true, Bool.not_eq_true', decide_eq_true_eq] at h
 obtain ⟨h1, h2, h3, h4⟩ := h
 exact ⟨⟨h4.2.1, h4.2.2.1⟩, h2, h3, h1, h4⟩
theorem fm {L : List Pg} {n : Nat} (h : n < L.length) : L.take (n + 1) = L.take n ++ [L[n]] := by
 rw [List.take_add_one, List.getElem?_eq_getElem h]; rfl
theorem j1 (s : Slc) (sh : Int) (L : List Pg) (css : List (List Value)) (w : World) (hR : Rows PgR w s L css) (hL : L.length <= 2 ^ 20) :
  Calls Tryd.prog cD ⟨[s.v, .int .i64 sh]⟩ w fun x w' => ∃ (out : Nat) (A : List (Ky × cE)), x = .returned (.map (some out)) /\ ai w w' /\ aW w' w.heap.size out A /\ de A = cG sh L := by
 refine fU _ _ ?_
 unfold fe
 refine aj (fun r3 w4 hr3 hb3 k3 hs3 => ?_)
 have hsl := hR.sl
 let I : Int -> World -> Prop := fun i w8 => ∃ n : Nat, i = (n : Int) /\ n <= L.length /\ ai w w8 /\ ∃ A, aW w8 w.heap.size r3 A /\ de A = cG sh (L.take n)
 refine ⟨I, fun i _ => L.length - i.toNat, ⟨0, rfl, by omega, k3, [], ⟨bC.new hb3, by simp, by simp, by simp, by simp, by omega, by simp⟩, rfl⟩, ?_⟩
 rintro i7 w8 ⟨n, rfl, hn, kw8, A, hA, hAp⟩
 intro u9 u10 u11 u12 u13 u14 u15 u16 u17 u18 u19 u20 u21 u22 u23 u24 u25 u26 u27 u28 u29 u30 u31 u32 u33 u34 u35 u36 u37 u38 u39 u40 u41 u42 u43 u44 u45 u46 u47 u48 u49 u50 u51 u52 u53 u54 u55 u56 u57 u58 u59 u60 u61 u62 u63 u64 u65 u66 u67 u68 u69 u70 u71 u72 u73 u74 u75
 refine ab (fun hlt => ?_) (fun hge => ?_)
 rotate_left
 ·have : n = L.length := by omega
  subst this
  rw [List.take_length] at hAp
  exact ⟨r3, A, rfl, kw8, hA, hAp⟩
 have hnL : n < L.length := by omega
 have hR8 := hR.af kw8
 have hnc : n < css.length := by rw [hR.len]; exact hnL
 obtain ⟨a, ha, hsp, hrow⟩ := hR8.get hnc
 have hrowx := hR8.row n hnc hnL
 obtain ⟨x, hx⟩ : ∃ x, x = L[n] := ⟨_, rfl⟩
 rw [<- hx] at hrowx
 obtain ⟨hcs, hdat, hft⟩ := hrowx
 rw [hcs] at hrow
 rw [ha]
 refine ⟨by omega, by omega, x.at', x.kind, x.sh, x.cl, x.sq, x.sv, x.ot, x.ops, x.key, x.up, x.part, x.parts, x.ds, x.jZ, x.mR, ?_, ?_⟩
 ·have e1 : (Int.toNat ((n : Nat) : Int)) = n := by omega
  rw [e1]; exact hrow
 refine aj (fun r92 w93 hr92 hb92 k92 hs92 => ?_)
 have o92 : ae w93 r92 (pgC bX) := ae.cn hb92
 obtain ⟨c1, c2⟩ := o92.bx (cs := pgC x) (n := 15) rfl rfl
 refine ⟨c1, fun w94 hw94 => ?_⟩
 obtain ⟨p92, x94, z94⟩ := c2 w94 hw94
 have k94 : ai w8 w94 := k92.ext x94 (fun k hk => by omega)
 refine ⟨x.kind, x.sh, x.cl, x.sq, x.sv, x.ot, x.ops, x.key, x.up, x.part, x.parts, x.ds, p92.oF 1 rfl, ?_⟩
 refine aj (fun r107 w108 hr107 hb107 k107 hs107 => ?_)
 have o107 : ae w108 r107 (bl 0 0 0 0 0 0 ⟨none, 0, 0⟩ [] 0 0 0 ⟨none, 0, 0⟩) := ae.cn hb107
 obtain ⟨c3, c4⟩ := o107.bx (cs := pgE x) (n := 12) rfl rfl
 refine ⟨c3, fun w109 hw109 => ?_⟩
 obtain ⟨p107, x109, z109⟩ := c4 w109 hw109
 have k109 : ai w94 w109 := k107.ext x109 (fun k hk => by omega)
 have k8109 := k94.trans k109
 have p92' := p92.af k109
 have hsz : w8.heap.size < w109.heap.size := by have := k109.size; omega
 -- the page is not taken
 have skip : ∀ w' : World, ai w8 w' -> aM sh x = false -> inR .i64 (((n : Nat) : Int) + 1) /\ (I (((n : Nat) : Int) + 1) w' /\ L.length - (((n : Nat) : Int) + 1).toNat < L.length - ((n : Nat) : Int).toNat) := by
  intro w' kk ht
  refine ⟨bb (by omega), ⟨n + 1, by omega, by omega, kw8.trans kk, A, hA.af kk, ?_⟩, by omega⟩
  rw [fm hnL, iu, <- hx, ht, if_neg (by simp), hAp]
 refine ⟨fun w' => ai w8 w' /\ ae w' r92 (pgC x) /\ ae w' r107 (pgE x) /\ aM sh x = true, ?_, ?_⟩
 ·refine ⟨x.mR, p92'.cell 14 (by simp [pgC]), bp (fun hj => skip _ k8109 (by unfold aM; rw [hj]; rfl)) (fun hj => ?_)⟩
  refine ⟨x.kind, p107.cell 0 (by simp [pgE, bl]), dp (fun h5 => skip _ k8109 (by unfold aM; rw [hj, decide_eq_false h5]; rfl)) (fun h5 => ?_)⟩
  refine ⟨x.sh, p107.cell 1 (by simp [pgE, bl]), dp (fun hs => skip _ k8109 (by unfold aM; rw [hj, decide_eq_true h5, decide_eq_false hs]; rfl)) (fun hs => ?_)⟩
  refine ⟨x.kind, x.sh, x.cl, x.sq, x.sv, x.ot, x.ops, x.key, x.up, x.part, x.parts, x.ds, p107.row, ?_⟩
  rw [h5]
  refine (jY _ _ _ _ _ _ _ _ _ _ _ _).mono ?_
  rintro e w127 ⟨rfl, k127⟩
  have htk : aM sh x = cu x.sh x.up x.parts x.part x.ds.l := by unfold aM; rw [hj, decide_eq_true h5, decide_eq_true hs]; rfl
  refine ⟨_, rfl, bp (fun hb => skip _ (k8109.trans k127) (by rw [htk]; simpa using hb)) (fun hb => ⟨k8109.trans k127, p92'.af k127, p107.af k127, by rw [htk]; simpa using hb⟩)⟩
 rintro w129 ⟨k129, q92, q107, htk⟩
 intro u130 u131 u132 u133 u134 u135 u136 u137 u138 u139 u140 u141 u142 u143 u144 u145 u146 u147
 obtain ⟨hky, h5, hs, hj, hck⟩ := gT htk
 refine ⟨x.up, q107.cell 8 (by simp [pgE, bl]), x.parts, q107.cell 10 (by simp [pgE, bl]), aj (fun r150 w151 hr150 hb150 k150 hs150 => ?_)⟩
 have o150 : ae w151 r150 [.int .i64 0, .int .i64 0] := ae.cn hb150
 obtain ⟨c5, c6⟩ := o150.bx (cs := [.int .i64 x.up, .int .i64 x.parts]) (n := 2) rfl rfl
 refine ⟨c5, fun w152 hw152 => ?_⟩
 obtain ⟨p150, x152, z152⟩ := c6 w152 hw152
 have k152 : ai w129 w152 := k150.ext x152 (fun k hk => by omega)
 have k8152 := k129.trans k152
 have hA152 := hA.af k8152
 have h93 : w8.heap.size <= w129.heap.size := k129.size
 -- what is next: the key is there
 refine ⟨fun w' => ai w w' /\ ae w' r92 (pgC x) /\ ae w' r107 (pgE x) /\ ae w' r150 [.int .i64 x.up, .int .i64 x.parts] /\ ∃ A1 g, aW w' w.heap.size r3 A1 /\ lookL A1 (x.up, x.parts) = some g /\ de (hM (x.up, x.parts) x A1) = cG sh (L.take (n + 1)), ?_, ?_⟩
 ·obtain ⟨es, g1, g2, g3⟩ := hA152.get hky
  refine ⟨_, _, p150.row, es, g1, g2, _, g3, ?_⟩
  have hnext : cG sh (L.take (n + 1)) = fl (cG sh (L.take n)) x := by rw [fm hnL, iu, <- hx, if_pos htk]
  cases hl : lookL A (x.up, x.parts) with
  | some g =>
   refine bp (fun h => by cases h) (fun _ => ?_)
   refine ⟨kw8.trans k8152, q92.af k152, q107.af k152, p150, A, g, hA152, hl, ?_⟩
   rw [j0, hnext, gS (by rw [<- hAp, mS, hl]; rfl), hAp]
  | none =>
   refine bp (fun _ => ?_) (fun h => by cases h)
   refine ⟨_, _, p150.row, _, _, p150.row, aj (fun r162 w163 hr162 hb162 k162 hs162 => aj (fun r164 w165 hr164 hb164 k164 hs164 => ?_))⟩
   have k165 := k162.trans k164
   have hA165 := hA152.af k165
   have o164 : ae w165 r164 [.int .i64 x.up, .int .i64 x.parts, .map (some r162)] := ae.cn hb164
   have m162 : cB PM w165 r162 [] := (cB.new hb162).af k164
   obtain ⟨es1, ck1, es2, ck2, f1, f2, f3, f4⟩ := hA165.map.push (P := Tryd.prog) (t := ca) (fun p hp => iX (hA165.ok p hp)) (k := (x.up, x.parts)) ⟨r164, r162, []⟩ (iX hky) hl
   refine ⟨r3, es1, ck1, es2, ck2, rfl, f1, f2, f3, fun w171 hw171 => ?_⟩
   obtain ⟨f5, f6, f7⟩ := f4 w171 hw171
   have hr3lt := hA152.map.lt
   have z162 := k162.size
   have lt_m : ∀ e ∈ A, e.2.m < w152.heap.size := fun e he => (hA152.at' e he).2.lt
   have hG := hA165.push (k := (x.up, x.parts)) (r := r164) (m := r162) hky o164 m162 (fun e he hh => by have := lt_m e he; omega) (by omega) (by have := kw8.size; omega) f6 f5
   have kk : ai w w171 := (kw8.trans (k8152.trans k165)).ext f6 (fun k hk => by have := hA.lo.1; omega)
   have n92 : r92 ≠ r3 := fun hh => by have := hA.map.lt; omega
   have n107 : r107 ≠ r3 := fun hh => by have := hA.map.lt; omega
   have n150 : r150 ≠ r3 := fun hh => by have := hA.map.lt; omega
   refine ⟨kk, ((q92.af k152).af k165).ext f6 n92, ((q107.af k152).af k165).ext f6 n107, (p150.af k165).ext f6 n150, _, ⟨r164, r162, []⟩, hG, ?_, ?_⟩
   ·exact fg hG.map.nd (by simp)
   ·rw [j0, hnext, gR (by rw [<- hAp, mS, hl]; rfl), <- hAp]
    unfold de
    rw [List.map_append]; rfl
 rintro w172 ⟨kw172, s92, s107, s150, A1, g, hA1, hl1, hpA1⟩
 intro u173 u174 u175 u176 u177 u178 u179 u180 u181 u182
 have kd : ai w172 w172.drew := Ext.drew dq _
 have hAd := hA1.af kd
 have hmem := bw hl1
 obtain ⟨og, mg⟩ := hAd.at' _ hmem
 obtain ⟨es, g1, g2, g3⟩ := hAd.get hky
 rw [hl1] at g3
 obtain ⟨esp, v1, v2⟩ := ey mg x.part
 refine ⟨_, _, (s150.af kd).row, es, g1, g2, _, g3, some g.m, og.cell 2 (by simp), x.part, (s107.af kd).cell 9 (by simp [pgE, bl]), esp, v1, ?_⟩
 have fin : ∀ w' : World, ai w w' -> aW w' w.heap.size r3 (hM (x.up, x.parts) x A1) -> inR .i64 (((n : Nat) : Int) + 1) /\ (I (((n : Nat) : Int) + 1) w' /\ L.length - (((n : Nat) : Int) + 1).toNat < L.length - ((n : Nat) : Int).toNat) := by
  intro w' kk hG
  exact ⟨bb (by omega), ⟨n + 1, by omega, by omega, kk, _, hG, hpA1⟩, by omega⟩
 cases hp : lookL g.l x.part with
 | none =>
  rw [hp] at v2
  refine .inl ⟨v2, aj (fun r206 w207 hr206 hb206 k206 hs206 => ?_)⟩
  have k207 := kd.trans k206
  have hA207 := hA1.af k207
  obtain ⟨og7, mg7⟩ := hA207.at' _ hmem
  obtain ⟨esp7, v17, v27⟩ := ey mg7 x.part
  rw [hp] at v27
  obtain ⟨es7, g17, g27, g37⟩ := hA207.get hky
  rw [hl1] at g37
  refine ⟨⟨esp7, v17, .inl ⟨v27, rfl⟩⟩, ⟨x.part, (s107.af k207).cell 9 (by simp [pgE, bl]), rfl⟩, ⟨some g.m, og7.cell 2 (by simp), rfl⟩, ⟨es7, g17, g27, _, g37, rfl⟩, ⟨_, _, (s150.af k207).row, rfl⟩, ?_⟩
  have o206 : ae w207 r206 (pgC bX) := ae.cn hb206
  obtain ⟨c7, c8⟩ := o206.bx (cs := pgC bX) (n := 15) rfl rfl
  refine ⟨c7, fun w230 hw230 => ?_⟩
  obtain ⟨p206, x230, z230⟩ := c8 w230 hw230
  have hsd : w172.drew.heap.size = w172.heap.size := rfl
  have k230 : ai w172 w230.drew := (k207.ext x230 (fun k hk => by omega)).drew
  have hA230 := hA1.af k230
  obtain ⟨og3, mg3⟩ := hA230.at' _ hmem
  obtain ⟨es3, g13, g23, g33⟩ := hA230.get hky
  rw [hl1] at g33
  obtain ⟨es4, ck4, es5, ck5, t1, t2, t3⟩ := mg3.put x.part x
  refine ⟨_, _, (s150.af k230).row, es3, g13, g23, _, g33, some g.m, og3.cell 2 (by simp), x.part, (s107.af k230).cell 9 (by simp [pgE, bl]), _, _, _, _, _, _, _, _, _, _, _, _, _, _, _, (s92.af k230).row, g.m, es4, ck4, es5, ck5, rfl, t1, t2, fun w258 hw258 => ?_⟩
  obtain ⟨t4, t5, t6⟩ := t3 w258 hw258
  have hadd : cq g.l x = g.l ++ [(x.part, x)] := by unfold cq; rw [hp]; rfl
  refine fin _ ((kw172.trans k230).ext t5 (fun k hk => by have := hA1.lo.2 _ hmem; omega)) (hA230.put hl1 ?_ t5)
  rw [hadd, <- lb _ _ hp]; exact t4
 | some y =>
  rw [hp] at v2
  refine .inr ⟨_, _, _, _, _, _, _, _, _, _, _, _, _, _, _, v2, aj (fun r259 w260 hr259 hb259 k259 hs259 => ?_)⟩
  have k260 := kd.trans k259
  have hA260 := hA1.af k260
  obtain ⟨og7, mg7⟩ := hA260.at' _ hmem
  obtain ⟨esp7, v17, v27⟩ := ey mg7 x.part
  rw [hp] at v27
  obtain ⟨es7, g17, g27, g37⟩ := hA260.get hky
  rw [hl1] at g37
  refine ⟨⟨esp7, v17, .inr ⟨_, _, _, _, _, _, _, _, _, _, _, _, _, _, _, v27, rfl⟩⟩, ⟨x.part, (s107.af k260).cell 9 (by simp [pgE, bl]), rfl⟩, ⟨some g.m, og7.cell 2 (by simp), rfl⟩, ⟨es7, g17, g27, _, g37, rfl⟩, ⟨_, _, (s150.af k260).row, rfl⟩, ?_⟩
  have o259 : ae w260 r259 (pgC bX) := ae.cn hb259
  obtain ⟨c7, c8⟩ := o259.bx (cs := pgC y) (n := 15) rfl rfl
  refine ⟨c7, fun w283 hw283 => ?_⟩
  obtain ⟨p259, x283, z283⟩ := c8 w283 hw283
  have hsd : w172.drew.heap.size = w172.heap.size := rfl
  have k283 : ai w172 w283 := k260.ext x283 (fun k hk => by omega)
  refine fin _ (kw172.trans k283) ?_
  rw [hA1.there hl1 (by rw [hp]; rfl)]
  exact hA1.af k283
end Go.D
namespace Go.D
open Go Go.Proofs
theorem j2 (s1 s2 : Slc) (b1 b2 : List UInt8) (w : World) (h1 : ag w s1 b1) (h2 : ag w s2 b2) (hl : b1.length <= 2 ^ 40) :
  Calls Tryd.prog aY ⟨[s1.v, s2.v]⟩ w fun e w' => e = .returned (.bool (decide (b1 = b2))) /\ ai w w' := by
 have l1 := h1.1
 have l2 := h2.1
 refine dY _ _ ?_
 unfold c9
 refine dp (fun hne => ⟨?_, Ext.refl _ _⟩) (fun heq => ?_)
 ·rw [decide_eq_false (fun h => hne (by rw [l1, l2, h]))]
 have hll : b1.length = b2.length := by omega
 refine ⟨fun i w6 => ∃ n : Nat, i = (n : Int) /\ n <= b1.length /\ ai w w6 /\ b1.take n = b2.take n, fun i _ => b1.length - i.toNat, ⟨0, rfl, by omega, Ext.refl _ _, rfl⟩, ?_⟩
 rintro i5 w6 ⟨n, rfl, hn, k6, ht⟩
 intro u7 u8 u9 u10 u11 u12 u13 u14 u15 u16 u17 u18 u19 u20
 refine ab (fun hlt => ?_) (fun hge => ?_)
 ·have kd := k6.drew
  obtain ⟨a, ha, hc⟩ := fb (ar h1 kd) (i := n) (by omega)
  obtain ⟨a', ha', hc'⟩ := fb (ar h2 kd) (i := n) (by omega)
  rw [ha, ha']
  have e1 : (Int.toNat ((n : Nat) : Int)) * 1 = n := by omega
  refine ⟨by omega, by omega, _, by rw [e1]; exact hc, by omega, by omega, _, by rw [e1]; exact hc', ?_⟩
  have hn1 : n < b1.length := by omega
  have hn2 : n < b2.length := by omega
  refine dp (fun hne => ⟨?_, kd⟩) (fun he => ⟨bb (by omega), ⟨n + 1, by omega, by omega, kd, ?_⟩, by dsimp only; omega⟩)
  ·rw [decide_eq_false (fun h => hne (by subst h; rfl))]
  ·have : b1[n] = b2[n] := by
    have hx : ((b1[n].toNat : Nat) : Int) = ((b2[n].toNat : Nat) : Int) := he
    exact UInt8.toNat_inj.1 (by omega)
   rw [List.take_add_one, List.take_add_one, ht, List.getElem?_eq_getElem hn1, List.getElem?_eq_getElem hn2, this]
 ·have : n = b1.length := by omega
  subst this
  rw [List.take_length, hll, List.take_length] at ht
  exact ⟨by rw [decide_eq_true ht], k6⟩
abbrev Fd := Int × Int × Int × Int × List UInt8
def au (l : List (Int × Pg)) (n : Nat) : List Pg := (List.range n).map fun (i : Nat) => (lookL l (i : Int)).getD bX
def cS (f0 : Int) (ps : List Pg) : Int := ps.foldl (fun f p => if p.at' < f then p.at' else f) f0
def fo (ps : List Pg) : Int := ps.foldl (fun m p => if p.at' > m then p.at' else m) 0
def eA (ps : List Pg) : List UInt8 := ps.flatMap (·.dat)
def bz (k : Ky) (l : List (Int × Pg)) : Option Fd :=
 if ¬ ((l.length : Nat) : Int) = k.2 then none
 else if (eA (au l k.2.toNat)).length < 4 then none
 else if bc ((eA (au l k.2.toNat)).drop 4) = eA (au l k.2.toNat) then
  some (k.1, k.2, cS ((lookL l 0).getD bX).at' (au l k.2.toNat), fo (au l k.2.toNat), (eA (au l k.2.toNat)).drop 4)
 else none
def fdC (x : Fd) (s : Slc) : List Value := [.int .i64 x.1, .int .i64 x.2.1, .int .i64 x.2.2.1, .int .i64 x.2.2.2.1, s.v]
def fd0 : List Value := [.int .i64 0, .int .i64 0, .int .i64 0, .int .i64 0, (⟨none, 0, 0⟩ : Slc).v]
theorem fp (l : List (Int × Pg)) (n : Nat) : au l (n + 1) = au l n ++ [(lookL l (n : Int)).getD bX] := by
 unfold au
 rw [List.range_succ, List.map_append]; rfl
theorem lS {l : List (Int × Pg)} {n : Nat} (hn : (l.map (·.1)).Nodup) (hr : ∀ q ∈ l, 0 <= q.1 /\ q.1 < (n : Int)) (hl : l.length = n) {i : Nat} (hi : i < n) : ∃ p, lookL l (i : Int) = some p := by
 cases hp : lookL l (i : Int) with
 | some p => exact ⟨p, rfl⟩
 | none =>
  exfalso
  have hni := ep.1 hp
  have h1 : (((i : Nat) : Int) :: l.map (·.1)).Nodup := List.nodup_cons.2 ⟨hni, hn⟩
  have h2 : (((i : Nat) : Int) :: l.map (·.1)) ⊆ (List.range n).map fun (j : Nat) => (j : Int) := by
   intro x hx
   have hx2 : 0 <= x /\ x < (n : Int) := by
    rcases List.mem_cons.1 hx with rfl | hx
    ·omega
    ·obtain ⟨q, hq, rfl⟩ := List.mem_map.1 hx
     exact hr q hq
   exact List.mem_map.2 ⟨x.toNat, List.mem_range.2 (by omega), by omega⟩
  have := h1.length_le_of_subset h2
  simp at this
  omega
theorem mT {n : Nat} {ps : List Pg} (h : ∀ p ∈ ps, p.dat.length <= n) : (eA ps).length <= ps.length * n := by
 unfold eA
 induction ps with
 | nil => simp
 | cons p ps ih =>
  rw [List.flatMap_cons, List.length_append, List.length_cons, Nat.add_mul]
  have := h p (by simp)
  have := ih (fun q hq => h q (by simp [hq]))
  omega
theorem kI (r m : Nat) (k : Ky) (l : List (Int × Pg)) (w : World) (hr : ae w r [.int .i64 k.1, .int .i64 k.2, .map (some m)]) (hm : cB PM w m l) (hk : lR k)
  (hl : ∀ q ∈ l, (0 <= q.1 /\ q.1 < k.2) /\ eN w q.2 /\ q.2.dat.length <= 256) :
  Calls Tryd.prog bh ⟨[.pointer (some ⟨r, 0, none⟩)]⟩ w fun x w' => ai w w' /\
   match bz k l with
   | none => x = .returned (.tuple ⟨[.agg ⟨fd0⟩, .bool false]⟩)
   | some f => ∃ s : Slc, x = .returned (.tuple ⟨[.agg ⟨fdC f s⟩, .bool true]⟩) /\ ag w' s f.2.2.2.2 /\ s.l <= s.c /\ cx w s := by
 refine dv _ ?_
 unfold cz
 refine aj (fun r2 w3 hr2 hb2 k2 hs2 => ?_)
 have o2 : ae w3 r2 fd0 := ae.cn hb2
 have k3 := k2.drew
 have hm3 := hm.af k3
 obtain ⟨es, m1, m2⟩ := hm3.at.size
 refine ⟨some m, (hr.af k3).cell 2 (by simp), es, m1, k.2, (hr.af k3).cell 1 (by simp), ?_⟩
 rw [m2]
 refine dp (fun hne => ?_) (fun heq => ?_)
 ·obtain ⟨c1, c2⟩ := (o2.af (Ext.drew dq _)).bx (cs := fd0) (n := 5) rfl rfl
  refine ⟨c1, fun w9 hw9 => ?_⟩
  obtain ⟨p2, x9, z9⟩ := c2 w9 hw9
  refine ⟨_, _, _, _, _, p2.row, k3.ext x9 (fun j hj => by omega), ?_⟩
  have : bz k l = none := by unfold bz; rw [if_pos hne]
  rw [this]
  rfl
 obtain ⟨N, hN⟩ : ∃ N : Nat, N = k.2.toNat := ⟨_, rfl⟩
 have hk2 : k.2 = (N : Int) := by have := hk.2; omega
 have hN1 : 1 <= N /\ N <= 64 := by have := hk.2; omega
 have hall : ∀ {i : Nat}, i < N -> ∃ p, lookL l (i : Int) = some p := fun hi => lS hm.nd (fun q hq => by have := (hl q hq).1; omega) (by omega) hi
 have k4 := k3.drew
 obtain ⟨p0, hp0⟩ := hall (i := 0) (by omega)
 have hp0' : lookL l 0 = some p0 := hp0
 refine ⟨k.1, (hr.af k4).cell 0 (by simp), k.2, (hr.af k4).cell 1 (by simp), some m, (hr.af k4).cell 2 (by simp), ?_⟩
 obtain ⟨es4, g1, g2⟩ := ey (hm.af k4) 0
 rw [hp0'] at g2
 refine ⟨es4, g1, .inr ⟨_, _, _, _, _, _, _, _, _, _, _, _, _, _, _, g2, aj (fun r170 w171 hr170 hb170 k170 hs170 => ?_)⟩⟩
 have k171 := k4.trans k170
 obtain ⟨es5, g3, g4⟩ := ey (hm.af k171) 0
 rw [hp0'] at g4
 refine ⟨⟨es5, g3, .inr ⟨_, _, _, _, _, _, _, _, _, _, _, _, _, _, _, g4, rfl⟩⟩, ⟨some m, (hr.af k171).cell 2 (by simp), rfl⟩, ⟨k.2, (hr.af k171).cell 1 (by simp), rfl⟩, ⟨k.1, (hr.af k171).cell 0 (by simp), rfl⟩, ?_⟩
 have o170 : ae w171 r170 fd0 := ae.cn hb170
 obtain ⟨c1, c2⟩ := o170.bx (cs := [.int .i64 k.1, .int .i64 k.2, .int .i64 p0.at', .int .i64 0, (⟨none, 0, 0⟩ : Slc).v]) (n := 5) rfl rfl
 refine ⟨c1, fun w191 hw191 => ?_⟩
 obtain ⟨p170, x191, z191⟩ := c2 w191 hw191
 have h34 : w3.drew.drew.heap.size = w3.heap.size := rfl
 have z170 := k170.size
 have k191 : ai w w191 := k171.ext x191 (fun j hj => by omega)
 have q2 : ae w191 r2 fd0 := (((o2.af (Ext.drew dq _)).af (Ext.drew dq _)).af k170).ext x191 (fun hh => by omega)
 refine ⟨k.2, (hr.af k191).cell 1 (by simp), ?_⟩
 let I : Slc -> Int -> World -> Prop := fun all i w2 => ∃ n : Nat, i = (n : Int) /\ n <= N /\ ai w w2 /\ Own w2 all 1 ((eA (au l n)).map aJ) /\ ae w2 r2 fd0 /\
  ae w2 r170 [.int .i64 k.1, .int .i64 k.2, .int .i64 (cS p0.at' (au l n)), .int .i64 (fo (au l n)), (⟨none, 0, 0⟩ : Slc).v] /\ (∀ j, aA all j -> r170 < j)
 refine ⟨I, fun _ i _ => N - i.toNat, ⟨0, rfl, by omega, k191, Own.nil _ _, q2, p170, by rintro j ⟨a, ha, _⟩; cases ha⟩, ?_⟩
 rintro all i w198 ⟨n, rfl, hn, k198, hall198, q2, q170, hown⟩
 intro u199 u200 u201 u202 u203 u204 u205 u206 u207 u208 u209 u210 u211 u212 u213 u214 u215 u216 u217 u218 u219 u220 u221 u222 u223 u224 u225 u226
 have hplen : ∀ n', n' <= N -> ∀ p ∈ au l n', p.dat.length <= 256 := by
  intro n' hn' p hp
  obtain ⟨i, hi, rfl⟩ := List.mem_map.1 hp
  obtain ⟨q, hq⟩ := hall (i := i) (by have := List.mem_range.1 hi; omega)
  rw [hq]
  exact (hl _ (bw hq)).2.2
 have hdl : ∀ n', n' <= N -> (eA (au l n')).length <= 64 * 256 := by
  intro n' hn'
  have h1 := mT (hplen n' hn')
  have h2 : (au l n').length = n' := by unfold au; simp
  rw [h2] at h1
  have := Nat.mul_le_mul_right 256 (show n' <= 64 by omega)
  omega
 have hal : all.l = (eA (au l n)).length := hall198.bytes.1
 refine ab (fun hlt => ?_) (fun hge => ?_)
 ·have hnN : n < N := by omega
  obtain ⟨p, hp⟩ := hall hnN
  obtain ⟨es6, g5, g6⟩ := ey (hm.af k198) n
  rw [hp] at g6
  refine ⟨some m, (hr.af k198).cell 2 (by simp), es6, g5, .inr ⟨_, _, _, _, _, _, _, _, _, _, _, _, _, _, _, g6, aj (fun r258 w259 hr258 hb258 k258 hs258 => ?_)⟩⟩
  have o258 : ae w259 r258 (pgC bX) := ae.cn hb258
  obtain ⟨c1, c2⟩ := o258.bx (cs := pgC p) (n := 15) rfl rfl
  refine ⟨c1, fun w260 hw260 => ?_⟩
  obtain ⟨p258, x260, z260⟩ := c2 w260 hw260
  have k260 : ai w198 w260.drew := (k258.ext x260 (fun j hj => by omega)).drew
  have s258 : ae w260.drew r258 (pgC p) := p258.af (Ext.drew dq _)
  have s170 := q170.af k260
  have s2 := q2.af k260
  have r170lt := q170.lt
  have r2lt := q2.lt
  refine ⟨_, s170.cell 2 (by simp), p.at', s258.cell 0 (by simp [pgC]), _, s170.cell 3 (by simp), p.at', s258.cell 0 (by simp [pgC]), ?_⟩
  obtain ⟨c3, c4⟩ := s170.fx 2 (by simp) (.int .i64 (if p.at' < cS p0.at' (au l n) then p.at' else cS p0.at' (au l n)))
  refine ⟨c3, fun w265 hw265 => ?_⟩
  obtain ⟨t170, x265, z265⟩ := c4 w265 hw265
  have n258 : r258 ≠ r170 := by omega
  have t258 := s258.ext x265 n258
  refine ⟨⟨p.at', t258.cell 0 (by simp [pgC]), rfl⟩, ?_⟩
  obtain ⟨c5, c6⟩ := t170.fx 3 (by simp) (.int .i64 (if p.at' > fo (au l n) then p.at' else fo (au l n)))
  refine ⟨c5, fun w267 hw267 => ?_⟩
  obtain ⟨v170, x267, z267⟩ := c6 w267 hw267
  have v258 := t258.ext x267 n258
  refine ⟨p.ds, v258.cell 12 (by simp [pgC]), ?_⟩
  have xx : Ext (fun j => j = r170) w260.drew w267 := x265.trans x267 (fun _ h => h) (fun _ h => .inl h)
  have hr170w : w.heap.size <= r170 := by have := k4.size; omega
  have k267 : ai w w267 := (k198.trans k260).ext xx (fun j hj => by omega)
  have n2 : r2 ≠ r170 := by omega
  have s2' := s2.ext xx n2
  have ha267 : Own w267 all 1 ((eA (au l n)).map aJ) := (hall198.af k260).ext xx (fun j hj hh => by have := hown j hj; omega)
  have hpd : eN w267 p := eg (hl _ (bw hp)).2.1 k267
  have hpl := (hl _ (bw hp)).2.2
  dsimp only at hpl
  refine cY ha267 (by omega) rfl (dT hpd.1) (ij _) (by simp only [Src.n]; have := hdl n (by omega); have := hpd.1.1; omega) (fun s' w' h1 h2 h3 h4 => ?_)
  refine ⟨bb (by omega), ⟨n + 1, by omega, by omega, k267.ext h2 (fun j hj => by have := hown j hj; omega), ?_, s2'.ext h2 (fun hh => by have := hown _ hh; omega), ?_, fun j hj => ?_⟩, by dsimp only; omega⟩
  ·rw [fp, hp]
   unfold eA
   rw [List.flatMap_append, List.map_append]
   simpa [eA] using h1
  ·have := v170.ext h2 (fun hh => by have := hown _ hh; omega)
   rw [fp, hp]
   unfold cS fo
   rw [List.foldl_append, List.foldl_append]
   exact this
  ·rcases h3 j hj with h | h
   ·exact hown j h
   ·have := v170.lt; omega
 have hnN : n = N := by omega
 subst hnN
 have hfin : ∀ b : Bool, b = true -> True := fun _ _ => trivial
 have hkn : k.2.toNat = n := by omega
 have hds := hall198.bytes
 have hcap : all.l <= all.c := hall198.le (by omega)
 -- nothing is found
 have no : ∀ {w5 : World}, ai w w5 -> ae w5 r2 fd0 -> bz k l = none -> aO w5 (⟨r2, 0, none⟩ : Addr) 5 /\ ∀ w271 : World, w271 = setCells w5 (⟨r2, 0, none⟩ : Addr) 0 fd0 ->
   ae w271 r2 fd0 /\ (ai w w271 /\ match bz k l with
   | none => Ending.returned (.tuple ⟨[.agg ⟨fd0⟩, .bool false]⟩) = .returned (.tuple ⟨[.agg ⟨fd0⟩, .bool false]⟩)
   | some f => ∃ s : Slc, Ending.returned (.tuple ⟨[.agg ⟨fd0⟩, .bool false]⟩) = .returned (.tuple ⟨[.agg ⟨fdC f s⟩, .bool true]⟩) /\ ag w271 s f.2.2.2.2 /\ s.l <= s.c /\ cx w s) := by
  intro w5 k5 o5 hf
  obtain ⟨c1, c2⟩ := o5.bx (cs := fd0) (n := 5) rfl rfl
  refine ⟨c1, fun w9 hw9 => ?_⟩
  obtain ⟨p2, x9, z9⟩ := c2 w9 hw9
  refine ⟨p2, k5.ext x9 (fun j hj => by omega), ?_⟩
  rw [hf]
 refine ab (fun h4 => ?_) (fun h4 => ?_)
 ·have hf : bz k l = none := by
   unfold bz
   rw [hkn, if_neg (fun h => h heq), if_pos (by omega)]
  obtain ⟨d1, d2⟩ := no k198 q2 hf
  refine ⟨d1, fun w271 hw271 => ?_⟩
  obtain ⟨d3, d4⟩ := d2 w271 hw271
  exact ⟨_, _, _, _, _, d3.row, d4⟩
 refine ⟨by omega, by omega, by omega, by omega, ?_⟩
 have hsub := fG hds (lo := 4) (hi := all.l) (c := all.c) (by omega) (by omega) hcap
 rw [hal, List.take_length, <- hal] at hsub
 refine (fM _ _ w198 hsub (by have := hdl n (by omega); simp; omega)).mono ?_
 rintro e w279 ⟨s280, rfl, h280, f280, k279⟩
 refine ⟨s280, rfl, ?_⟩
 refine (j2 s280 all _ _ w279 h280.bytes (ar hds k279) (by rw [cQ]; have := hdl n (by omega); simp; omega)).mono ?_
 rintro e w282 ⟨rfl, k282⟩
 have k198282 := k279.trans k282
 have k282' := k198.trans k198282
 refine ⟨_, rfl, dp (fun hne => ?_) (fun he => ?_)⟩
 ·have hf : bz k l = none := by
   unfold bz
   rw [hkn, if_neg (fun h => h heq), if_neg (by omega), if_neg hne]
  obtain ⟨d1, d2⟩ := no k282' (q2.af k198282) hf
  refine ⟨d1, fun w284 hw284 => ?_⟩
  obtain ⟨d3, d4⟩ := d2 w284 hw284
  exact ⟨_, _, _, _, _, d3.row, d4⟩
 have hf : bz k l = some (k.1, k.2, cS p0.at' (au l n), fo (au l n), (eA (au l n)).drop 4) := by
  unfold bz
  rw [hkn, if_neg (fun h => h heq), if_neg (by omega), if_pos he, hp0']
  rfl
 refine ⟨by omega, by omega, by omega, by omega, ?_⟩
 obtain ⟨c3, c4⟩ := (q170.af k198282).fx 4 (by simp) (Slc.sub all 1 4 all.l all.c).v
 refine ⟨c3, fun w291 hw291 => ?_⟩
 obtain ⟨v170, x291, z291⟩ := c4 w291 hw291
 refine ⟨_, _, _, _, _, v170.row, ?_⟩
 have hr170w : w.heap.size <= r170 := by have := k4.size; omega
 have n2 : r2 ≠ r170 := by omega
 have v2 := (q2.af k198282).ext x291 n2
 have k291 : ai w w291 := k282'.ext x291 (fun j hj => by omega)
 obtain ⟨c5, c6⟩ := v2.bx (cs := [.int .i64 k.1, .int .i64 k.2, .int .i64 (cS p0.at' (au l n)), .int .i64 (fo (au l n)), (Slc.sub all 1 4 all.l all.c).v]) (n := 5) rfl rfl
 refine ⟨c5, fun w297 hw297 => ?_⟩
 obtain ⟨p2, x297, z297⟩ := c6 w297 hw297
 refine ⟨_, _, _, _, _, p2.row, k291.ext x297 (fun j hj => by omega), ?_⟩
 rw [hf]
 have hob : ∀ j, aA (Slc.sub all 1 4 all.l all.c) j -> aA all j := by
  rintro j ⟨a, ha, rfl⟩
  unfold Slc.sub at ha
  dsimp only at ha
  cases hpp : all.p with
  | none => rw [hpp] at ha; simp at ha
  | some a0 =>
   rw [hpp] at ha
   refine ⟨a0, hpp, ?_⟩
   simp at ha
   split at ha <;> (cases ha; simp [bO])
 refine ⟨_, rfl, ?_, by simp only [Slc.sub]; omega, fun j hj => by have := hown j (hob j hj); omega⟩
 have hb1 := ar hsub k198282
 exact cX (cX hb1 x291 (fun j hj hh => by have := hown j (hob j hj); omega)) x297 (fun j hj hh => by have := hown j (hob j hj); omega)
end Go.D
namespace Go.D
open Go Go.Proofs
set_option maxRecDepth 100000 in
theorem kJ (n : Nat) (hn : n <= 200) (w : World) : Calls Tryd.prog cp ⟨[.int .u64 (n : Int)]⟩ w fun e w' => ∃ k : Int, e = .returned (.int .i64 k) /\ w' = w := by
 have h64 : Calls Tryd.prog bW ⟨[.int .u64 (n : Int)]⟩ w fun e w' => ∃ k : Int, e = .returned (.int .i64 k) /\ w' = w := by
  refine eL _ ?_
  unfold dK
  refine ⟨fun x m w2 => x = n /\ m = 0 /\ w2 = w, ab (fun h => by omega) (fun _ => ⟨rfl, rfl, rfl⟩), ?_⟩
  rintro x m w2 ⟨rfl, rfl, rfl⟩
  intros
  refine ⟨fun x m w3 => x = n /\ m = 0 /\ w3 = w2, ab (fun h => by omega) (fun _ => ⟨rfl, rfl, rfl⟩), ?_⟩
  rintro x m w3 ⟨rfl, rfl, rfl⟩
  intros
  refine ab (fun h => by omega) (fun _ => ?_)
  have hw : IntKind.wrap .u8 (n : Int) = n := bd (oE (by omega))
  rw [hw]
  have hb : ∀ u : UInt8, (u.toNat : Int) < 256 := fun u => by have := u.toNat_lt; omega
  refine ⟨by omega, ?_, bb ?_, bb ?_, _, rfl, rfl⟩
  ·have e : ∀ (l : List UInt8), l.length = 256 -> (n : Int) < ((l.length : Nat) : Int) := fun l hl => by rw [hl]; omega
   exact e _ rfl
  ·constructor
   ·exact Int.le_trans (by decide) (Int.natCast_nonneg _)
   ·exact Int.le_trans (Int.le_of_lt (hb _)) (by decide)
  ·rw [Int.zero_add]; constructor
   ·exact Int.le_trans (by decide) (Int.natCast_nonneg _)
   ·exact Int.le_trans (Int.le_of_lt (hb _)) (by decide)
 refine fz _ ?_
 unfold eG
 refine h64.mono ?_
 rintro e w' ⟨k, rfl, rfl⟩
 exact ⟨k, rfl, k, rfl, rfl⟩
theorem iY {x : Fd} {s : Slc} {k : Nat} (h : dJ (fdC x s) k) : 0 < s.l /\ aA s k := by
 obtain ⟨s', hs, h1, h2⟩ := h
 have : s' = s := by
  obtain ⟨p, l, c⟩ := s
  obtain ⟨p', l', c'⟩ := s'
  simp [fdC, Slc.v] at hs
  obtain ⟨rfl, rfl, rfl⟩ := hs
  rfl
 subst this
 exact ⟨h1, h2⟩
def FdR : lL Fd where
 n := 5
 pos := by omega
 R w x cs := ∃ s : Slc, cs = fdC x s /\ ag w s x.2.2.2.2 /\ s.l <= s.c
 len := by rintro w x cs ⟨s, rfl, _⟩; rfl
 one := by rintro w x cs ⟨s, rfl, _⟩; intro v hv; simp [fdC] at hv; rcases hv with rfl | rfl | rfl | rfl | rfl <;> rfl
 ext := by
  rintro M w w' x cs ⟨s, rfl, h, h2⟩ he hm
  exact ⟨s, rfl, aF h he (fun h0 k hk => hm k ⟨s, by simp [fdC], h0, hk⟩), h2⟩
 lt := by
  rintro w x cs ⟨s, rfl, h, _⟩ k hk
  obtain ⟨h0, hk⟩ := iY hk
  exact ee h h0 k hk
theorem fA (s : Slc) (n : Nat) (w : World) (hn : n <= 1) :
  Calls Tryd.prog aD ⟨[s.v, .int .i64 0, .int .i64 (n : Int), .func (.func bq) ⟨[]⟩ ⟨[]⟩]⟩ w fun e w' => e = .returned (.tuple #[]) /\ w' = w := by
 refine aV _ _ _ ?_
 unfold aE
 refine ⟨bb (by omega), fun i w7 => i = 1 /\ w7 = w, fun _ _ => 0, ⟨by omega, rfl⟩, ?_⟩
 rintro i w7 ⟨rfl, rfl⟩
 intros
 exact ab (fun h => by omega) (fun _ => ⟨rfl, rfl⟩)
theorem kK (s : Slc) (n : Nat) (k : Int) (w : World) (hn : n <= 1) :
  Calls Tryd.prog av ⟨[s.v, .int .i64 0, .int .i64 (n : Int), .int .i64 k, .func (.func bq) ⟨[]⟩ ⟨[]⟩]⟩ w fun e w' => e = .returned (.tuple #[]) /\ w' = w := by
 refine bn _ _ _ _ ?_
 unfold aK
 refine ⟨fun a b l p q w7 => a = 0 /\ b = n /\ w7 = w, fun _ _ _ _ _ _ => 0, ⟨rfl, rfl, rfl⟩, ?_⟩
 rintro a b l p q w7 ⟨rfl, rfl, rfl⟩
 intros
 refine ⟨bb (by omega), ab (fun _ => ?_) (fun h => by omega)⟩
 refine (fA s n _ hn).mono ?_
 rintro e w150 ⟨rfl, rfl⟩
 exact ⟨rfl, rfl, rfl⟩
theorem j3 (s : Slc) (w : World) (hn : s.l <= 1) :
  Calls Tryd.prog a5 ⟨[s.v, .func (.func bq) ⟨[]⟩ ⟨[]⟩]⟩ w fun e w' => e = .returned (.tuple #[]) /\ w' = w := by
 refine bQ _ ?_
 unfold aU
 rw [show IntKind.wrap .u64 ((s.l : Nat) : Int) = ((s.l : Nat) : Int) from bd (my (by omega))]
 refine (kJ s.l (by omega) w).mono ?_
 rintro e w3 ⟨k, rfl, rfl⟩
 refine ⟨k, rfl, (kK s s.l k _ hn).mono ?_⟩
 rintro e w6 ⟨rfl, rfl⟩
 exact ⟨rfl, rfl, rfl⟩
def kL (sh : Int) (L : List Pg) (G : List (Ky × List (Int × Pg))) : Prop :=
 ∀ e ∈ G, ∀ q ∈ e.2, q.2 ∈ L /\ q.1 = q.2.part /\ aM sh q.2 = true /\ (q.2.up, q.2.parts) = e.1
theorem mU {l : List (Int × Pg)} {p : Pg} {q : Int × Pg} (h : q ∈ cq l p) : q ∈ l \/ q = (p.part, p) := by
 unfold cq at h
 split at h
 ·exact .inl h
 ·rcases List.mem_append.1 h with h | h
  ·exact .inl h
  ·exact .inr (List.mem_singleton.1 h)
theorem mV {sh : Int} {L : List Pg} {G : List (Ky × List (Int × Pg))} {p : Pg} (h : kL sh L G) (hp : p ∈ L) (ht : aM sh p = true) : kL sh L (fl G p) := by
 have key : ∀ G' : List (Ky × List (Int × Pg)), kL sh L G' -> kL sh L (G'.map fun e => if e.1 = (p.up, p.parts) then (e.1, cq e.2 p) else e) := by
  intro G' h' e he q hq
  obtain ⟨e0, h0, rfl⟩ := List.mem_map.1 he
  by_cases hk : e0.1 = (p.up, p.parts)
  ·rw [if_pos hk] at hq ⊢
   rcases mU hq with h1 | rfl
   ·exact h' e0 h0 q h1
   ·exact ⟨hp, rfl, ht, hk.symm⟩
  ·rw [if_neg hk] at hq ⊢
   exact h' e0 h0 q hq
 cases hl : lookL G (p.up, p.parts) with
 | some l => rw [gS (by rw [hl]; rfl)]; exact key G h
 | none =>
  rw [gR hl]
  refine key _ (fun e he q hq => ?_)
  rcases List.mem_append.1 he with h1 | h1
  ·exact h e h1 q hq
  ·rw [List.mem_singleton] at h1; subst h1; simp at hq
theorem iv {sh : Int} {L : List Pg} : ∀ (ps : List Pg) (G : List (Ky × List (Int × Pg))), (∀ p ∈ ps, p ∈ L /\ aM sh p = true) -> kL sh L G -> kL sh L (ps.foldl fl G)
 | [], G, _, h => h
 | p :: ps, G, hp, h => iv ps (fl G p) (fun q hq => hp q (by simp [hq])) (mV h (hp p (by simp)).1 (hp p (by simp)).2)
theorem oq (sh : Int) (L : List Pg) : kL sh L (cG sh L) :=
 iv _ _ (fun p hp => by rw [List.mem_filter] at hp; exact hp) (fun e he => by simp at he)
def fN (sh : Int) (L : List Pg) : List Fd := (cG sh L).filterMap fun e => bz e.1 e.2
end Go.D
namespace Go.D
open Go Go.Proofs
def j4 (A : List (Ky × cE)) (ks : List Ky) : List Fd := ks.filterMap fun k => bz k (((lookL A k).map (·.l)).getD [])
theorem lT (A : List (Ky × cE)) (ks : List Ky) (k : Ky) : j4 A (ks ++ [k]) = j4 A ks ++ (bz k (((lookL A k).map (·.l)).getD [])).toList := by
 unfold j4
 rw [List.filterMap_append]
 congr 1
theorem mW {A : List (Ky × cE)} (hA : A.length <= 1) {ks : List Ky} (hn : ks.Nodup) (h1 : ∀ k ∈ ks, k ∈ A.map (·.1)) (h2 : ∀ p ∈ A, p.1 ∈ ks) : j4 A ks = (de A).filterMap fun e => bz e.1 e.2 := by
 match A, hA with
 | [], _ =>
  have : ks = [] := by
   cases ks with
   | nil => rfl
   | cons k ks => exact absurd (h1 k (by simp)) (by simp)
  subst this; rfl
 | [(k, g)], _ =>
  have hk : k ∈ ks := h2 (k, g) (by simp)
  have hks : ks = [k] := by
   match ks, hn, h1, hk with
   | [a], _, _, hk => rw [List.mem_singleton] at hk; rw [hk]
   | a :: b :: l, hn, h1, _ =>
    have e1 : a = k := by simpa using h1 a (by simp)
    have e2 : b = k := by simpa using h1 b (by simp)
    rw [List.nodup_cons] at hn
    exact absurd (by rw [e1, e2]; simp) hn.1
  subst hks
  simp [j4, de, lookL, List.filterMap_cons]
theorem iw (s : Slc) (sh : Int) (L : List Pg) (css : List (List Value)) (w : World) (hR : Rows PgR w s L css) (hL : L.length <= 2 ^ 20) (hG1 : (cG sh L).length <= 1) :
  Calls Tryd.prog ct ⟨[s.v, .int .i64 sh]⟩ w fun x w' => ∃ (t : Slc) (fs : List (List Value)), x = .returned t.v /\ ai w w' /\ Rows FdR w' t (fN sh L) fs /\ cx w t /\ (∀ j, db fs j -> w.heap.size <= j) := by
 refine hH _ _ ?_
 unfold gN
 refine (j1 s sh L css w hR hL).mono ?_
 rintro e w4 ⟨m, A, rfl, k4, hA, hp⟩
 have hAlen : A.length <= 1 := by
  have : (de A).length = A.length := by unfold de; simp
  rw [<- this, hp]; exact hG1
 have hinv := oq sh L
 rw [<- hp] at hinv
 obtain ⟨it, hit, hnew⟩ := hA.map.range (K := fun r7 w8 => r7 = w4.heap.size /\ ed KM w8 r7 m A [] /\ ai w4 w8 /\ w8.heap.size = r7 + 1) (fun r w1 h1 h2 h3 h4 => ⟨h1, h2, h3, h4⟩)
 refine ⟨some m, rfl, it, hit, ?_⟩
 intro r7 w8 hr7' hw8'
 obtain ⟨hr7, hit8, k8, hs8⟩ := hnew r7 w8 hr7' hw8'
 have hml := hA.map.lt
 let I : Slc -> World -> Prop := fun out w12 => ∃ ks, ed KM w12 r7 m A ks /\ ks.Nodup /\ (∀ k ∈ ks, k ∈ A.map (·.1)) /\ ai w w12 /\ aW w12 w.heap.size m A /\
  ∃ fs, Rows FdR w12 out (j4 A ks) fs /\ (∀ j, aA out j -> r7 < j) /\ ∀ j, db fs j -> r7 < j
 refine ⟨I, fun _ w12 => A.length - mF w12 r7, ⟨[], hit8, by simp, by simp, k4.trans k8, hA.af k8, [], Rows.nil _ _, (by rintro j ⟨a, ha, _⟩; cases ha), (by rintro j ⟨cs, hc, _⟩; simp at hc)⟩, ?_⟩
 rintro out w12 ⟨ks, hit12, hnd, hks, k12, hA12, fs, hfs, hout, hfoot⟩
 intros
 have hr7w : w.heap.size <= r7 := by have := k4.size; omega
 refine hit12.next hA.map.nd (fun hall => ?_) (fun k a w32 hka hkn hit32 x32 z32 hent => ?_)
 ·have e1 := mW hAlen hnd hks hall
  rw [e1] at hfs
  have hlen : out.l <= 1 := by
   rw [hfs.sl]
   refine Nat.le_trans (List.length_filterMap_le _ _) ?_
   unfold de; simpa using hAlen
  refine (j3 out w12 hlen).mono ?_
  rintro e w57 ⟨rfl, rfl⟩
  refine ⟨rfl, out, fs, rfl, k12, ?_, fun j hj => by have := hout j hj; omega, fun j hj => by have := hfoot j hj; omega⟩
  unfold fN
  rw [<- hp]; exact hfs
 have hksl : ks.length < A.length := by
  have h1 : (ks ++ [k]).Nodup := by
   rw [List.nodup_append]
   exact ⟨hnd, by simp, fun x hx y hy => by simp at hy; subst hy; rintro rfl; exact hkn hx⟩
  have h2 : (ks ++ [k]) ⊆ A.map (·.1) := by
   intro x hx
   rcases List.mem_append.1 hx with hx | hx
   ·exact hks x hx
   ·rw [List.mem_singleton] at hx; subst hx; exact List.mem_map.2 ⟨(x, a), hka, rfl⟩
  have := h1.length_le_of_subset h2
  simp at this
  omega
 have hseen12 := hit12.seen
 have r7lt : r7 < w12.heap.size := by
  obtain ⟨_, _, _, _, _, _, h1, _⟩ := hit12
  exact aS h1
 have k32 : ai w w32 := k12.ext x32 (fun j hj => by omega)
 have obj7 : ∀ {r : Nat} {c : List Value}, ae w12 r c -> r ≠ r7 := by
  rintro r c ⟨T, f, h, _⟩ rfl
  obtain ⟨_, _, _, _, _, _, h1, _⟩ := hit12
  rw [h] at h1; cases h1
 have map7 : ∀ {r : Nat} {l : List (Int × Pg)}, cB PM w12 r l -> r ≠ r7 := by
  rintro r l h rfl
  obtain ⟨es, ck, h2, _⟩ := h.at
  obtain ⟨_, _, _, _, _, _, h1, _⟩ := hit12
  rw [h2] at h1; cases h1
 have hA32 : aW w32 w.heap.size m A := ⟨hA12.map.ext x32 (fun hh => by omega), hA12.ok, fun e he => ⟨(hA12.at' e he).1.ext x32 (obj7 (hA12.at' e he).1), (hA12.at' e he).2.ext x32 (map7 (hA12.at' e he).2)⟩, hA12.mm, hA12.mo, hA12.lo⟩
 have hfs32 : Rows FdR w32 out (j4 A ks) fs := hfs.ext x32 (fun j hj hh => by have := hout j hj; omega) (fun j hj hh => by have := hfoot j hj; omega)
 obtain ⟨oa, ma⟩ := hA32.at' _ hka
 have hlk : lookL A k = some a := fg hA.map.nd hka
 have hR32 := hR.af k32
 refine ⟨_, _, hent, Sh.ny (s := .ptr) (x := (some ⟨a.r, 0, none⟩ : Option Addr)) ?_⟩
 have hpg : ∀ q ∈ a.l, (0 <= q.1 /\ q.1 < k.2) /\ eN w32 q.2 /\ q.2.dat.length <= 256 := by
  intro q hq
  obtain ⟨h1, h2, h3, h4⟩ := hinv (k, a.l) (List.mem_map.2 ⟨(k, a), hka, rfl⟩) q hq
  obtain ⟨_, _, _, _, h5⟩ := gT h3
  have h6 := h5.2.2.2.1
  have hparts : q.2.parts = k.2 := congrArg Prod.snd h4
  obtain ⟨i, hi, hgi⟩ := List.getElem_of_mem h1
  have hd := hR32.row i (by rw [hR32.len]; exact hi) hi
  rw [hgi] at hd
  exact ⟨by rw [h2, <- hparts]; exact h6, hd.2.1, by have := h5.2.2.2.2; have := hd.2.1.1.1; omega⟩
 refine (kI a.r a.m k a.l w32 oa ma (hA.ok _ hka) hpg).mono ?_
 rintro e w37 ⟨k37, hfnd⟩
 have hlt32 : w32.heap.size = w12.heap.size := z32
 -- the next state
 have hnext : ∀ (w5 : World) (out' : Slc) (fs' : List (List Value)) , ai w32 w5 -> True -> True := fun _ _ _ _ _ => trivial
 have hnd' : (ks ++ [k]).Nodup := by
  rw [List.nodup_append]
  exact ⟨hnd, by simp, fun x hx y hy => by simp at hy; subst hy; rintro rfl; exact hkn hx⟩
 have hks' : ∀ x ∈ ks ++ [k], x ∈ A.map (·.1) := by
  intro x hx
  rcases List.mem_append.1 hx with hx | hx
  ·exact hks x hx
  ·rw [List.mem_singleton] at hx; subst hx; exact List.mem_map.2 ⟨(x, a), hka, rfl⟩
 have hsn := lT A ks k
 rw [hlk] at hsn
 dsimp only [Option.map_some, Option.getD_some] at hsn
 cases hf : bz k a.l with
 | none =>
  rw [hf] at hfnd hsn
  dsimp only at hfnd
  subst hfnd
  refine ⟨_, _, _, _, _, _, rfl, aj (fun r44 w45 hr44 hb44 k44 hs44 => ?_)⟩
  have o44 : ae w45 r44 fd0 := ae.cn hb44
  obtain ⟨c1, c2⟩ := o44.bx (cs := fd0) (n := 5) rfl rfl
  refine ⟨c1, fun w46 hw46 => ?_⟩
  obtain ⟨p44, x46, z46⟩ := c2 w46 hw46
  have z37 := k37.size
  have k46 : ai w32 w46 := (k37.trans k44).ext x46 (fun j hj => by omega)
  refine bp (fun h => by cases h) (fun _ => ?_)
  have hit46 := hit32.ext k46 (fun h => h) (fun h => h)
  refine ⟨⟨ks ++ [k], hit46, hnd', hks', k32.trans k46, hA32.af k46, fs, ?_, hout, hfoot⟩, ?_⟩
  ·rw [hsn]
   simpa using hfs32.af k46
  ·have := hit46.seen
   dsimp only
   rw [this, hseen12, List.length_append]
   simp
   omega
 | some f =>
  rw [hf] at hfnd hsn
  dsimp only at hfnd
  obtain ⟨sd, rfl, hsd, hsdc, hsdf⟩ := hfnd
  refine ⟨_, _, _, _, _, _, rfl, aj (fun r44 w45 hr44 hb44 k44 hs44 => ?_)⟩
  have o44 : ae w45 r44 fd0 := ae.cn hb44
  obtain ⟨c1, c2⟩ := o44.bx (cs := fdC f sd) (n := 5) rfl rfl
  refine ⟨c1, fun w46 hw46 => ?_⟩
  obtain ⟨p44, x46, z46⟩ := c2 w46 hw46
  have z37 := k37.size
  have k3746 : ai w37 w46 := k44.ext x46 (fun j hj => by omega)
  have k46 : ai w32 w46 := k37.trans k3746
  refine bp (fun _ => ?_) (fun h => by cases h)
  refine ⟨_, _, _, _, _, p44.row, aj (fun r52 w53 hr52 hb52 k52 hs52 => ?_)⟩
  have k53 := k46.trans k52
  have hfs53 := hfs32.af k53
  refine hfs53.snoc (cs := fdC f sd) (x := f) (z := _) rfl ⟨sd, rfl, ar hsd (k3746.trans k52), hsdc⟩ (fun j hj ho => ?_) hb52 (.inl (by simp)) ?_ (fun s' w' g1 g2 g3 => ?_)
  ·have h1 := hsdf j (iY hj).2
   have h2 := hfs32.lt j ho
   omega
  ·have : (j4 A ks).length <= ks.length := List.length_filterMap_le _ _
   omega
  have hit' := (hit32.ext k53 (fun h => h) (fun h => h)).ext g2 (fun hh => by have := hout _ hh; omega) (fun hh => by have := hout _ hh; omega)
  have hout' : ∀ j, aA s' j -> r7 < j := fun j hj => (g3 j hj).elim (fun h => hout j h) (fun h => by have := k53.size; omega)
  have hA' : aW w' w.heap.size m A := by
   have h0 := hA32.af k53
   refine ⟨h0.map.ext g2 (fun hh => by have := hout _ hh; omega), h0.ok, fun e he => ?_, h0.mm, h0.mo, h0.lo⟩
   obtain ⟨q1, q2⟩ := h0.at' e he
   have l1 := (hA.at' e he).1.lt
   have l2 := (hA.at' e he).2.lt
   exact ⟨q1.ext g2 (fun hh => by have := hout _ hh; omega), q2.ext g2 (fun hh => by have := hout _ hh; omega)⟩
  refine ⟨⟨ks ++ [k], hit', hnd', hks', (k32.trans k53).ext g2 (fun j hj => by have := hout j hj; omega), hA', fs ++ [fdC f sd], ?_, hout', ?_⟩, ?_⟩
  ·rw [hsn]; exact g1
  ·rintro j ⟨cs, hc, hj⟩
   rcases List.mem_append.1 hc with h | h
   ·exact hfoot j ⟨cs, h, hj⟩
   ·rw [List.mem_singleton] at h; subst h
    have := hsdf j (iY hj).2
    omega
  ·have := hit'.seen
   dsimp only
   rw [this, hseen12, List.length_append]
   simp
   omega
end Go.D
namespace Go.D
open Go Go.Proofs
theorem fB (s : Slc) (w : World) :
  Calls Tryd.prog a9 ⟨[s.v]⟩ w fun e w' => ∃ b, e = .returned (.func (.func aB) ⟨[]⟩ ⟨[fj b]⟩) /\ ae w' b [s.v] /\ ai w w' /\ w.heap.size <= b := by
 refine dj _ ?_
 unfold cd
 exact aj (fun r w1 hr hb hk hs => ⟨r, rfl, ae.cn hb, hk, by omega⟩)
theorem eO (s : Slc) (xs : List Fd) (css : List (List Value)) (lr b : Nat) (J : Nat -> World -> Prop) (X : World -> Prop) (hl : xs.length <= 2 ^ 40)
  (hJ : ∀ k w, J k w -> w.cell? ⟨b, 0, none⟩ = some s.v /\ Rows FdR w s xs css)
  (hstep : ∀ k (hk : k < xs.length) (w : World) (sd : Slc), J (k + 1) w -> ag w sd xs[k].2.2.2.2 -> sd.l <= sd.c -> (∀ j, 0 < sd.l -> aA sd j -> db css j) ->
   cj Tryd.prog lr ⟨[.int .i64 (k : Int), .agg ⟨fdC xs[k] sd⟩]⟩ w fun e w' => (e = .returned (.bool true) /\ J k w') \/ (e = .returned (.bool false) /\ X w'))
  (w : World) (h0 : J xs.length w) :
  Calls Tryd.prog aB ⟨[.func (.yield lr) ⟨[]⟩ ⟨[]⟩, fj b]⟩ w fun e w' => e = .returned (.tuple #[]) /\ (J 0 w' \/ X w') := by
 refine cO _ _ ?_
 unfold bZ
 obtain ⟨hc, hR⟩ := hJ _ _ h0
 have hsl := hR.sl
 refine aq rfl ⟨s, hc, bb (by omega), fun i w2 => ∃ k : Nat, i = (k : Int) - 1 /\ k <= xs.length /\ J k w2, fun i _ => (i + 1).toNat, ⟨xs.length, by omega, by omega, h0⟩, ?_⟩
 rintro i w8 ⟨k, rfl, hk, h8⟩
 intros
 obtain ⟨hc8, hR8⟩ := hJ _ _ h8
 refine ab (fun h1 => ?_) (fun h1 => ⟨rfl, .inl (by rw [show k = 0 by omega] at h8; exact h8)⟩)
 obtain ⟨m, rfl⟩ : ∃ m, k = m + 1 := ⟨k - 1, by omega⟩
 have hm : m < xs.length := by omega
 have hm2 : m < css.length := by rw [hR8.len]; exact hm
 obtain ⟨a, ha, _, hrow⟩ := hR8.get hm2
 obtain ⟨sd, hs, hb, hc⟩ := hR8.row m hm2 hm
 have hfoot : ∀ j, 0 < sd.l -> aA sd j -> db css j := fun j h0 hj => ⟨css[m], List.getElem_mem hm2, sd, by rw [hs]; simp [fdC], h0, hj⟩
 rw [hs] at hrow
 have e1 : (((m + 1 : Nat) : Int) - 1) = (m : Int) := by omega
 rw [e1]
 refine aq rfl ⟨s, hc8, aq ha ⟨by omega, by omega, _, _, _, _, _, by rw [show Int.toNat (m : Int) * 5 = m * 5 by omega]; exact hrow, ?_⟩⟩
 refine (hstep m hm w8 sd h8 hb hc hfoot).mono ?_
 rintro e w27 (⟨rfl, h27⟩ | ⟨rfl, h27⟩)
 ·exact ⟨true, rfl, bp (fun h => by cases h) (fun _ => ⟨bb (by omega), ⟨m, rfl, by omega, h27⟩, by dsimp only; omega⟩)⟩
 ·exact ⟨false, rfl, bp (fun _ => ⟨rfl, .inr h27⟩) (fun h => by cases h)⟩
def latP : List Fd -> Int -> Option Fd
 | [], _ => none
 | x :: l, u => match latP l u with | some y => some y | none => if x.1 <= u then some x else none
theorem ix {l : List Fd} {u : Int} (h : ∀ x ∈ l, ¬ x.1 <= u) : latP l u = none := by
 induction l with
 | nil => rfl
 | cons x l ih => simp only [latP]; rw [ih (fun y hy => h y (by simp [hy]))]; simp [h x (by simp)]
theorem nv {l : List Fd} {u : Int} {k : Nat} (hk : k < l.length) (h : l[k].1 <= u) (hno : ∀ j (hj : j < l.length), k < j -> ¬ l[j].1 <= u) : latP l u = some l[k] := by
 induction l generalizing k with
 | nil => simp at hk
 | cons x l ih =>
  simp only [latP]
  cases k with
  | zero =>
   rw [ix (fun y hy => by
    obtain ⟨j, hj, rfl⟩ := List.getElem_of_mem hy
    exact hno (j + 1) (by simpa using hj) (by omega))]
   have hx : x.1 <= u := h
   simp [hx]
  | succ k =>
   rw [ih (k := k) (by simpa using hk) h (fun j hj hlt => hno (j + 1) (by simpa using hj) (by omega))]
   rfl
def nY (w : World) (o : Option Fd) (x : Ending) (w' : World) : Prop :=
 ai w w' /\ match o with
  | none => x = .returned (.tuple ⟨[.agg ⟨fd0⟩, .bool false]⟩)
  | some f => ∃ s : Slc, x = .returned (.tuple ⟨[.agg ⟨fdC f s⟩, .bool true]⟩) /\ ag w' s f.2.2.2.2 /\ s.l <= s.c
theorem fO (s : Slc) (sh up : Int) (L : List Pg) (css : List (List Value)) (w : World) (hR : Rows PgR w s L css) (hL : L.length <= 2 ^ 20) (hG1 : (cG sh L).length <= 1) :
  Calls Tryd.prog bU ⟨[s.v, .int .i64 sh, .int .i64 up]⟩ w fun x w' => nY w (latP (fN sh L) up) x w' := by
 refine fW _ _ _ ?_
 unfold fi
 refine aj (fun r4 w5 hr4 hb4 k4 hs4 => aj (fun r6 w7 hr6 hb6 k6 hs6 => aj (fun r8 w9 hr8 hb8 k8 hs8 => ?_)))
 have z4 := k4.size
 have z6 := k6.size
 have k9 := (k4.trans k6).trans k8
 have o4 : ae w9 r4 [.int .i64 up] := ((ae.cn hb4).af k6).af k8
 have o6 : ae w9 r6 fd0 := ae.af (c := fd0) (ae.cn hb6) k8
 have o8 : ae w9 r8 [.bool false] := ae.cn hb8
 refine (iw s sh L css w9 (hR.af k9) hL hG1).mono ?_
 rintro e w11 ⟨t, fs, rfl, k11, hfs, hft, hff⟩
 refine ⟨t, rfl, (fB t w11).mono ?_⟩
 rintro e w14 ⟨b, rfl, ob, k14, hb⟩
 refine ⟨_, rfl, aB, [], [fj b], rfl, by rfl, ?_⟩
 intro D lr rc w19 hD hlr hw19 hY
 have N := jQ hD hlr hw19
 obtain ⟨xs, hxs⟩ : ∃ xs, xs = fN sh L := ⟨_, rfl⟩
 rw [<- hxs] at hfs ⊢
 have hxl : xs.length <= 1 := by
  rw [hxs]; exact Nat.le_trans (List.length_filterMap_le _ _) hG1
 have z11 := k11.size
 have z14 := k14.size
 have hdw := N.dw
 have hdl := N.dl
 have kk : ai w9 w19 := (k11.trans k14).trans N.k
 have k19 : ai w w19 := k9.trans kk
 have o4' := o4.af kk
 have o6' := o6.af kk
 have o8' := o8.af kk
 have ob' := ob.af N.k
 have hfs' := (hfs.af k14).af N.k
 have hbD : b < D := by have := ob.lt; omega
 have htD : ∀ j, aA t j -> w9.heap.size <= j /\ j < D := fun j hj => ⟨hft j hj, by have := hfs.lt j hj; omega⟩
 have hfD : ∀ j, db fs j -> w9.heap.size <= j /\ j < D := fun j hj => ⟨hff j hj, by have := hfs.flt j hj; omega⟩
 let J : Nat -> World -> Prop := fun k w2 => Ext (fun j => D <= j) w19 w2 /\ w2.heap[lr]? = some (.loop (rc .ready none)) /\ w2.heap[D]? = some (.deferred (some [])) /\ ∀ j (hj : j < xs.length), k <= j -> ¬ xs[j].1 <= up
 let X : World -> Prop := fun w2 => Ext (fun j => j = r6 \/ j = r8 \/ D <= j) w19 w2 /\ w2.heap[lr]? = some (.loop (rc .done (some Code.ret))) /\ w2.heap[D]? = some (.deferred (some [])) /\
  ∃ (f : Fd) (sd : Slc), latP xs up = some f /\ ae w2 r6 (fdC f sd) /\ ae w2 r8 [.bool true] /\ ag w2 sd f.2.2.2.2 /\ sd.l <= sd.c /\ ∀ j, 0 < sd.l -> aA sd j -> j < D /\ r8 < j
 have hfsJ : ∀ {k w2}, J k w2 -> Rows FdR w2 t xs fs := fun hj => hfs'.ext hj.1 (fun j hj2 hh => by have := htD j hj2; omega) (fun j hj2 hh => by have := hfD j hj2; omega)
 have step : ∀ k (hk : k < xs.length) (w : World) (sd : Slc), J (k + 1) w -> ag w sd xs[k].2.2.2.2 -> sd.l <= sd.c -> (∀ j, 0 < sd.l -> aA sd j -> db fs j) ->
   cj Tryd.prog lr ⟨[.int .i64 (k : Int), .agg ⟨fdC xs[k] sd⟩]⟩ w fun e w' => (e = .returned (.bool true) /\ J k w') \/ (e = .returned (.bool false) /\ X w') := by
  intro k hk w28 sd hj hbd hcd hfo
  have hsdD : ∀ j, 0 < sd.l -> aA sd j -> w9.heap.size <= j /\ j < D := fun j h0 hj2 => hfD j (hfo j h0 hj2)
  refine hY _ _ _ _ _ _ _ _ hj.2.1 ?_
  refine nS (cs := fdC xs[k] sd) rfl rfl (fun r33 w35 hr33 o33 k33 hs33 => ?_)
  have hl35 := k33.heap hj.2.1
  have hD35 := k33.heap hj.2.2.1
  refine ⟨hl35, fun w36 hw36 => ?_⟩
  have e36 : Ext (fun j => j = lr) w35 w36 := by rw [hw36]; exact Ext.putObj _ _ _
  have hl36 : w36.heap[lr]? = some (.loop (rc .busy none)) := by rw [hw36]; exact cN hl35
  have hD36 : w36.heap[D]? = some (.deferred (some [])) := e36.heap hD35 (fun hh => by omega)
  have hlrlt := aS hj.2.1
  have o33' := o33.ext e36 (fun hh => by omega)
  have x36 : Ext (fun j => D <= j) w19 w36 := (hj.1.trans k33 (fun _ h => h) (fun _ h => h.elim)).trans e36 (fun _ h => h) (fun k hk => .inl (by omega))
  have o4'' := o4'.ext x36 (fun hh => by omega)
  refine ⟨_, o33'.cell 0 (by simp [fdC]), _, o4''.cell 0 (by simp), ab (fun he => ?_) (fun he => ?_)⟩
  ·have hbd36 : ag w36 sd xs[k].2.2.2.2 := aF (ar hbd k33) e36 (fun h0 j hj2 hh => by have := hsdD j h0 hj2; omega)
   refine ⟨_, _, _, _, _, o33'.row, ?_⟩
   have a6 := o6'.ext x36 (fun hh => by omega)
   have a8 := o8'.ext x36 (fun hh => by omega)
   obtain ⟨g1, g2⟩ := a6.bx (cs := fdC xs[k] sd) (n := 5) rfl rfl
   refine ⟨g1, fun w39 hw39 => ?_⟩
   obtain ⟨g3, g4, g5⟩ := g2 w39 hw39
   obtain ⟨f1, f2⟩ := (a8.ext g4 (fun hh => by omega)).fx 0 (by simp) (.bool true)
   refine ⟨f1, fun w40 hw40 => ?_⟩
   obtain ⟨f3, f4, f5⟩ := f2 w40 hw40
   have hl40 := f4.heap (g4.heap hl36 (fun hh => by omega)) (fun hh => by omega)
   have hD40 := f4.heap (g4.heap hD36 (fun hh => by omega)) (fun hh => by omega)
   refine ⟨hl40, fun w41 hw41 => .inr ⟨rfl, ?_⟩⟩
   have e41 : Ext (fun j => j = lr) w40 w41 := by rw [hw41]; exact Ext.putObj _ _ _
   refine ⟨?_, by rw [hw41]; exact cN hl40, e41.heap hD40 (fun hh => by omega), xs[k], sd, nv hk he (fun j hj2 hlt => hj.2.2.2 j hj2 (by omega)), (g3.ext f4 (fun hh => by omega)).ext e41 (fun hh => by omega), f3.ext e41 (fun hh => by omega), ?_, hcd, fun j h0 hj2 => by have := hsdD j h0 hj2; omega⟩
   ·exact (((x36.mono (fun k hk => .inr (.inr hk))).trans g4 (fun _ h => h) (fun k hk => .inl (.inl hk))).trans f4 (fun _ h => h) (fun k hk => .inl (.inr (.inl hk)))).trans e41 (fun _ h => h) (fun k hk => .inl (.inr (.inr (by omega))))
   ·exact aF (aF (aF hbd36 g4 (fun h0 j hj2 hh => by have := hsdD j h0 hj2; omega)) f4 (fun h0 j hj2 hh => by have := hsdD j h0 hj2; omega)) e41 (fun h0 j hj2 hh => by have := hsdD j h0 hj2; omega)
  ·refine ⟨hl36, fun w46 hw46 => .inl ⟨rfl, ?_⟩⟩
   have e46 : Ext (fun j => j = lr) w36 w46 := by rw [hw46]; exact Ext.putObj _ _ _
   refine ⟨x36.trans e46 (fun _ h => h) (fun k hk => .inl (by omega)), by rw [hw46]; exact cN hl36, e46.heap hD36 (fun hh => by omega), fun j hj2 hkj => ?_⟩
   by_cases hjk : j = k
   ·subst hjk; exact he
   ·exact hj.2.2.2 j hj2 (by omega)
 have hcall := eO t xs fs lr b J X (by omega) (fun k w2 hj => ⟨(ob'.ext hj.1 (fun hh => by omega)).cell 0 (by simp), hfsJ hj⟩) step w19 ⟨Ext.refl _ _, N.l, N.d, fun j hj hk => by omega⟩
 refine Calls.mono (show Calls Tryd.prog aB _ w19 _ from hcall) ?_
 rintro e w51 ⟨rfl, hj | hx⟩
 ·refine ⟨⟨_, rfl⟩, .inr ⟨hj.2.1, fun w56 hw56 => ?_⟩⟩
  have e56 : Ext (fun j => j = lr) w51 w56 := by rw [hw56]; exact Ext.putObj _ _ _
  have x56 : Ext (fun j => D <= j) w19 w56 := hj.1.trans e56 (fun _ h => h) (fun k hk => .inl (by omega))
  have a6 := o6'.ext x56 (fun hh => by omega)
  have a8 := o8'.ext x56 (fun hh => by omega)
  have hD56 := e56.heap hj.2.2.1 (fun hh => by omega)
  obtain ⟨g1, g2⟩ := a6.bx (cs := fd0) (n := 5) rfl rfl
  refine ⟨g1, fun w57 hw57 => ?_⟩
  obtain ⟨g3, g4, g5⟩ := g2 w57 hw57
  obtain ⟨f1, f2⟩ := (a8.ext g4 (fun hh => by omega)).fx 0 (by simp) (.bool false)
  refine ⟨f1, fun w58 hw58 => ?_⟩
  obtain ⟨f3, f4, f5⟩ := f2 w58 hw58
  have hD58 := f4.heap (g4.heap hD56 (fun hh => by omega)) (fun hh => by omega)
  refine ⟨hD58, fun w59 hw59 => ?_⟩
  have e59 : Ext (fun j => j = D) w58 w59 := by rw [hw59]; exact Ext.putObj _ _ _
  have h6 := (g3.ext f4 (fun hh => by omega)).ext e59 (fun hh => by omega)
  have h8 := f3.ext e59 (fun hh => by omega)
  refine ⟨_, _, _, _, _, h6.row, _, h8.cell 0 (by simp), ?_, ?_⟩
  ·exact (((k19.ext x56 (fun k hk => by omega)).ext g4 (fun k hk => by omega)).ext f4 (fun k hk => by omega)).ext e59 (fun k hk => by omega)
  ·rw [ix (fun x hx => by
    obtain ⟨j, hj2, rfl⟩ := List.getElem_of_mem hx
    exact hj.2.2.2 j hj2 (Nat.zero_le _))]
   rfl
 ·obtain ⟨x51, l51, d51, f, sd, hlat, h6, h8, hbd, hcd, hown⟩ := hx
  refine ⟨⟨_, rfl⟩, .inl ⟨l51, fun w48 hw48 => ?_⟩⟩
  have e48 : Ext (fun j => j = lr) w51 w48 := by rw [hw48]; exact Ext.putObj _ _ _
  have d48 := e48.heap d51 (fun hh => by omega)
  refine ⟨d48, fun w49 hw49 => ?_⟩
  have e49 : Ext (fun j => j = D) w48 w49 := by rw [hw49]; exact Ext.putObj _ _ _
  have g6 := (h6.ext e48 (fun hh => by omega)).ext e49 (fun hh => by omega)
  have g8 := (h8.ext e48 (fun hh => by omega)).ext e49 (fun hh => by omega)
  refine ⟨_, _, _, _, _, g6.row, _, g8.cell 0 (by simp), ?_, ?_⟩
  ·exact ((k19.ext x51 (fun k hk => by omega)).ext e48 (fun k hk => by omega)).ext e49 (fun k hk => by omega)
  ·rw [hlat]
   exact ⟨sd, rfl, aF (aF hbd e48 (fun h0 j hj hh => by have := hown j h0 hj; omega)) e49 (fun h0 j hj hh => by have := hown j h0 hj; omega), hcd⟩
end Go.D
namespace Go.D
open Go Go.Proofs
theorem fP (B : List UInt8) : ∀ k : Nat, (List.range k).flatMap (fun i => aL B 256 i) = B.take (k * 256)
 | 0 => by simp
 | k + 1 => by
  rw [List.range_succ, List.flatMap_append, fP B k, List.flatMap_cons, List.flatMap_nil, List.append_nil, Nat.add_mul, Nat.one_mul, List.take_add]
  rfl
theorem j5 (b : List UInt8) : (bc b).drop 4 = b := by
 unfold bc
 rw [List.drop_append_of_le_length (by simp [le4])]
 simp [le4]
theorem j6 {k : Ky} : ∀ (ps : List Pg) (l : List (Int × Pg)), (∀ p ∈ ps, (p.up, p.parts) = k) -> ps.foldl fl [(k, l)] = [(k, ps.foldl cq l)]
 | [], l, _ => rfl
 | p :: ps, l, h => by
  have hp := h p (by simp)
  rw [List.foldl_cons, List.foldl_cons]
  have : fl [(k, l)] p = [(k, cq l p)] := by
   rw [gS (by rw [hp]; simp [lookL])]
   simp [hp]
  rw [this]
  exact j6 ps _ (fun q hq => h q (by simp [hq]))
theorem kM {k : Ky} {p : Pg} {ps : List Pg} (h : ∀ q ∈ p :: ps, (q.up, q.parts) = k) : (p :: ps).foldl fl [] = [(k, (p :: ps).foldl cq [])] := by
 have hp := h p (by simp)
 rw [List.foldl_cons, List.foldl_cons]
 have : fl [] p = [(k, cq [] p)] := by
  rw [gR rfl]
  simp [hp]
 rw [this]
 exact j6 ps _ (fun q hq => h q (by simp [hq]))
theorem lU {l : List (Int × Pg)} {p : Pg} {q : Int} (h : q ∈ l.map (·.1)) : q ∈ (cq l p).map (·.1) := by
 unfold cq
 split
 ·exact h
 ·rw [List.map_append]; exact List.mem_append_left _ h
theorem nw (l : List (Int × Pg)) (p : Pg) : p.part ∈ (cq l p).map (·.1) := by
 unfold cq
 split
 ·rename_i h; exact cA.1 h
 ·simp
theorem kN {l : List (Int × Pg)} {p : Pg} (h : (l.map (·.1)).Nodup) : ((cq l p).map (·.1)).Nodup := by
 unfold cq
 split
 ·exact h
 ·rename_i hn
  rw [List.map_append, List.nodup_append]
  refine ⟨h, by simp, fun x hx y hy => ?_⟩
  simp at hy
  subst hy
  rintro rfl
  exact hn (cA.2 hx)
theorem gU : ∀ (ps : List Pg) (l : List (Int × Pg)) (q : Int), (q ∈ l.map (·.1) \/ ∃ p ∈ ps, p.part = q) -> q ∈ (ps.foldl cq l).map (·.1)
 | [], l, q, h => by
  rcases h with h | ⟨p, hp, _⟩
  ·exact h
  ·simp at hp
 | p :: ps, l, q, h => by
  rw [List.foldl_cons]
  refine gU ps _ q ?_
  rcases h with h | ⟨p', hp, rfl⟩
  ·exact .inl (lU h)
  ·rcases List.mem_cons.1 hp with rfl | hp
   ·exact .inl (nw l _)
   ·exact .inr ⟨p', hp, rfl⟩
theorem fQ : ∀ (ps : List Pg) (l : List (Int × Pg)), (l.map (·.1)).Nodup -> ((ps.foldl cq l).map (·.1)).Nodup
 | [], l, h => h
 | p :: ps, l, h => by rw [List.foldl_cons]; exact fQ ps _ (kN h)
theorem j7 {c : Int} : ∀ (ps : List Pg) (f : Int), c <= f -> (∀ p ∈ ps, c <= p.at') -> c <= cS f ps
 | [], f, h, _ => h
 | p :: ps, f, h, hp => by
  unfold cS
  rw [List.foldl_cons]
  refine j7 ps _ ?_ (fun q hq => hp q (by simp [hq]))
  have := hp p (by simp)
  split <;> omega
theorem ld {c : Int} : ∀ (ps : List Pg) (m : Int), m < c -> (∀ p ∈ ps, p.at' < c) -> ps.foldl (fun m p => if p.at' > m then p.at' else m) m < c
 | [], m, h, _ => h
 | p :: ps, m, h, hp => by
  rw [List.foldl_cons]
  refine ld ps _ ?_ (fun q hq => hp q (by simp [hq]))
  have := hp p (by simp)
  split <;> omega
def eP (B : List UInt8) (n : Nat) (N : Int) (p : Pg) : Prop :=
 (p.up = 9 /\ p.parts = (n : Int)) /\ (∃ q : Nat, q < n /\ p.part = (q : Int) /\ p.dat = aL B 256 q) /\ 9 <= p.at' /\ p.at' < N
theorem mX {L : List Pg} {b : List UInt8} {n : Nat} {N : Int} (hn : n = ba b) (hN : 0 < N) (hL : ∀ p ∈ L, aM 3 p = true -> eP (bc b) n N p) (hall : ∀ q : Nat, q < n -> ∃ p ∈ L, aM 3 p = true /\ p.part = (q : Int)) :
  (cG 3 L).length <= 1 /\ ∃ f l : Int, fN 3 L = [(9, (n : Int), f, l, b)] /\ 9 <= f /\ l < N := by
 have hn1 : 1 <= n := by rw [hn]; unfold ba; omega
 have hkey : ∀ p ∈ L.filter (aM 3), (p.up, p.parts) = ((9, (n : Int)) : Ky) := by
  intro p hp
  rw [List.mem_filter] at hp
  obtain ⟨⟨h1, h2⟩, _⟩ := hL p hp.1 hp.2
  rw [h1, h2]
 obtain ⟨l, hl, hG⟩ : ∃ l, l = (L.filter (aM 3)).foldl cq [] /\ cG 3 L = [((9, (n : Int)), l)] := by
  refine ⟨_, rfl, ?_⟩
  unfold cG
  obtain ⟨p, hp, ht, _⟩ := hall 0 (by omega)
  have hm : p ∈ L.filter (aM 3) := List.mem_filter.2 ⟨hp, ht⟩
  cases hps : L.filter (aM 3) with
  | nil => rw [hps] at hm; simp at hm
  | cons p0 ps =>
   rw [hps] at hkey
   exact kM hkey
 have hnd : (l.map (·.1)).Nodup := by rw [hl]; exact fQ _ _ (by simp)
 have hinv : ∀ q ∈ l, q.2 ∈ L /\ q.1 = q.2.part /\ aM 3 q.2 = true := by
  intro q hq
  obtain ⟨h1, h2, h3, _⟩ := oq 3 L (((9, (n : Int)) : Ky), l) (by rw [hG]; simp) q hq
  exact ⟨h1, h2, h3⟩
 have hin : ∀ q : Nat, q < n -> (q : Int) ∈ l.map (·.1) := by
  intro q hq
  obtain ⟨p, hp, ht, hpq⟩ := hall q hq
  rw [hl]
  exact gU _ _ _ (.inr ⟨p, List.mem_filter.2 ⟨hp, ht⟩, hpq⟩)
 have hlen : l.length = n := by
  have h1 : ((List.range n).map fun (j : Nat) => (j : Int)) ⊆ l.map (·.1) := by
   intro x hx
   obtain ⟨j, hj, rfl⟩ := List.mem_map.1 hx
   exact hin j (List.mem_range.1 hj)
  have h2 : l.map (·.1) ⊆ (List.range n).map fun (j : Nat) => (j : Int) := by
   intro x hx
   obtain ⟨q, hq, rfl⟩ := List.mem_map.1 hx
   obtain ⟨a1, a2, a3⟩ := hinv q hq
   obtain ⟨_, ⟨j, hj, hpj, _⟩, _⟩ := hL _ a1 a3
   exact List.mem_map.2 ⟨j, List.mem_range.2 hj, by rw [a2, hpj]⟩
  have n1 : ((List.range n).map fun (j : Nat) => (j : Int)).Nodup := fy _ (fun a b h => by omega) List.nodup_range
  have e1 := n1.length_le_of_subset h1
  have e2 := hnd.length_le_of_subset h2
  simp at e1 e2
  omega
 have hget : ∀ q : Nat, q < n -> ∃ p, lookL l (q : Int) = some p /\ p.dat = aL (bc b) 256 q /\ 9 <= p.at' /\ p.at' < N := by
  intro q hq
  obtain ⟨p, hp⟩ := Option.isSome_iff_exists.1 (cA.2 (hin q hq))
  obtain ⟨a1, a2, a3⟩ := hinv _ (bw hp)
  obtain ⟨_, ⟨j, hj, hpj, hd⟩, h9, hN⟩ := hL _ a1 a3
  have : j = q := by have : ((q : Nat) : Int) = p.part := a2; dsimp only at hpj; omega
  subst this
  exact ⟨p, hp, hd, h9, hN⟩
 have hdat : eA (au l n) = bc b := by
  have h1 : eA (au l n) = (List.range n).flatMap (fun i => aL (bc b) 256 i) := by
   unfold eA au
   rw [List.flatMap_map]
   have : ∀ (m : List Nat), (∀ i ∈ m, i < n) -> m.flatMap (fun i => ((lookL l ((i : Nat) : Int)).getD bX).dat) = m.flatMap (fun i => aL (bc b) 256 i) := by
    intro m hm
    induction m with
    | nil => rfl
    | cons i m ih =>
     rw [List.flatMap_cons, List.flatMap_cons, ih (fun j hj => hm j (by simp [hj]))]
     obtain ⟨p, hp, hd, _⟩ := hget i (hm i (by simp))
     rw [hp]
     dsimp only [Option.getD_some]
     rw [hd]
   exact this _ (fun i hi => List.mem_range.1 hi)
  rw [h1, fP, List.take_of_length_le]
  rw [cQ, hn]
  unfold ba
  omega
 have hpg : ∀ p ∈ au l n, 9 <= p.at' /\ p.at' < N := by
  intro p hp
  obtain ⟨i, hi, rfl⟩ := List.mem_map.1 hp
  obtain ⟨q, hq, _, h9⟩ := hget i (List.mem_range.1 hi)
  rw [hq]; exact h9
 have h0 : 9 <= ((lookL l 0).getD bX).at' := by
  obtain ⟨q, hq, _, h9, _⟩ := hget 0 (by omega)
  have hq' : lookL l 0 = some q := hq
  rw [hq']; exact h9
 refine ⟨by rw [hG]; simp, cS ((lookL l 0).getD bX).at' (au l n), fo (au l n), ?_, j7 _ _ h0 (fun p hp => (hpg p hp).1), ld _ _ hN (fun p hp => (hpg p hp).2)⟩
 unfold fN
 rw [hG, List.filterMap_cons, List.filterMap_nil]
 have hf : bz (9, (n : Int)) l = some (9, (n : Int), cS ((lookL l 0).getD bX).at' (au l n), fo (au l n), b) := by
  unfold bz
  dsimp only
  rw [Int.toNat_natCast, hdat, if_neg (by rw [hlen]; simp), if_neg (by rw [cQ]; omega), j5, if_pos rfl]
 rw [hf]
end Go.D
namespace Go.D
open Go Go.Proofs
abbrev mY : Rd (Int × List UInt8 × List UInt8 × List UInt8 × Int) := Rd.pair (Rd.int .i64) (Rd.pair Rd.str (Rd.pair Rd.str (Rd.pair Rd.str (Rd.int .i64))))
abbrev mZ := Int × Int × Int × Int × Int × Int × (Slc × List (Int × List UInt8 × List UInt8 × List UInt8 × Int)) × List UInt8 × Int × Int × Int × (Slc × List UInt8)
abbrev iZ : Rd mZ :=
 Rd.pair (Rd.int .i64) (Rd.pair (Rd.int .i64) (Rd.pair (Rd.int .i64) (Rd.pair (Rd.int .i64) (Rd.pair (Rd.int .i64) (Rd.pair (Rd.int .i64) (Rd.pair (Rd.slice mY) (Rd.pair Rd.str (Rd.pair (Rd.int .i64) (Rd.pair (Rd.int .i64) (Rd.pair (Rd.int .i64) Rd.bytes))))))))))
theorem nZ {w : World} {s : Slc} {xs : List (Int × List UInt8 × List UInt8 × List UInt8 × Int)} (h : jF mY w s xs) (h0 : 0 < s.l) : ∀ k, aA s k -> k < w.heap.size := by
 rintro k ⟨a, ha, rfl⟩
 obtain ⟨h1, _, _, h3⟩ := h
 obtain ⟨a', cs, ha', hx, hrow⟩ := h3 0 (by omega)
 rw [ha] at ha'; cases ha'
 obtain ⟨l1, l2, hcs, ⟨rfl, _⟩, _⟩ := hx
 subst hcs
 have hc := cm hrow 0 (by simp)
 have := World.block_lt_of_cell? w _ hc
 rwa [bO, bO] at this
theorem iy {w : World} {b : mZ} {l : List Value} (hx : iZ.R w b l) : ∃ (kd sh cl sq sv ot : Int) (ops : Slc) (key : List UInt8) (up p q : Int) (sd : Slc) (dat : List UInt8),
  l = bl kd sh cl sq sv ot ops key up p q sd /\ ag w sd dat /\ sd.l <= sd.c /\ ∀ k, 0 < ops.l -> aA ops k -> k < w.heap.size := by
 obtain ⟨b1, b2, b3, b4, b5, b6, ⟨so, ops⟩, b8, b9, b10, b11, ⟨sd, dat⟩⟩ := b
 obtain ⟨_, _, hx, ⟨rfl, _⟩, ⟨_, _, rfl, ⟨rfl, _⟩, ⟨_, _, rfl, ⟨rfl, _⟩, ⟨_, _, rfl, ⟨rfl, _⟩, ⟨_, _, rfl, ⟨rfl, _⟩, ⟨_, _, rfl, ⟨rfl, _⟩, ⟨_, _, rfl, ⟨rfl, ho⟩, ⟨_, _, rfl, ⟨rfl, _⟩, ⟨_, _, rfl, ⟨rfl, _⟩, ⟨_, _, rfl, ⟨rfl, _⟩, ⟨_, _, rfl, ⟨rfl, _⟩, ⟨rfl, hd, hdc⟩⟩⟩⟩⟩⟩⟩⟩⟩⟩⟩⟩ := hx
 exact ⟨b1, b2, b3, b4, b5, b6, so, b8, b9, b10, b11, sd, dat, hx, hd, by first | exact hdc | exact hdc.1, fun k h0 hk => nZ ho h0 k hk⟩
theorem ou (n : Int) (c : Nat) (hc : 0 < c) (hc2 : c <= 2 ^ 20) : ∃ m : Nat, m < c /\ IntKind.wrap .i64 ((IntKind.wrap .u64 n) % (IntKind.wrap .u64 (c : Int))) = (m : Int) /\ 0 <= IntKind.wrap .u64 n /\ 0 < IntKind.wrap .u64 (c : Int) := by
 have hu : IntKind.wrap .u64 (c : Int) = (c : Int) := bd (my (by omega))
 rw [hu]
 have h0 : 0 <= IntKind.wrap .u64 n := by
  unfold IntKind.wrap
  simp only [IntKind.signed, IntKind.bits]
  have := Int.emod_nonneg n (show (2 ^ 64 : Int) ≠ 0 by omega)
  simp
  omega
 refine ⟨((IntKind.wrap .u64 n) % (c : Int)).toNat, ?_, ?_, h0, by omega⟩
 ·have h1 := Int.emod_nonneg (IntKind.wrap .u64 n) (show (c : Int) ≠ 0 by omega)
  have h2 := Int.emod_lt_of_pos (IntKind.wrap .u64 n) (show (0 : Int) < c by omega)
  omega
 ·have h1 := Int.emod_nonneg (IntKind.wrap .u64 n) (show (c : Int) ≠ 0 by omega)
  have h2 := Int.emod_lt_of_pos (IntKind.wrap .u64 n) (show (0 : Int) < c by omega)
  rw [bd (bb (by omega))]
  omega
theorem j8 {w : World} {all : Slc} {L : List Pg} {css : List (List Value)} {b : Nat} {x : Pg} {K : Slc -> World -> Prop} (hR : Rows PgR w all L css) (hown : ∀ j, aA all j -> b <= j) (hb : b <= w.heap.size) (hx : eN w x)
  (hft : ∀ k, dJ (pgC x) k -> k < b) (hlen : L.length <= 2 ^ 20)
  (hK : ∀ s' w' css', Rows PgR w' s' (L ++ [x]) css' -> Ext (fun j => b <= j) w w' -> (∀ j, aA s' j -> b <= j) -> K s' w') :
  aH w (.cells ⟨pgC x⟩ bk) fun r w1 => aP 15 bk (pgC bX) w1 all (.slc ⟨some ⟨r, 0, none⟩, 1, 1⟩) K := by
 refine aj (fun r w1 hr hb1 k1 hs1 => ?_)
 have hR1 := hR.af k1
 refine hR1.snoc (cs := pgC x) (x := x) (z := _) rfl ⟨rfl, eg hx k1, fun k hk => by have := hft k hk; have := k1.size; omega⟩ (fun j hj ho => ?_) hb1 (.inl (by simp)) (by omega) (fun s' w' g1 g2 g3 => ?_)
 ·have := hft j hj; have := hown j ho; omega
 ·refine hK s' w' _ g1 (Ext.trans k1 g2 (fun _ h => h.elim) (fun j hj => .inl (hown j hj))) (fun j hj => (g3 j hj).elim (fun h => hown j h) (fun h => by have := k1.size; omega))
theorem eQ {sh up : Int} {b : List UInt8} (h : gd sh up = true) (hn : ba b <= 64) : dI sh up b = .ok (dk (bc b) (ba b) (ba b) (ba b)) := by
 unfold dI; rw [if_neg (by rw [h]; simp), if_neg (by omega)]
theorem hO (A : Nat -> Addr) {n0 : Nat} (w : World) (hG : cP ckG A n0 w) : Calls Tryd.prog bg ⟨[]⟩ w fun e w' => e = .returned (.bool true) /\ ai w w' := by
 refine dx ?_
 unfold cC
 refine ⟨by omega, by omega, by omega, aj (fun r1 w2 hr1 hb1 k1 hs1 => ?_)⟩
 have o1 := Own.nB hb1
 refine (eM A 1 0 _ _ w2 o1.bytes (by simp) (hG.af k1)).mono ?_
 rintro x w4 ⟨k4, hres⟩
 rw [eQ rfl (by simp [ba])] at hres
 obtain ⟨t1, css1, rfl, hR1⟩ := hres
 refine ⟨t1, _, rfl, by omega, by omega, by omega, aj (fun r7 w8 hr7 hb7 k7 hs7 => ?_)⟩
 have k48 := (k1.trans k4).trans k7
 have o7 := Own.nB hb7
 refine (eM A 1 0 _ _ w8 o7.bytes (by simp) (hG.af k48)).mono ?_
 rintro x w10 ⟨k10, hres⟩
 rw [eQ rfl (by simp [ba])] at hres
 obtain ⟨t2, css2, rfl, hR2⟩ := hres
 have hl1 := hR1.sl
 have hl2 := hR2.sl
 rw [bL] at hl1 hl2
 have hn1 : ba (List.replicate 252 0) = 1 := by simp [ba]
 have hn2 : ba (List.replicate 253 0) = 2 := by simp [ba]
 have hc2 : 1 < css2.length := by rw [hR2.len, bL, hn2]; omega
 obtain ⟨a, ha, _, hrow⟩ := hR2.get hc2
 obtain ⟨sd, hcs, hbd, _⟩ := hR2.row 1 hc2 (by rw [bL, hn2]; omega)
 rw [hcs] at hrow
 have hsd := hbd.1
 rw [ef] at hsd
 have hch : (aL (bc (List.replicate 253 0)) 256 1).length = 1 := by
  unfold aL
  rw [List.length_take, List.length_drop, cQ, List.length_replicate]; rfl
 rw [hch] at hsd
 refine ⟨t2, _, rfl, trivial, bp (fun _ => ⟨trivial, bp (fun _ => ab (fun _ => ab (fun _ => ?_) (fun h => absurd (by omega) h)) (fun h => absurd (by omega) h)) (fun h => by cases h)⟩) (fun h => by cases h)⟩
 refine aq ha ⟨by omega, by omega, sd, ns hrow 11 (by simp [ptC]), ?_, k48.trans k10⟩
 rw [decide_eq_true (by omega)]
end Go.D
namespace Go.D
open Go Go.Proofs
theorem j9 (a : Addr) : a.add 0 = a := by simp [Addr.add]
theorem lf {x : Pg} {k : Nat} (h : dJ (pgC x) k) : (0 < x.ops.l /\ aA x.ops k) \/ (0 < x.ds.l /\ aA x.ds k) \/ (0 < x.jZ.l /\ aA x.jZ k) := by
 obtain ⟨s, hs, h1, h2⟩ := h
 have inj : ∀ {a b : Slc}, a.v = b.v -> a = b := by
  rintro ⟨p, l, c⟩ ⟨p', l', c'⟩ hh
  simp [Slc.v] at hh
  obtain ⟨rfl, rfl, rfl⟩ := hh
  rfl
 have : s.v = x.ops.v \/ s.v = x.ds.v \/ s.v = x.jZ.v := by
  simp [pgC] at hs
  rcases hs with h | h | h | h | h | h | h | h | h | h | h | h | h | h | h
  all_goals first | exact .inl h | exact .inr (.inl h) | exact .inr (.inr h) | (simp [Slc.v, ak] at h)
 rcases this with h | h | h
 ·have := inj h; subst this; exact .inl ⟨h1, h2⟩
 ·have := inj h; subst this; exact .inr (.inl ⟨h1, h2⟩)
 ·have := inj h; subst this; exact .inr (.inr ⟨h1, h2⟩)
def ei (at' : Int) (q n : Nat) (sd : Slc) (d : List UInt8) : Pg := ⟨at', 5, 3, 0, 0, 0, 0, ⟨none, 0, 0⟩, [], 9, (q : Int), (n : Int), sd, d, ⟨none, 0, 0⟩, false⟩
theorem eP.le {B : List UInt8} {n : Nat} {N N' : Int} {p : Pg} (h : eP B n N p) (hN : N <= N') : eP B n N' p := ⟨h.1, h.2.1, h.2.2.1, by have := h.2.2.2; omega⟩
theorem ka {B : List UInt8} {at' N : Int} {q n : Nat} {sd : Slc} (hq : q < n) (h1 : 9 <= at') (h2 : at' < N) : eP B n N (ei at' q n sd (aL B 256 q)) := ⟨⟨rfl, rfl⟩, ⟨q, hq, rfl, rfl⟩, h1, h2⟩
theorem ja {at' : Int} {q n : Nat} {sd : Slc} {d : List UInt8} (hq : q < n) (hn : n <= 64) (hl : sd.l <= 256) : aM 3 (ei at' q n sd d) = true := by
 have : cR 3 9 (n : Int) (q : Int) sd.l := ⟨by omega, by omega, by omega, by omega, hl⟩
 unfold aM ei cu
 simp [this]
def Good (B : List UInt8) (n : Nat) (L : List Pg) : Prop := ∀ p ∈ L, aM 3 p = true -> eP B n ((L.length : Int) + 9) p
theorem Good.snoc {B : List UInt8} {n : Nat} {L : List Pg} {x : Pg} (h : Good B n L) (hx : aM 3 x = true -> eP B n ((L.length : Int) + 10) x) : Good B n (L ++ [x]) := by
 intro p hp ht
 rw [List.length_append]
 rcases List.mem_append.1 hp with h1 | h1
 ·exact (h p h1 ht).le (by simp; omega)
 ·rw [List.mem_singleton] at h1; subst h1
  exact (hx ht).le (by simp; omega)
theorem gO (sd : Slc) (data : List UInt8) (so : Slc) (ord : List Int) (st : Slc) (ots : List mZ) (w : World) (hd : ag w sd data) (ho : dV w so ord) (ht : jF iZ w st ots)
  (A : Nat -> Addr) (hE : di jN ckG A w) :
  Calls Tryd.prog bB ⟨[sd.v, so.v, st.v]⟩ w fun e w' => e = .returned (.bool true) /\ ai w w' := by
 have hG := hE.g
 have hdl := hd.1
 have hol := ho.1
 have htl := ht.1
 refine cH _ _ _ ?_
 unfold bT
 refine (hO A w hG).mono ?_
 rintro e w5 ⟨rfl, k5⟩
 refine ⟨_, rfl, bp (fun h => by cases h) (fun _ => ?_)⟩
 refine ⟨fun w8 => ai w w8 /\ data.length <= 3000 /\ ord.length <= 60 /\ ots.length <= 20, ?_, ?_⟩
 ·exact ab (fun _ => ⟨rfl, k5⟩) (fun h1 => ab (fun _ => ⟨rfl, k5⟩) (fun h2 => ab (fun _ => ⟨rfl, k5⟩) (fun h3 => ⟨k5, by omega, by omega, by omega⟩)))
 rintro w8 ⟨k8, hd3, ho6, ht2⟩
 intros
 obtain ⟨n, hn⟩ : ∃ n, n = ba data := ⟨_, rfl⟩
 have hn64 : 1 <= n /\ n <= 64 := by rw [hn]; unfold ba; omega
 refine (eM A 3 9 sd data w8 (ar hd k8) (by omega) (hG.af k8)).mono ?_
 rintro x w24 ⟨k24, hres⟩
 rw [eQ (by decide) (by omega), <- hn] at hres
 obtain ⟨t, cst, rfl, hT⟩ := hres
 have k24' := k8.trans k24
 have htsl := hT.sl
 rw [bL] at htsl
 refine ⟨t, _, rfl, trivial, bp (fun h => by cases h) (fun _ => aj (fun r27 w28 hr27 hb27 k27 hs27 => ?_))⟩
 have k28 := k24'.trans k27
 obtain ⟨B, hB⟩ : ∃ B, B = bc data := ⟨_, rfl⟩
 rw [<- hB] at hT
 -- a part's row
 have part : ∀ {w2 : World}, ai w24 w2 -> ∀ q : Nat, q < n -> ∃ (a : Addr) (s : Slc), t.p = some a /\ rowAt w2 (a.add (q * 12)) 0 (ptC 3 9 (q : Int) (n : Int) s) /\ ag w2 s (aL B 256 q) /\ s.l <= s.c /\ s.l <= 256 /\ ∀ k, 0 < s.l -> aA s k -> k < r27 := by
  intro w2 k2 q hq
  have hT2 := hT.af k2
  have hc : q < cst.length := by rw [hT.len, bL]; exact hq
  have hql : q < (dk B n n n).length := by rw [bL]; exact hq
  obtain ⟨a, ha, _, hrow⟩ := hT2.get hc
  obtain ⟨s, hs, hbs, hsc⟩ := hT2.row q hc hql
  obtain ⟨s', hs', hbs', _⟩ := hT.row q hc hql
  rw [hs] at hrow
  rw [ef, if_pos hq] at hrow hbs hs
  refine ⟨a, s, ha, hrow, hbs, hsc, ?_, fun k h0 hk => ?_⟩
  ·rw [hbs.1]; unfold aL; simp; omega
  ·have := hT.flt k ⟨_, List.getElem_mem hc, s, by rw [hs]; simp [ptC], h0, hk⟩
   omega
 have hz24 := k24'.size
 -- a page for a part: to go on with it
 have addPart : ∀ {w2 : World} {all : Slc} {L : List Pg} {css : List (List Value)} {K : Slc -> World -> Prop} (q : Nat) (s : Slc), ai w24 w2 -> w24.heap.size < w2.heap.size -> Rows PgR w2 all L css -> (∀ j, aA all j -> r27 <= j) -> L.length <= 1000 -> q < n -> ag w2 s (aL B 256 q) -> s.l <= s.c -> s.l <= 256 -> (∀ k, 0 < s.l -> aA s k -> k < r27) -> Good B n L ->
   (∀ s' w' css', Rows PgR w' s' (L ++ [ei ((L.length : Int) + 9) q n s (aL B 256 q)]) css' -> ai w24 w' -> w24.heap.size < w'.heap.size -> (∀ j, aA s' j -> r27 <= j) -> Good B n (L ++ [ei ((L.length : Int) + 9) q n s (aL B 256 q)]) -> K s' w') ->
   aH w2 (.cells ⟨pgC (ei (((all.l : Nat) : Int) + 9) q n s (aL B 256 q))⟩ bk) fun r w1 => aP 15 bk (pgC bX) w1 all (.slc ⟨some ⟨r, 0, none⟩, 1, 1⟩) K := by
  intro w2 all L css K q s k2 hz2 hR hown hL hq hb hsc h256 hf hgood hK
  have hal := hR.sl
  rw [hal]
  refine j8 (b := r27) hR hown (by omega) ⟨hb, hsc⟩ (fun k hk => ?_) (by omega) (fun s' w' css' g1 g2 g3 => hK s' w' css' g1 (k2.ext g2 (fun j hj => by omega)) (by have := g2.size; omega) g3 (hgood.snoc (fun _ => ka hq (by omega) (by omega))))
  rcases lf hk with ⟨h0, _⟩ | ⟨h0, h1⟩ | ⟨h0, _⟩
  ·exact absurd h0 (by simp [ei])
  ·exact hf k h0 h1
  ·exact absurd h0 (by simp [ei])
 have hR0 : Rows PgR w28 ⟨some ⟨r27, 0, none⟩, 0, 0⟩ [] [] := ⟨Own.new (sz := 15) (n := 0) hb27 (.inl (by simp)) rfl, rfl, fun i h => by simp at h, fun k ⟨_, h, _⟩ => by simp at h⟩
 refine ⟨fun all i w33 => ∃ (k : Nat) (L : List Pg) (css : List (List Value)), i = (k : Int) /\ k <= ord.length /\ L.length = k /\ ai w24 w33 /\ w24.heap.size < w33.heap.size /\ Rows PgR w33 all L css /\ (∀ j, aA all j -> r27 <= j) /\ Good B n L,
  fun _ i _ => ord.length - i.toNat, ⟨0, [], [], rfl, by omega, rfl, k27, by omega, hR0, (by rintro j ⟨a, ha, rfl⟩; cases ha; exact Nat.le_refl _), (by intro p hp; simp at hp)⟩, ?_⟩
 rintro all i w33 ⟨k, L, css, rfl, hk, hLk, k33, z33, hR, hown, hgood⟩
 intros
 have hal := hR.sl
 refine ab (fun hlt => ?_) (fun hge => ?_)
 ·obtain ⟨a, ha, hc⟩ := jE (fH ho (k24'.trans k33)) (i := k) (by omega)
  obtain ⟨m, hm, hmw, hm0, hm1⟩ := ou ord[k] t.l (by omega) (by omega)
  obtain ⟨a2, s, ha2, hrow, hbs, hsc, h256, hfs⟩ := part k33 m (by omega)
  refine aq ha ⟨by omega, by omega, ord[k], by rw [show (Int.toNat ((k : Nat) : Int)) * 1 = k by omega]; exact hc, bb (by omega), hm0, hm1, aq ha2 ?_⟩
  rw [hmw]
  refine ⟨by omega, by omega, _, _, _, _, _, _, _, _, _, _, _, _, by rw [show (Int.toNat ((m : Nat) : Int)) * 12 = m * 12 by omega]; exact hrow, ?_⟩
  refine addPart m s k33 z33 hR hown (by omega) (by omega) hbs hsc h256 hfs hgood (fun s' w' css' g1 g2 g3 g4 g5 => ?_)
  exact ⟨bb (by omega), ⟨k + 1, _, css', rfl, by omega, by simp [hLk], g2, g3, g1, g4, g5⟩, by dsimp only; omega⟩
 -- the others
 refine ⟨fun all i w79 => ∃ (k : Nat) (L : List Pg) (css : List (List Value)), i = (k : Int) /\ k <= ots.length /\ L.length <= 60 + k /\ ai w24 w79 /\ w24.heap.size < w79.heap.size /\ Rows PgR w79 all L css /\ (∀ j, aA all j -> r27 <= j) /\ Good B n L,
  fun _ i _ => ots.length - i.toNat, ⟨0, L, css, rfl, by omega, by omega, k33, z33, hR, hown, hgood⟩, ?_⟩
 clear hR hown hgood hal hLk hge k33 z33
 rintro all i w79 ⟨k, L, css, rfl, hk, hLk, k79, z79, hR, hown, hgood⟩
 intros
 have hal := hR.sl
 refine ab (fun hlt => ?_) (fun hge => ?_)
 ·have ht79 := gI ht (k24'.trans k79)
  obtain ⟨a, cs, ha, hx, hrow⟩ := ht79.2.2.2 k (by omega)
  obtain ⟨a', cs', ha', hx', hrow'⟩ := ht.2.2.2 k (by omega)
  obtain ⟨kd, sh, cl, sq, sv, ot, ops, key, up, p, q, s, dat, rfl, hbs, hsc, hops⟩ := iy hx
  obtain ⟨kd', sh', cl', sq', sv', ot', ops', key', up', p', q', s', dat', rfl, hbs', hsc', hops'⟩ := iy hx'
  have hsame : bl kd sh cl sq sv ot ops key up p q s = bl kd' sh' cl' sq' sv' ot' ops' key' up' p' q' s' := by
   rw [ha] at ha'; cases ha'
   have hrow2 := gH hrow' (k24'.trans k79)
   refine List.ext_getElem rfl (fun j h1 h2 => ?_)
   have e1 := cm hrow j h1
   have e2 := cm hrow2 j h2
   have e3 : iZ.n = iZ.n := rfl
   rw [e1] at e2
   exact Option.some.inj e2
  have hslc : ∀ {a b : Slc}, a.v = b.v -> a = b := by
   rintro ⟨p, l, c⟩ ⟨p', l', c'⟩ hh
   simp [Slc.v] at hh
   obtain ⟨rfl, rfl, rfl⟩ := hh
   rfl
  have hops2 : ∀ j, 0 < ops.l -> aA ops j -> j < r27 := by
   intro j h0 hj
   have e1 : ops = ops' := by
    have := congrArg (fun l => l[6]?) hsame
    exact hslc (by simpa [bl] using this)
   have := hops' j (by rw [<- e1]; exact h0) (by rw [<- e1]; exact hj)
   omega
  have hds2 : ∀ j, 0 < s.l -> aA s j -> j < r27 := by
   intro j h0 hj
   have e1 : s = s' := by
    have := congrArg (fun l => l[11]?) hsame
    exact hslc (by simpa [bl] using this)
   have := ee hbs' (by rw [<- e1]; exact h0) j (by rw [<- e1]; exact hj)
   omega
  refine aq ha ⟨by omega, by omega, kd, sh, cl, sq, sv, ot, ops, key, up, p, q, s, by rw [show (Int.toNat ((k : Nat) : Int)) * 12 = k * 12 by omega]; exact hrow, ?_⟩
  refine aj (fun r133 w134 hr133 hb133 k133 hs133 => ?_)
  have o133 : ae w134 r133 (bl 0 0 0 0 0 0 ⟨none, 0, 0⟩ [] 0 0 0 ⟨none, 0, 0⟩) := ae.cn hb133
  obtain ⟨c1, c2⟩ := o133.bx (cs := bl kd sh cl sq sv ot ops key up p q s) (n := 12) rfl rfl
  refine ⟨c1, fun w135 hw135 => ?_⟩
  obtain ⟨o135, x135, z135⟩ := c2 w135 hw135
  have k135 : ai w79 w135 := k133.ext x135 (fun j hj => by omega)
  have z133 := k133.size
  have stop : (Ending.returned (Value.bool true)) = .returned (.bool true) /\ ai w w135 := ⟨rfl, (k24'.trans k79).trans k135⟩
  -- it is no part
  have goOn : ¬ (kd = 5 /\ sh = 3) -> ∀ (K : Slc -> World -> Prop), (∀ s' w' (L' : List Pg) css', Rows PgR w' s' L' css' -> L'.length = L.length + 1 -> ai w24 w' -> w24.heap.size < w'.heap.size -> (∀ j, aA s' j -> r27 <= j) -> Good B n L' -> K s' w') ->
    aH w135 (.cells ⟨.int .i64 (((all.l : Nat) : Int) + 9) :: bl kd sh cl sq sv ot ops key up p q s ++ [(⟨none, 0, 0⟩ : Slc).v, .bool false]⟩ bk) fun r w1 => aP 15 bk (pgC bX) w1 all (.slc ⟨some ⟨r, 0, none⟩, 1, 1⟩) K := by
   intro hno K hK
   refine j8 (b := r27) (x := ⟨((all.l : Nat) : Int) + 9, kd, sh, cl, sq, sv, ot, ops, key, up, p, q, s, dat, ⟨none, 0, 0⟩, false⟩) (hR.af k135) hown (by omega) (eg (w := w79) ⟨hbs, hsc⟩ k135) (fun j hj => ?_) (by omega) (fun s' w' css' g1 g2 g3 => hK s' w' _ css' g1 (by simp) ((k79.trans k135).ext g2 (fun j hj => by omega)) (by have := g2.size; omega) g3 (hgood.snoc (fun htk => ?_)))
   ·rcases lf hj with ⟨h0, h1⟩ | ⟨h0, h1⟩ | ⟨h0, _⟩
    ·exact hops2 j h0 h1
    ·exact hds2 j h0 h1
    ·exact absurd h0 (by simp)
   ·obtain ⟨_, h5, h3, _⟩ := gT htk
    exact absurd ⟨h5, h3⟩ hno
  refine ⟨kd, o135.cell 0 (by simp [bl]), ab (fun h5 => ?_) (fun h5 => ?_)⟩
  ·refine ⟨sh, o135.cell 1 (by simp [bl]), ab (fun _ => stop) (fun h3 => ?_)⟩
   refine ⟨ops, o135.cell 6 (by simp [bl]), ab (fun _ => stop) (fun _ => ?_)⟩
   refine ⟨s, o135.cell 11 (by simp [bl]), ab (fun _ => stop) (fun _ => ?_)⟩
   refine ⟨key, o135.cell 7 (by simp [bl]), ab (fun _ => stop) (fun _ => ?_)⟩
   refine ⟨bb (by omega), kd, sh, cl, sq, sv, ot, ops, key, up, p, q, s, o135.row, ?_⟩
   refine goOn (fun h => h3 h.2) _ (fun s' w' L' css' g1 g2 g3 g4 g5 g6 => ?_)
   exact ⟨bb (by omega), ⟨k + 1, L', css', rfl, by omega, by omega, g3, g4, g1, g5, g6⟩, by dsimp only; omega⟩
  ·refine ⟨ops, o135.cell 6 (by simp [bl]), ab (fun _ => stop) (fun _ => ?_)⟩
   refine ⟨s, o135.cell 11 (by simp [bl]), ab (fun _ => stop) (fun _ => ?_)⟩
   refine ⟨key, o135.cell 7 (by simp [bl]), ab (fun _ => stop) (fun _ => ?_)⟩
   refine ⟨bb (by omega), kd, sh, cl, sq, sv, ot, ops, key, up, p, q, s, o135.row, ?_⟩
   refine goOn (fun h => h5 h.1) _ (fun s' w' L' css' g1 g2 g3 g4 g5 g6 => ?_)
   exact ⟨bb (by omega), ⟨k + 1, L', css', rfl, by omega, by omega, g3, g4, g1, g5, g6⟩, by dsimp only; omega⟩
 -- all parts, in order
 refine ⟨fun all i w180 => ∃ (k : Nat) (L : List Pg) (css : List (List Value)), i = (k : Int) /\ k <= n /\ L.length <= 80 + k /\ ai w24 w180 /\ w24.heap.size < w180.heap.size /\ Rows PgR w180 all L css /\ (∀ j, aA all j -> r27 <= j) /\ Good B n L /\ ∀ q : Nat, q < k -> ∃ p ∈ L, aM 3 p = true /\ p.part = (q : Int),
  fun _ i _ => n - i.toNat, ⟨0, L, css, rfl, by omega, by omega, k79, z79, hR, hown, hgood, by omega⟩, ?_⟩
 clear hR hown hgood hal hLk hge k79 z79
 rintro all i w180 ⟨k, L, css, rfl, hk, hLk, k180, z180, hR, hown, hgood, hall⟩
 intros
 have hal := hR.sl
 refine ab (fun hlt => ?_) (fun hge => ?_)
 ·obtain ⟨a2, s, ha2, hrow, hbs, hsc, h256, hfs⟩ := part k180 k (by omega)
  refine aq ha2 ⟨by omega, by omega, _, _, _, _, _, _, _, _, _, _, _, _, by rw [show (Int.toNat ((k : Nat) : Int)) * 12 = k * 12 by omega]; exact hrow, ?_⟩
  refine aj (fun r207 w208 hr207 hb207 k207 hs207 => ?_)
  have o207 : ae w208 r207 (bl 0 0 0 0 0 0 ⟨none, 0, 0⟩ [] 0 0 0 ⟨none, 0, 0⟩) := ae.cn hb207
  obtain ⟨c1, c2⟩ := o207.bx (cs := ptC 3 9 (k : Int) (n : Int) s) (n := 12) rfl rfl
  refine ⟨c1, fun w209 hw209 => ?_⟩
  obtain ⟨o209, x209, z209⟩ := c2 w209 hw209
  have k209 : ai w180 w209 := k207.ext x209 (fun j hj => by omega)
  have z207 := k207.size
  refine ⟨bb (by omega), _, _, _, _, _, _, _, _, _, _, _, _, o209.row, ?_⟩
  refine addPart k s (k180.trans k209) (by omega) (hR.af k209) hown (by omega) (by omega) (ar hbs k209) hsc h256 hfs hgood (fun s' w' css' g1 g2 g3 g4 g5 => ?_)
  refine ⟨bb (by omega), ⟨k + 1, _, css', rfl, by omega, by simp; omega, g2, g3, g1, g4, g5, fun q hq => ?_⟩, by dsimp only; omega⟩
  rcases Nat.lt_or_ge q k with h | h
  ·obtain ⟨p, hp, h1, h2⟩ := hall q h
   exact ⟨p, List.mem_append_left _ hp, h1, h2⟩
  ·have : q = k := by omega
   subst this
   exact ⟨_, List.mem_append_right _ (List.mem_singleton.2 rfl), ja (by omega) (by omega) h256, rfl⟩
 have hkn : k = n := by omega
 subst hkn
 obtain ⟨hG1, f, l, hfind, hf9, hlN⟩ := mX (L := L) (b := data) (n := k) (N := (L.length : Int) + 9) hn (by omega) (by rw [<- hB]; exact hgood) hall
 refine (iw all 3 L css w180 hR (by omega) hG1).mono ?_
 rintro e w227 ⟨t228, fs, rfl, k227, hfs, _, _⟩
 rw [hfind] at hfs
 refine ⟨t228, rfl, ?_⟩
 refine (fO all 3 8 L css w227 (hR.af k227) (by omega) hG1).mono ?_
 rintro e w230 ⟨k230, hlat⟩
 have hl8 : latP (fN 3 L) 8 = none := by rw [hfind]; simp [latP]
 rw [hl8] at hlat
 dsimp only at hlat
 subst hlat
 refine ⟨_, _, _, _, _, _, rfl, aj (fun r237 w238 hr237 hb237 k237 hs237 => ?_)⟩
 have o237 : ae w238 r237 fd0 := ae.cn hb237
 obtain ⟨c1, c2⟩ := o237.bx (cs := fd0) (n := 5) rfl rfl
 refine ⟨c1, fun w239 hw239 => ?_⟩
 obtain ⟨o239, x239, z239⟩ := c2 w239 hw239
 have k239 : ai w230 w239 := k237.ext x239 (fun j hj => by omega)
 have k227239 := k230.trans k239
 refine (fO all 3 9 L css w239 ((hR.af k227).af k227239) (by omega) hG1).mono ?_
 rintro e w241 ⟨k241, hlat⟩
 have hl9 : latP (fN 3 L) 9 = some (9, (k : Int), f, l, data) := by rw [hfind]; simp [latP]
 rw [hl9] at hlat
 dsimp only at hlat
 obtain ⟨s246, rfl, hb246, hc246⟩ := hlat
 refine ⟨_, _, _, _, _, _, rfl, aj (fun r248 w249 hr248 hb248 k248 hs248 => ?_)⟩
 have o248 : ae w249 r248 fd0 := ae.cn hb248
 obtain ⟨c3, c4⟩ := o248.bx (cs := fdC (9, (k : Int), f, l, data) s246) (n := 5) rfl rfl
 refine ⟨c3, fun w250 hw250 => ?_⟩
 obtain ⟨o250, x250, z250⟩ := c4 w250 hw250
 have k250 : ai w241 w250.drew := (k248.ext x250 (fun j hj => by omega)).drew
 have k227250 := (k227239.trans k241).trans k250
 have hfs250 := hfs.af k227250
 have hfsl := hfs.sl
 have hfc : 0 < fs.length := by rw [hfs.len]; simp
 obtain ⟨a, ha, _, hrow⟩ := hfs250.get hfc
 obtain ⟨sf, hcs, hbf, hcf⟩ := hfs250.row 0 hfc (by simp)
 rw [hcs] at hrow
 have e0 : a.add (0 * FdR.n) = a.add 0 := by rw [Nat.zero_mul]
 have hcell : ∀ j (hj : j < 5), w250.drew.cell? (a.add j) = some ((fdC (9, (k : Int), f, l, data) sf)[j]'(by simpa [fdC] using hj)) := by
  intro j hj
  have h1 := cm hrow j (by simpa [fdC] using hj)
  rw [e0, Nat.zero_add] at h1
  have h2 : (a.add 0).add j = a.add j := by rw [j9]
  rw [h2] at h1
  exact h1
 have hfull : ai w w250.drew := ((k24'.trans k180).trans k227).trans k227250
 have hdd := ar hd hfull
 have ha0 : w250.drew.cell? a = some (.int .i64 9) := by
  have := hcell 0 (by omega)
  rw [j9] at this
  exact this
 refine ab (fun _ => ?_) (fun h => absurd (by rw [hfsl]; rfl) h)
 refine aq ha ⟨by omega, by rw [hfsl]; simp, sf, hcell 4 (by omega), data, hbf, data, hdd, ab (fun _ => ?_) (fun h => absurd rfl h)⟩
 refine aq ha ⟨by omega, by rw [hfsl]; simp, 9, ha0, ab (fun _ => ?_) (fun h => absurd rfl h)⟩
 refine aq ha ⟨by omega, by rw [hfsl]; simp, f, hcell 2 (by omega), ab (fun _ => ?_) (fun h => absurd hf9 h)⟩
 refine aq ha ⟨by omega, by rw [hfsl]; simp, l, hcell 3 (by omega), bb (by omega), ab (fun _ => ?_) (fun h => absurd (by omega) h)⟩
 refine bp (fun _ => bp (fun _ => ?_) (fun h => by cases h)) (fun h => by cases h)
 refine ⟨s246, (o250.af (Ext.drew dq _)).cell 4 (by simp [fdC]), data, ar hb246 k250, data, hdd, ?_, hfull⟩
 rw [decide_eq_true rfl]
end Go.D

