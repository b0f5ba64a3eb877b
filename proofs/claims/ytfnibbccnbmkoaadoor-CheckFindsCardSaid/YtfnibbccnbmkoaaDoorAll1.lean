/-
  WHAT IS PROVED: contracts of functions, and the plain law, for this proof. No further conditions.
-/
import Derived.Test.YtfnibbccnbmkoaaDoorMem
import Derived.Test.YtfnibbccnbmkoaaDoorRd
import Derived.Test.YtfnibbccnbmkoaaDoorVCchunk
import Derived.Test.YtfnibbccnbmkoaaDoorRowsM
import Derived.Test.YtfnibbccnbmkoaaDoorRangeM
import Derived.Test.YtfnibbccnbmkoaaDoorSub
import Derived.Test.YtfnibbccnbmkoaaDoorVCsums
import Derived.Test.YtfnibbccnbmkoaaDoorArgs
import Derived.Test.YtfnibbccnbmkoaaDoorBase
import Derived.Test.YtfnibbccnbmkoaaDoorLaid
import Derived.Test.YtfnibbccnbmkoaaDoorVCparts
import Derived.Test.YtfnibbccnbmkoaaDoorCopyM
import Derived.Test.YtfnibbccnbmkoaaDoorVCentryR
import Derived.Test.YtfnibbccnbmkoaaDoorVCcheck
import Derived.Test.YtfnibbccnbmkoaaDoorMapW
import Derived.Test.YtfnibbccnbmkoaaDoorVCfind
import Derived.Test.YtfnibbccnbmkoaaDoorVCsiftF
import Derived.Test.YtfnibbccnbmkoaaDoorVCbreakF
import Derived.Test.YtfnibbccnbmkoaaDoorVCpivotF
import Derived.Test.YtfnibbccnbmkoaaDoorVCpartF
set_option linter.unusedVariables false
set_option linter.unusedSimpArgs false
namespace Go.D
open Go
theorem gB {w : World} {s : Slc} {b : List UInt8} (h : ar w s b) (hl : 0 < s.l) : ∀ k, aC s k -> k < w.heap.size := by
 rintro k ⟨a, ha, rfl⟩
 have hb : 0 < (b.map ba).length := by rw [List.length_map, <- h.1]; exact hl
 obtain ⟨a', ha', hc⟩ := dj h.2 hb
 rw [ha] at ha'
 cases ha'
 have := World.block_lt_of_cell? w _ hc
 rwa [cD] at this
theorem aP {M : Nat -> Prop} {w w' : World} {s : Slc} {b : List UInt8} (h : ar w s b) (he : Ext M w w') (hm : 0 < s.l -> ∀ k, aC s k -> ¬ M k) : ar w' s b := by
 rcases Nat.eq_zero_or_pos s.l with h0 | h0
 ·have : b = [] := by have := h.1; rw [h0] at this; exact List.length_eq_zero_iff.1 this.symm
  subst this
  exact ⟨h.1, .inl rfl⟩
 ·exact di h he (hm h0)
abbrev iy (r : Nat) : Value := .pointer (some ⟨r, 0, none⟩)
theorem qS {w : World} {a : Addr} {cs : List Value} (h : rowAt w a 0 cs) (j : Nat) (hj : j < cs.length) : w.cell? (a.add j) = some cs[j] := by
 have := dE h j hj
 rwa [Nat.zero_add] at this
end Go.D
namespace Go.D
open Go Go.Proofs
theorem nK (s : Slc) (n : Int) (hn : 1 <= n) (w : World) :
  Calls Tryd.prog cO ⟨[s.v, .int .i64 n]⟩ w fun e w' => ∃ b1 b2, e = .returned (.func (.func bF) ⟨[]⟩ ⟨[iy b1, iy b2]⟩) /\ ab w' b1 [s.v] /\ ab w' b2 [.int .i64 n] /\ av w w' /\ w.heap.size <= b1 /\ w.heap.size <= b2 := by
 refine gw _ _ ?_
 unfold eS
 refine ai (fun r w1 hr hb hk hs => ai (fun r2 w2 hr2 hb2 hk2 hs2 => ?_))
 have o2 := ab.bS hb2
 have z1 := hk.size
 refine ⟨_, o2.cell 0 (by simp), aa (fun h => by omega) (fun h => ⟨r, r2, rfl, (ab.bS hb).ah hk2, o2, hk.trans hk2, by omega, by omega⟩)⟩
def de (B : List UInt8) (n k : Nat) : List UInt8 := (B.drop (k * n)).take n
theorem lN (s : Slc) (B : List UInt8) (n lr b1 b2 : Nat) (J : Nat -> World -> Prop) (hn : 0 < n) (hnl : n <= 2 ^ 20) (hl : B.length <= 2 ^ 30) (hsc : s.l <= s.c)
  (hJ : ∀ k w, J k w -> w.cell? ⟨b1, 0, none⟩ = some s.v /\ w.cell? ⟨b2, 0, none⟩ = some (.int .i64 (n : Int)) /\ ar w s B)
  (hd : ∀ k w, J k w -> J k w.drew)
  (hstep : ∀ k (hk : k * n < B.length) (w : World) (sd : Slc), J k w -> ar w sd (de B n k) ->
   dD Tryd.prog lr ⟨[sd.v]⟩ w fun e w' => e = .returned (.bool true) /\ J (k + 1) w')
  (w : World) (h0 : J 0 w) :
  Calls Tryd.prog bF ⟨[.func (.yield lr) ⟨[]⟩ ⟨[]⟩, iy b1, iy b2]⟩ w fun e w' => e = .returned (.tuple #[]) /\ ∃ k, B.length <= k * n /\ (k = 0 \/ (k - 1) * n < B.length) /\ J k w' := by
 refine fJ _ _ _ ?_
 unfold eg
 refine ⟨fun i w2 => ∃ k : Nat, i = ((k * n : Nat) : Int) /\ (k = 0 \/ (k - 1) * n < B.length) /\ J k w2, fun i _ => ((B.length : Int) - i).toNat, ⟨0, by simp, .inl rfl, h0⟩, ?_⟩
 rintro i w7 ⟨k, rfl, hk, h7⟩
 intros
 obtain ⟨hc1, hc2, hB⟩ := hJ _ _ h7
 have hsl := hB.1
 have h7d := hd _ _ h7
 obtain ⟨hd1, hd2, hBd⟩ := hJ _ _ h7d
 refine ao rfl ⟨s, hc1, aa (fun h1 => ?_) (fun h1 => ⟨rfl, k, by omega, hk, h7⟩)⟩
 have hkl : k * n < B.length := by omega
 have hknn : (k + 1) * n = k * n + n := by rw [Nat.add_mul, Nat.one_mul]
 have hsubl : (Slc.sub s 1 (Int.toNat ((k * n : Nat) : Int)) s.l s.c).l = s.l - k * n := by simp only [Slc.sub]; omega
 obtain ⟨m, hm⟩ : ∃ m : Nat, (m : Int) = if ((s.l - k * n : Nat) : Int) < (n : Int) then ((s.l - k * n : Nat) : Int) else (n : Int) := by split; exact ⟨_, rfl⟩; exact ⟨_, rfl⟩
 have hmn : m = min n (B.length - k * n) := by split at hm <;> omega
 refine ao rfl ⟨_, hd2, ao rfl ⟨s, hd1, by omega, by omega, by omega, by omega, ao rfl ⟨s, hd1, ?_⟩⟩⟩
 rw [hsubl, <- hm]
 refine ⟨af (by omega), af (by omega), by omega, by omega, by omega, by omega, ?_⟩
 have e1 : Int.toNat ((k * n : Nat) : Int) = k * n := by omega
 have e2 : Int.toNat (((k * n : Nat) : Int) + (m : Int)) = k * n + m := by omega
 rw [e1, e2]
 have hsd : ar w7.drew (Slc.sub s 1 (k * n) (k * n + m) (k * n + m)) (de B n k) := by
  have := gq hBd (lo := k * n) (hi := k * n + m) (c := k * n + m) (by omega) (by omega) (by omega)
  have e3 : de B n k = (B.take (k * n + m)).drop (k * n) := by
   unfold de
   rw [List.drop_take, show k * n + m - k * n = m by omega]
   by_cases hmm : m = n
   ·rw [hmm]
   ·rw [List.take_of_length_le (by simp; omega), List.take_of_length_le (by simp; omega)]
  rw [e3]; exact this
 refine (hstep k hkl _ _ h7d hsd).mono ?_
 rintro e w45 ⟨rfl, h45⟩
 obtain ⟨hf1, hf2, _⟩ := hJ _ _ h45
 refine ⟨true, rfl, aN (fun h => by cases h) (fun _ => ao rfl ⟨_, hf2, af (by omega), ⟨k + 1, by omega, .inr (by rw [Nat.add_sub_cancel]; exact hkl), h45⟩, by first | (dsimp only; omega) | omega⟩)⟩
end Go.D
namespace Go.D
def eV (s : Nat) : Nat := if s &&& 1 = 1 then (s / 2) ^^^ 3988292384 else s / 2
def iterB : Nat -> Nat -> Nat
 | 0, s => s
 | n + 1, s => eV (iterB n s)
def mQ (s : Nat) (c : UInt8) : Nat := iterB 8 (s ^^^ c.toNat)
def iz (s : Nat) (b : List UInt8) : Nat := b.foldl mQ s
def crc (b : List UInt8) : Nat := 4294967295 ^^^ iz 4294967295 b
theorem nL {s : Nat} (h : s < 4294967296) : eV s < 4294967296 := by
 unfold eV
 split
 ·exact Nat.xor_lt_two_pow (n := 32) (by omega) (by decide)
 ·omega
theorem j3 {s : Nat} (h : s < 4294967296) : ∀ n, iterB n s < 4294967296
 | 0 => h
 | n + 1 => nL (j3 h n)
theorem qd {s : Nat} (h : s < 4294967296) (c : UInt8) : mQ s c < 4294967296 :=
 j3 (Nat.xor_lt_two_pow (n := 32) h (by have := c.toNat_lt; omega)) 8
theorem mR (s : Nat) (a b : List UInt8) : iz s (a ++ b) = iz (iz s a) b := by simp [iz]
def fN (r bit : Nat) : Nat := if r &&& 1 = bit then r / 2 else (r / 2) ^^^ 3988292384
def refRest (r c : Nat) : Nat -> Nat
 | 0 => r
 | i + 1 => fN (refRest r c i) ((c / 2 ^ i) &&& 1)
theorem rD (n : Nat) : n &&& 1 = n % 2 := Nat.and_one_is_mod n
theorem qe (a b : Nat) : (a ^^^ b) % 2 = (a % 2 + b % 2) % 2 := by
 have h := Nat.xor_mod_two_pow (a := a) (b := b) (n := 1)
 rw [Nat.pow_one] at h
 rw [h]
 rcases Nat.mod_two_eq_zero_or_one a with h1 | h1 <;> rcases Nat.mod_two_eq_zero_or_one b with h2 | h2 <;> simp [h1, h2]
theorem qf (a b : Nat) : (a ^^^ b) / 2 = a / 2 ^^^ b / 2 := by
 have := Nat.shiftRight_xor_distrib (a := a) (b := b) (i := 1)
 simpa [Nat.shiftRight_eq_div_pow] using this
theorem rE (a b c : Nat) : a ^^^ (b ^^^ c) = b ^^^ (a ^^^ c) := by
 rw [<- Nat.xor_assoc, Nat.xor_comm a b, Nat.xor_assoc]
theorem qT (r c : Nat) : eV (r ^^^ c) = fN r (c &&& 1) ^^^ (c / 2) := by
 unfold eV fN
 rw [rD, rD, rD, qe, qf]
 rcases Nat.mod_two_eq_zero_or_one r with h1 | h1 <;> rcases Nat.mod_two_eq_zero_or_one c with h2 | h2 <;> simp [h1, h2, Nat.xor_assoc, Nat.xor_comm, rE]
theorem mS (r c : Nat) : ∀ i, iterB i (r ^^^ c) = refRest r c i ^^^ (c / 2 ^ i)
 | 0 => by simp [iterB, refRest]
 | i + 1 => by
  rw [iterB, mS r c i, qT, refRest, Nat.div_div_eq_div_mul, <- Nat.pow_succ]
theorem qg (r : Nat) (c : UInt8) : refRest r c.toNat 8 = mQ r c := by
 unfold mQ
 rw [mS]
 have : c.toNat / 2 ^ 8 = 0 := by have := c.toNat_lt; omega
 rw [this, Nat.xor_zero]
theorem j4 {r c : Nat} (h : r < 4294967296) : ∀ i, refRest r c i < 4294967296
 | 0 => h
 | i + 1 => by
  have := j4 (c := c) h i
  unfold refRest fN
  split
  ·omega
  ·exact Nat.xor_lt_two_pow (n := 32) (by omega) (by decide)
end Go.D
namespace Go.D
open Go
theorem qh (n : Nat) : Value.int .u8 (IntKind.wrap .u8 (n : Int)) = ba (UInt8.ofNat n) := by
 have h : IntKind.wrap .u8 (n : Int) = ((n % 256 : Nat) : Int) := by
  simp [IntKind.wrap, IntKind.signed, IntKind.bits]
 rw [h, ba, UInt8.toNat_ofNat']
theorem iS (n d : Nat) : Value.int .u8 (IntKind.wrap .u8 ((n : Int) / (d : Int))) = ba (UInt8.ofNat (n / d)) := qh (n / d)
def le4 (n : Nat) : List UInt8 := [UInt8.ofNat n, UInt8.ofNat (n / 256), UInt8.ofNat (n / 65536), UInt8.ofNat (n / 16777216)]
theorem j5 {α : Type} {l : List α} {k : Nat} (h : k < l.length) : l.drop k = l[k] :: l.drop (k + 1) := List.drop_eq_getElem_cons h
end Go.D
namespace Go.D
open Go Go.Proofs
theorem gI (a : Nat) : bitsI .and (a : Int) 1 = ((a &&& 1 : Nat) : Int) := rfl
theorem pd (s : Nat) (c : UInt8) (hs : s < 4294967296) (w : World) :
  Calls Tryd.prog fI ⟨[.int .u32 (s : Int), .int .u8 (c.toNat : Int)]⟩ w fun e w' => e = .returned (.int .u32 (mQ s c : Int)) /\ w' = w := by
 have hc := c.toNat_lt
 refine lJ _ _ ?_
 unfold kT
 refine ⟨dQ (by omega), by omega, by omega, dQ (by omega), dQ (by omega), ?_⟩
 refine ⟨fun s' i w' => w' = w /\ ∃ k : Nat, i = k /\ k <= 8 /\ s' = (iterB k (s ^^^ c.toNat) : Nat), fun _ i _ => (8 - i).toNat, ⟨rfl, 0, rfl, by omega, rfl⟩, ?_⟩
 rintro s' i w' ⟨rfl, k, rfl, hk, rfl⟩
 intros
 have hx : s ^^^ c.toNat < 4294967296 := Nat.xor_lt_two_pow (n := 32) hs (by omega)
 have hb := j3 hx k
 refine aa (fun h => ?_) (fun h => ?_)
 ·refine ⟨by omega, by omega, dQ (by omega), dQ (by omega), by omega, by omega, ?_⟩
  have e : eV (iterB k (s ^^^ c.toNat)) = iterB (k + 1) (s ^^^ c.toNat) := rfl
  refine aa (fun h1 => ?_) (fun h1 => ?_)
  ·refine ⟨by omega, by omega, dQ (by omega), dQ (by omega), af (by omega), ⟨rfl, k + 1, rfl, by omega, ?_⟩, by dsimp only; omega⟩
   have h2 : iterB k (s ^^^ c.toNat) &&& 1 = 1 := by have := gI (iterB k (s ^^^ c.toNat)); omega
   rw [<- e, eV, if_pos h2]
   rfl
  ·refine ⟨af (by omega), ⟨rfl, k + 1, rfl, by omega, ?_⟩, by dsimp only; omega⟩
   have h2 : ¬ iterB k (s ^^^ c.toNat) &&& 1 = 1 := by have := gI (iterB k (s ^^^ c.toNat)); omega
   rw [<- e, eV, if_neg h2]
   rfl
 ·obtain rfl : k = 8 := by omega
  exact ⟨rfl, rfl⟩
theorem qi (parts : Slc) (ps : List Slc) (bs : List (List UInt8)) (w : World) (h : pZ w parts ps bs) (hl : parts.l <= 2 ^ 40) (hll : ∀ i (h : i < ps.length), ps[i].l <= 2 ^ 40) :
  Calls Tryd.prog gr ⟨[parts.v]⟩ w fun e w' => e = .returned (.int .u32 (crc bs.flatten : Int)) /\ w' = w := by
 obtain ⟨h1, h2, h3, h4⟩ := h
 refine mN _ ?_
 unfold mM
 refine ⟨fun s i w' => w' = w /\ ∃ k t : Nat, i = k /\ k <= ps.length /\ s = t /\ t < 4294967296 /\ iz t (bs.drop k).flatten = iz 4294967295 bs.flatten, fun _ i _ => (ps.length - i).toNat,
  ⟨rfl, 0, 4294967295, rfl, by omega, rfl, by omega, rfl⟩, ?_⟩
 rintro s i w' ⟨rfl, k, t, rfl, hk, rfl, ht, hsum⟩
 intros
 refine aa (fun h => ?_) (fun h => ?_)
 ·have hk' : k < ps.length := by omega
  refine eY h2 (i := k) (by simpa using hk') (fun a ha hc => ⟨by omega, h, ps[k], ?_, ?_⟩)
  ·simpa using hc
  ·have hb := h4 k hk' (by omega)
   have hlk := hll k hk'
   rw [j5 (show k < bs.length by omega), List.flatten_cons, mR] at hsum
   refine ⟨fun s2 j w2 => w2 = w' /\ ∃ m u : Nat, j = m /\ m <= bs[k].length /\ s2 = u /\ u < 4294967296 /\ iz u (bs[k].drop m) = iz t bs[k], fun _ j _ => (bs[k].length - j).toNat,
    ⟨rfl, 0, t, rfl, by omega, rfl, ht, rfl⟩, ?_⟩
   rintro s2 j w2 ⟨rfl, m, u, rfl, hm, rfl, hu, hsum2⟩
   intros
   have hbl := hb.1
   refine aa (fun h5 => ?_) (fun h5 => ?_)
   ·have hm' : m < bs[k].length := by omega
    refine eY hb.2 (i := m) (by simpa using hm') (fun a2 ha2 hc2 => ⟨by omega, h5, (bs[k][m].toNat : Int), ?_, ?_⟩)
    ·simpa [ba] using hc2
    ·refine (pd u bs[k][m] hu w2).mono ?_
     rintro e w3 ⟨rfl, rfl⟩
     refine ⟨_, rfl, af (by omega), ⟨rfl, m + 1, _, rfl, by omega, rfl, qd hu _, ?_⟩, by dsimp only; omega⟩
     rw [j5 hm'] at hsum2
     exact hsum2
   ·have hme : m = bs[k].length := by omega
    rw [hme, List.drop_length] at hsum2
    refine ⟨af (by omega), ⟨rfl, k + 1, u, rfl, by omega, rfl, hu, ?_⟩, by dsimp only; omega⟩
    have hsum2' : u = iz t bs[k] := hsum2
    rw [hsum2']
    exact hsum
 ·obtain rfl : k = ps.length := by omega
  rw [h3] at hsum
  simp only [List.drop_length, List.flatten_nil] at hsum
  refine ⟨by omega, dQ (by omega), ?_, rfl⟩
  have hsum' : t = iz 4294967295 bs.flatten := hsum
  rw [hsum']
  rfl
theorem lO (n : Nat) (h : n <= 100) : IntKind.wrap .u64 (n : Int) = n := bu (gn (by omega))
theorem mT (b : Slc) (bs : List UInt8) (w : World) (h : ar w b bs) (hl : b.l <= 2 ^ 40) :
  Calls Tryd.prog cG ⟨[b.v]⟩ w fun e w' => e = .returned (.int .u32 (crc bs : Int)) /\ w' = w := by
 obtain ⟨h1, h2⟩ := h
 refine fY _ ?_
 unfold eB
 refine ⟨fun s i w' => w' = w /\ ∃ k t : Nat, i = k /\ k <= bs.length /\ s = t /\ t < 4294967296 /\ iz t (bs.drop k) = iz 4294967295 bs, fun _ i _ => (bs.length - i).toNat,
  ⟨rfl, 0, 4294967295, rfl, by omega, rfl, by omega, rfl⟩, ?_⟩
 rintro s i w' ⟨rfl, k, t, rfl, hk, rfl, ht, hsum⟩
 intros
 refine aa (fun h => ?_) (fun h => ?_)
 ·have hk' : k < bs.length := by omega
  have hc8 := bs[k].toNat_lt
  refine eY h2 (i := k) (by simpa using hk') (fun a ha hc => ⟨by omega, h, (bs[k].toNat : Int), ?_, ?_⟩)
  ·simpa [ba] using hc
  ·refine ⟨fun s2 j w2 => w2 = w' /\ ∃ m : Nat, j = m /\ m <= 8 /\ s2 = (refRest t bs[k].toNat m : Nat), fun _ j _ => (8 - j).toNat, ⟨rfl, 0, rfl, by omega, rfl⟩, ?_⟩
   rintro s2 j w2 ⟨rfl, m, rfl, hm, rfl⟩
   intros
   have hr := j4 (c := bs[k].toNat) ht m
   refine aa (fun h5 => ?_) (fun h5 => ?_)
   ·rw [lO m (by omega)]
    have e1 : min (Int.toNat (m : Int)) 32 = m := by omega
    rw [e1]
    have e2 : ((bs[k].toNat : Int) / ((2 ^ m : Nat) : Int)) = ((bs[k].toNat / 2 ^ m : Nat) : Int) := by simp
    rw [e2]
    have hd : bs[k].toNat / 2 ^ m <= bs[k].toNat := Nat.div_le_self _ _
    have e3 : refRest t bs[k].toNat (m + 1) = fN (refRest t bs[k].toNat m) ((bs[k].toNat / 2 ^ m) &&& 1) := rfl
    have e4 := gI (refRest t bs[k].toNat m)
    have e5 := gI (bs[k].toNat / 2 ^ m)
    clear e2
    generalize bs[k].toNat / 2 ^ m = q at e3 e5 hd ⊢
    refine ⟨dQ (by omega), by omega, by omega, by omega, by omega, dQ (by omega), dQ (by omega), by omega, by omega, dQ (by omega), dQ (by omega), ?_⟩
    refine aR (fun h6 => ?_) (fun h6 => ?_)
    ·refine ⟨by omega, by omega, by omega, by omega, dQ (by omega), dQ (by omega), af (by omega), ⟨rfl, m + 1, rfl, by omega, ?_⟩, by dsimp only; omega⟩
     have h7 : ¬ (refRest t bs[k].toNat m &&& 1 = q &&& 1) := fun h8 => h6 (by omega)
     rw [e3, fN, if_neg h7]
     rfl
    ·refine ⟨by omega, by omega, af (by omega), ⟨rfl, m + 1, rfl, by omega, ?_⟩, by dsimp only; omega⟩
     have h7 : refRest t bs[k].toNat m &&& 1 = q &&& 1 := by omega
     rw [e3, fN, if_pos h7]
     rfl
   ·obtain rfl : m = 8 := by omega
    refine ⟨af (by omega), ⟨rfl, k + 1, _, rfl, by omega, rfl, hr, ?_⟩, by dsimp only; omega⟩
    rw [qg]
    rw [j5 hk'] at hsum
    exact hsum
 ·obtain rfl : k = bs.length := by omega
  simp only [List.drop_length] at hsum
  refine ⟨by omega, by omega, dQ (by omega), dQ (by omega), ?_, rfl⟩
  have hsum' : t = iz 4294967295 bs := hsum
  have : (bitsI .xor (t : Int) (4294967295 : Int)) = (crc bs : Int) := by
   rw [hsum', crc, Nat.xor_comm]; rfl
  rw [this]
end Go.D
namespace Go.D
open Go Go.Proofs
def jn : List Nat := [cQ, mC, nC, nE, oZ, nB, nD, lI, kD, jf, kE, nF, gX, mD, mE, nG, mF, mG, mH]
abbrev rF (A : Nat -> Addr) (g : Nat) : Value := .iface mI (.pointer (some (A g)))
abbrev rG (A : Nat -> Addr) (w : World) : Prop := eZ mI jn A w
theorem qj {k : Nat} (hk : k < 19) : jn.getD k 0 ∈ jn := by
 have : jn.getD k 0 = jn[k]'(by simpa [jn] using hk) := by
  simp only [List.getD]
  rw [List.getElem?_eq_getElem (by simpa [jn] using hk)]
  rfl
 rw [this]
 exact List.getElem_mem _
theorem rG.at {A : Nat -> Addr} {w : World} (h : rG A w) (k : Nat) (hk : k < 19) : w.cell? (⟨jn.getD k 0, 0, none⟩ : Addr) = some (rF A (jn.getD k 0)) := (h.1 _ (qj hk)).1
end Go.D
namespace Go.D
open Go Go.Proofs
def qk (A : Nat -> Addr) (n0 : Nat) (w : World) : Prop := rG A w /\ ∀ g ∈ jn, g < n0 /\ (A g).block < n0
abbrev Old (n0 : Nat) := Ext (fun k => n0 <= k)
theorem Old.trans {n0 : Nat} {a b c : World} (h1 : Old n0 a b) (h2 : Old n0 b c) : Old n0 a c := Ext.trans h1 h2 (fun _ h => h) (fun _ h => .inl h)
theorem qk.ext {A : Nat -> Addr} {n0 : Nat} {M : Nat -> Prop} {w w' : World} (h : qk A n0 w) (he : Ext M w w') (hm : ∀ k, M k -> n0 <= k) : qk A n0 w' := by
 refine ⟨⟨fun g hg => ?_, h.1.2⟩, h.2⟩
 obtain ⟨h1, c, t, h2⟩ := h.1.1 g hg
 obtain ⟨b1, b2⟩ := h.2 g hg
 exact ⟨he.cell h1 (fun hh => by have := hm _ hh; simp only at this; omega), c, t, he.heap h2 (fun hh => by have := hm _ hh; omega)⟩
def eG (G : List Nat) (A : Nat -> Addr) (n0 : Nat) (w : World) : Prop := eZ mI G A w /\ ∀ g ∈ G, g < n0 /\ (A g).block < n0
theorem eZ.g {G : List Nat} {A : Nat -> Addr} {w : World} (h : eZ mI G A w) : eG G A w.heap.size w := by
 refine ⟨h, fun g hg => ?_⟩
 obtain ⟨h1, c, t, h2⟩ := h.1 g hg
 refine ⟨?_, bH h2⟩
 have := World.block_lt_of_cell? w _ h1
 exact this
theorem eG.ext {G : List Nat} {A : Nat -> Addr} {n0 : Nat} {M : Nat -> Prop} {w w' : World} (h : eG G A n0 w) (he : Ext M w w') (hm : ∀ k, M k -> n0 <= k) : eG G A n0 w' := by
 refine ⟨⟨fun g hg => ?_, h.1.2⟩, h.2⟩
 obtain ⟨h1, c, t, h2⟩ := h.1.1 g hg
 obtain ⟨b1, b2⟩ := h.2 g hg
 exact ⟨he.cell h1 (fun hh => by have := hm _ hh; simp only at this; omega), c, t, he.heap h2 (fun hh => by have := hm _ hh; omega)⟩
theorem eG.ah {G : List Nat} {A : Nat -> Addr} {n0 : Nat} {w w' : World} (h : eG G A n0 w) (he : av w w') : eG G A n0 w' := h.ext he (fun _ h => h.elim)
theorem eG.sub {G H : List Nat} {A : Nat -> Addr} {n0 : Nat} {w : World} (h : eG G A n0 w) (k : ∀ g ∈ H, g ∈ G) : eG H A n0 w := ⟨h.1.sub k, fun g hg => h.2 g (k g hg)⟩
theorem eG.at {G : List Nat} {A : Nat -> Addr} {n0 : Nat} {w : World} (h : eG G A n0 w) {g : Nat} (hg : g ∈ G) : w.cell? (⟨g, 0, none⟩ : Addr) = some (rF A g) := (h.1.1 g hg).1
def qU (A : Nat -> Addr) : Option Nat -> Value
 | none => .nilIface
 | some k => rF A (jn.getD k 0)
theorem Own.le {w : World} {s : Slc} {sz : Nat} {vs : List Value} (h : Own w s sz vs) (hsz : 0 < sz) : s.l <= s.c := by
 obtain ⟨hl, ⟨_, hv, hc⟩ | ⟨b, pad, T, f, _, _, h1, _⟩⟩ := h
 ·subst hv
  have : s.l * sz = 0 := by simpa using hl
  rcases Nat.mul_eq_zero.1 this with h | h <;> omega
 ·rw [List.length_append] at h1
  exact Nat.le_of_mul_le_mul_right (by omega) hsz
theorem ow {G : List Nat} {A : Nat -> Addr} {n0 : Nat} {w : World} (h : eG G A n0 w) (k : Nat) (g : Nat) (hg : g = jn.getD k 0) (hm : g ∈ G) : w.cell? (⟨g, 0, none⟩ : Addr) = some (qU A (some k)) := by
 subst hg; exact h.at hm
end Go.D
namespace Go.D
open Go Go.Proofs
theorem nM (s : Slc) (b : List UInt8) (w : World) (hb : ar w s b) (hl : s.l <= 2 ^ 30) :
  Calls Tryd.prog cP ⟨[s.v]⟩ w fun e w' => ∃ t : Slc, e = .returned t.v /\ Own w' t 1 (b.map ba) /\ cX w t /\ av w w' := by
 refine gx _ ?_
 unfold eT
 refine aN (fun h => ?_) (fun h => ?_)
 ·have hp : s.p = none := by simpa using h
  have hb0 : b = [] := by
   rcases hb.2 with h0 | ⟨a, ha, _⟩
   ·simpa using h0
   ·rw [hp] at ha; cases ha
  subst hb0
  exact ⟨_, rfl, Own.nil _ _, cX.nil _ _ _, Ext.refl _ _⟩
 ·refine ai (fun r w1 hr hb1 hk hs => ?_)
  refine fH (vs := []) (w0 := w) (Own.new (sz := 1) (n := 0) hb1 (.inl (by simp)) rfl) rfl (cX.at (by omega)) hk (dO (az hb hk)) (by simp only [Src.n]; omega) (fun s' w' h1 h2 h3 h4 => ?_)
  exact ⟨s', rfl, by simpa using h1, h3, h2⟩
end Go.D
namespace Go.D
open Go Go.Proofs
def dK (b : List UInt8) : List UInt8 := le4 (crc b) ++ b
theorem ql {w : World} {r : Nat} {T : TypeId} {f : Nat × Nat} {s : Slc} {b : List UInt8} (h : w.heap[r]? = some (.cells ⟨[s.v]⟩ T f)) (hb : ar w s b) :
  pZ w ⟨some ⟨r, 0, none⟩, 1, 1⟩ [s] [b] := by
 refine ⟨rfl, .inr ⟨_, rfl, fun i hi => ?_⟩, rfl, fun i hi _ => ?_⟩
 ·have hi : i < 1 := by simpa using hi
  rw [add_lit, cell_of h, Nat.zero_add]
  match i, hi with
  | 0, _ => rfl
 ·have hi : i < 1 := by simpa using hi
  match i, hi with
  | 0, _ => exact hb
theorem jb (s : Slc) (b : List UInt8) (w : World) (hb : ar w s b) (hl : b.length <= 2 ^ 20) :
  Calls Tryd.prog cA ⟨[s.v]⟩ w fun e w' => ∃ t : Slc, e = .returned t.v /\ Own w' t 1 ((dK b).map ba) /\ cX w t /\ av w w' := by
 have hsl := hb.1
 refine ji _ ?_
 unfold iu
 refine ai (fun r2 w3 hr2 hb2 k2 hs2 => ?_)
 have hb3 := az hb k2
 refine (qi _ _ _ _ (ql hb2 hb3) (by simp) (fun i h => by
  have hi : i < 1 := by simpa using h
  match i, hi with
  | 0, _ => show s.l <= _; omega)).mono ?_
 rintro e w5 ⟨rfl, rfl⟩
 have hfl : [b].flatten = b := by simp
 rw [hfl]
 refine ⟨_, rfl, by omega, by omega, by omega, by omega, by omega, by omega, ai (fun r7 w8 hr7 hb7 k7 hs7 => ?_)⟩
 rw [qh, show (256 : Int) = ((256 : Nat) : Int) from rfl, show (65536 : Int) = ((65536 : Nat) : Int) from rfl, show (16777216 : Int) = ((16777216 : Nat) : Int) from rfl, iS, iS, iS] at hb7
 have ho : Own w8 ⟨some ⟨r7, 0, none⟩, 4, 4⟩ 1 ((le4 (crc b)).map ba) := Own.new (sz := 1) (n := 4) hb7 (.inl (by simp)) rfl
 have z2 := k2.size
 refine fH (w0 := w) ho rfl (cX.at (by omega)) (k2.trans k7) (dO (az hb3 k7)) (by simp only [Src.n]; omega) (fun s9 w10 g1 g2 g3 g4 => ⟨s9, rfl, g1, g3, g2⟩)
theorem j6 (s : Slc) (b : List UInt8) (w : World) (hb : ar w s b) (hl : b.length <= 2 ^ 20) :
  Calls Tryd.prog bW ⟨[s.v]⟩ w fun e w' => ∃ t : Slc, e = .returned t.v /\ Own w' t 1 ((dK b).map ba) /\ cX w t /\ av w w' := by
 have hsl := hb.1
 refine fa _ ?_
 unfold dv
 refine (mT s b w hb (by omega)).mono ?_
 rintro e w5 ⟨rfl, rfl⟩
 refine ⟨_, rfl, by omega, by omega, by omega, by omega, by omega, by omega, ai (fun r7 w8 hr7 hb7 k7 hs7 => ?_)⟩
 rw [qh, show (256 : Int) = ((256 : Nat) : Int) from rfl, show (65536 : Int) = ((65536 : Nat) : Int) from rfl, show (16777216 : Int) = ((16777216 : Nat) : Int) from rfl, iS, iS, iS] at hb7
 have ho : Own w8 ⟨some ⟨r7, 0, none⟩, 4, 4⟩ 1 ((le4 (crc b)).map ba) := Own.new (sz := 1) (n := 4) hb7 (.inl (by simp)) rfl
 refine fH (w0 := w5) ho rfl (cX.at (by omega)) k7 (dO (az hb k7)) (by simp only [Src.n]; omega) (fun s9 w10 g1 g2 g3 g4 => ⟨s9, rfl, g1, g3, g2⟩)
theorem gY (b : List UInt8) : (dK b).length = 4 + b.length := by unfold dK; rw [List.length_append]; simp [le4]
end Go.D
namespace Go.D
open Go Go.Proofs
abbrev Pt := Int × Int × List UInt8
def ptC (sh up p q : Int) (sd : Slc) : List Value := [.int .i64 5, .int .i64 sh, .int .i64 0, .int .i64 0, .int .i64 0, .int .i64 0, (⟨none, 0, 0⟩ : Slc).v, aq [], .int .i64 up, .int .i64 p, .int .i64 q, sd.v]
theorem iA {sh up p q : Int} {s : Slc} {k : Nat} (h : dT (ptC sh up p q s) k) : 0 < s.l /\ aC s k := by
 obtain ⟨s', hs, h1, h2⟩ := h
 have : s' = s := by
  obtain ⟨p, l, c⟩ := s
  obtain ⟨p', l', c'⟩ := s'
  simp [ptC, Slc.v, aq] at hs
  rcases hs with ⟨rfl, rfl, rfl⟩ | ⟨rfl, rfl, rfl⟩
  ·simp at h1
  ·rfl
 subst this
 exact ⟨h1, h2⟩
theorem fO {sh up p q : Int} {s : Slc} {k : Nat} (h0 : 0 < s.l) (h : aC s k) : dT (ptC sh up p q s) k := ⟨s, by simp [ptC], h0, h⟩
def PtR (sh up : Int) : o0 Pt where
 n := 12
 pos := by omega
 R w x cs := ∃ s : Slc, cs = ptC sh up x.1 x.2.1 s /\ ar w s x.2.2 /\ s.l <= s.c
 len := by rintro w x cs ⟨s, rfl, _⟩; rfl
 one := by rintro w x cs ⟨s, rfl, _⟩; intro v hv; simp [ptC] at hv; rcases hv with rfl | rfl | rfl | rfl | rfl | rfl | rfl | rfl | rfl <;> rfl
 ext := by
  rintro M w w' x cs ⟨s, rfl, h, h2⟩ he hm
  exact ⟨s, rfl, aP h he (fun h0 k hk => hm k (fO h0 hk)), h2⟩
 lt := by
  rintro w x cs ⟨s, rfl, h, _⟩ k hk
  obtain ⟨h0, hk⟩ := iA hk
  exact gB h h0 k hk
def fv (B : List UInt8) (n m k : Nat) : List Pt := (List.range k).map fun (i : Nat) => ((i : Int), if i < m then (n : Int) else 0, de B 256 i)
theorem dZ (B : List UInt8) (n m k : Nat) : (fv B n m k).length = k := by simp [fv]
theorem iB {B : List UInt8} {n m k i : Nat} (h : i < (fv B n m k).length) : (fv B n m k)[i] = ((i : Int), if i < m then (n : Int) else 0, de B 256 i) := by simp [fv]
theorem pf {B : List UInt8} {n m k : Nat} (h : m <= k) : fv B n m (k + 1) = fv B n m k ++ [((k : Int), 0, de B 256 k)] := by
 unfold fv
 rw [List.range_succ, List.map_append]
 simp; omega
theorem qm {B : List UInt8} {n m k : Nat} (h : m < k) : (fv B n m k).set m ((m : Int), (n : Int), de B 256 m) = fv B n (m + 1) k := by
 refine List.ext_getElem (by simp [fv]) (fun i h1 h2 => ?_)
 rw [iB h2, List.getElem_set]
 split
 ·rename_i he; subst he; simp
 ·rename_i he
  rw [iB]
  have : i < m ↔ i < m + 1 := by omega
  simp [this]
def c9 (b : List UInt8) : Nat := (4 + b.length + 255) / 256
def jx (sh up : Int) : Bool := decide (0 <= sh /\ sh <= 12 /\ 0 <= up /\ up <= 4096)
def fP (sh up : Int) (b : List UInt8) : Except Nat (List Pt) :=
 if jx sh up = false then .error 0 else if 64 < c9 b then .error 12 else .ok (fv (dK b) (c9 b) (c9 b) (c9 b))
def ckG : List Nat := [cQ, gX]
theorem lP {M : Nat -> Prop} {w w' : World} {sd : Slc} {b : List UInt8} {lr : Nat} {o : Loop} (h : ar w sd b) (hl : w.heap[lr]? = some (.loop o)) (he : Ext (fun k => k = lr) w w') : ar w' sd b := by
 refine aP h he (fun h0 j hj hh => ?_)
 subst hh
 obtain ⟨a, ha, rfl⟩ := hj
 obtain ⟨a', ha', hc'⟩ := dj h.2 (i := 0) (by rw [List.length_map, <- h.1]; exact h0)
 rw [ha] at ha'; cases ha'
 have : w.cell? (a.add 0) = none := by
  unfold World.cell?
  rw [cD, hl]
 rw [this] at hc'; cases hc'
def mU (A : Nat -> Addr) (w : World) (sh up : Int) (b : List UInt8) (x : Ending) (w' : World) : Prop :=
 av w w' /\ match fP sh up b with
  | .ok L => ∃ (t : Slc) (css : List (List Value)), x = .returned (.tuple ⟨[t.v, .nilIface]⟩) /\ Rows (PtR sh up) w' t L css
  | .error k => x = .returned (.tuple ⟨[(⟨none, 0, 0⟩ : Slc).v, qU A (some k)]⟩)
theorem j8 (A : Nat -> Addr) {n0 : Nat} (sh up : Int) (s : Slc) (b : List UInt8) (w : World) (hb : ar w s b) (hl : b.length <= 2 ^ 19) (hE : eG ckG A n0 w) :
  Calls Tryd.prog dm ⟨[.int .i64 sh, .int .i64 up, s.v]⟩ w fun x w' => mU A w sh up b x w' := by
 refine j0 _ _ _ ?_
 unfold iZ
 refine ai (fun r4 w5 hr4 hb4 k4 hs4 => ai (fun r6 w7 hr6 hb6 k6 hs6 => ?_))
 have z4 := k4.size
 have k7 := k4.trans k6
 have o4 : ab w7 r4 [.int .i64 sh] := (ab.bS hb4).ah k6
 have o6 : ab w7 r6 [.int .i64 up] := ab.bS hb6
 have bad : jx sh up = false -> mU A w sh up b (.returned (.tuple ⟨[(⟨none, 0, 0⟩ : Slc).v, qU A (some 0)]⟩)) w7.drew := fun h => by
  refine ⟨k7.drew, ?_⟩
  have : fP sh up b = .error 0 := by unfold fP; rw [if_pos h]
  rw [this]
 have hErr : (World.drew w7).cell? ⟨cQ, 0, none⟩ = some (qU A (some 0)) := ow (hE.ah k7.drew) 0 _ rfl (by simp [ckG])
 refine ⟨_, o4.cell 0 (by simp), aa (fun h1 => ⟨_, hErr, bad (decide_eq_false (by omega))⟩) (fun h1 => ⟨_, o4.cell 0 (by simp), aa (fun h2 => ⟨_, hErr, bad (decide_eq_false (by omega))⟩) (fun h2 =>
  ⟨_, o6.cell 0 (by simp), aa (fun h3 => ⟨_, hErr, bad (decide_eq_false (by omega))⟩) (fun h3 => ⟨_, o6.cell 0 (by simp), aa (fun h4 => ⟨_, hErr, bad (decide_eq_false (by omega))⟩) (fun h4 => ?_)⟩)⟩)⟩)⟩
 have hok : jx sh up = true := decide_eq_true (by omega)
 refine ai (fun r16 w17 hr16 hb16 k16 hs16 => ?_)
 have k17 := k7.trans k16
 have z6 := k6.size
 have o16 : ab w17 r16 [(⟨none, 0, 0⟩ : Slc).v] := ab.bS hb16
 refine (jb s b w17 (az hb k17) (by omega)).mono ?_
 rintro e w19 ⟨s20, rfl, h20, f20, k19⟩
 refine ⟨s20, rfl, ?_⟩
 refine (nK s20 256 (by omega) w19).mono ?_
 rintro e w22 ⟨b1, b2, rfl, ob1, ob2, k22, hb1, hb2⟩
 refine ⟨_, rfl, bF, [], [iy b1, iy b2], rfl, by rfl, ?_⟩
 intro D lr rc w27 hD hlr hw27 hY
 have N := mL hD hlr hw27
 obtain ⟨B, hB⟩ : ∃ B, B = dK b := ⟨_, rfl⟩
 rw [<- hB] at h20
 have hBl : B.length = 4 + b.length := by rw [hB, gY]
 have k1927 : av w19 w27 := k22.trans N.k
 have k1727 : av w17 w27 := k19.trans k1927
 have k27 : av w w27 := k17.trans k1727
 have z16 := k16.size
 have z19 := k19.size
 have z22 := k22.size
 have hdw := N.dw
 have hdl := N.dl
 have o4' := (o4.ah k16).ah k1727
 have o6' := (o6.ah k16).ah k1727
 have o16' := o16.ah k1727
 have h20' := h20.ah k1927
 have ob1' := ob1.ah N.k
 have ob2' := ob2.ah N.k
 have hb1D : b1 < D := by have := ob1.lt; omega
 have hb2D : b2 < D := by have := ob2.lt; omega
 have h20D : ∀ j, aC s20 j -> w17.heap.size <= j /\ j < D := fun j hj => ⟨f20 j hj, by have := p5 h20 j hj; omega⟩
 have h20c : s20.l <= s20.c := h20.le (by omega)
 let J : Nat -> World -> Prop := fun k w2 => Ext (fun j => j = r16 \/ D <= j) w27 w2 /\ w2.heap[lr]? = some (.loop (rc .ready none)) /\ w2.heap[D]? = some (.deferred (some [])) /\
  ∃ (t : Slc) (css : List (List Value)), ab w2 r16 [t.v] /\ Rows (PtR sh up) w2 t (fv B 0 0 k) css /\ (∀ j, aC t j -> lr < j) /\ ∀ j, cY css j -> lr < j
 have hJs : ∀ {k w2}, J k w2 -> Own w2 s20 1 (B.map ba) := fun hj => h20'.ext hj.1 (fun k hk hh => by have := h20D k hk; omega)
 have step : ∀ k (hk : k * 256 < B.length) (w : World) (sd : Slc), J k w -> ar w sd (de B 256 k) ->
   dD Tryd.prog lr ⟨[sd.v]⟩ w fun e w' => e = .returned (.bool true) /\ J (k + 1) w' := by
  intro k hk w28 sd hj hsd
  obtain ⟨x28, l28, d28, t, css, ot, hR, ht, hcss⟩ := hj
  refine hY _ _ _ l28 ⟨l28, fun w31 hw31 => ?_⟩
  have e31 : Ext (fun j => j = lr) w28 w31 := by rw [hw31]; exact Ext.putObj _ _ _
  have l31 : w31.heap[lr]? = some (.loop (rc .busy none)) := by rw [hw31]; exact eA l28
  have d31 : w31.heap[D]? = some (.deferred (some [])) := e31.heap d28 (fun hh => by omega)
  have hlrlt := bH l28
  have hz31 : w31.heap.size = w28.heap.size := by rw [hw31]; exact putObj_size _ _ _
  have sd31 := lP (M := dN) hsd l28 e31
  have x31 : Ext (fun j => j = r16 \/ D <= j) w27 w31 := x28.trans e31 (fun _ h => h) (fun j hj => .inl (by omega))
  have kd : av w31 w31.drew := Ext.drew dN _
  have xd : Ext (fun j => j = r16 \/ D <= j) w27 w31.drew := x31.trans kd (fun _ h => h) (fun _ h => h.elim)
  have otd := (ot.ext e31 (fun hh => by omega)).ah kd
  have o4d := o4'.ext xd (fun hh => by omega)
  have o6d := o6'.ext xd (fun hh => by omega)
  refine ⟨t, otd.cell 0 (by simp), sh, o4d.cell 0 (by simp), up, o6d.cell 0 (by simp), t, otd.cell 0 (by simp), ?_⟩
  have hcl : (de B 256 k).length <= 256 := by unfold de; simp; omega
  refine (nM sd _ _ (az sd31 kd) (by rw [sd31.1]; omega)).mono ?_
  rintro e w37 ⟨s38, rfl, h38, f38, k37⟩
  have k3137 : av w31 w37 := kd.trans k37
  have x37 : Ext (fun j => j = r16 \/ D <= j) w27 w37 := x31.trans k3137 (fun _ h => h) (fun _ h => h.elim)
  have ot37 := otd.ah k37
  have o4e := o4d.ah k37
  have o6e := o6d.ah k37
  refine ⟨s38, rfl, ⟨t, ot37.cell 0 (by simp), rfl⟩, ⟨up, o6e.cell 0 (by simp), rfl⟩, ⟨sh, o4e.cell 0 (by simp), rfl⟩, ⟨t, ot37.cell 0 (by simp), rfl⟩, ai (fun r43 w44 hr43 hb43 k43 hs43 => ?_)⟩
  have k3144 := k3137.trans k43
  have ot44 := ot37.ah k43
  refine ⟨⟨t, ot44.cell 0 (by simp), rfl⟩, ?_⟩
  have z37 := k3137.size
  have z43 := k43.size
  have hR44 : Rows (PtR sh up) w44 t (fv B 0 0 k) css := (hR.ext e31 (fun j hj hh => by have := ht j hj; omega) (fun j hj hh => by have := hcss j hj; omega)).ah k3144
  have hf38 : ∀ j, aC s38 j -> w31.heap.size <= j := fun j hj => f38 j hj
  have hkl : t.l = k := by rw [hR44.sl, dZ]
  rw [hkl] at hb43
  refine hR44.snoc (cs := ptC sh up k 0 s38) (x := ((k : Int), 0, de B 256 k)) (z := _) rfl ⟨s38, rfl, (h38.ah k43).bytes, h38.le (by omega)⟩ (fun j hj ho => ?_) hb43 (.inl (by simp)) (by rw [dZ]; omega) (fun s' w' g1 g2 g3 => ?_)
  ·have h1 := hf38 j (iA hj).2
   have h2 := hR.lt j ho
   omega
  rw [<- pf (by omega)] at g1
  have hnr : ¬ aC t r16 := fun hh => by have := ht _ hh; omega
  have ot47 := ot44.ext g2 hnr
  obtain ⟨c1, c2⟩ := ot47.cN 0 (by simp) s'.v
  refine ⟨c1, fun w48 hw48 => ?_⟩
  obtain ⟨ot48, g4, hz48⟩ := c2 w48 hw48
  have hownt : ∀ j, aC t j -> D <= j := fun j hj => by have := ht j hj; omega
  have x48 : Ext (fun j => j = r16 \/ D <= j) w27 w48 := ((x31.trans k3144 (fun _ h => h) (fun _ h => h.elim)).trans g2 (fun _ h => h) (fun j hj => .inl (.inr (hownt j hj)))).trans g4 (fun _ h => h) (fun j hj => .inl (.inl hj))
  have l48 := g4.heap (g2.heap (k3144.heap l31) (fun hh => by have := ht _ hh; omega)) (fun hh => by omega)
  have d48 := g4.heap (g2.heap (k3144.heap d31) (fun hh => by have := ht _ hh; omega)) (fun hh => by omega)
  refine ⟨l48, fun w49 hw49 => ⟨rfl, ?_⟩⟩
  have e49 : Ext (fun j => j = lr) w48 w49 := by rw [hw49]; exact Ext.putObj _ _ _
  have hs' : ∀ j, aC s' j -> lr < j := fun j hj => (g3 j hj).elim (fun h => ht j h) (fun h => by omega)
  have hc' : ∀ j, cY (css ++ [ptC sh up k 0 s38]) j -> lr < j := by
   rintro j ⟨cs, hc, hj⟩
   rcases List.mem_append.1 hc with h | h
   ·exact hcss j ⟨cs, h, hj⟩
   ·rw [List.mem_singleton] at h; subst h
    have := hf38 j (iA hj).2
    omega
  refine ⟨x48.trans e49 (fun _ h => h) (fun j hj => .inl (by omega)), by rw [hw49]; exact eA l48, e49.heap d48 (fun hh => by omega), s', _, ot48.ext e49 (fun hh => by omega), ?_, hs', hc'⟩
  exact (g1.ext g4 (fun j hj hh => by have := hs' j hj; omega) (fun j hj hh => by have := hc' j hj; omega)).ext e49 (fun j hj hh => by have := hs' j hj; omega) (fun j hj hh => by have := hc' j hj; omega)
 have hC := lN s20 B 256 lr b1 b2 J (by omega) (by omega) (by omega) h20c
  (fun k w2 hj => ⟨(ob1'.ext hj.1 (fun hh => by omega)).cell 0 (by simp), (ob2'.ext hj.1 (fun hh => by omega)).cell 0 (by simp), (hJs hj).bytes⟩)
  (fun k w2 hj => by
   obtain ⟨x28, l28, d28, t, css, ot, hR, ht, hcss⟩ := hj
   have kd : av w2 w2.drew := Ext.drew dN _
   exact ⟨x28.trans kd (fun _ h => h) (fun _ h => h.elim), l28, d28, t, css, ot.ah kd, hR.ah kd, ht, hcss⟩)
  step w27 ⟨Ext.refl _ _, N.l, N.d, ⟨none, 0, 0⟩, [], o16', Rows.nil _ _, (by rintro j ⟨a, ha, _⟩; cases ha), (by rintro j ⟨cs, hc, _⟩; simp at hc)⟩
 refine hC.mono ?_
 rintro e w54 ⟨rfl, K, hK1, hK2, x54, l54, d54, t, css, ot, hR, ht, hcss⟩
 have hKn : K = c9 b := by unfold c9; omega
 refine ⟨⟨_, rfl⟩, l54, fun w55 hw55 => ?_⟩
 have e55 : Ext (fun j => j = lr) w54 w55 := by rw [hw55]; exact Ext.putObj _ _ _
 have d55 := e55.heap d54 (fun hh => by omega)
 have ot55 := ot.ext e55 (fun hh => by have := N.dw; omega)
 have hR55 := hR.ext e55 (fun j hj hh => by have := ht j hj; omega) (fun j hj hh => by have := hcss j hj; omega)
 have htl : t.l = K := by rw [hR.sl, dZ]
 have x55 : Ext (fun j => j = r16 \/ D <= j) w27 w55 := x54.trans e55 (fun _ h => h) (fun j hj => .inl (by omega))
 have k55 : av w w55 := k27.ext x55 (fun j hj => by omega)
 refine ⟨t, ot55.cell 0 (by simp), aa (fun h5 => ?_) (fun h5 => ?_)⟩
 ·have kd : av w55 w55.drew := Ext.drew dN _
  refine ⟨_, ow (hE.ah (k55.trans kd)) 12 _ rfl (by simp [ckG]), kd.heap d55, fun w58 hw58 => ⟨?_, ?_⟩⟩
  ·have e58 : Ext (fun j => j = D) w55.drew w58 := by rw [hw58]; exact Ext.putObj _ _ _
   exact (k55.trans kd).ext e58 (fun j hj => by omega)
  ·have : fP sh up b = .error 12 := by unfold fP; rw [if_neg (by rw [hok]; simp), if_pos (by omega)]
   rw [this]
 ·refine ⟨t, ot55.cell 0 (by simp), fun i w2 => ∃ (m : Nat) (css : List (List Value)), i = m /\ m <= K /\ Ext (aC t) w55 w2 /\ Rows (PtR sh up) w2 t (fv B K m K) css /\ ∀ j, cY css j -> lr < j, fun i _ => ((K : Int) - i).toNat, ⟨0, css, rfl, by omega, Ext.refl _ _, ?_, hcss⟩, ?_⟩
  ·have : fv B K 0 K = fv B 0 0 K := by unfold fv; simp
   rw [this]; exact hR55
  rintro i w63 ⟨m, css2, rfl, hm, x63, hR63, hc63⟩
  intros
  have hnr : ¬ aC t r16 := fun hh => by have := ht _ hh; omega
  have ot63 := ot55.ext x63 hnr
  refine aa (fun h6 => ?_) (fun h6 => ?_)
  ·have hmK : m < K := by omega
   have hm2 : m < css2.length := by rw [hR63.len, dZ]; exact hmK
   obtain ⟨a, ha, _, _⟩ := hR63.get hm2
   obtain ⟨sd, hcs, hbd, hcd⟩ := hR63.row m hm2 (by rw [dZ]; exact hmK)
   rw [iB] at hcs hbd
   have hcs' : css2[m] = ptC sh up (m : Int) 0 sd := by rw [hcs]; simp
   obtain ⟨g1, g2⟩ := hR63.set hm2 10 [.int .i64 (K : Int)] (by simp [PtR]) ((m : Int), (K : Int), de B 256 m) ha
    (fun w' hw' => by
     rw [hcs']
     exact ⟨sd, rfl, aP hbd hw' (fun h0 j hj hh => hR63.sep j ⟨css2[m], List.getElem_mem hm2, by rw [hcs']; exact fO h0 hj⟩ hh), hcd⟩)
    (fun j hj hh => by
     rw [hcs'] at hj
     have hj2 := iA (sh := sh) (up := up) (p := (m : Int)) (q := (K : Int)) (s := sd) hj
     exact hR63.sep j ⟨css2[m], List.getElem_mem hm2, by rw [hcs']; exact fO hj2.1 hj2.2⟩ hh)
   refine ⟨t, ot63.cell 0 (by simp), t, ot63.cell 0 (by simp), ao ha ⟨by omega, by omega, by rw [show Int.toNat (m : Int) * 12 = m * 12 by omega]; exact g1, fun w77 hw77 => ?_⟩⟩
   rw [show Int.toNat (m : Int) * 12 = m * 12 by omega, htl] at hw77
   have hw77' : w77 = setCells w63 ((a.add (m * (PtR sh up).n)).add 10) 0 [.int .i64 (K : Int)] := by
    rw [hw77]
    show World.setCell w63 ((Addr.add a (m * 12)).add 10) _ = World.setCell w63 (((Addr.add a (m * 12)).add 10).add 0) _
    rw [show (((Addr.add a (m * 12)).add 10).add 0) = ((Addr.add a (m * 12)).add 10) by simp [Addr.add]]
   obtain ⟨g3, g4, g5⟩ := g2 w77 hw77'
   rw [qm hmK] at g3
   refine ⟨af (by omega), ⟨m + 1, _, rfl, hmK, x63.trans g4 (fun _ h => h) (fun _ h => .inl h), g3, ?_⟩, by first | (dsimp only; omega) | omega⟩
   rintro j ⟨cs, hc, hj⟩
   rcases List.mem_or_eq_of_mem_set hc with h | h
   ·exact hc63 j ⟨cs, h, hj⟩
   ·subst h
    rw [hcs'] at hj
    have hj2 := iA (sh := sh) (up := up) (p := (m : Int)) (q := (K : Int)) (s := sd) hj
    exact hc63 j ⟨css2[m], List.getElem_mem hm2, by rw [hcs']; exact fO hj2.1 hj2.2⟩
  ·have hmK : m = K := by omega
   subst hmK
   refine ⟨t, ot63.cell 0 (by simp), x63.heap d55 (fun hh => by have := ht _ hh; omega), fun w79 hw79 => ?_⟩
   have e79 : Ext (fun j => j = D) w63 w79 := by rw [hw79]; exact Ext.putObj _ _ _
   refine ⟨(k55.ext x63 (fun j hj => by have := ht j hj; omega)).ext e79 (fun j hj => by omega), ?_⟩
   have : fP sh up b = .ok (fv B m m m) := by unfold fP; rw [if_neg (by rw [hok]; simp), if_neg (by omega), hKn, hB]
   rw [this]
   exact ⟨t, css2, rfl, hR63.ext e79 (fun j hj hh => by have := ht j hj; omega) (fun j hj hh => by have := hc63 j hj; omega)⟩
end Go.D
set_option maxRecDepth 8000
namespace Go.D
open Go Go.Proofs
theorem qn (v : Value) (w : World) : (method (Array.size Tryd.prog.types + Made.depth) eQ v "tidewater/entry.right").run Tryd.prog w = .ok (cp, v) w := by kernel_rfl
theorem fg (n m : Int) (w : World) : Calls Tryd.prog cB ⟨[.int .i64 n, .int .i64 m]⟩ w fun e w' => e = .returned (.bool (decide (1 <= n /\ n <= m))) /\ w' = w := by
 refine jg _ _ ?_
 unfold iq
 refine aa (fun h => ⟨?_, rfl⟩) (fun h => ⟨?_, rfl⟩)
 ·rw [show decide (1 <= n /\ n <= m) = decide (n <= m) from decide_eq_decide.2 ⟨fun x => x.2, fun x => ⟨h, x⟩⟩]
 ·rw [decide_eq_false (fun x => h x.1)]
theorem lQ (n : Int) (w : World) : Calls Tryd.prog ez ⟨[.int .i64 n]⟩ w fun e w' => e = .returned (.bool (decide (1 <= n /\ n <= 12))) /\ w' = w := by
 refine jY _ ?_
 unfold iX
 refine (fg n 12 w).mono ?_
 rintro e w3 ⟨rfl, rfl⟩
 exact ⟨_, rfl, rfl, rfl⟩
def eH (sh up p q : Int) (l : Nat) : Prop := (0 <= sh /\ sh <= 12) /\ (0 <= up /\ up <= 4096) /\ (1 <= p /\ p <= 64) /\ (0 <= q /\ q < p) /\ l <= 256
instance (sh up p q : Int) (l : Nat) : Decidable (eH sh up p q l) := by unfold eH; infer_instance
def cI (sh up p q : Int) (l : Nat) : Bool := decide (eH sh up p q l)
theorem re {sh up p q : Int} {l : Nat} (h : ¬ eH sh up p q l) : false = cI sh up p q l := (decide_eq_false h).symm
theorem gN (sh up p q : Int) (s : Slc) (w : World) :
  Calls Tryd.prog cp ⟨[.agg ⟨[.int .i64 sh, .int .i64 up, .int .i64 p, .int .i64 q, s.v]⟩]⟩ w fun e w' => e = .returned (.bool (cI sh up p q s.l)) /\ av w w' := by
 refine fk _ _ _ _ _ ?_
 unfold dR
 refine ai (fun r w6 hr hb k6 hs6 => ?_)
 have o : ab w6 r [.int .i64 sh, .int .i64 up, .int .i64 p, .int .i64 q, s.v] := ab.bS hb
 have no : ∀ {w7 : World} (k : av w w7), ¬ eH sh up p q s.l -> (Ending.returned (Value.bool false) = .returned (.bool (cI sh up p q s.l)) /\ av w w7) := fun k h => ⟨by rw [re h], k⟩
 refine ⟨_, o.cell 0 (by simp), aa (fun g0 => ?_) (fun g0 => ?_)⟩
 ·refine ⟨_, o.cell 1 (by simp), aa (fun g1 => ⟨_, o.cell 1 (by simp), aa (fun g2 => ⟨_, o.cell 2 (by simp), (fg _ _ _).mono ?_⟩) (fun g2 => no k6 (fun h => g2 h.2.1.2))⟩) (fun g1 => no k6 (fun h => g1 h.2.1.1))⟩
  rintro x w13 ⟨rfl, rfl⟩
  refine ⟨_, rfl, aa (fun g3 => ⟨_, o.cell 3 (by simp), aa (fun g4 => ⟨_, o.cell 3 (by simp), _, o.cell 2 (by simp), aa (fun g5 => ⟨s, o.cell 4 (by simp), ?_, k6⟩) (fun g5 => no k6 (fun h => g5 h.2.2.2.1.2))⟩) (fun g4 => no k6 (fun h => g4 h.2.2.2.1.1))⟩) (fun g3 => no k6 (fun h => g3 h.2.2.1))⟩
  have : decide (((s.l : Nat) : Int) <= 256) = cI sh up p q s.l := decide_eq_decide.2 ⟨fun h => ⟨by omega, ⟨g1, g2⟩, g3, ⟨g4, g5⟩, by omega⟩, fun h => by have := h.2.2.2.2; omega⟩
  rw [this]
 ·refine ⟨_, o.cell 0 (by simp), (lQ _ _).mono ?_⟩
  rintro x w21 ⟨rfl, rfl⟩
  refine ⟨_, rfl, aa (fun ga => ?_) (fun ga => no k6 (fun h => ga (by have := h.1; omega)))⟩
  refine ⟨_, o.cell 1 (by simp), aa (fun g1 => ⟨_, o.cell 1 (by simp), aa (fun g2 => ⟨_, o.cell 2 (by simp), (fg _ _ _).mono ?_⟩) (fun g2 => no k6 (fun h => g2 h.2.1.2))⟩) (fun g1 => no k6 (fun h => g1 h.2.1.1))⟩
  rintro x w13 ⟨rfl, rfl⟩
  refine ⟨_, rfl, aa (fun g3 => ⟨_, o.cell 3 (by simp), aa (fun g4 => ⟨_, o.cell 3 (by simp), _, o.cell 2 (by simp), aa (fun g5 => ⟨s, o.cell 4 (by simp), ?_, k6⟩) (fun g5 => no k6 (fun h => g5 h.2.2.2.1.2))⟩) (fun g4 => no k6 (fun h => g4 h.2.2.2.1.1))⟩) (fun g3 => no k6 (fun h => g3 h.2.2.1))⟩
  have : decide (((s.l : Nat) : Int) <= 256) = cI sh up p q s.l := decide_eq_decide.2 ⟨fun h => ⟨by omega, ⟨g1, g2⟩, g3, ⟨g4, g5⟩, by omega⟩, fun h => by have := h.2.2.2.2; omega⟩
  rw [this]
def bg (kd sh cl sq sv ot : Int) (ops : Slc) (key : List UInt8) (up p q : Int) (sd : Slc) : List Value :=
 [.int .i64 kd, .int .i64 sh, .int .i64 cl, .int .i64 sq, .int .i64 sv, .int .i64 ot, ops.v, aq key, .int .i64 up, .int .i64 p, .int .i64 q, sd.v]
theorem qo (sh cl sq sv ot : Int) (ops : Slc) (key : List UInt8) (up p q : Int) (sd : Slc) (w : World) :
  Calls Tryd.prog gu ⟨[.agg ⟨bg 5 sh cl sq sv ot ops key up p q sd⟩]⟩ w fun x w' => x = .returned (.iface eQ (.agg ⟨[.int .i64 sh, .int .i64 up, .int .i64 q, .int .i64 p, sd.v]⟩)) /\ av w w' := by
 refine mK _ _ _ _ _ _ _ _ _ _ _ _ ?_
 unfold mJ
 refine ai (fun r w14 hr hb k14 hs => ?_)
 have o : ab w14 r (bg 5 sh cl sq sv ot ops key up p q sd) := ab.bS hb
 refine ⟨_, o.cell 0 (by simp [bg]), aa (fun h => absurd h (by simp [bg])) (fun _ => aa (fun h => absurd h (by simp [bg])) (fun _ => aa (fun h => absurd h (by simp [bg])) (fun _ => aa (fun h => absurd h (by simp [bg])) (fun _ => aa (fun _ => ?_) (fun h => absurd rfl h)))))⟩
 exact ⟨_, o.cell 1 (by simp [bg]), _, o.cell 8 (by simp [bg]), _, o.cell 10 (by simp [bg]), _, o.cell 9 (by simp [bg]), _, o.cell 11 (by simp [bg]), rfl, k14⟩
theorem mV (sh cl sq sv ot : Int) (ops : Slc) (key : List UInt8) (up p q : Int) (sd : Slc) (w : World) :
  Calls Tryd.prog ey ⟨[.agg ⟨bg 5 sh cl sq sv ot ops key up p q sd⟩]⟩ w fun x w' => x = .returned (.bool (cI sh up q p sd.l)) /\ av w w' := by
 refine jZ _ _ _ _ _ _ _ _ _ _ _ _ ?_
 unfold iY
 refine ai (fun r w14 hr hb k14 hs => ?_)
 have o : ab w14 r (bg 5 sh cl sq sv ot ops key up p q sd) := ab.bS hb
 refine ⟨_, _, _, _, _, _, _, _, _, _, _, _, o.row, (qo _ _ _ _ _ _ _ _ _ _ _ _).mono ?_⟩
 rintro x w28 ⟨rfl, k28⟩
 refine ⟨_, rfl, trivial, aN (fun _ => ?_) (fun h => by cases h)⟩
 refine ⟨_, _, _, _, rfl, qn _, by rfl, (gN _ _ _ _ _ _).mono ?_⟩
 rintro x w35 ⟨rfl, k35⟩
 exact ⟨_, rfl, rfl, (k14.trans k28).trans k35⟩
end Go.D
namespace Go.D
open Go Go.Proofs
structure Pg where
 at' : Int
 kind : Int
 sh : Int
 cl : Int
 sq : Int
 sv : Int
 ot : Int
 ops : Slc
 key : List UInt8
 up : Int
 part : Int
 parts : Int
 ds : Slc
 dat : List UInt8
 j9 : Slc
 gb : Bool
def pgE (x : Pg) : List Value := bg x.kind x.sh x.cl x.sq x.sv x.ot x.ops x.key x.up x.part x.parts x.ds
def pgC (x : Pg) : List Value := [.int .i64 x.at', .int .i64 x.kind, .int .i64 x.sh, .int .i64 x.cl, .int .i64 x.sq, .int .i64 x.sv, .int .i64 x.ot, x.ops.v, aq x.key, .int .i64 x.up, .int .i64 x.part, .int .i64 x.parts, x.ds.v, x.j9.v, .bool x.gb]
def da : Pg := ⟨0, 0, 0, 0, 0, 0, 0, ⟨none, 0, 0⟩, [], 0, 0, 0, ⟨none, 0, 0⟩, [], ⟨none, 0, 0⟩, false⟩
def fQ (w : World) (x : Pg) : Prop := ar w x.ds x.dat /\ x.ds.l <= x.ds.c
theorem ea {w w' : World} {x : Pg} (h : fQ w x) (k : av w w') : fQ w' x := ⟨az h.1 k, h.2⟩
def PgR : o0 Pg where
 n := 15
 pos := by omega
 R w x cs := cs = pgC x /\ fQ w x /\ ∀ k, dT (pgC x) k -> k < w.heap.size
 len := by rintro w x cs ⟨rfl, _⟩; rfl
 one := by rintro w x cs ⟨rfl, _⟩; intro v hv; simp [pgC] at hv; rcases hv with rfl | rfl | rfl | rfl | rfl | rfl | rfl | rfl | rfl | rfl | rfl | rfl | rfl | rfl | rfl <;> rfl
 ext := by
  rintro M w w' x cs ⟨rfl, h, h2⟩ he hm
  refine ⟨rfl, ⟨aP h.1 he (fun h0 k hk => hm k ⟨x.ds, by simp [pgC], h0, hk⟩), h.2⟩, fun k hk => ?_⟩
  have := h2 k hk
  have := he.size
  omega
 lt := by
  rintro w x cs ⟨rfl, _, h⟩ k hk
  exact h k hk
abbrev Ky := Int × Int
def kyV (k : Ky) : Value := .agg ⟨[.int .i64 k.1, .int .i64 k.2]⟩
theorem qV (a b : Ky) (h : kyV a = kyV b) : a = b := by
 simp only [kyV, Value.agg.injEq, Array.mk.injEq, List.cons.injEq, Value.int.injEq, true_and, and_true] at h
 exact Prod.ext h.1 h.2
structure dp where
 r : Nat
 m : Nat
 l : List (Int × Pg)
def KM : KW Ky dp := ⟨kyV, fun g => .pointer (some ⟨g.r, 0, none⟩), qV⟩
def PM : KV Int Pg := KV.int fun x => .agg ⟨pgC x⟩
def iC (k : Ky) : Prop := (0 <= k.1 /\ k.1 <= 4096) /\ 1 <= k.2 /\ k.2 <= 64
theorem rf {n : Int} (h : 0 <= n /\ n <= 4096) : (Lit.int .i64 n).wf = true := by
 have h1 : IntKind.i64.min <= 0 := by decide
 have h2 : (4096 : Int) <= IntKind.i64.max := by decide
 simp only [Lit.wf, Bool.and_eq_true, decide_eq_true_eq]
 omega
noncomputable def rh : Array Field := match Tryd.prog.underlying dn with | some (.struct fs) => fs | _ => #[]
theorem rH {P : Program} {t : TypeId} {f1 f2 : Field} (hu : P.underlying t = some (.struct ⟨[f1, f2]⟩)) (h1 : P.underlying f1.type = some (.int .i64)) (h2 : P.underlying f2.type = some (.int .i64))
  (ht : P.keyType t = true) (hc : P.cellsOf t = 2) (hc1 : P.cellsOf f1.type = 1) (hc2 : P.cellsOf f2.type = 1) (ho1 : f1.offset = 0) (ho2 : f2.offset = 1) (hn1 : (f1.name != "_") = true) (hn2 : (f2.name != "_") = true)
  (hs : 0 < P.types.size) {a b : Int} (ha : (Lit.int .i64 a).wf = true) (hb : (Lit.int .i64 b).wf = true) : (keyOf P t (.agg ⟨[.int .i64 a, .int .i64 b]⟩)).isSome = true := by
 obtain ⟨d, hd⟩ : ∃ d, P.types.size + 1 = d + 1 + 1 := ⟨P.types.size - 1, by omega⟩
 have k1 : P.keyLits (d + 1) f1.type [.int .i64 a] = some [.int .i64 a] := by
  unfold Program.keyLits
  simp only [h1]
  simp only [ha, and_self, if_true]
 have k2 : P.keyLits (d + 1) f2.type [.int .i64 b] = some [.int .i64 b] := by
  unfold Program.keyLits
  simp only [h2]
  simp only [hb, and_self, if_true]
 have hf : (Value.agg ⟨[.int .i64 a, .int .i64 b]⟩).formed P t = true := by
  unfold Value.formed
  simp only [hu, hc]
  rfl
 unfold keyOf
 simp only [hu, ht, hf, Bool.and_self, if_true, hd]
 unfold Program.keyLits
 simp only [hu, Value.cells, hc]
 rw [if_pos ⟨rfl, by simp [hn1, hn2]⟩]
 simp only [List.mapM_cons, List.mapM_nil, ho1, ho2, hc1, hc2, List.drop_zero, List.drop_succ_cons, List.take_succ_cons, List.take_zero, k1, k2]
 rfl
theorem lR {k : Ky} (h : iC k) : (keyOf Tryd.prog dn (kyV k)).isSome = true :=
 rH (f1 := (rh[0]?).getD default) (f2 := (rh[1]?).getD default) (by kernel_rfl) (by kernel_rfl) (by kernel_rfl) (by kernel_rfl) (by kernel_rfl) (by kernel_rfl) (by kernel_rfl) (by kernel_rfl) (by kernel_rfl) (by kernel_rfl) (by kernel_rfl)
  (of_decide_eq_true (by kernel_rfl)) (rf h.1) (rf ⟨by have := h.2; omega, by have := h.2; omega⟩)
def fw (A : List (Ky × dp)) : List (Ky × List (Int × Pg)) := A.map fun e => (e.1, e.2.l)
def gd (G : List (Ky × List (Int × Pg))) (p : Pg) : List (Ky × List (Int × Pg)) :=
 (if (lookL G (p.up, p.parts)).isSome then G else G ++ [((p.up, p.parts), [])]).map fun e =>
  if e.1 = (p.up, p.parts) then (e.1, if (lookL e.2 p.part).isSome then e.2 else e.2 ++ [(p.part, p)]) else e
def bZ (sh : Int) (p : Pg) : Bool := !p.gb && (decide (p.kind = 5) && (decide (p.sh = sh) && cI p.sh p.up p.parts p.part p.ds.l))
def db (sh : Int) (L : List Pg) : List (Ky × List (Int × Pg)) := (L.filter (bZ sh)).foldl gd []
structure bN (w : World) (b : Nat) (out : Nat) (A : List (Ky × dp)) : Prop where
 map : cH KM w out A
 ok : ∀ e ∈ A, iC e.1
 at' : ∀ e ∈ A, ab w e.2.r [.int .i64 e.1.1, .int .i64 e.1.2, .map (some e.2.m)] /\ dU PM w e.2.m e.2.l
 mm : ∀ e ∈ A, ∀ e' ∈ A, e.1 ≠ e'.1 -> e.2.m ≠ e'.2.m
 mo : ∀ e ∈ A, e.2.m ≠ out
 lo : b <= out /\ ∀ e ∈ A, b <= e.2.m
theorem bN.ah {w w' : World} {b out : Nat} {A : List (Ky × dp)} (h : bN w b out A) (k : av w w') : bN w' b out A :=
 ⟨h.map.ah k, h.ok, fun e he => ⟨(h.at' e he).1.ah k, (h.at' e he).2.ah k⟩, h.mm, h.mo, h.lo⟩
theorem ab.rI {w : World} {r m : Nat} {c : List Value} {M : KV Int Pg} {l : List (Int × Pg)} (h : ab w r c) (hm : dU M w m l) : r ≠ m := by
 rintro rfl
 obtain ⟨T, f, h, _⟩ := h
 obtain ⟨es, ck, h2, _⟩ := hm.at
 rw [h] at h2; cases h2
theorem ab.oz {w : World} {r m : Nat} {c : List Value} {A : List (Ky × dp)} (h : ab w r c) (hm : cH KM w m A) : r ≠ m := by
 rintro rfl
 obtain ⟨T, f, h, _⟩ := h
 obtain ⟨es, ck, h2, _⟩ := hm.at'
 rw [h] at h2; cases h2
theorem ab.rJ {w : World} {r : Nat} {cs : List Value} (h : ab w r cs) (k : Nat) {ds : List Value} (hd : (cs.drop k).take ds.length = ds) : rowAt w ⟨r, k, none⟩ 0 ds := by
 refine fj fun j hj => ?_
 rw [add_lit, Nat.zero_add]
 have h1 : ((cs.drop k).take ds.length)[j]? = some ds[j] := by rw [hd, List.getElem?_eq_getElem hj]
 rw [List.getElem?_take_of_lt hj, List.getElem?_drop] at h1
 obtain ⟨h2, h3⟩ := List.getElem?_eq_some_iff.1 h1
 rw [h.cell _ h2, h3]
def eJ (l : List (Int × Pg)) (p : Pg) : List (Int × Pg) := if (lookL l p.part).isSome then l else l ++ [(p.part, p)]
def kG (k : Ky) (p : Pg) (A : List (Ky × dp)) : List (Ky × dp) := A.map fun e => if e.1 = k then (e.1, { e.2 with l := eJ e.2.l p }) else e
theorem mW (k : Ky) (p : Pg) (A : List (Ky × dp)) : fw (kG k p A) = (fw A).map fun e => if e.1 = k then (e.1, eJ e.2 p) else e := by
 unfold fw kG
 rw [List.map_map, List.map_map]
 refine List.map_congr_left (fun e _ => ?_)
 simp only [Function.comp_apply]
 split <;> rfl
theorem qp (k : Ky) : ∀ A : List (Ky × dp), lookL (fw A) k = (lookL A k).map (·.l)
 | [] => rfl
 | (k', g) :: A => by
  have ih := qp k A
  unfold fw at ih ⊢
  rw [List.map_cons, lookL, lookL]
  split
  ·rfl
  ·exact ih
theorem iD {G : List (Ky × List (Int × Pg))} {p : Pg} (h : lookL G (p.up, p.parts) = none) : gd G p = (G ++ [((p.up, p.parts), [])]).map fun (e : Ky × List (Int × Pg)) => if e.1 = (p.up, p.parts) then (e.1, eJ e.2 p) else e := by
 unfold gd eJ; rw [h]; rfl
theorem iE {G : List (Ky × List (Int × Pg))} {p : Pg} (h : (lookL G (p.up, p.parts)).isSome = true) : gd G p = G.map fun e => if e.1 = (p.up, p.parts) then (e.1, eJ e.2 p) else e := by
 unfold gd eJ; rw [if_pos h]
theorem rK (k : Ky) (p : Pg) (A : List (Ky × dp)) : (kG k p A).map (fun e => (e.1, KM.vv e.2)) = A.map (fun e => (e.1, KM.vv e.2)) := by
 unfold kG
 rw [List.map_map]
 refine List.map_congr_left (fun e _ => ?_)
 simp only [Function.comp_apply]
 split <;> rfl
theorem gJ {k : Ky} {p : Pg} {A : List (Ky × dp)} {e : Ky × dp} (h : e ∈ kG k p A) : ∃ e0 ∈ A, e.1 = e0.1 /\ e.2.r = e0.2.r /\ e.2.m = e0.2.m /\ e.2.l = if e0.1 = k then eJ e0.2.l p else e0.2.l := by
 obtain ⟨e0, h0, rfl⟩ := List.mem_map.1 h
 refine ⟨e0, h0, ?_⟩
 split <;> exact ⟨rfl, rfl, rfl, rfl⟩
theorem bN.uniq {w : World} {b out : Nat} {A : List (Ky × dp)} (h : bN w b out A) {k : Ky} {g : dp} (hg : lookL A k = some g) {e : Ky × dp} (he : e ∈ A) (hk : e.1 = k) : e.2 = g := by
 have : lookL A e.1 = some e.2 := eC h.map.nd he
 rw [hk, hg] at this
 exact (Option.some.inj this).symm
theorem bN.there {w : World} {b out : Nat} {A : List (Ky × dp)} (h : bN w b out A) {k : Ky} {g : dp} (hg : lookL A k = some g) {p : Pg} (hp : (lookL g.l p.part).isSome = true) : kG k p A = A := by
 unfold kG
 conv => rhs; rw [<- List.map_id A]
 refine List.map_congr_left (fun e he => ?_)
 split
 ·rename_i hk
  have := h.uniq hg he hk
  unfold eJ
  rw [this, if_pos hp]
  rw [<- this]; rfl
 ·rfl
theorem bN.put {w w1 : World} {b out : Nat} {A : List (Ky × dp)} (h : bN w b out A) {k : Ky} {g : dp} (hg : lookL A k = some g) {p : Pg} (hm : dU PM w1 g.m (eJ g.l p)) (he : Ext (fun x => x = g.m) w w1) : bN w1 b out (kG k p A) := by
 have hmem := bY hg
 refine ⟨(h.map.ext he (fun hh => h.mo _ hmem hh.symm)).told (rK k p A), fun e he' => ?_, fun e he' => ?_, fun e he1 e' he2 hne => ?_, fun e he' => ?_, h.lo.1, fun e he' => ?_⟩
 ·obtain ⟨e0, h0, h1, _⟩ := gJ he'
  rw [h1]; exact h.ok e0 h0
 ·obtain ⟨e0, h0, h1, h2, h3, h4⟩ := gJ he'
  obtain ⟨a1, a2⟩ := h.at' e0 h0
  rw [h1, h2, h3, h4]
  refine ⟨a1.ext he (a1.rI (h.at' _ hmem).2), ?_⟩
  split
  ·rename_i hk
   rw [h.uniq hg h0 hk]; exact hm
  ·rename_i hk
   exact a2.ext he (h.mm e0 h0 _ hmem hk)
 ·obtain ⟨e0, h0, h1, _, h3, _⟩ := gJ he1
  obtain ⟨e0', h0', h1', _, h3', _⟩ := gJ he2
  rw [h3, h3']
  exact h.mm e0 h0 e0' h0' (by rw [<- h1, <- h1']; exact hne)
 ·obtain ⟨e0, h0, _, _, h3, _⟩ := gJ he'
  rw [h3]; exact h.mo e0 h0
 ·obtain ⟨e0, h0, _, _, h3, _⟩ := gJ he'
  rw [h3]; exact h.lo.2 e0 h0
theorem bN.push {w w1 : World} {b out : Nat} {A : List (Ky × dp)} (h : bN w b out A) {k : Ky} {r m : Nat} (hk : iC k) (hr : ab w r [.int .i64 k.1, .int .i64 k.2, .map (some m)]) (hm : dU PM w m [])
  (hfresh : ∀ e ∈ A, e.2.m ≠ m) (hmo : m ≠ out) (hb : b <= m) (he : Ext (fun x => x = out) w w1) (hmap : cH KM w1 out (A ++ [(k, ⟨r, m, []⟩)])) : bN w1 b out (A ++ [(k, ⟨r, m, []⟩)]) := by
 refine ⟨hmap, fun e he' => ?_, fun e he' => ?_, fun e he1 e' he2 hne => ?_, fun e he' => ?_, h.lo.1, fun e he' => ?_⟩
 ·rcases List.mem_append.1 he' with h1 | h1
  ·exact h.ok e h1
  ·rw [List.mem_singleton] at h1; subst h1; exact hk
 ·rcases List.mem_append.1 he' with h1 | h1
  ·obtain ⟨a1, a2⟩ := h.at' e h1
   exact ⟨a1.ext he (a1.oz h.map), a2.ext he (h.mo e h1)⟩
  ·rw [List.mem_singleton] at h1; subst h1
   exact ⟨hr.ext he (hr.oz h.map), hm.ext he hmo⟩
 ·rcases List.mem_append.1 he1 with h1 | h1 <;> rcases List.mem_append.1 he2 with h2 | h2
  ·exact h.mm e h1 e' h2 hne
  ·rw [List.mem_singleton] at h2; subst h2; exact hfresh e h1
  ·rw [List.mem_singleton] at h1; subst h1; exact fun hh => hfresh e' h2 hh.symm
  ·rw [List.mem_singleton] at h1 h2; subst h1; subst h2; exact absurd rfl hne
 ·rcases List.mem_append.1 he' with h1 | h1
  ·exact h.mo e h1
  ·rw [List.mem_singleton] at h1; subst h1; exact hmo
 ·rcases List.mem_append.1 he' with h1 | h1
  ·exact h.lo.2 e h1
  ·rw [List.mem_singleton] at h1; subst h1; exact hb
theorem oA (k : Int) (a : Pg) : ∀ {al : List (Int × Pg)}, lookL al k = none -> putL al k a = al ++ [(k, a)]
 | [], _ => rfl
 | (k0, a0) :: r, h => by
  rw [lookL] at h
  rw [putL]
  split at h
  ·cases h
  ·rename_i hk
   rw [if_neg hk, oA k a h]; rfl
theorem kV (sh : Int) (L : List Pg) (p : Pg) : db sh (L ++ [p]) = if bZ sh p = true then gd (db sh L) p else db sh L := by
 unfold db
 rw [List.filter_append, List.foldl_append]
 by_cases h : bZ sh p = true
 ·rw [if_pos h, List.filter_cons_of_pos h]; rfl
 ·rw [if_neg h, List.filter_cons_of_neg h]; rfl
end Go.D
namespace Go.D
open Go Go.Proofs
theorem bN.get {w : World} {b out : Nat} {A : List (Ky × dp)} (h : bN w b out A) {k : Ky} (hk : iC k) :
  ∃ es, mapIs w (some out) es /\ eu Tryd.prog dn (kyV k) es /\ kB (kyV k) es (Option.map (Sh.v Sh.ptr) ((lookL A k).map fun g => some ⟨g.r, 0, none⟩)) := by
 obtain ⟨es, h1, h2, h3⟩ := h.map.get (P := Tryd.prog) (t := dn) (fun p hp => lR (h.ok p hp)) (k := k) (lR hk)
 refine ⟨es, h1, h2, ?_⟩
 have e : Option.map (Sh.v Sh.ptr) ((lookL A k).map fun g => (some ⟨g.r, 0, none⟩ : Option Addr)) = Option.map KM.vv (lookL A k) := by cases lookL A k <;> rfl
 rw [e]
 exact h3
theorem gK {w : World} {m : Nat} {l : List (Int × Pg)} (h : dU PM w m l) (n : Int) : ∃ es, mapIs w (some m) es /\ bw (.int .i64) (.int .i64 n) es = some ((lookL l n).map fun x => .agg ⟨pgC x⟩) := by
 obtain ⟨es, h1, h2⟩ := h.get
 exact ⟨es, h1, h2 n⟩
theorem dc {sh : Int} {p : Pg} (h : bZ sh p = true) : iC (p.up, p.parts) /\ p.kind = 5 /\ p.sh = sh /\ p.gb = false /\ eH p.sh p.up p.parts p.part p.ds.l := by
 unfold bZ cI at h
 simp only [Bool.and_eq_true, Bool.not_eq_true', decide_eq_true_eq] at h
 obtain ⟨h1, h2, h3, h4⟩ := h
 exact ⟨⟨h4.2.1, h4.2.2.1⟩, h2, h3, h1, h4⟩
theorem ep {L : List Pg} {n : Nat} (h : n < L.length) : L.take (n + 1) = L.take n ++ [L[n]] := by
 rw [List.take_add_one, List.getElem?_eq_getElem h]; rfl
theorem mX (s : Slc) (sh : Int) (L : List Pg) (css : List (List Value)) (w : World) (hR : Rows PgR w s L css) (hL : L.length <= 2 ^ 20) :
  Calls Tryd.prog ec ⟨[s.v, .int .i64 sh]⟩ w fun x w' => ∃ (out : Nat) (A : List (Ky × dp)), x = .returned (.map (some out)) /\ av w w' /\ bN w' w.heap.size out A /\ fw A = db sh L := by
 refine jh _ _ ?_
 unfold ir
 refine ai (fun r3 w4 hr3 hb3 k3 hs3 => ?_)
 have hsl := hR.sl
 let I : Int -> World -> Prop := fun i w8 => ∃ n : Nat, i = (n : Int) /\ n <= L.length /\ av w w8 /\ ∃ A, bN w8 w.heap.size r3 A /\ fw A = db sh (L.take n)
 refine ⟨I, fun i _ => L.length - i.toNat, ⟨0, rfl, by omega, k3, [], ⟨cH.new hb3, by simp, by simp, by simp, by simp, by omega, by simp⟩, rfl⟩, ?_⟩
 rintro i7 w8 ⟨n, rfl, hn, kw8, A, hA, hAp⟩
 intro u9 u10 u11 u12 u13 u14 u15 u16 u17 u18 u19 u20 u21 u22 u23 u24 u25 u26 u27 u28 u29 u30 u31 u32 u33 u34 u35 u36 u37 u38 u39 u40 u41 u42 u43 u44 u45 u46 u47 u48 u49 u50 u51 u52 u53 u54 u55 u56 u57 u58 u59 u60 u61 u62 u63 u64 u65 u66 u67 u68 u69 u70 u71 u72 u73 u74 u75
 refine aa (fun hlt => ?_) (fun hge => ?_)
 rotate_left
 ·have : n = L.length := by omega
  subst this
  rw [List.take_length] at hAp
  exact ⟨r3, A, rfl, kw8, hA, hAp⟩
 have hnL : n < L.length := by omega
 have hR8 := hR.ah kw8
 have hnc : n < css.length := by rw [hR.len]; exact hnL
 obtain ⟨a, ha, hsp, hrow⟩ := hR8.get hnc
 have hrowx := hR8.row n hnc hnL
 obtain ⟨x, hx⟩ : ∃ x, x = L[n] := ⟨_, rfl⟩
 rw [<- hx] at hrowx
 obtain ⟨hcs, hdat, hft⟩ := hrowx
 rw [hcs] at hrow
 rw [ha]
 refine ⟨by omega, by omega, x.at', x.kind, x.sh, x.cl, x.sq, x.sv, x.ot, x.ops, x.key, x.up, x.part, x.parts, x.ds, x.j9, x.gb, ?_, ?_⟩
 ·have e1 : (Int.toNat ((n : Nat) : Int)) = n := by omega
  rw [e1]; exact hrow
 refine ai (fun r92 w93 hr92 hb92 k92 hs92 => ?_)
 have o92 : ab w93 r92 (pgC da) := ab.bS hb92
 obtain ⟨c1, c2⟩ := o92.bh (cs := pgC x) (n := 15) rfl rfl
 refine ⟨c1, fun w94 hw94 => ?_⟩
 obtain ⟨p92, x94, z94⟩ := c2 w94 hw94
 have k94 : av w8 w94 := k92.ext x94 (fun k hk => by omega)
 refine ⟨x.kind, x.sh, x.cl, x.sq, x.sv, x.ot, x.ops, x.key, x.up, x.part, x.parts, x.ds, p92.rJ 1 rfl, ?_⟩
 refine ai (fun r107 w108 hr107 hb107 k107 hs107 => ?_)
 have o107 : ab w108 r107 (bg 0 0 0 0 0 0 ⟨none, 0, 0⟩ [] 0 0 0 ⟨none, 0, 0⟩) := ab.bS hb107
 obtain ⟨c3, c4⟩ := o107.bh (cs := pgE x) (n := 12) rfl rfl
 refine ⟨c3, fun w109 hw109 => ?_⟩
 obtain ⟨p107, x109, z109⟩ := c4 w109 hw109
 have k109 : av w94 w109 := k107.ext x109 (fun k hk => by omega)
 have k8109 := k94.trans k109
 have p92' := p92.ah k109
 have hsz : w8.heap.size < w109.heap.size := by have := k109.size; omega
 -- the page is not taken
 have skip : ∀ w' : World, av w8 w' -> bZ sh x = false -> inR .i64 (((n : Nat) : Int) + 1) /\ (I (((n : Nat) : Int) + 1) w' /\ L.length - (((n : Nat) : Int) + 1).toNat < L.length - ((n : Nat) : Int).toNat) := by
  intro w' kk ht
  refine ⟨af (by omega), ⟨n + 1, by omega, by omega, kw8.trans kk, A, hA.ah kk, ?_⟩, by omega⟩
  rw [ep hnL, kV, <- hx, ht, if_neg (by simp), hAp]
 refine ⟨fun w' => av w8 w' /\ ab w' r92 (pgC x) /\ ab w' r107 (pgE x) /\ bZ sh x = true, ?_, ?_⟩
 ·refine ⟨x.gb, p92'.cell 14 (by simp [pgC]), aN (fun hj => skip _ k8109 (by unfold bZ; rw [hj]; rfl)) (fun hj => ?_)⟩
  refine ⟨x.kind, p107.cell 0 (by simp [pgE, bg]), aR (fun h5 => skip _ k8109 (by unfold bZ; rw [hj, decide_eq_false h5]; rfl)) (fun h5 => ?_)⟩
  refine ⟨x.sh, p107.cell 1 (by simp [pgE, bg]), aR (fun hs => skip _ k8109 (by unfold bZ; rw [hj, decide_eq_true h5, decide_eq_false hs]; rfl)) (fun hs => ?_)⟩
  refine ⟨x.kind, x.sh, x.cl, x.sq, x.sv, x.ot, x.ops, x.key, x.up, x.part, x.parts, x.ds, p107.row, ?_⟩
  rw [h5]
  refine (mV _ _ _ _ _ _ _ _ _ _ _ _).mono ?_
  rintro e w127 ⟨rfl, k127⟩
  have htk : bZ sh x = cI x.sh x.up x.parts x.part x.ds.l := by unfold bZ; rw [hj, decide_eq_true h5, decide_eq_true hs]; rfl
  refine ⟨_, rfl, aN (fun hb => skip _ (k8109.trans k127) (by rw [htk]; simpa using hb)) (fun hb => ⟨k8109.trans k127, p92'.ah k127, p107.ah k127, by rw [htk]; simpa using hb⟩)⟩
 rintro w129 ⟨k129, q92, q107, htk⟩
 intro u130 u131 u132 u133 u134 u135 u136 u137 u138 u139 u140 u141 u142 u143 u144 u145 u146 u147
 obtain ⟨hky, h5, hs, hj, hck⟩ := dc htk
 refine ⟨x.up, q107.cell 8 (by simp [pgE, bg]), x.parts, q107.cell 10 (by simp [pgE, bg]), ai (fun r150 w151 hr150 hb150 k150 hs150 => ?_)⟩
 have o150 : ab w151 r150 [.int .i64 0, .int .i64 0] := ab.bS hb150
 obtain ⟨c5, c6⟩ := o150.bh (cs := [.int .i64 x.up, .int .i64 x.parts]) (n := 2) rfl rfl
 refine ⟨c5, fun w152 hw152 => ?_⟩
 obtain ⟨p150, x152, z152⟩ := c6 w152 hw152
 have k152 : av w129 w152 := k150.ext x152 (fun k hk => by omega)
 have k8152 := k129.trans k152
 have hA152 := hA.ah k8152
 have h93 : w8.heap.size <= w129.heap.size := k129.size
 -- what is next: the key is there
 refine ⟨fun w' => av w w' /\ ab w' r92 (pgC x) /\ ab w' r107 (pgE x) /\ ab w' r150 [.int .i64 x.up, .int .i64 x.parts] /\ ∃ A1 g, bN w' w.heap.size r3 A1 /\ lookL A1 (x.up, x.parts) = some g /\ fw (kG (x.up, x.parts) x A1) = db sh (L.take (n + 1)), ?_, ?_⟩
 ·obtain ⟨es, g1, g2, g3⟩ := hA152.get hky
  refine ⟨_, _, p150.row, es, g1, g2, _, g3, ?_⟩
  have hnext : db sh (L.take (n + 1)) = gd (db sh (L.take n)) x := by rw [ep hnL, kV, <- hx, if_pos htk]
  cases hl : lookL A (x.up, x.parts) with
  | some g =>
   refine aN (fun h => by cases h) (fun _ => ?_)
   refine ⟨kw8.trans k8152, q92.ah k152, q107.ah k152, p150, A, g, hA152, hl, ?_⟩
   rw [mW, hnext, iE (by rw [<- hAp, qp, hl]; rfl), hAp]
  | none =>
   refine aN (fun _ => ?_) (fun h => by cases h)
   refine ⟨_, _, p150.row, _, _, p150.row, ai (fun r162 w163 hr162 hb162 k162 hs162 => ai (fun r164 w165 hr164 hb164 k164 hs164 => ?_))⟩
   have k165 := k162.trans k164
   have hA165 := hA152.ah k165
   have o164 : ab w165 r164 [.int .i64 x.up, .int .i64 x.parts, .map (some r162)] := ab.bS hb164
   have m162 : dU PM w165 r162 [] := (dU.new hb162).ah k164
   obtain ⟨es1, ck1, es2, ck2, f1, f2, f3, f4⟩ := hA165.map.push (P := Tryd.prog) (t := dn) (fun p hp => lR (hA165.ok p hp)) (k := (x.up, x.parts)) ⟨r164, r162, []⟩ (lR hky) hl
   refine ⟨r3, es1, ck1, es2, ck2, rfl, f1, f2, f3, fun w171 hw171 => ?_⟩
   obtain ⟨f5, f6, f7⟩ := f4 w171 hw171
   have hr3lt := hA152.map.lt
   have z162 := k162.size
   have lt_m : ∀ e ∈ A, e.2.m < w152.heap.size := fun e he => (hA152.at' e he).2.lt
   have hG := hA165.push (k := (x.up, x.parts)) (r := r164) (m := r162) hky o164 m162 (fun e he hh => by have := lt_m e he; omega) (by omega) (by have := kw8.size; omega) f6 f5
   have kk : av w w171 := (kw8.trans (k8152.trans k165)).ext f6 (fun k hk => by have := hA.lo.1; omega)
   have n92 : r92 ≠ r3 := fun hh => by have := hA.map.lt; omega
   have n107 : r107 ≠ r3 := fun hh => by have := hA.map.lt; omega
   have n150 : r150 ≠ r3 := fun hh => by have := hA.map.lt; omega
   refine ⟨kk, ((q92.ah k152).ah k165).ext f6 n92, ((q107.ah k152).ah k165).ext f6 n107, (p150.ah k165).ext f6 n150, _, ⟨r164, r162, []⟩, hG, ?_, ?_⟩
   ·exact eC hG.map.nd (by simp)
   ·rw [mW, hnext, iD (by rw [<- hAp, qp, hl]; rfl), <- hAp]
    unfold fw
    rw [List.map_append]; rfl
 rintro w172 ⟨kw172, s92, s107, s150, A1, g, hA1, hl1, hpA1⟩
 intro u173 u174 u175 u176 u177 u178 u179 u180 u181 u182
 have kd : av w172 w172.drew := Ext.drew dN _
 have hAd := hA1.ah kd
 have hmem := bY hl1
 obtain ⟨og, mg⟩ := hAd.at' _ hmem
 obtain ⟨es, g1, g2, g3⟩ := hAd.get hky
 rw [hl1] at g3
 obtain ⟨esp, v1, v2⟩ := gK mg x.part
 refine ⟨_, _, (s150.ah kd).row, es, g1, g2, _, g3, some g.m, og.cell 2 (by simp), x.part, (s107.ah kd).cell 9 (by simp [pgE, bg]), esp, v1, ?_⟩
 have fin : ∀ w' : World, av w w' -> bN w' w.heap.size r3 (kG (x.up, x.parts) x A1) -> inR .i64 (((n : Nat) : Int) + 1) /\ (I (((n : Nat) : Int) + 1) w' /\ L.length - (((n : Nat) : Int) + 1).toNat < L.length - ((n : Nat) : Int).toNat) := by
  intro w' kk hG
  exact ⟨af (by omega), ⟨n + 1, by omega, by omega, kk, _, hG, hpA1⟩, by omega⟩
 cases hp : lookL g.l x.part with
 | none =>
  rw [hp] at v2
  refine .inl ⟨v2, ai (fun r206 w207 hr206 hb206 k206 hs206 => ?_)⟩
  have k207 := kd.trans k206
  have hA207 := hA1.ah k207
  obtain ⟨og7, mg7⟩ := hA207.at' _ hmem
  obtain ⟨esp7, v17, v27⟩ := gK mg7 x.part
  rw [hp] at v27
  obtain ⟨es7, g17, g27, g37⟩ := hA207.get hky
  rw [hl1] at g37
  refine ⟨⟨esp7, v17, .inl ⟨v27, rfl⟩⟩, ⟨x.part, (s107.ah k207).cell 9 (by simp [pgE, bg]), rfl⟩, ⟨some g.m, og7.cell 2 (by simp), rfl⟩, ⟨es7, g17, g27, _, g37, rfl⟩, ⟨_, _, (s150.ah k207).row, rfl⟩, ?_⟩
  have o206 : ab w207 r206 (pgC da) := ab.bS hb206
  obtain ⟨c7, c8⟩ := o206.bh (cs := pgC da) (n := 15) rfl rfl
  refine ⟨c7, fun w230 hw230 => ?_⟩
  obtain ⟨p206, x230, z230⟩ := c8 w230 hw230
  have hsd : w172.drew.heap.size = w172.heap.size := rfl
  have k230 : av w172 w230.drew := (k207.ext x230 (fun k hk => by omega)).drew
  have hA230 := hA1.ah k230
  obtain ⟨og3, mg3⟩ := hA230.at' _ hmem
  obtain ⟨es3, g13, g23, g33⟩ := hA230.get hky
  rw [hl1] at g33
  obtain ⟨es4, ck4, es5, ck5, t1, t2, t3⟩ := mg3.put x.part x
  refine ⟨_, _, (s150.ah k230).row, es3, g13, g23, _, g33, some g.m, og3.cell 2 (by simp), x.part, (s107.ah k230).cell 9 (by simp [pgE, bg]), _, _, _, _, _, _, _, _, _, _, _, _, _, _, _, (s92.ah k230).row, g.m, es4, ck4, es5, ck5, rfl, t1, t2, fun w258 hw258 => ?_⟩
  obtain ⟨t4, t5, t6⟩ := t3 w258 hw258
  have hadd : eJ g.l x = g.l ++ [(x.part, x)] := by unfold eJ; rw [hp]; rfl
  refine fin _ ((kw172.trans k230).ext t5 (fun k hk => by have := hA1.lo.2 _ hmem; omega)) (hA230.put hl1 ?_ t5)
  rw [hadd, <- oA _ _ hp]; exact t4
 | some y =>
  rw [hp] at v2
  refine .inr ⟨_, _, _, _, _, _, _, _, _, _, _, _, _, _, _, v2, ai (fun r259 w260 hr259 hb259 k259 hs259 => ?_)⟩
  have k260 := kd.trans k259
  have hA260 := hA1.ah k260
  obtain ⟨og7, mg7⟩ := hA260.at' _ hmem
  obtain ⟨esp7, v17, v27⟩ := gK mg7 x.part
  rw [hp] at v27
  obtain ⟨es7, g17, g27, g37⟩ := hA260.get hky
  rw [hl1] at g37
  refine ⟨⟨esp7, v17, .inr ⟨_, _, _, _, _, _, _, _, _, _, _, _, _, _, _, v27, rfl⟩⟩, ⟨x.part, (s107.ah k260).cell 9 (by simp [pgE, bg]), rfl⟩, ⟨some g.m, og7.cell 2 (by simp), rfl⟩, ⟨es7, g17, g27, _, g37, rfl⟩, ⟨_, _, (s150.ah k260).row, rfl⟩, ?_⟩
  have o259 : ab w260 r259 (pgC da) := ab.bS hb259
  obtain ⟨c7, c8⟩ := o259.bh (cs := pgC y) (n := 15) rfl rfl
  refine ⟨c7, fun w283 hw283 => ?_⟩
  obtain ⟨p259, x283, z283⟩ := c8 w283 hw283
  have hsd : w172.drew.heap.size = w172.heap.size := rfl
  have k283 : av w172 w283 := k260.ext x283 (fun k hk => by omega)
  refine fin _ (kw172.trans k283) ?_
  rw [hA1.there hl1 (by rw [hp]; rfl)]
  exact hA1.ah k283
end Go.D
namespace Go.D
open Go Go.Proofs
theorem mY (s1 s2 : Slc) (b1 b2 : List UInt8) (w : World) (h1 : ar w s1 b1) (h2 : ar w s2 b2) (hl : b1.length <= 2 ^ 40) :
  Calls Tryd.prog bP ⟨[s1.v, s2.v]⟩ w fun e w' => e = .returned (.bool (decide (b1 = b2))) /\ av w w' := by
 have l1 := h1.1
 have l2 := h2.1
 refine gv _ _ ?_
 unfold eR
 refine aR (fun hne => ⟨?_, Ext.refl _ _⟩) (fun heq => ?_)
 ·rw [decide_eq_false (fun h => hne (by rw [l1, l2, h]))]
 have hll : b1.length = b2.length := by omega
 refine ⟨fun i w6 => ∃ n : Nat, i = (n : Int) /\ n <= b1.length /\ av w w6 /\ b1.take n = b2.take n, fun i _ => b1.length - i.toNat, ⟨0, rfl, by omega, Ext.refl _ _, rfl⟩, ?_⟩
 rintro i5 w6 ⟨n, rfl, hn, k6, ht⟩
 intro u7 u8 u9 u10 u11 u12 u13 u14 u15 u16 u17 u18 u19 u20
 refine aa (fun hlt => ?_) (fun hge => ?_)
 ·have kd := k6.drew
  obtain ⟨a, ha, hc⟩ := im (az h1 kd) (i := n) (by omega)
  obtain ⟨a', ha', hc'⟩ := im (az h2 kd) (i := n) (by omega)
  rw [ha, ha']
  have e1 : (Int.toNat ((n : Nat) : Int)) * 1 = n := by omega
  refine ⟨by omega, by omega, _, by rw [e1]; exact hc, by omega, by omega, _, by rw [e1]; exact hc', ?_⟩
  have hn1 : n < b1.length := by omega
  have hn2 : n < b2.length := by omega
  refine aR (fun hne => ⟨?_, kd⟩) (fun he => ⟨af (by omega), ⟨n + 1, by omega, by omega, kd, ?_⟩, by dsimp only; omega⟩)
  ·rw [decide_eq_false (fun h => hne (by subst h; rfl))]
  ·have : b1[n] = b2[n] := by
    have hx : ((b1[n].toNat : Nat) : Int) = ((b2[n].toNat : Nat) : Int) := he
    exact UInt8.toNat_inj.1 (by omega)
   rw [List.take_add_one, List.take_add_one, ht, List.getElem?_eq_getElem hn1, List.getElem?_eq_getElem hn2, this]
 ·have : n = b1.length := by omega
  subst this
  rw [List.take_length, hll, List.take_length] at ht
  exact ⟨by rw [decide_eq_true ht], k6⟩
abbrev Fd := Int × Int × Int × Int × List UInt8
def aD (l : List (Int × Pg)) (n : Nat) : List Pg := (List.range n).map fun (i : Nat) => (lookL l (i : Int)).getD da
def eI (f0 : Int) (ps : List Pg) : Int := ps.foldl (fun f p => if p.at' < f then p.at' else f) f0
def ka (ps : List Pg) : Int := ps.foldl (fun m p => if p.at' > m then p.at' else m) 0
def dF (ps : List Pg) : List UInt8 := ps.flatMap (·.dat)
def bC (k : Ky) (l : List (Int × Pg)) : Option Fd :=
 if ¬ ((l.length : Nat) : Int) = k.2 then none
 else if (dF (aD l k.2.toNat)).length < 4 then none
 else if dK ((dF (aD l k.2.toNat)).drop 4) = dF (aD l k.2.toNat) then
  some (k.1, k.2, eI ((lookL l 0).getD da).at' (aD l k.2.toNat), ka (aD l k.2.toNat), (dF (aD l k.2.toNat)).drop 4)
 else none
def fdC (x : Fd) (s : Slc) : List Value := [.int .i64 x.1, .int .i64 x.2.1, .int .i64 x.2.2.1, .int .i64 x.2.2.2.1, s.v]
def fd0 : List Value := [.int .i64 0, .int .i64 0, .int .i64 0, .int .i64 0, (⟨none, 0, 0⟩ : Slc).v]
theorem iF (l : List (Int × Pg)) (n : Nat) : aD l (n + 1) = aD l n ++ [(lookL l (n : Int)).getD da] := by
 unfold aD
 rw [List.range_succ, List.map_append]; rfl
theorem kW {l : List (Int × Pg)} {n : Nat} (hn : (l.map (·.1)).Nodup) (hr : ∀ q ∈ l, 0 <= q.1 /\ q.1 < (n : Int)) (hl : l.length = n) {i : Nat} (hi : i < n) : ∃ p, lookL l (i : Int) = some p := by
 cases hp : lookL l (i : Int) with
 | some p => exact ⟨p, rfl⟩
 | none =>
  exfalso
  have hni := fo.1 hp
  have h1 : (((i : Nat) : Int) :: l.map (·.1)).Nodup := List.nodup_cons.2 ⟨hni, hn⟩
  have h2 : (((i : Nat) : Int) :: l.map (·.1)) ⊆ (List.range n).map fun (j : Nat) => (j : Int) := by
   intro x hx
   have hx2 : 0 <= x /\ x < (n : Int) := by
    rcases List.mem_cons.1 hx with rfl | hx
    ·omega
    ·obtain ⟨q, hq, rfl⟩ := List.mem_map.1 hx
     exact hr q hq
   exact List.mem_map.2 ⟨x.toNat, List.mem_range.2 (by omega), by omega⟩
  have := h1.length_le_of_subset h2
  simp at this
  omega
theorem mZ {n : Nat} {ps : List Pg} (h : ∀ p ∈ ps, p.dat.length <= n) : (dF ps).length <= ps.length * n := by
 unfold dF
 induction ps with
 | nil => simp
 | cons p ps ih =>
  rw [List.flatMap_cons, List.length_append, List.length_cons, Nat.add_mul]
  have := h p (by simp)
  have := ih (fun q hq => h q (by simp [hq]))
  omega
theorem nN (r m : Nat) (k : Ky) (l : List (Int × Pg)) (w : World) (hr : ab w r [.int .i64 k.1, .int .i64 k.2, .map (some m)]) (hm : dU PM w m l) (hk : iC k)
  (hl : ∀ q ∈ l, (0 <= q.1 /\ q.1 < k.2) /\ fQ w q.2 /\ q.2.dat.length <= 256) :
  Calls Tryd.prog cj ⟨[.pointer (some ⟨r, 0, none⟩)]⟩ w fun x w' => av w w' /\
   match bC k l with
   | none => x = .returned (.tuple ⟨[.agg ⟨fd0⟩, .bool false]⟩)
   | some f => ∃ s : Slc, x = .returned (.tuple ⟨[.agg ⟨fdC f s⟩, .bool true]⟩) /\ ar w' s f.2.2.2.2 /\ s.l <= s.c /\ cX w s := by
 refine fm _ ?_
 unfold dS
 refine ai (fun r2 w3 hr2 hb2 k2 hs2 => ?_)
 have o2 : ab w3 r2 fd0 := ab.bS hb2
 have k3 := k2.drew
 have hm3 := hm.ah k3
 obtain ⟨es, m1, m2⟩ := hm3.at.size
 refine ⟨some m, (hr.ah k3).cell 2 (by simp), es, m1, k.2, (hr.ah k3).cell 1 (by simp), ?_⟩
 rw [m2]
 refine aR (fun hne => ?_) (fun heq => ?_)
 ·obtain ⟨c1, c2⟩ := (o2.ah (Ext.drew dN _)).bh (cs := fd0) (n := 5) rfl rfl
  refine ⟨c1, fun w9 hw9 => ?_⟩
  obtain ⟨p2, x9, z9⟩ := c2 w9 hw9
  refine ⟨_, _, _, _, _, p2.row, k3.ext x9 (fun j hj => by omega), ?_⟩
  have : bC k l = none := by unfold bC; rw [if_pos hne]
  rw [this]
  rfl
 obtain ⟨N, hN⟩ : ∃ N : Nat, N = k.2.toNat := ⟨_, rfl⟩
 have hk2 : k.2 = (N : Int) := by have := hk.2; omega
 have hN1 : 1 <= N /\ N <= 64 := by have := hk.2; omega
 have hall : ∀ {i : Nat}, i < N -> ∃ p, lookL l (i : Int) = some p := fun hi => kW hm.nd (fun q hq => by have := (hl q hq).1; omega) (by omega) hi
 have k4 := k3.drew
 obtain ⟨p0, hp0⟩ := hall (i := 0) (by omega)
 have hp0' : lookL l 0 = some p0 := hp0
 refine ⟨k.1, (hr.ah k4).cell 0 (by simp), k.2, (hr.ah k4).cell 1 (by simp), some m, (hr.ah k4).cell 2 (by simp), ?_⟩
 obtain ⟨es4, g1, g2⟩ := gK (hm.ah k4) 0
 rw [hp0'] at g2
 refine ⟨es4, g1, .inr ⟨_, _, _, _, _, _, _, _, _, _, _, _, _, _, _, g2, ai (fun r170 w171 hr170 hb170 k170 hs170 => ?_)⟩⟩
 have k171 := k4.trans k170
 obtain ⟨es5, g3, g4⟩ := gK (hm.ah k171) 0
 rw [hp0'] at g4
 refine ⟨⟨es5, g3, .inr ⟨_, _, _, _, _, _, _, _, _, _, _, _, _, _, _, g4, rfl⟩⟩, ⟨some m, (hr.ah k171).cell 2 (by simp), rfl⟩, ⟨k.2, (hr.ah k171).cell 1 (by simp), rfl⟩, ⟨k.1, (hr.ah k171).cell 0 (by simp), rfl⟩, ?_⟩
 have o170 : ab w171 r170 fd0 := ab.bS hb170
 obtain ⟨c1, c2⟩ := o170.bh (cs := [.int .i64 k.1, .int .i64 k.2, .int .i64 p0.at', .int .i64 0, (⟨none, 0, 0⟩ : Slc).v]) (n := 5) rfl rfl
 refine ⟨c1, fun w191 hw191 => ?_⟩
 obtain ⟨p170, x191, z191⟩ := c2 w191 hw191
 have h34 : w3.drew.drew.heap.size = w3.heap.size := rfl
 have z170 := k170.size
 have k191 : av w w191 := k171.ext x191 (fun j hj => by omega)
 have q2 : ab w191 r2 fd0 := (((o2.ah (Ext.drew dN _)).ah (Ext.drew dN _)).ah k170).ext x191 (fun hh => by omega)
 refine ⟨k.2, (hr.ah k191).cell 1 (by simp), ?_⟩
 let I : Slc -> Int -> World -> Prop := fun all i w2 => ∃ n : Nat, i = (n : Int) /\ n <= N /\ av w w2 /\ Own w2 all 1 ((dF (aD l n)).map ba) /\ ab w2 r2 fd0 /\
  ab w2 r170 [.int .i64 k.1, .int .i64 k.2, .int .i64 (eI p0.at' (aD l n)), .int .i64 (ka (aD l n)), (⟨none, 0, 0⟩ : Slc).v] /\ (∀ j, aC all j -> r170 < j)
 refine ⟨I, fun _ i _ => N - i.toNat, ⟨0, rfl, by omega, k191, Own.nil _ _, q2, p170, by rintro j ⟨a, ha, _⟩; cases ha⟩, ?_⟩
 rintro all i w198 ⟨n, rfl, hn, k198, hall198, q2, q170, hown⟩
 intro u199 u200 u201 u202 u203 u204 u205 u206 u207 u208 u209 u210 u211 u212 u213 u214 u215 u216 u217 u218 u219 u220 u221 u222 u223 u224 u225 u226
 have hplen : ∀ n', n' <= N -> ∀ p ∈ aD l n', p.dat.length <= 256 := by
  intro n' hn' p hp
  obtain ⟨i, hi, rfl⟩ := List.mem_map.1 hp
  obtain ⟨q, hq⟩ := hall (i := i) (by have := List.mem_range.1 hi; omega)
  rw [hq]
  exact (hl _ (bY hq)).2.2
 have hdl : ∀ n', n' <= N -> (dF (aD l n')).length <= 64 * 256 := by
  intro n' hn'
  have h1 := mZ (hplen n' hn')
  have h2 : (aD l n').length = n' := by unfold aD; simp
  rw [h2] at h1
  have := Nat.mul_le_mul_right 256 (show n' <= 64 by omega)
  omega
 have hal : all.l = (dF (aD l n)).length := hall198.bytes.1
 refine aa (fun hlt => ?_) (fun hge => ?_)
 ·have hnN : n < N := by omega
  obtain ⟨p, hp⟩ := hall hnN
  obtain ⟨es6, g5, g6⟩ := gK (hm.ah k198) n
  rw [hp] at g6
  refine ⟨some m, (hr.ah k198).cell 2 (by simp), es6, g5, .inr ⟨_, _, _, _, _, _, _, _, _, _, _, _, _, _, _, g6, ai (fun r258 w259 hr258 hb258 k258 hs258 => ?_)⟩⟩
  have o258 : ab w259 r258 (pgC da) := ab.bS hb258
  obtain ⟨c1, c2⟩ := o258.bh (cs := pgC p) (n := 15) rfl rfl
  refine ⟨c1, fun w260 hw260 => ?_⟩
  obtain ⟨p258, x260, z260⟩ := c2 w260 hw260
  have k260 : av w198 w260.drew := (k258.ext x260 (fun j hj => by omega)).drew
  have s258 : ab w260.drew r258 (pgC p) := p258.ah (Ext.drew dN _)
  have s170 := q170.ah k260
  have s2 := q2.ah k260
  have r170lt := q170.lt
  have r2lt := q2.lt
  refine ⟨_, s170.cell 2 (by simp), p.at', s258.cell 0 (by simp [pgC]), _, s170.cell 3 (by simp), p.at', s258.cell 0 (by simp [pgC]), ?_⟩
  obtain ⟨c3, c4⟩ := s170.cN 2 (by simp) (.int .i64 (if p.at' < eI p0.at' (aD l n) then p.at' else eI p0.at' (aD l n)))
  refine ⟨c3, fun w265 hw265 => ?_⟩
  obtain ⟨t170, x265, z265⟩ := c4 w265 hw265
  have n258 : r258 ≠ r170 := by omega
  have t258 := s258.ext x265 n258
  refine ⟨⟨p.at', t258.cell 0 (by simp [pgC]), rfl⟩, ?_⟩
  obtain ⟨c5, c6⟩ := t170.cN 3 (by simp) (.int .i64 (if p.at' > ka (aD l n) then p.at' else ka (aD l n)))
  refine ⟨c5, fun w267 hw267 => ?_⟩
  obtain ⟨v170, x267, z267⟩ := c6 w267 hw267
  have v258 := t258.ext x267 n258
  refine ⟨p.ds, v258.cell 12 (by simp [pgC]), ?_⟩
  have xx : Ext (fun j => j = r170) w260.drew w267 := x265.trans x267 (fun _ h => h) (fun _ h => .inl h)
  have hr170w : w.heap.size <= r170 := by have := k4.size; omega
  have k267 : av w w267 := (k198.trans k260).ext xx (fun j hj => by omega)
  have n2 : r2 ≠ r170 := by omega
  have s2' := s2.ext xx n2
  have ha267 : Own w267 all 1 ((dF (aD l n)).map ba) := (hall198.ah k260).ext xx (fun j hj hh => by have := hown j hj; omega)
  have hpd : fQ w267 p := ea (hl _ (bY hp)).2.1 k267
  have hpl := (hl _ (bY hp)).2.2
  dsimp only at hpl
  refine dP ha267 (by omega) rfl (dO hpd.1) (iQ _) (by simp only [Src.n]; have := hdl n (by omega); have := hpd.1.1; omega) (fun s' w' h1 h2 h3 h4 => ?_)
  refine ⟨af (by omega), ⟨n + 1, by omega, by omega, k267.ext h2 (fun j hj => by have := hown j hj; omega), ?_, s2'.ext h2 (fun hh => by have := hown _ hh; omega), ?_, fun j hj => ?_⟩, by dsimp only; omega⟩
  ·rw [iF, hp]
   unfold dF
   rw [List.flatMap_append, List.map_append]
   simpa [dF] using h1
  ·have := v170.ext h2 (fun hh => by have := hown _ hh; omega)
   rw [iF, hp]
   unfold eI ka
   rw [List.foldl_append, List.foldl_append]
   exact this
  ·rcases h3 j hj with h | h
   ·exact hown j h
   ·have := v170.lt; omega
 have hnN : n = N := by omega
 subst hnN
 have hfin : ∀ b : Bool, b = true -> True := fun _ _ => trivial
 have hkn : k.2.toNat = n := by omega
 have hds := hall198.bytes
 have hcap : all.l <= all.c := hall198.le (by omega)
 -- nothing is found
 have no : ∀ {w5 : World}, av w w5 -> ab w5 r2 fd0 -> bC k l = none -> aw w5 (⟨r2, 0, none⟩ : Addr) 5 /\ ∀ w271 : World, w271 = setCells w5 (⟨r2, 0, none⟩ : Addr) 0 fd0 ->
   ab w271 r2 fd0 /\ (av w w271 /\ match bC k l with
   | none => Ending.returned (.tuple ⟨[.agg ⟨fd0⟩, .bool false]⟩) = .returned (.tuple ⟨[.agg ⟨fd0⟩, .bool false]⟩)
   | some f => ∃ s : Slc, Ending.returned (.tuple ⟨[.agg ⟨fd0⟩, .bool false]⟩) = .returned (.tuple ⟨[.agg ⟨fdC f s⟩, .bool true]⟩) /\ ar w271 s f.2.2.2.2 /\ s.l <= s.c /\ cX w s) := by
  intro w5 k5 o5 hf
  obtain ⟨c1, c2⟩ := o5.bh (cs := fd0) (n := 5) rfl rfl
  refine ⟨c1, fun w9 hw9 => ?_⟩
  obtain ⟨p2, x9, z9⟩ := c2 w9 hw9
  refine ⟨p2, k5.ext x9 (fun j hj => by omega), ?_⟩
  rw [hf]
 refine aa (fun h4 => ?_) (fun h4 => ?_)
 ·have hf : bC k l = none := by
   unfold bC
   rw [hkn, if_neg (fun h => h heq), if_pos (by omega)]
  obtain ⟨d1, d2⟩ := no k198 q2 hf
  refine ⟨d1, fun w271 hw271 => ?_⟩
  obtain ⟨d3, d4⟩ := d2 w271 hw271
  exact ⟨_, _, _, _, _, d3.row, d4⟩
 refine ⟨by omega, by omega, by omega, by omega, ?_⟩
 have hsub := gq hds (lo := 4) (hi := all.l) (c := all.c) (by omega) (by omega) hcap
 rw [hal, List.take_length, <- hal] at hsub
 refine (jb _ _ w198 hsub (by have := hdl n (by omega); simp; omega)).mono ?_
 rintro e w279 ⟨s280, rfl, h280, f280, k279⟩
 refine ⟨s280, rfl, ?_⟩
 refine (mY s280 all _ _ w279 h280.bytes (az hds k279) (by rw [gY]; have := hdl n (by omega); simp; omega)).mono ?_
 rintro e w282 ⟨rfl, k282⟩
 have k198282 := k279.trans k282
 have k282' := k198.trans k198282
 refine ⟨_, rfl, aR (fun hne => ?_) (fun he => ?_)⟩
 ·have hf : bC k l = none := by
   unfold bC
   rw [hkn, if_neg (fun h => h heq), if_neg (by omega), if_neg hne]
  obtain ⟨d1, d2⟩ := no k282' (q2.ah k198282) hf
  refine ⟨d1, fun w284 hw284 => ?_⟩
  obtain ⟨d3, d4⟩ := d2 w284 hw284
  exact ⟨_, _, _, _, _, d3.row, d4⟩
 have hf : bC k l = some (k.1, k.2, eI p0.at' (aD l n), ka (aD l n), (dF (aD l n)).drop 4) := by
  unfold bC
  rw [hkn, if_neg (fun h => h heq), if_neg (by omega), if_pos he, hp0']
  rfl
 refine ⟨by omega, by omega, by omega, by omega, ?_⟩
 obtain ⟨c3, c4⟩ := (q170.ah k198282).cN 4 (by simp) (Slc.sub all 1 4 all.l all.c).v
 refine ⟨c3, fun w291 hw291 => ?_⟩
 obtain ⟨v170, x291, z291⟩ := c4 w291 hw291
 refine ⟨_, _, _, _, _, v170.row, ?_⟩
 have hr170w : w.heap.size <= r170 := by have := k4.size; omega
 have n2 : r2 ≠ r170 := by omega
 have v2 := (q2.ah k198282).ext x291 n2
 have k291 : av w w291 := k282'.ext x291 (fun j hj => by omega)
 obtain ⟨c5, c6⟩ := v2.bh (cs := [.int .i64 k.1, .int .i64 k.2, .int .i64 (eI p0.at' (aD l n)), .int .i64 (ka (aD l n)), (Slc.sub all 1 4 all.l all.c).v]) (n := 5) rfl rfl
 refine ⟨c5, fun w297 hw297 => ?_⟩
 obtain ⟨p2, x297, z297⟩ := c6 w297 hw297
 refine ⟨_, _, _, _, _, p2.row, k291.ext x297 (fun j hj => by omega), ?_⟩
 rw [hf]
 have hob : ∀ j, aC (Slc.sub all 1 4 all.l all.c) j -> aC all j := by
  rintro j ⟨a, ha, rfl⟩
  unfold Slc.sub at ha
  dsimp only at ha
  cases hpp : all.p with
  | none => rw [hpp] at ha; simp at ha
  | some a0 =>
   rw [hpp] at ha
   refine ⟨a0, hpp, ?_⟩
   simp at ha
   split at ha <;> (cases ha; simp [cD])
 refine ⟨_, rfl, ?_, by simp only [Slc.sub]; omega, fun j hj => by have := hown j (hob j hj); omega⟩
 have hb1 := az hsub k198282
 exact di (di hb1 x291 (fun j hj hh => by have := hown j (hob j hj); omega)) x297 (fun j hj hh => by have := hown j (hob j hj); omega)
end Go.D
namespace Go.D
open Go Go.Proofs
theorem gL {x : Fd} {s : Slc} {k : Nat} (h : dT (fdC x s) k) : 0 < s.l /\ aC s k := by
 obtain ⟨s', hs, h1, h2⟩ := h
 have : s' = s := by
  obtain ⟨p, l, c⟩ := s
  obtain ⟨p', l', c'⟩ := s'
  simp [fdC, Slc.v] at hs
  obtain ⟨rfl, rfl, rfl⟩ := hs
  rfl
 subst this
 exact ⟨h1, h2⟩
def FdR : o0 Fd where
 n := 5
 pos := by omega
 R w x cs := ∃ s : Slc, cs = fdC x s /\ ar w s x.2.2.2.2 /\ s.l <= s.c
 len := by rintro w x cs ⟨s, rfl, _⟩; rfl
 one := by rintro w x cs ⟨s, rfl, _⟩; intro v hv; simp [fdC] at hv; rcases hv with rfl | rfl | rfl | rfl | rfl <;> rfl
 ext := by
  rintro M w w' x cs ⟨s, rfl, h, h2⟩ he hm
  exact ⟨s, rfl, aP h he (fun h0 k hk => hm k ⟨s, by simp [fdC], h0, hk⟩), h2⟩
 lt := by
  rintro w x cs ⟨s, rfl, h, _⟩ k hk
  obtain ⟨h0, hk⟩ := gL hk
  exact gB h h0 k hk
def nO (sh : Int) (L : List Pg) (G : List (Ky × List (Int × Pg))) : Prop :=
 ∀ e ∈ G, ∀ q ∈ e.2, q.2 ∈ L /\ q.1 = q.2.part /\ bZ sh q.2 = true /\ (q.2.up, q.2.parts) = e.1
theorem qq {l : List (Int × Pg)} {p : Pg} {q : Int × Pg} (h : q ∈ eJ l p) : q ∈ l \/ q = (p.part, p) := by
 unfold eJ at h
 split at h
 ·exact .inl h
 ·rcases List.mem_append.1 h with h | h
  ·exact .inl h
  ·exact .inr (List.mem_singleton.1 h)
theorem qs {sh : Int} {L : List Pg} {G : List (Ky × List (Int × Pg))} {p : Pg} (h : nO sh L G) (hp : p ∈ L) (ht : bZ sh p = true) : nO sh L (gd G p) := by
 have key : ∀ G' : List (Ky × List (Int × Pg)), nO sh L G' -> nO sh L (G'.map fun e => if e.1 = (p.up, p.parts) then (e.1, eJ e.2 p) else e) := by
  intro G' h' e he q hq
  obtain ⟨e0, h0, rfl⟩ := List.mem_map.1 he
  by_cases hk : e0.1 = (p.up, p.parts)
  ·rw [if_pos hk] at hq ⊢
   rcases qq hq with h1 | rfl
   ·exact h' e0 h0 q h1
   ·exact ⟨hp, rfl, ht, hk.symm⟩
  ·rw [if_neg hk] at hq ⊢
   exact h' e0 h0 q hq
 cases hl : lookL G (p.up, p.parts) with
 | some l => rw [iE (by rw [hl]; rfl)]; exact key G h
 | none =>
  rw [iD hl]
  refine key _ (fun e he q hq => ?_)
  rcases List.mem_append.1 he with h1 | h1
  ·exact h e h1 q hq
  ·rw [List.mem_singleton] at h1; subst h1; simp at hq
theorem kX {sh : Int} {L : List Pg} : ∀ (ps : List Pg) (G : List (Ky × List (Int × Pg))), (∀ p ∈ ps, p ∈ L /\ bZ sh p = true) -> nO sh L G -> nO sh L (ps.foldl gd G)
 | [], G, _, h => h
 | p :: ps, G, hp, h => kX ps (gd G p) (fun q hq => hp q (by simp [hq])) (qs h (hp p (by simp)).1 (hp p (by simp)).2)
theorem rW (sh : Int) (L : List Pg) : nO sh L (db sh L) :=
 kX _ _ (fun p hp => by rw [List.mem_filter] at hp; exact hp) (fun e he => by simp at he)
def kb (sh : Int) (L : List Pg) : List Fd := (db sh L).filterMap fun e => bC e.1 e.2
end Go.D
namespace Go.D
open Go Go.Proofs
def fR (A : List (Ky × dp)) (ks : List Ky) : List Fd := ks.filterMap fun k => bC k (((lookL A k).map (·.l)).getD [])
theorem pg (A : List (Ky × dp)) (ks : List Ky) (k : Ky) : fR A (ks ++ [k]) = fR A ks ++ (bC k (((lookL A k).map (·.l)).getD [])).toList := by
 unfold fR
 rw [List.filterMap_append]
 congr 1
end Go.D
namespace Go.D
open Go Go.Proofs
theorem iT (s : Slc) (w : World) :
  Calls Tryd.prog bV ⟨[s.v]⟩ w fun e w' => ∃ b, e = .returned (.func (.func aO) ⟨[]⟩ ⟨[iy b]⟩) /\ ab w' b [s.v] /\ av w w' /\ w.heap.size <= b := by
 refine fc _ ?_
 unfold dx
 exact ai (fun r w1 hr hb hk hs => ⟨r, rfl, ab.bS hb, hk, by omega⟩)
theorem gZ (s : Slc) (xs : List Fd) (css : List (List Value)) (lr b : Nat) (J : Nat -> World -> Prop) (X : World -> Prop) (hl : xs.length <= 2 ^ 40)
  (hJ : ∀ k w, J k w -> w.cell? ⟨b, 0, none⟩ = some s.v /\ Rows FdR w s xs css)
  (hstep : ∀ k (hk : k < xs.length) (w : World) (sd : Slc), J (k + 1) w -> ar w sd xs[k].2.2.2.2 -> sd.l <= sd.c -> (∀ j, 0 < sd.l -> aC sd j -> cY css j) ->
   dD Tryd.prog lr ⟨[.int .i64 (k : Int), .agg ⟨fdC xs[k] sd⟩]⟩ w fun e w' => (e = .returned (.bool true) /\ J k w') \/ (e = .returned (.bool false) /\ X w'))
  (w : World) (h0 : J xs.length w) :
  Calls Tryd.prog aO ⟨[.func (.yield lr) ⟨[]⟩ ⟨[]⟩, iy b]⟩ w fun e w' => e = .returned (.tuple #[]) /\ (J 0 w' \/ X w') := by
 refine eE _ _ ?_
 unfold dk
 obtain ⟨hc, hR⟩ := hJ _ _ h0
 have hsl := hR.sl
 refine ao rfl ⟨s, hc, af (by omega), fun i w2 => ∃ k : Nat, i = (k : Int) - 1 /\ k <= xs.length /\ J k w2, fun i _ => (i + 1).toNat, ⟨xs.length, by omega, by omega, h0⟩, ?_⟩
 rintro i w8 ⟨k, rfl, hk, h8⟩
 intros
 obtain ⟨hc8, hR8⟩ := hJ _ _ h8
 refine aa (fun h1 => ?_) (fun h1 => ⟨rfl, .inl (by rw [show k = 0 by omega] at h8; exact h8)⟩)
 obtain ⟨m, rfl⟩ : ∃ m, k = m + 1 := ⟨k - 1, by omega⟩
 have hm : m < xs.length := by omega
 have hm2 : m < css.length := by rw [hR8.len]; exact hm
 obtain ⟨a, ha, _, hrow⟩ := hR8.get hm2
 obtain ⟨sd, hs, hb, hc⟩ := hR8.row m hm2 hm
 have hfoot : ∀ j, 0 < sd.l -> aC sd j -> cY css j := fun j h0 hj => ⟨css[m], List.getElem_mem hm2, sd, by rw [hs]; simp [fdC], h0, hj⟩
 rw [hs] at hrow
 have e1 : (((m + 1 : Nat) : Int) - 1) = (m : Int) := by omega
 rw [e1]
 refine ao rfl ⟨s, hc8, ao ha ⟨by omega, by omega, _, _, _, _, _, by rw [show Int.toNat (m : Int) * 5 = m * 5 by omega]; exact hrow, ?_⟩⟩
 refine (hstep m hm w8 sd h8 hb hc hfoot).mono ?_
 rintro e w27 (⟨rfl, h27⟩ | ⟨rfl, h27⟩)
 ·exact ⟨true, rfl, aN (fun h => by cases h) (fun _ => ⟨af (by omega), ⟨m, rfl, by omega, h27⟩, by dsimp only; omega⟩)⟩
 ·exact ⟨false, rfl, aN (fun _ => ⟨rfl, .inr h27⟩) (fun h => by cases h)⟩
def latP : List Fd -> Int -> Option Fd
 | [], _ => none
 | x :: l, u => match latP l u with | some y => some y | none => if x.1 <= u then some x else none
theorem iU {l : List Fd} {u : Int} (h : ∀ x ∈ l, ¬ x.1 <= u) : latP l u = none := by
 induction l with
 | nil => rfl
 | cons x l ih => simp only [latP]; rw [ih (fun y hy => h y (by simp [hy]))]; simp [h x (by simp)]
theorem oB {l : List Fd} {u : Int} {k : Nat} (hk : k < l.length) (h : l[k].1 <= u) (hno : ∀ j (hj : j < l.length), k < j -> ¬ l[j].1 <= u) : latP l u = some l[k] := by
 induction l generalizing k with
 | nil => simp at hk
 | cons x l ih =>
  simp only [latP]
  cases k with
  | zero =>
   rw [iU (fun y hy => by
    obtain ⟨j, hj, rfl⟩ := List.getElem_of_mem hy
    exact hno (j + 1) (by simpa using hj) (by omega))]
   have hx : x.1 <= u := h
   simp [hx]
  | succ k =>
   rw [ih (k := k) (by simpa using hk) h (fun j hj hlt => hno (j + 1) (by simpa using hj) (by omega))]
   rfl
def qt (w : World) (o : Option Fd) (x : Ending) (w' : World) : Prop :=
 av w w' /\ match o with
  | none => x = .returned (.tuple ⟨[.agg ⟨fd0⟩, .bool false]⟩)
  | some f => ∃ s : Slc, x = .returned (.tuple ⟨[.agg ⟨fdC f s⟩, .bool true]⟩) /\ ar w' s f.2.2.2.2 /\ s.l <= s.c
end Go.D
namespace Go.D
open Go Go.Proofs
def dg (x : Fd) : Int := x.1 * 65 + x.2.1
def m6 (x : Fd) : Prop := (0 <= x.1 /\ x.1 <= 4096) /\ 1 <= x.2.1 /\ x.2.1 <= 64
def qu (w0 : World) (s : Slc) (j : Nat) : Prop := ∃ (a : Addr) (i : Nat) (sd : Slc), i < s.l /\ s.p = some a /\ w0.cell? ((a.add (i * 5)).add 4) = some sd.v /\ 0 < sd.l /\ aC sd j
theorem fS {w : World} {s : Slc} {L : List Fd} {css : List (List Value)} (hR : Rows FdR w s L css) {m : Nat} (hm : m < L.length) : ∃ (hmc : m < css.length) (a : Addr) (sd : Slc), s.p = some a /\ css[m] = fdC L[m] sd /\ rowAt w (a.add (m * 5)) 0 (fdC L[m] sd) := by
 have hmc : m < css.length := by rw [hR.len]; exact hm
 obtain ⟨a, ha, _, hrow⟩ := hR.get hmc
 obtain ⟨sd, hcs, _⟩ := hR.row m hmc hm
 rw [hcs] at hrow
 exact ⟨hmc, a, sd, ha, hcs, hrow⟩
theorem oC {w : World} {s : Slc} {L : List Fd} {css : List (List Value)} (hR : Rows FdR w s L css) {j : Nat} : cY css j ↔ qu w s j := by
 constructor
 ·rintro ⟨cs, hc, hj⟩
  obtain ⟨i, hi, rfl⟩ := List.getElem_of_mem hc
  have hiL : i < L.length := by rw [<- hR.len]; exact hi
  obtain ⟨hmc, a, sd, ha, hcs, hrow⟩ := fS hR hiL
  rw [hcs] at hj
  obtain ⟨h0, h1⟩ := gL hj
  have := dE hrow 4 (by simp [fdC])
  rw [Nat.zero_add] at this
  exact ⟨a, i, sd, by rw [hR.sl]; exact hiL, ha, this, h0, h1⟩
 ·rintro ⟨a, i, sd, hi, ha, hc, h0, h1⟩
  have hiL : i < L.length := by rw [<- hR.sl]; exact hi
  obtain ⟨hmc, a', sd', ha', hcs, hrow⟩ := fS hR hiL
  rw [ha] at ha'; cases ha'
  have := dE hrow 4 (by simp [fdC])
  rw [Nat.zero_add, hc] at this
  have e : sd.v = sd'.v := Option.some.inj this
  have : sd = sd' := by
   obtain ⟨p, l, c⟩ := sd
   obtain ⟨p', l', c'⟩ := sd'
   simp [Slc.v] at e
   obtain ⟨rfl, rfl, rfl⟩ := e
   rfl
  subst this
  exact ⟨css[i], List.getElem_mem hmc, sd, by rw [hcs]; simp [fdC], h0, h1⟩
structure StF (w0 : World) (s : Slc) (L : List Fd) (w : World) : Prop where
 rows : ∃ css, Rows FdR w s L css /\ ∀ j, cY css j -> j < w0.heap.size /\ qu w0 s j
 own : ∀ j, aC s j -> j < w0.heap.size
 ext : Ext (aC s) w0 w
 ok : ∀ x ∈ L, m6 x
theorem StF.sl {w0 w : World} {s : Slc} {L : List Fd} (h : StF w0 s L w) : s.l = L.length := by obtain ⟨css, hc, _⟩ := h.rows; exact hc.sl
theorem StF.ah {w0 w w' : World} {s : Slc} {L : List Fd} (h : StF w0 s L w) (k : av w w') : StF w0 s L w' := by
 obtain ⟨css, hc, hf⟩ := h.rows
 exact ⟨⟨css, hc.ah k, hf⟩, h.own, h.ext.trans k (fun _ h => h) (fun _ h => h.elim), h.ok⟩
theorem StF.other {w0 w w' : World} {s : Slc} {L : List Fd} (h : StF w0 s L w) (k : Ext (fun j => w0.heap.size <= j) w w') : StF w0 s L w' := by
 obtain ⟨css, hc, hf⟩ := h.rows
 exact ⟨⟨css, hc.ext k (fun j hj hh => by have := h.own j hj; omega) (fun j hj hh => by have := (hf j hj).1; omega), hf⟩, h.own, h.ext.trans k (fun _ h => h) (fun _ h => .inr h), h.ok⟩
theorem StF.size {w0 w : World} {s : Slc} {L : List Fd} (h : StF w0 s L w) : w0.heap.size <= w.heap.size := h.ext.size
theorem StF.start {w : World} {s : Slc} {L : List Fd} {css : List (List Value)} (h : Rows FdR w s L css) (hok : ∀ x ∈ L, m6 x) : StF w s L w := ⟨⟨css, h, fun j hj => ⟨h.flt j hj, (oC h).1 hj⟩⟩, h.lt, Ext.refl _ _, hok⟩
theorem StF.drew {w0 w : World} {s : Slc} {L : List Fd} (h : StF w0 s L w) : StF w0 s L w.drew := h.ah (Ext.drew _ _)
theorem dG (x y : Fd) (s1 s2 : Slc) (w : World) (hx : m6 x) (hy : m6 y) :
  Calls Tryd.prog ak ⟨[.agg ⟨fdC x s1⟩, .agg ⟨fdC y s2⟩]⟩ w fun e w' => ∃ n : Int, e = .returned (.int .i64 n) /\ (n < 0 ↔ dg x < dg y) /\ av w w' := by
 refine jj _ _ _ _ _ _ _ _ _ _ ?_
 unfold iw
 refine ai (fun r11 w12 hr1 hb1 k1 hs1 => ai (fun r13 w14 hr2 hb2 k2 hs2 => ?_))
 have o1 : ab w14 r11 (fdC x s1) := ab.ah (c := fdC x s1) (ab.bS hb1) k2
 have o2 : ab w14 r13 (fdC y s2) := ab.bS hb2
 obtain ⟨⟨a1, a2⟩, a3, a4⟩ := hx
 obtain ⟨⟨b1, b2⟩, b3, b4⟩ := hy
 unfold dg
 refine ⟨x.1, o1.cell 0 (by simp [fdC]), y.1, o2.cell 0 (by simp [fdC]), aR (fun hne => ?_) (fun he => ?_)⟩
 ·exact ⟨x.1, o1.cell 0 (by simp [fdC]), y.1, o2.cell 0 (by simp [fdC]), af (by omega), _, rfl, by omega, k1.trans k2⟩
 ·exact ⟨x.2.1, o1.cell 1 (by simp [fdC]), y.2.1, o2.cell 1 (by simp [fdC]), af (by omega), _, rfl, by omega, k1.trans k2⟩
def swapF (L : List Fd) (i j : Nat) : List Fd := match L[i]?, L[j]? with | some x, some y => (L.set i y).set j x | _, _ => L
theorem iG {L : List Fd} {i j : Nat} (hi : i < L.length) (hj : j < L.length) : swapF L i j = (L.set i L[j]).set j L[i] := by
 unfold swapF
 rw [List.getElem?_eq_getElem hi, List.getElem?_eq_getElem hj]
theorem kY (L : List Fd) (i j : Nat) : (swapF L i j).length = L.length := by
 unfold swapF; split <;> simp
theorem ph {L : List Fd} {i j : Nat} (hi : i < L.length) (hj : j < L.length) (k : Nat) : (swapF L i j)[k]? = if k = j then L[i]? else if k = i then L[j]? else L[k]? := by
 rw [iG hi hj, List.getElem?_set, List.getElem?_set, List.length_set]
 by_cases h1 : k = j
 ·subst h1
  rw [if_pos rfl, if_pos rfl, if_pos hj, List.getElem?_eq_getElem hi]
 ·rw [if_neg (fun h => h1 h.symm), if_neg h1]
  by_cases h2 : k = i
  ·subst h2; rw [if_pos rfl, if_pos rfl, if_pos hi, List.getElem?_eq_getElem hj]
  ·rw [if_neg (fun h => h2 h.symm), if_neg h2]
theorem hM {L : List Fd} {i j : Nat} (hi : i < L.length) (hj : j < L.length) : (swapF L i j).Perm L := by
 rw [iG hi hj]
 by_cases hij : i = j
 ·subst hij; simp
 ·rw [List.perm_iff_count]
  intro x
  rw [List.count_set (by simpa using hj), List.count_set hi, List.getElem_set_ne hij]
  have c1 : 0 < List.count L[i] L := List.count_pos_iff.2 (List.getElem_mem hi)
  have c2 : 0 < List.count L[j] L := List.count_pos_iff.2 (List.getElem_mem hj)
  by_cases h1 : L[i] = x <;> by_cases h2 : L[j] = x
  ·subst h1; simp [h2]
  ·subst h1; simp [h2]
  ·subst h2; simp [h1]
  ·simp [h1, h2]
theorem get_at {w0 w : World} {s : Slc} {L : List Fd} (h : StF w0 s L w) {i : Int} {m : Nat} (hi : i = (m : Int)) (hm : m < L.length) {K : Int -> Int -> Int -> Int -> Slc -> Prop}
  (hK : ∀ sd, K L[m].1 L[m].2.1 L[m].2.2.1 L[m].2.2.2.1 sd) :
  needSome s.p fun a => 0 <= i /\ i < ((s.l : Nat) : Int) /\ ∃ n1 : Int, ∃ n2 : Int, ∃ n3 : Int, ∃ n4 : Int, ∃ sd : Slc, rowAt w.drew (a.add (Int.toNat i * 5)) 0 [.int .i64 n1, .int .i64 n2, .int .i64 n3, .int .i64 n4, sd.v] /\ K n1 n2 n3 n4 sd := by
 obtain ⟨css, hR, _⟩ := h.drew.rows
 have hsl := h.sl
 have hmc : m < css.length := by rw [hR.len]; exact hm
 obtain ⟨a, ha, _, hrow⟩ := hR.get hmc
 obtain ⟨sd, hcs, _⟩ := hR.row m hmc hm
 rw [hcs] at hrow
 refine ao ha ⟨by omega, by omega, _, _, _, _, sd, ?_, hK sd⟩
 rw [hi, Int.toNat_natCast]
 exact hrow
theorem qW {w0 w : World} {s : Slc} {L : List Fd} (h : StF w0 s L w) {i j : Int} {mi mj : Nat} (hi : i = (mi : Int)) (hj : j = (mj : Int)) (hmi : mi < L.length) (hmj : mj < L.length) {Q : Prop} (hQ : Q) {K : World -> Prop}
  (hK : ∀ w', StF w0 s (swapF L mi mj) w' -> Ext (aC s) w w' -> K w') :
  needSome s.p fun a => 0 <= j /\ j < ((s.l : Nat) : Int) /\ ∃ n1 : Int, ∃ n2 : Int, ∃ n3 : Int, ∃ n4 : Int, ∃ sd : Slc, rowAt w.drew (a.add (Int.toNat j * 5)) 0 [.int .i64 n1, .int .i64 n2, .int .i64 n3, .int .i64 n4, sd.v] /\ Q /\
  needSome s.p fun a' => 0 <= i /\ i < ((s.l : Nat) : Int) /\ ∃ m1 : Int, ∃ m2 : Int, ∃ m3 : Int, ∃ m4 : Int, ∃ se : Slc, rowAt w.drew (a'.add (Int.toNat i * 5)) 0 [.int .i64 m1, .int .i64 m2, .int .i64 m3, .int .i64 m4, se.v] /\
  needSome s.p fun b => 0 <= i /\ i < ((s.l : Nat) : Int) /\ aw w.drew (b.add (Int.toNat i * 5)) 5 /\ ∀ w1 : World, w1 = setCells w.drew (b.add (Int.toNat i * 5)) 0 [.int .i64 n1, .int .i64 n2, .int .i64 n3, .int .i64 n4, sd.v] ->
  needSome s.p fun b' => 0 <= j /\ j < ((s.l : Nat) : Int) /\ aw w1 (b'.add (Int.toNat j * 5)) 5 /\ ∀ w2 : World, w2 = setCells w1 (b'.add (Int.toNat j * 5)) 0 [.int .i64 m1, .int .i64 m2, .int .i64 m3, .int .i64 m4, se.v] -> K w2 := by
 have hd := h.drew
 obtain ⟨css, hR, hF⟩ := hd.rows
 have hsl := h.sl
 subst hi; subst hj
 have add0 : ∀ a : Addr, a.add 0 = a := fun a => by simp [Addr.add]
 obtain ⟨hjc, a, sd, ha, hcj, hrj⟩ := fS hR hmj
 obtain ⟨hic, a2, se, ha2, hci, hri⟩ := fS hR hmi
 rw [ha] at ha2; cases ha2
 rw [Int.toNat_natCast, Int.toNat_natCast]
 obtain ⟨sd', hcj', hbj, hsj⟩ := hR.row mj hjc hmj
 obtain ⟨se', hci', hbi, hsi⟩ := hR.row mi hic hmi
 have esd : fdC L[mj] sd = fdC L[mj] sd' := by rw [<- hcj, <- hcj']
 have ese : fdC L[mi] se = fdC L[mi] se' := by rw [<- hci, <- hci']
 have inj : ∀ {x : Fd} {a b : Slc}, fdC x a = fdC x b -> a = b := by
  rintro x ⟨p, l, c⟩ ⟨p', l', c'⟩ hh
  simp [fdC, Slc.v] at hh
  obtain ⟨rfl, rfl, rfl⟩ := hh
  rfl
 have := inj esd
 subst this
 have := inj ese
 subst this
 have sepj : ∀ k, dT (fdC L[mj] sd) k -> ¬ aC s k := fun k hk => hR.sep k ⟨css[mj], List.getElem_mem hjc, by rw [hcj]; exact hk⟩
 have sepi : ∀ k, dT (fdC L[mi] se) k -> ¬ aC s k := fun k hk => hR.sep k ⟨css[mi], List.getElem_mem hic, by rw [hci]; exact hk⟩
 refine ao ha ⟨by omega, by omega, _, _, _, _, sd, hrj, hQ, ao ha ⟨by omega, by omega, _, _, _, _, se, hri, ao ha ⟨by omega, by omega, ?_⟩⟩⟩
 have len5 : ∀ (x : Fd) (c : Slc) (l : List Value), l.length = 5 -> l.take 0 ++ fdC x c ++ l.drop (0 + (fdC x c).length) = fdC x c := fun x c l hl => by
  rw [List.take_zero, List.nil_append, List.drop_of_length_le (by rw [hl]; simp [fdC]), List.append_nil]
 have hli : css[mi].length = 5 := by rw [hci]; rfl
 obtain ⟨c1, c2⟩ := hR.set hic 0 (fdC L[mj] sd) (by simp [fdC, FdR]) L[mj] ha
  (fun w' he => by rw [len5 _ _ _ hli]; exact FdR.ext (w := w.drew) ⟨sd, rfl, hbj, hsj⟩ he (fun k hk => sepj k hk)) (fun k hk => by rw [len5 _ _ _ hli] at hk; exact sepj k hk)
 have e5 : FdR.n = 5 := rfl
 rw [add0, e5] at c1
 refine ⟨c1, fun w1 hw1 => ao ha ⟨by omega, by omega, ?_⟩⟩
 obtain ⟨hR1, x1, z1⟩ := c2 w1 (by rw [add0, e5]; exact hw1)
 rw [len5 _ _ _ hli] at hR1
 have hjc1 : mj < (css.set mi (fdC L[mj] sd)).length := by simpa using hjc
 have hlj : (css.set mi (fdC L[mj] sd))[mj].length = 5 := by
  rw [List.getElem_set]; split
  ·rfl
  ·rw [hcj]; rfl
 have hbi1 : FdR.R w1 L[mi] (fdC L[mi] se) := FdR.ext (w := w.drew) ⟨se, rfl, hbi, hsi⟩ x1 (fun k hk => sepi k hk)
 obtain ⟨c3, c4⟩ := hR1.set hjc1 0 (fdC L[mi] se) (by simp [fdC, FdR]) L[mi] ha
  (fun w' he => by rw [len5 _ _ _ hlj]; exact FdR.ext hbi1 he (fun k hk => sepi k hk)) (fun k hk => by rw [len5 _ _ _ hlj] at hk; exact sepi k hk)
 rw [add0, e5] at c3
 refine ⟨c3, fun w2 hw2 => hK w2 ?_ ((Ext.trans (Ext.drew (aC s) w) x1 (fun _ h => h) (fun _ h => .inl h)).trans (c4 w2 (by rw [add0, e5]; exact hw2)).2.1 (fun _ h => h) (fun _ h => .inl h))⟩
 obtain ⟨hR2, x2, z2⟩ := c4 w2 (by rw [add0, e5]; exact hw2)
 rw [len5 _ _ _ hlj] at hR2
 refine ⟨⟨_, by rw [iG hmi hmj]; exact hR2, ?_⟩, h.own, (hd.ext.trans x1 (fun _ h => h) (fun _ h => .inl h)).trans x2 (fun _ h => h) (fun _ h => .inl h), fun x hx => h.ok x ((hM hmi hmj).mem_iff.1 hx)⟩
 rintro k ⟨cs, hc, hk⟩
 rcases List.mem_or_eq_of_mem_set hc with h1 | rfl
 ·rcases List.mem_or_eq_of_mem_set h1 with h2 | rfl
  ·exact hF k ⟨cs, h2, hk⟩
  ·exact hF k ⟨css[mj], List.getElem_mem hjc, by rw [hcj]; exact hk⟩
 ·exact hF k ⟨css[mi], List.getElem_mem hic, by rw [hci]; exact hk⟩
theorem cC {w0 w : World} {s : Slc} {L : List Fd} (h : StF w0 s L w) {i j : Int} {mi mj : Nat} (hi : i = (mi : Int)) (hj : j = (mj : Int)) (hmi : mi < L.length) (hmj : mj < L.length) {K : World -> Prop}
  (hK : ∀ w', StF w0 s (swapF L mi mj) w' -> Ext (aC s) w w' -> K w') :
  needSome s.p fun a => 0 <= j /\ j < ((s.l : Nat) : Int) /\ ∃ n1 : Int, ∃ n2 : Int, ∃ n3 : Int, ∃ n4 : Int, ∃ sd : Slc, rowAt w.drew (a.add (Int.toNat j * 5)) 0 [.int .i64 n1, .int .i64 n2, .int .i64 n3, .int .i64 n4, sd.v] /\
  needSome s.p fun a' => 0 <= i /\ i < ((s.l : Nat) : Int) /\ ∃ m1 : Int, ∃ m2 : Int, ∃ m3 : Int, ∃ m4 : Int, ∃ se : Slc, rowAt w.drew (a'.add (Int.toNat i * 5)) 0 [.int .i64 m1, .int .i64 m2, .int .i64 m3, .int .i64 m4, se.v] /\
  needSome s.p fun b => 0 <= i /\ i < ((s.l : Nat) : Int) /\ aw w.drew (b.add (Int.toNat i * 5)) 5 /\ ∀ w1 : World, w1 = setCells w.drew (b.add (Int.toNat i * 5)) 0 [.int .i64 n1, .int .i64 n2, .int .i64 n3, .int .i64 n4, sd.v] ->
  needSome s.p fun b' => 0 <= j /\ j < ((s.l : Nat) : Int) /\ aw w1 (b'.add (Int.toNat j * 5)) 5 /\ ∀ w2 : World, w2 = setCells w1 (b'.add (Int.toNat j * 5)) 0 [.int .i64 m1, .int .i64 m2, .int .i64 m3, .int .i64 m4, se.v] -> K w2 := by
 have hd := h.drew
 obtain ⟨css, hR, hF⟩ := hd.rows
 have hsl := h.sl
 subst hi; subst hj
 have add0 : ∀ a : Addr, a.add 0 = a := fun a => by simp [Addr.add]
 obtain ⟨hjc, a, sd, ha, hcj, hrj⟩ := fS hR hmj
 obtain ⟨hic, a2, se, ha2, hci, hri⟩ := fS hR hmi
 rw [ha] at ha2; cases ha2
 rw [Int.toNat_natCast, Int.toNat_natCast]
 obtain ⟨sd', hcj', hbj, hsj⟩ := hR.row mj hjc hmj
 obtain ⟨se', hci', hbi, hsi⟩ := hR.row mi hic hmi
 have esd : fdC L[mj] sd = fdC L[mj] sd' := by rw [<- hcj, <- hcj']
 have ese : fdC L[mi] se = fdC L[mi] se' := by rw [<- hci, <- hci']
 have inj : ∀ {x : Fd} {a b : Slc}, fdC x a = fdC x b -> a = b := by
  rintro x ⟨p, l, c⟩ ⟨p', l', c'⟩ hh
  simp [fdC, Slc.v] at hh
  obtain ⟨rfl, rfl, rfl⟩ := hh
  rfl
 have := inj esd
 subst this
 have := inj ese
 subst this
 have sepj : ∀ k, dT (fdC L[mj] sd) k -> ¬ aC s k := fun k hk => hR.sep k ⟨css[mj], List.getElem_mem hjc, by rw [hcj]; exact hk⟩
 have sepi : ∀ k, dT (fdC L[mi] se) k -> ¬ aC s k := fun k hk => hR.sep k ⟨css[mi], List.getElem_mem hic, by rw [hci]; exact hk⟩
 refine ao ha ⟨by omega, by omega, _, _, _, _, sd, hrj, ao ha ⟨by omega, by omega, _, _, _, _, se, hri, ao ha ⟨by omega, by omega, ?_⟩⟩⟩
 have len5 : ∀ (x : Fd) (c : Slc) (l : List Value), l.length = 5 -> l.take 0 ++ fdC x c ++ l.drop (0 + (fdC x c).length) = fdC x c := fun x c l hl => by
  rw [List.take_zero, List.nil_append, List.drop_of_length_le (by rw [hl]; simp [fdC]), List.append_nil]
 have hli : css[mi].length = 5 := by rw [hci]; rfl
 obtain ⟨c1, c2⟩ := hR.set hic 0 (fdC L[mj] sd) (by simp [fdC, FdR]) L[mj] ha
  (fun w' he => by rw [len5 _ _ _ hli]; exact FdR.ext (w := w.drew) ⟨sd, rfl, hbj, hsj⟩ he (fun k hk => sepj k hk)) (fun k hk => by rw [len5 _ _ _ hli] at hk; exact sepj k hk)
 have e5 : FdR.n = 5 := rfl
 rw [add0, e5] at c1
 refine ⟨c1, fun w1 hw1 => ao ha ⟨by omega, by omega, ?_⟩⟩
 obtain ⟨hR1, x1, z1⟩ := c2 w1 (by rw [add0, e5]; exact hw1)
 rw [len5 _ _ _ hli] at hR1
 have hjc1 : mj < (css.set mi (fdC L[mj] sd)).length := by simpa using hjc
 have hlj : (css.set mi (fdC L[mj] sd))[mj].length = 5 := by
  rw [List.getElem_set]; split
  ·rfl
  ·rw [hcj]; rfl
 have hbi1 : FdR.R w1 L[mi] (fdC L[mi] se) := FdR.ext (w := w.drew) ⟨se, rfl, hbi, hsi⟩ x1 (fun k hk => sepi k hk)
 obtain ⟨c3, c4⟩ := hR1.set hjc1 0 (fdC L[mi] se) (by simp [fdC, FdR]) L[mi] ha
  (fun w' he => by rw [len5 _ _ _ hlj]; exact FdR.ext hbi1 he (fun k hk => sepi k hk)) (fun k hk => by rw [len5 _ _ _ hlj] at hk; exact sepi k hk)
 rw [add0, e5] at c3
 refine ⟨c3, fun w2 hw2 => hK w2 ?_ ((Ext.trans (Ext.drew (aC s) w) x1 (fun _ h => h) (fun _ h => .inl h)).trans (c4 w2 (by rw [add0, e5]; exact hw2)).2.1 (fun _ h => h) (fun _ h => .inl h))⟩
 obtain ⟨hR2, x2, z2⟩ := c4 w2 (by rw [add0, e5]; exact hw2)
 rw [len5 _ _ _ hlj] at hR2
 refine ⟨⟨_, by rw [iG hmi hmj]; exact hR2, ?_⟩, h.own, (hd.ext.trans x1 (fun _ h => h) (fun _ h => .inl h)).trans x2 (fun _ h => h) (fun _ h => .inl h), fun x hx => h.ok x ((hM hmi hmj).mem_iff.1 hx)⟩
 rintro k ⟨cs, hc, hk⟩
 rcases List.mem_or_eq_of_mem_set hc with h1 | rfl
 ·rcases List.mem_or_eq_of_mem_set h1 with h2 | rfl
  ·exact hF k ⟨cs, h2, hk⟩
  ·exact hF k ⟨css[mj], List.getElem_mem hjc, by rw [hcj]; exact hk⟩
 ·exact hF k ⟨css[mi], List.getElem_mem hic, by rw [hci]; exact hk⟩
end Go.D
namespace Go.D
open Go Go.Proofs
def kf (L : List Fd) (i : Nat) : Int := dg (L.getD i (0, 0, 0, 0, []))
theorem eo {L : List Fd} {i : Nat} (h : i < L.length) : kf L i = dg L[i] := by
 unfold kf; rw [List.getD_eq_getElem?_getD, List.getElem?_eq_getElem h]; rfl
theorem cJ {L : List Fd} {i j : Nat} (hi : i < L.length) (hj : j < L.length) (k : Nat) : kf (swapF L i j) k = if k = j then kf L i else if k = i then kf L j else kf L k := by
 unfold kf
 rw [List.getD_eq_getElem?_getD, ph hi hj, List.getD_eq_getElem?_getD, List.getD_eq_getElem?_getD, List.getD_eq_getElem?_getD]
 split
 ·rfl
 ·split <;> rfl
structure Loc (a b : Nat) (L L' : List Fd) : Prop where
 perm : L'.Perm L
 out : ∀ i, i < a \/ b <= i -> kf L' i = kf L i
 inn : ∀ P : Int -> Prop, (∀ i, a <= i -> i < b -> P (kf L i)) -> ∀ i, a <= i -> i < b -> P (kf L' i)
theorem Loc.refl (a b : Nat) (L : List Fd) : Loc a b L L := ⟨List.Perm.refl _, fun _ _ => rfl, fun _ h => h⟩
theorem Loc.trans {a b : Nat} {L L1 L2 : List Fd} (h : Loc a b L L1) (g : Loc a b L1 L2) : Loc a b L L2 :=
 ⟨g.perm.trans h.perm, fun i hi => (g.out i hi).trans (h.out i hi), fun P hP => g.inn P (h.inn P hP)⟩
theorem Loc.len {a b : Nat} {L L' : List Fd} (h : Loc a b L L') : L'.length = L.length := h.perm.length_eq
theorem Loc.mono {a b a' b' : Nat} {L L' : List Fd} (h : Loc a b L L') (h1 : a' <= a) (h2 : b <= b') : Loc a' b' L L' := by
 refine ⟨h.perm, fun i hi => h.out i (by omega), fun P hP i hi1 hi2 => ?_⟩
 by_cases hc : a <= i /\ i < b
 ·exact h.inn P (fun k hk1 hk2 => hP k (by omega) (by omega)) i hc.1 hc.2
 ·rw [h.out i (by omega)]; exact hP i hi1 hi2
theorem Loc.swap {a b i j : Nat} {L : List Fd} (hi : a <= i /\ i < b) (hj : a <= j /\ j < b) (hb : b <= L.length) : Loc a b L (swapF L i j) := by
 have hil : i < L.length := by omega
 have hjl : j < L.length := by omega
 refine ⟨hM hil hjl, fun k hk => ?_, fun P hP k hk1 hk2 => ?_⟩
 ·rw [cJ hil hjl, if_neg (by omega), if_neg (by omega)]
 ·rw [cJ hil hjl]
  split
  ·exact hP i hi.1 hi.2
  ·split
   ·exact hP j hj.1 hj.2
   ·exact hP k hk1 hk2
def aE (a b : Nat) (L : List Fd) : Prop := ∀ i j, a <= i -> i < j -> j < b -> kf L i <= kf L j
def kc (a n m : Nat) (L : List Fd) : Prop := (∀ x y, a <= x -> x < y -> y <= n -> x ≠ m -> y ≠ m -> kf L x <= kf L y) /\ ∀ y, m < y -> y <= n -> kf L m <= kf L y
theorem m7 {a n : Nat} {L : List Fd} (h : aE a n L) : kc a n n L :=
 ⟨fun x y h1 h2 h3 h4 h5 => h x y h1 h2 (by omega), fun y h1 h2 => by omega⟩
theorem gM {a n m : Nat} {L : List Fd} (h : kc a n m L) (hm : m <= n) (hd : m = a \/ (a < m /\ ¬ kf L m < kf L (m - 1))) : aE a (n + 1) L := by
 intro x y h1 h2 h3
 by_cases hx : x = m
 ·subst hx; exact h.2 y h2 (by omega)
 by_cases hy : y = m
 ·subst hy
  rcases hd with rfl | ⟨h4, h5⟩
  ·omega
  ·by_cases hz : x = y - 1
   ·subst hz; omega
   ·have := h.1 x (y - 1) h1 (by omega) (by omega) hx (by omega)
    omega
 exact h.1 x y h1 h2 (by omega) hx hy
theorem ke {a n m : Nat} {L : List Fd} (h : kc a n m L) (ha : a < m) (hm : m <= n) (hl : m < L.length) (hlt : kf L m < kf L (m - 1)) : kc a n (m - 1) (swapF L m (m - 1)) := by
 have hl2 : m - 1 < L.length := by omega
 refine ⟨fun x y h1 h2 h3 h4 h5 => ?_, fun y h1 h2 => ?_⟩
 ·rw [cJ hl hl2, cJ hl hl2, if_neg h4, if_neg h5]
  by_cases hx : x = m
  ·subst hx
   rw [if_pos rfl, if_neg (by omega)]
   exact h.1 (x - 1) y (by omega) (by omega) h3 (by omega) (by omega)
  ·rw [if_neg hx]
   by_cases hy : y = m
   ·subst hy; rw [if_pos rfl]; exact h.1 x (y - 1) h1 (by omega) (by omega) hx (by omega)
   ·rw [if_neg hy]; exact h.1 x y h1 h2 h3 hx hy
 ·rw [cJ hl hl2, cJ hl hl2, if_pos rfl, if_neg (by omega)]
  by_cases hy : y = m
  ·subst hy; rw [if_pos rfl]; omega
  ·rw [if_neg hy]; exact h.2 y (by omega) h2
theorem jo (s : Slc) (L : List Fd) (a b : Nat) (w0 w : World) (hS : StF w0 s L w) (hab : a <= b) (hb : b <= L.length) (hL : L.length <= 2 ^ 20) :
  Calls Tryd.prog aS ⟨[s.v, .int .i64 (a : Int), .int .i64 (b : Int), .func (.func ak) ⟨[]⟩ ⟨[]⟩]⟩ w fun e w' => e = .returned (.tuple #[]) /\ ∃ L', StF w0 s L' w' /\ Loc a b L L' /\ aE a b L' := by
 refine bK _ _ _ ?_
 unfold aW
 refine ⟨af (by omega), fun i w7 => ∃ (n : Nat) (L1 : List Fd), i = (n : Int) /\ a + 1 <= n /\ (n <= b \/ n = a + 1) /\ StF w0 s L1 w7 /\ Loc a b L L1 /\ aE a n L1, fun i _ => b - i.toNat,
  ⟨a + 1, L, by omega, by omega, .inr rfl, hS, Loc.refl _ _ _, fun i j h1 h2 h3 => by omega⟩, ?_⟩
 rintro i w7 ⟨n, L1, rfl, hn1, hn2, hS1, hloc, hsort⟩
 intros
 refine aa (fun hlt => ?_) (fun hge => ?_)
 rotate_left
 ·exact ⟨rfl, L1, hS1, hloc, fun i j h1 h2 h3 => hsort i j h1 h2 (by omega)⟩
 have hnb : n < b := by omega
 have hl1 := hloc.len
 refine ⟨fun j w53 => ∃ (m : Nat) (L2 : List Fd), j = (m : Int) /\ a <= m /\ m <= n /\ StF w0 s L2 w53 /\ Loc a b L L2 /\ kc a n m L2, fun j _ => j.toNat, ⟨n, L1, rfl, by omega, by omega, hS1, hloc, m7 hsort⟩, ?_⟩
 rintro j w53 ⟨m, L2, rfl, hm1, hm2, hS2, hloc2, hnear⟩
 intros
 have hl2 := hloc2.len
 have hsl2 := hS2.sl
 refine ⟨fun w' => StF w0 s L2 w' /\ a < m /\ kf L2 m < kf L2 (m - 1), ?_, ?_⟩
 ·refine aa (fun h1 => ?_) (fun h1 => ?_)
  ·refine get_at hS2 (m := m) rfl (by omega) (fun sd => ⟨af (by omega), get_at hS2 (m := m - 1) (by omega) (by omega) (fun se => ?_)⟩)
   refine (dG L2[m] L2[m - 1] sd se _ (hS2.ok _ (List.getElem_mem _)) (hS2.ok _ (List.getElem_mem _))).mono ?_
   rintro e w103 ⟨c, rfl, hc, k103⟩
   have hS3 := hS2.drew.ah k103
   rw [<- eo, <- eo] at hc
   refine ⟨c, rfl, aa (fun h2 => ⟨hS3, by omega, hc.1 h2⟩) (fun h2 => ⟨af (by omega), ⟨n + 1, L2, by omega, by omega, .inl (by omega), hS3, hloc2, gM hnear hm2 (.inr ⟨by omega, fun h => h2 (hc.2 h)⟩)⟩, by dsimp only; omega⟩)⟩
  ·exact ⟨af (by omega), ⟨n + 1, L2, by omega, by omega, .inl (by omega), hS2.drew, hloc2, gM hnear hm2 (.inl (by omega))⟩, by dsimp only; omega⟩
 ·rintro w105 ⟨hS3, ha, hlt2⟩
  intros
  refine ⟨af (by omega), af (by omega), ?_⟩
  refine cC hS3 (mi := m) (mj := m - 1) rfl (by omega) (by omega) (by omega) (fun w' hS4 _ => ?_)
  exact ⟨af (by omega), ⟨m - 1, _, by omega, by omega, by omega, hS4, hloc2.trans (Loc.swap ⟨by omega, by omega⟩ ⟨by omega, by omega⟩ (by omega)), ke hnear ha hm2 (by omega) hlt2⟩, by dsimp only; omega⟩
end Go.D
namespace Go.D
open Go Go.Proofs
def kg (f lo hi : Nat) (L : List Fd) : Prop := ∀ k c, lo <= k -> c < hi -> (c = 2 * k + 1 \/ c = 2 * k + 2) -> kf L (f + c) <= kf L (f + k)
def m8 (f lo hi r : Nat) (L : List Fd) : Prop :=
 (∀ k c, lo <= k -> k ≠ r -> c < hi -> (c = 2 * k + 1 \/ c = 2 * k + 2) -> kf L (f + c) <= kf L (f + k)) /\
 ∀ p c, lo <= p -> (r = 2 * p + 1 \/ r = 2 * p + 2) -> c < hi -> (c = 2 * r + 1 \/ c = 2 * r + 2) -> kf L (f + c) <= kf L (f + p)
theorem m9 {f lo hi : Nat} {L : List Fd} (h : kg f (lo + 1) hi L) : m8 f lo hi lo L :=
 ⟨fun k c h1 h2 h3 h4 => h k c (by omega) h3 h4, fun p c h1 h2 h3 h4 => by omega⟩
theorem kZ {f lo hi r : Nat} {L : List Fd} (h : m8 f lo hi r L) (hr : ∀ c, c < hi -> (c = 2 * r + 1 \/ c = 2 * r + 2) -> kf L (f + c) <= kf L (f + r)) : kg f lo hi L := by
 intro k c h1 h2 h3
 by_cases hk : k = r
 ·subst hk; exact hr c h2 h3
 ·exact h.1 k c h1 hk h2 h3
theorem nP {f lo hi r ch : Nat} {L : List Fd} (h : m8 f lo hi r L) (hlo : lo <= r) (hc : ch < hi) (hch : ch = 2 * r + 1 \/ ch = 2 * r + 2) (hl : f + hi <= L.length) (hlt : kf L (f + r) < kf L (f + ch))
  (hmax : ∀ c, c < hi -> (c = 2 * r + 1 \/ c = 2 * r + 2) -> kf L (f + c) <= kf L (f + ch)) : m8 f lo hi ch (swapF L (f + r) (f + ch)) := by
 have hg : ∀ k, kf (swapF L (f + r) (f + ch)) (f + k) = if k = ch then kf L (f + r) else if k = r then kf L (f + ch) else kf L (f + k) := by
  intro k
  rw [cJ (by omega) (by omega)]
  by_cases h1 : k = ch
  ·subst h1; rw [if_pos rfl, if_pos rfl]
  ·rw [if_neg (by omega), if_neg h1]
   by_cases h2 : k = r
   ·subst h2; rw [if_pos rfl, if_pos rfl]
   ·rw [if_neg (by omega), if_neg h2]
 refine ⟨fun k c h1 h2 h3 h4 => ?_, fun p c h1 h2 h3 h4 => ?_⟩
 ·rw [hg, hg, if_neg h2]
  by_cases hk : k = r
  ·subst hk
   rw [if_pos rfl]
   by_cases hcc : c = ch
   ·subst hcc; rw [if_pos rfl]; omega
   ·rw [if_neg hcc, if_neg (by omega)]; exact hmax c h3 h4
  ·rw [if_neg hk, if_neg (by omega)]
   by_cases hcr : c = r
   ·subst hcr; rw [if_pos rfl]; exact h.2 k ch h1 h4 hc hch
   ·rw [if_neg hcr]; exact h.1 k c h1 hk h3 h4
 ·have hp : p = r := by omega
  subst hp
  rw [hg, hg, if_neg (by omega), if_neg (by omega), if_neg (by omega), if_pos rfl]
  exact h.1 ch c (by omega) (by omega) h3 h4
theorem qv {f hi : Nat} {L : List Fd} (h : kg f 0 hi L) : ∀ k, k < hi -> kf L (f + k) <= kf L (f + 0) := by
 intro k
 induction k using Nat.strongRecOn with
 | ind k ih =>
  intro hk
  rcases Nat.eq_zero_or_pos k with rfl | h0
  ·omega
  ·have h1 := h ((k - 1) / 2) k (by omega) hk (by omega)
   have h2 := ih ((k - 1) / 2) (by omega) (by omega)
   omega
theorem kh (s : Slc) (L : List Fd) (lo hi f : Nat) (w0 w : World) (hS : StF w0 s L w) (hl : f + hi <= L.length) (hL : L.length <= 2 ^ 20) (hlo : lo <= 2 ^ 20) (hH : kg f (lo + 1) hi L) :
  Calls Tryd.prog aM ⟨[s.v, .int .i64 (lo : Int), .int .i64 (hi : Int), .int .i64 (f : Int), .func (.func ak) ⟨[]⟩ ⟨[]⟩]⟩ w fun e w' => e = .returned (.tuple #[]) /\ ∃ L', StF w0 s L' w' /\ Loc (f + lo) (f + hi) L L' /\ kg f lo hi L' := by
 refine cq _ _ _ _ ?_
 unfold bm
 refine ⟨fun root w8 => ∃ (r : Nat) (L1 : List Fd), root = (r : Int) /\ lo <= r /\ (r < hi \/ r = lo) /\ StF w0 s L1 w8 /\ Loc (f + lo) (f + hi) L L1 /\ m8 f lo hi r L1, fun root _ => hi + lo + 1 - root.toNat,
  ⟨lo, L, rfl, Nat.le_refl _, .inr rfl, hS, Loc.refl _ _ _, m9 hH⟩, ?_⟩
 rintro root w8 ⟨r, L1, rfl, hr, hrh, hS1, hloc, hX⟩
 intros
 have hl1 := hloc.len
 refine ⟨af (by omega), af (by omega), aa (fun h1 => ⟨rfl, L1, hS1, hloc, kZ hX (fun c h2 h3 => by omega)⟩) (fun h1 => ?_)⟩
 refine ⟨fun child w96 => ∃ ch : Nat, child = (ch : Int) /\ (ch = 2 * r + 1 \/ ch = 2 * r + 2) /\ ch < hi /\ StF w0 s L1 w96 /\ ∀ c, c < hi -> (c = 2 * r + 1 \/ c = 2 * r + 2) -> kf L1 (f + c) <= kf L1 (f + ch), ?_, ?_⟩
 ·refine ⟨af (by omega), aa (fun h2 => ⟨af (by omega), ?_⟩) (fun h2 => ⟨2 * r + 1, by omega, .inl rfl, by omega, hS1.drew, fun c h3 h4 => by rcases h4 with rfl | rfl <;> omega⟩)⟩
  refine get_at hS1 (m := f + (2 * r + 1)) (by omega) (by omega) (fun sd => ⟨af (by omega), af (by omega), get_at hS1 (m := f + (2 * r + 2)) (by omega) (by omega) (fun se => ?_)⟩)
  refine (dG _ _ sd se _ (hS1.ok _ (List.getElem_mem _)) (hS1.ok _ (List.getElem_mem _))).mono ?_
  rintro e w93 ⟨n, rfl, hn, k93⟩
  rw [<- eo, <- eo] at hn
  have hS2 := hS1.drew.ah k93
  refine ⟨n, rfl, aa (fun h3 => ⟨af (by omega), 2 * r + 2, by omega, .inr rfl, by omega, hS2, fun c h4 h5 => ?_⟩) (fun h3 => ⟨2 * r + 1, by omega, .inl rfl, by omega, hS2, fun c h4 h5 => ?_⟩)⟩
  ·have := hn.1 h3
   rcases h5 with rfl | rfl <;> omega
  ·have : ¬ kf L1 (f + (2 * r + 1)) < kf L1 (f + (2 * r + 2)) := fun h => h3 (hn.2 h)
   rcases h5 with rfl | rfl <;> omega
 ·rintro child w96 ⟨ch, rfl, hch, hchi, hS2, hmax⟩
  intros
  refine ⟨af (by omega), get_at hS2 (m := f + r) (by omega) (by omega) (fun sd => ⟨af (by omega), get_at hS2 (m := f + ch) (by omega) (by omega) (fun se => ?_)⟩)⟩
  refine (dG _ _ sd se _ (hS2.ok _ (List.getElem_mem _)) (hS2.ok _ (List.getElem_mem _))).mono ?_
  rintro e w134 ⟨n, rfl, hn, k134⟩
  rw [<- eo, <- eo] at hn
  have hS3 := hS2.drew.ah k134
  refine ⟨n, rfl, aR (fun h3 => ⟨rfl, L1, hS3, hloc, kZ hX (fun c h4 h5 => ?_)⟩) (fun h3 => ⟨af (by omega), af (by omega), af (by omega), ?_⟩)⟩
  ·have h6 := hmax c h4 h5
   have : ¬ kf L1 (f + r) < kf L1 (f + ch) := fun h => h3 (hn.2 h)
   omega
  ·refine qW hS3 (mi := f + r) (mj := f + ch) (by omega) (by omega) (by omega) (by omega) (af (by omega)) (fun w' hS4 _ => ?_)
   exact ⟨⟨ch, _, rfl, by omega, .inl hchi, hS4, hloc.trans (Loc.swap ⟨by omega, by omega⟩ ⟨by omega, by omega⟩ (by omega)), nP hX hr hchi hch (by omega) (hn.1 h3) hmax⟩, by dsimp only; omega⟩
theorem nQ (s : Slc) (L : List Fd) (a b : Nat) (w0 w : World) (hS : StF w0 s L w) (hab : a < b) (hb : b <= L.length) (hL : L.length <= 2 ^ 20) :
  Calls Tryd.prog bo ⟨[s.v, .int .i64 (a : Int), .int .i64 (b : Int), .func (.func ak) ⟨[]⟩ ⟨[]⟩]⟩ w fun e w' => e = .returned (.tuple #[]) /\ ∃ L', StF w0 s L' w' /\ Loc a b L L' /\ aE a b L' := by
 refine cr _ _ _ ?_
 unfold bn
 obtain ⟨hi, hhi⟩ : ∃ hi, hi = b - a := ⟨_, rfl⟩
 have hbi : b = a + hi := by omega
 have ebi : (b : Int) - (a : Int) = (hi : Int) := by omega
 rw [ebi]
 refine ⟨af (by omega), af (by omega), by omega, by omega, af (by omega), fun i w7 => ∃ (m : Nat) (L1 : List Fd), i = (m : Int) - 1 /\ m <= (hi - 1) / 2 + 1 /\ StF w0 s L1 w7 /\ Loc a b L L1 /\ kg a m hi L1, fun i _ => (i + 1).toNat,
  ⟨(hi - 1) / 2 + 1, L, by omega, Nat.le_refl _, hS, Loc.refl _ _ _, fun k c h1 h2 h3 => by omega⟩, ?_⟩
 rintro i w7 ⟨m, L1, rfl, hm, hS1, hloc, hH⟩
 intros
 have hl1 := hloc.len
 refine aa (fun h1 => ?_) (fun h1 => ⟨af (by omega), ?_⟩)
 ·obtain ⟨m', rfl⟩ : ∃ m', m = m' + 1 := ⟨m - 1, by omega⟩
  have e1 : (((m' + 1 : Nat) : Int) - 1) = (m' : Int) := by omega
  rw [e1]
  refine (kh s L1 m' hi a w0 w7 hS1 (by omega) (by omega) (by omega) hH).mono ?_
  rintro e w19 ⟨rfl, L2, hS2, hloc2, hH2⟩
  exact ⟨rfl, af (by omega), ⟨m', L2, rfl, by omega, hS2, hloc.trans (hloc2.mono (by omega) (by omega)), hH2⟩, by dsimp only; omega⟩
 have hm0 : m = 0 := by omega
 subst hm0
 refine ⟨fun i w23 => ∃ (m : Nat) (L2 : List Fd), i = (m : Int) - 1 /\ m <= hi /\ StF w0 s L2 w23 /\ Loc a b L L2 /\ kg a 0 m L2 /\ (∀ x y, m <= x -> x < y -> y < hi -> kf L2 (a + x) <= kf L2 (a + y)) /\ (∀ x y, x < m -> m <= y -> y < hi -> kf L2 (a + x) <= kf L2 (a + y)), fun i _ => (i + 1).toNat,
  ⟨hi, L1, by omega, Nat.le_refl _, hS1, hloc, hH, fun x y h1 h2 h3 => by omega, fun x y h1 h2 h3 => by omega⟩, ?_⟩
 rintro i w23 ⟨m, L2, rfl, hm, hS2, hloc2, hH2, hs1, hs2⟩
 intros
 have hl2 := hloc2.len
 refine aa (fun h2 => ?_) (fun h2 => ?_)
 rotate_left
 ·have hm0 : m = 0 := by omega
  subst hm0
  refine ⟨rfl, L2, hS2, hloc2, fun x y h3 h4 h5 => ?_⟩
  have := hs1 (x - a) (y - a) (by omega) (by omega) (by omega)
  rwa [show a + (x - a) = x by omega, show a + (y - a) = y by omega] at this
 obtain ⟨m', rfl⟩ : ∃ m', m = m' + 1 := ⟨m - 1, by omega⟩
 have e1 : (((m' + 1 : Nat) : Int) - 1) = (m' : Int) := by omega
 rw [e1]
 refine ⟨af (by omega), af (by omega), ?_⟩
 refine cC hS2 (mi := a) (mj := a + m') (by omega) (by omega) (by omega) (by omega) (fun w67 hS3 _ => ?_)
 have hg : ∀ k, kf (swapF L2 a (a + m')) (a + k) = if k = m' then kf L2 (a + 0) else if k = 0 then kf L2 (a + m') else kf L2 (a + k) := by
  intro k
  rw [cJ (by omega) (by omega)]
  by_cases h1 : k = m'
  ·subst h1; rw [if_pos rfl, if_pos rfl]; rfl
  ·rw [if_neg (by omega), if_neg h1]
   by_cases h2 : k = 0
   ·subst h2; rw [if_pos (Nat.add_zero a), if_pos rfl]
   ·rw [if_neg (by omega), if_neg h2]
 refine (kh s (swapF L2 a (a + m')) 0 m' a w0 w67 hS3 (by rw [kY]; omega) (by rw [kY]; omega) (by omega) (fun k c h3 h4 h5 => ?_)).mono ?_
 ·rw [hg, hg, if_neg (by omega), if_neg (by omega), if_neg (by omega), if_neg (by omega)]
  exact hH2 k c (by omega) (by omega) h5
 rintro e w69 ⟨rfl, L3, hS4, hloc4, hH4⟩
 have hmax := qv hH2
 have hout : ∀ y, m' <= y -> y < hi -> kf L3 (a + y) = kf (swapF L2 a (a + m')) (a + y) := fun y h1 h2 => hloc4.out _ (by omega)
 refine ⟨rfl, af (by omega), ⟨m', L3, rfl, by omega, hS4, (hloc2.trans (Loc.swap ⟨by omega, by omega⟩ ⟨by omega, by omega⟩ (by omega))).trans (hloc4.mono (by omega) (by omega)), hH4, fun x y h1 h2 h3 => ?_, fun x y h1 h2 h3 => ?_⟩, by dsimp only; omega⟩
 ·rw [hout x (by omega) (by omega), hout y (by omega) (by omega), hg, hg, if_neg (show ¬ y = m' by omega), if_neg (show ¬ y = 0 by omega)]
  by_cases hx : x = m'
  ·rw [if_pos hx]; exact hs2 0 y (by omega) (by omega) h3
  ·rw [if_neg hx, if_neg (by omega)]; exact hs1 x y (by omega) h2 h3
 ·have hv : ∀ k, a <= k -> k < a + m' -> kf (swapF L2 a (a + m')) k <= kf L3 (a + y) := by
   intro k hk1 hk2
   obtain ⟨z, rfl⟩ : ∃ z, k = a + z := ⟨k - a, by omega⟩
   rw [hout y h2 h3, hg, hg, if_neg (by omega)]
   by_cases hy : y = m'
   ·rw [if_pos hy]
    by_cases hz : z = 0
    ·rw [if_pos hz]; exact hmax m' (by omega)
    ·rw [if_neg hz]; exact hmax z (by omega)
   ·rw [if_neg hy, if_neg (show ¬ y = 0 by omega)]
    by_cases hz : z = 0
    ·rw [if_pos hz]; exact hs2 m' y (by omega) (by omega) h3
    ·rw [if_neg hz]; exact hs2 z y (by omega) (by omega) h3
  exact hloc4.inn (fun v => v <= kf L3 (a + y)) (fun k h4 h5 => hv k (by omega) (by omega)) (a + x) (by omega) (by omega)
end Go.D
namespace Go.D
open Go Go.Proofs
def ki : List UInt8 := [0, 1, 2, 2, 3, 3, 3, 3, 4, 4, 4, 4, 4, 4, 4, 4, 5, 5, 5, 5, 5, 5, 5, 5, 5, 5, 5, 5, 5, 5, 5, 5, 6, 6, 6, 6, 6, 6, 6, 6, 6, 6, 6, 6, 6, 6, 6, 6, 6, 6, 6, 6, 6, 6, 6, 6, 6, 6, 6, 6, 6, 6, 6, 6, 7, 7, 7, 7, 7, 7, 7, 7, 7, 7, 7, 7, 7, 7, 7, 7, 7, 7, 7, 7, 7, 7, 7, 7, 7, 7, 7, 7, 7, 7, 7, 7, 7, 7, 7, 7, 7, 7, 7, 7, 7, 7, 7, 7, 7, 7, 7, 7, 7, 7, 7, 7, 7, 7, 7, 7, 7, 7, 7, 7, 7, 7, 7, 7, 8, 8, 8, 8, 8, 8, 8, 8, 8, 8, 8, 8, 8, 8, 8, 8, 8, 8, 8, 8, 8, 8, 8, 8, 8, 8, 8, 8, 8, 8, 8, 8, 8, 8, 8, 8, 8, 8, 8, 8, 8, 8, 8, 8, 8, 8, 8, 8, 8, 8, 8, 8, 8, 8, 8, 8, 8, 8, 8, 8, 8, 8, 8, 8, 8, 8, 8, 8, 8, 8, 8, 8, 8, 8, 8, 8, 8, 8, 8, 8, 8, 8, 8, 8, 8, 8, 8, 8, 8, 8, 8, 8, 8, 8, 8, 8, 8, 8, 8, 8, 8, 8, 8, 8, 8, 8, 8, 8, 8, 8, 8, 8, 8, 8, 8, 8, 8, 8, 8, 8, 8, 8, 8, 8, 8, 8, 8, 8]
set_option maxRecDepth 100000 in
theorem pj : ∀ m : Nat, m < 64 -> 1 <= m -> m < 2 ^ (ki.getD m 0).toNat /\ 2 ^ (ki.getD m 0).toNat <= 2 * m /\ (ki.getD m 0).toNat <= 6 := by decide
set_option maxRecDepth 100000 in
theorem ld (n : Nat) (h1 : 1 <= n) (hn : n < 64) (w : World) : Calls Tryd.prog bG ⟨[.int .u64 (n : Int)]⟩ w fun e w' => ∃ k : Nat, e = .returned (.int .i64 (k : Int)) /\ (n < 2 ^ k /\ 2 ^ k <= 2 * n /\ k <= 6) /\ w' = w := by
 have h64 : Calls Tryd.prog cw ⟨[.int .u64 (n : Int)]⟩ w fun e w' => ∃ k : Nat, e = .returned (.int .i64 (k : Int)) /\ (n < 2 ^ k /\ 2 ^ k <= 2 * n /\ k <= 6) /\ w' = w := by
  refine eD _ ?_
  unfold ed
  refine ⟨fun x m w2 => x = n /\ m = 0 /\ w2 = w, aa (fun h => by omega) (fun _ => ⟨rfl, rfl, rfl⟩), ?_⟩
  rintro x m w2 ⟨rfl, rfl, rfl⟩
  intros
  refine ⟨fun x m w3 => x = n /\ m = 0 /\ w3 = w2, aa (fun h => by omega) (fun _ => ⟨rfl, rfl, rfl⟩), ?_⟩
  rintro x m w3 ⟨rfl, rfl, rfl⟩
  intros
  refine aa (fun h => by omega) (fun _ => ?_)
  have hw : IntKind.wrap .u8 (n : Int) = n := bu (rU (by omega))
  rw [hw]
  have hb : ∀ u : UInt8, (u.toNat : Int) < 256 := fun u => by have := u.toNat_lt; omega
  refine ⟨by omega, ?_, af ?_, af ?_, (ki.getD n 0).toNat, ?_, pj n hn h1, rfl⟩
  ·have e : ∀ (l : List UInt8), l.length = 256 -> (n : Int) < ((l.length : Nat) : Int) := fun l hl => by rw [hl]; omega
   exact e _ rfl
  ·constructor
   ·exact Int.le_trans (by decide) (Int.natCast_nonneg _)
   ·exact Int.le_trans (Int.le_of_lt (hb _)) (by decide)
  ·rw [Int.zero_add]; constructor
   ·exact Int.le_trans (by decide) (Int.natCast_nonneg _)
   ·exact Int.le_trans (Int.le_of_lt (hb _)) (by decide)
  ·rw [Int.zero_add]; rfl
 refine fp _ ?_
 unfold fb
 refine h64.mono ?_
 rintro e w' ⟨k, rfl, hk, rfl⟩
 exact ⟨_, rfl, k, rfl, hk, rfl⟩
set_option maxRecDepth 100000 in
theorem pk (w : World) : Calls Tryd.prog bG ⟨[.int .u64 ((0 : Nat) : Int)]⟩ w fun e w' => ∃ k : Int, e = .returned (.int .i64 k) /\ (0 <= k /\ k <= 100) /\ w' = w := by
 obtain ⟨n, hn⟩ : ∃ n : Nat, n = 0 := ⟨0, rfl⟩
 rw [<- hn]
 have h64 : Calls Tryd.prog cw ⟨[.int .u64 (n : Int)]⟩ w fun e w' => ∃ k : Int, e = .returned (.int .i64 k) /\ (0 <= k /\ k <= 100) /\ w' = w := by
  refine eD _ ?_
  unfold ed
  refine ⟨fun x m w2 => x = n /\ m = 0 /\ w2 = w, aa (fun h => by omega) (fun _ => ⟨rfl, rfl, rfl⟩), ?_⟩
  rintro x m w2 ⟨rfl, rfl, rfl⟩
  intros
  refine ⟨fun x m w3 => x = n /\ m = 0 /\ w3 = w2, aa (fun h => by omega) (fun _ => ⟨rfl, rfl, rfl⟩), ?_⟩
  rintro x m w3 ⟨rfl, rfl, rfl⟩
  intros
  refine aa (fun h => by omega) (fun _ => ?_)
  have hw : IntKind.wrap .u8 (n : Int) = n := bu (rU (by omega))
  rw [hw]
  have hb : ∀ u : UInt8, (u.toNat : Int) < 256 := fun u => by have := u.toNat_lt; omega
  refine ⟨by omega, ?_, af ?_, af ?_, ((ki.getD n 0).toNat : Int), ?_, by rw [hn]; exact ⟨by decide, by decide⟩, rfl⟩
  ·have e : ∀ (l : List UInt8), l.length = 256 -> (n : Int) < ((l.length : Nat) : Int) := fun l hl => by rw [hl]; omega
   exact e _ rfl
  ·constructor
   ·exact Int.le_trans (by decide) (Int.natCast_nonneg _)
   ·exact Int.le_trans (Int.le_of_lt (hb _)) (by decide)
  ·rw [Int.zero_add]; constructor
   ·exact Int.le_trans (by decide) (Int.natCast_nonneg _)
   ·exact Int.le_trans (Int.le_of_lt (hb _)) (by decide)
  ·rw [Int.zero_add]; rfl
 refine fp _ ?_
 unfold fb
 refine h64.mono ?_
 rintro e w' ⟨k, rfl, hk, rfl⟩
 exact ⟨_, rfl, k, rfl, hk, rfl⟩
theorem jy (n : Int) : 0 <= IntKind.wrap .u64 n /\ inR .u64 (IntKind.wrap .u64 n) := by
 have h : 0 <= IntKind.wrap .u64 n /\ IntKind.wrap .u64 n <= 18446744073709551615 := by
  simp [IntKind.wrap, IntKind.signed, IntKind.bits]; omega
 exact ⟨h.1, gn h⟩
theorem nR {a b : Int} (ha : 0 <= a) (ha2 : inR .u64 a) (hb : 0 <= b) (hb2 : inR .u64 b) : 0 <= bitsI .xor a b /\ inR .u64 (bitsI .xor a b) := by
 obtain ⟨x, rfl⟩ : ∃ x : Nat, a = x := ⟨a.toNat, by omega⟩
 obtain ⟨y, rfl⟩ : ∃ y : Nat, b = y := ⟨b.toNat, by omega⟩
 have e : bitsI .xor (x : Int) (y : Int) = ((x ^^^ y : Nat) : Int) := rfl
 rw [e]
 exact ⟨by omega, jr ha2 hb2 (fun n h1 h2 => Nat.xor_lt_two_pow h1 h2)⟩
theorem na (r : Nat) (n : Int) (w : World) (ho : ab w r [.int .u64 n]) (h0 : 0 <= n) (hn : inR .u64 n) :
  Calls Tryd.prog cn ⟨[.pointer (some ⟨r, 0, none⟩)]⟩ w fun e w' => ∃ m : Int, e = .returned (.int .u64 m) /\ 0 <= m /\ inR .u64 m /\ ab w' r [.int .u64 m] /\ Ext (fun j => j = r) w w' := by
 refine fq _ ?_
 unfold dV
 have od : ab w.drew r [.int .u64 n] := ho.ah (Ext.drew dN _)
 have u1 := jy (n * 8192)
 have x1 := nR h0 hn u1.1 u1.2
 obtain ⟨c1, c2⟩ := od.cN 0 (by simp) (.int .u64 (bitsI .xor n (IntKind.wrap .u64 (n * 8192))))
 refine ⟨n, od.cell 0 (by simp), n, od.cell 0 (by simp), by omega, h0, u1.1, hn, u1.2, c1, fun w7 hw7 => ?_⟩
 obtain ⟨o7, e7, z7⟩ := c2 w7 hw7
 obtain ⟨m1, hm1⟩ : ∃ m1, m1 = bitsI .xor n (IntKind.wrap .u64 (n * 8192)) := ⟨_, rfl⟩
 rw [<- hm1] at o7 x1
 have o7d : ab w7.drew r [.int .u64 m1] := ab.ah (c := [.int .u64 m1]) o7 (Ext.drew dN _)
 have u2 : 0 <= m1 / 128 /\ inR .u64 (m1 / 128) := by
  have : m1 <= 18446744073709551615 := x1.2.2
  exact ⟨by omega, gn (by omega)⟩
 have x2 := nR x1.1 x1.2 u2.1 u2.2
 obtain ⟨c3, c4⟩ := o7d.cN 0 (by simp) (.int .u64 (bitsI .xor m1 (m1 / 128)))
 refine ⟨m1, o7d.cell 0 (by simp), m1, o7d.cell 0 (by simp), by omega, x1.1, x1.1, u2.1, x1.2, u2.2, c3, fun w13 hw13 => ?_⟩
 obtain ⟨o13, e13, z13⟩ := c4 w13 hw13
 obtain ⟨m2, hm2⟩ : ∃ m2, m2 = bitsI .xor m1 (m1 / 128) := ⟨_, rfl⟩
 rw [<- hm2] at o13 x2
 have o13d : ab w13.drew r [.int .u64 m2] := ab.ah (c := [.int .u64 m2]) o13 (Ext.drew dN _)
 have u3 := jy (m2 * 131072)
 have x3 := nR x2.1 x2.2 u3.1 u3.2
 obtain ⟨c5, c6⟩ := o13d.cN 0 (by simp) (.int .u64 (bitsI .xor m2 (IntKind.wrap .u64 (m2 * 131072))))
 refine ⟨m2, o13d.cell 0 (by simp), m2, o13d.cell 0 (by simp), by omega, x2.1, u3.1, x2.2, u3.2, c5, fun w19 hw19 => ?_⟩
 obtain ⟨o19, e19, z19⟩ := c6 w19 hw19
 refine ⟨_, o19.cell 0 (by simp), _, rfl, x3.1, x3.2, o19, ?_⟩
 have d : ∀ w : World, Ext (fun j => j = r) w w.drew := fun w => Ext.drew _ _
 have t : ∀ {a b c : World}, Ext (fun j => j = r) a b -> Ext (fun j => j = r) b c -> Ext (fun j => j = r) a c := fun h g => h.trans g (fun _ h => h) (fun _ h => .inl h)
 exact t (t (t (t (t (d w) e7) (d w7)) e13) (d w13)) e19
theorem nb (s : Slc) (L : List Fd) (a b : Nat) (w0 w : World) (hS : StF w0 s L w) (hab : a <= b) (hb : b <= L.length) (hL : L.length <= 60) :
  Calls Tryd.prog aT ⟨[s.v, .int .i64 (a : Int), .int .i64 (b : Int), .func (.func ak) ⟨[]⟩ ⟨[]⟩]⟩ w fun e w' => e = .returned (.tuple #[]) /\ ∃ L', StF w0 s L' w' /\ Loc a b L L' := by
 refine bL _ _ _ ?_
 unfold aX
 obtain ⟨n, hn⟩ : ∃ n, n = b - a := ⟨_, rfl⟩
 have ebi : (b : Int) - (a : Int) = (n : Int) := by omega
 rw [ebi]
 refine ⟨af (by omega), aa (fun h8 => ?_) (fun _ => ⟨rfl, L, hS, Loc.refl _ _ _⟩)⟩
 refine ai (fun r4 w5 hr4 hb4 k4 hs4 => ?_)
 have hsz := hS.size
 have o4 : ab w5 r4 [.int .u64 0] := ab.bS hb4
 obtain ⟨c1, c2⟩ := o4.cN 0 (by simp) (.int .u64 (IntKind.wrap .u64 (n : Int)))
 refine ⟨c1, fun w6 hw6 => ?_⟩
 obtain ⟨o6, e6, z6⟩ := c2 w6 hw6
 have hS6 := (hS.ah k4).other (e6.mono (fun j hj => by omega))
 have hwn : IntKind.wrap .u64 (n : Int) = (n : Int) := bu (gn (by omega))
 have hpow : Calls Tryd.prog bX ⟨[.int .i64 (n : Int)]⟩ w6 fun e w' => ∃ k : Nat, e = .returned (.int .u64 ((2 ^ k : Nat) : Int)) /\ (n < 2 ^ k /\ 2 ^ k <= 2 * n /\ k <= 6) /\ w' = w6 := by
  refine fe _ ?_
  unfold dy
  rw [hwn]
  refine (ld n (by omega) (by omega) w6).mono ?_
  rintro e w3 ⟨k, rfl, hk, rfl⟩
  have e1 : IntKind.wrap .u64 ((1 : Int) * ((2 ^ min (Int.toNat (k : Int)) 64 : Nat) : Int)) = ((2 ^ k : Nat) : Int) := by
   rw [Int.toNat_natCast, Nat.min_eq_left (by omega), Int.one_mul]
   exact bu (gn (by omega))
  refine ⟨_, rfl, by omega, k, by rw [e1], hk, rfl⟩
 refine hpow.mono ?_
 rintro e w8 ⟨k, rfl, hk, rfl⟩
 refine ⟨_, rfl, by omega, by omega, af (by omega), af (by omega), af (by omega), af (by omega), ?_⟩
 have hmask : IntKind.wrap .u64 (((2 ^ k : Nat) : Int) - 1) = ((2 ^ k - 1 : Nat) : Int) := by
  rw [show ((2 ^ k : Nat) : Int) - 1 = ((2 ^ k - 1 : Nat) : Int) by omega]
  exact bu (gn (by omega))
 refine ⟨fun idx w13 => ∃ (q : Nat) (L1 : List Fd) (x : Int), idx = ((a + n / 4 * 2 - 1 + q : Nat) : Int) /\ q <= 3 /\ StF w0 s L1 w13 /\ Loc a b L L1 /\ ab w13 r4 [.int .u64 x] /\ 0 <= x /\ inR .u64 x, fun idx _ => ((a + n / 4 * 2 + 4 : Nat) - idx).toNat,
  ⟨0, L, _, by omega, by omega, hS6, Loc.refl _ _ _, o6, (jy _).1, (jy _).2⟩, ?_⟩
 rintro idx w13 ⟨q, L1, x, rfl, hq, hS1, hloc, o13, hx0, hx⟩
 intros
 have hl1 := hloc.len
 refine ⟨by omega, by omega, af (by omega), af (by omega), af (by omega), af (by omega), aa (fun h1 => ?_) (fun h1 => ⟨rfl, L1, hS1, hloc⟩)⟩
 refine (na r4 x w13 o13 hx0 hx).mono ?_
 rintro e w55 ⟨y, rfl, hy0, hy, o55, e55⟩
 have hS2 := hS1.other (e55.mono (fun j hj => by omega))
 rw [hmask]
 obtain ⟨z, hz, hzm⟩ : ∃ z : Nat, bitsI .and y ((2 ^ k - 1 : Nat) : Int) = (z : Int) /\ z <= 2 ^ k - 1 := ⟨y.toNat &&& (2 ^ k - 1), rfl, Nat.and_le_right⟩
 refine ⟨y, rfl, ?_⟩
 rw [hz, bu (af (n := (z : Int)) (by omega))]
 refine ⟨hy0, by omega, hy, gn (by omega), fun other w59 => ∃ o : Nat, other = (o : Int) /\ o < n /\ w59 = w55, aa (fun h2 => ⟨af (by omega), z - n, by omega, by omega, rfl⟩) (fun h2 => ⟨z, rfl, by omega, rfl⟩), ?_⟩
 rintro other w59 ⟨o, rfl, ho, rfl⟩
 intros
 refine ⟨af (by omega), af (by omega), ?_⟩
 refine cC hS2 (mi := a + n / 4 * 2 - 1 + q) (mj := a + o) (by omega) (by omega) (by omega) (by omega) (fun w81 hS3 x81 => ?_)
 refine ⟨af (by omega), ⟨q + 1, _, y, by omega, by omega, hS3, hloc.trans (Loc.swap ⟨by omega, by omega⟩ ⟨by omega, by omega⟩ (by omega)), o55.ext x81 (fun hh => by have := hS.own _ hh; omega), hy0, hy⟩, by dsimp only; omega⟩
end Go.D
namespace Go.D
open Go Go.Proofs
abbrev fdf : Value := .func (.func ak) ⟨[]⟩ ⟨[]⟩
theorem fT (s : Slc) (L : List Fd) (i j a b r : Nat) (n : Int) (w0 w : World) (hS : StF w0 s L w) (ho : ab w r [.int .i64 n]) (hr : w0.heap.size <= r) (hn : 0 <= n /\ n <= 1000)
  (hi : a <= i /\ i < b) (hj : a <= j /\ j < b) (hb : b <= L.length) :
  Calls Tryd.prog aI ⟨[s.v, .int .i64 (i : Int), .int .i64 (j : Int), .pointer (some ⟨r, 0, none⟩), fdf]⟩ w fun e w' => ∃ (x y : Nat) (m : Int), e = .returned (.tuple ⟨[.int .i64 (x : Int), .int .i64 (y : Int)]⟩) /\ (a <= x /\ x < b) /\ (a <= y /\ y < b) /\
   (n <= m /\ m <= n + 1) /\ StF w0 s L w' /\ ab w' r [.int .i64 m] := by
 refine cx _ _ _ _ ?_
 unfold bq
 refine get_at hS (m := j) rfl (by omega) (fun sd => get_at hS (m := i) rfl (by omega) (fun se => ?_))
 refine (dG _ _ sd se _ (hS.ok _ (List.getElem_mem _)) (hS.ok _ (List.getElem_mem _))).mono ?_
 rintro e w18 ⟨c, rfl, _, k18⟩
 have hS2 := hS.drew.ah k18
 have o2 : ab w18 r [.int .i64 n] := ab.ah (c := [.int .i64 n]) (ab.ah (c := [.int .i64 n]) ho (Ext.drew dN _)) k18
 refine ⟨c, rfl, aa (fun _ => ?_) (fun _ => ⟨i, j, n, rfl, hi, hj, by omega, hS2, o2⟩)⟩
 obtain ⟨c1, c2⟩ := o2.cN 0 (by simp) (.int .i64 (n + 1))
 refine ao rfl ⟨n, o2.cell 0 (by simp), af (by omega), ao rfl ⟨c1, fun w23 hw23 => ?_⟩⟩
 obtain ⟨o3, e3, z3⟩ := c2 w23 hw23
 exact ⟨j, i, n + 1, rfl, hj, hi, by omega, hS2.other (e3.mono (fun k hk => by omega)), o3⟩
theorem fU (s : Slc) (L : List Fd) (i j k a b r : Nat) (n : Int) (w0 w : World) (hS : StF w0 s L w) (ho : ab w r [.int .i64 n]) (hr : w0.heap.size <= r) (hn : 0 <= n /\ n <= 900)
  (hi : a <= i /\ i < b) (hj : a <= j /\ j < b) (hk : a <= k /\ k < b) (hb : b <= L.length) :
  Calls Tryd.prog aH ⟨[s.v, .int .i64 (i : Int), .int .i64 (j : Int), .int .i64 (k : Int), .pointer (some ⟨r, 0, none⟩), fdf]⟩ w fun e w' => ∃ (x : Nat) (m : Int), e = .returned (.int .i64 (x : Int)) /\ (a <= x /\ x < b) /\
   (n <= m /\ m <= n + 3) /\ StF w0 s L w' /\ ab w' r [.int .i64 m] := by
 refine cy _ _ _ _ _ ?_
 unfold br
 refine (fT s L i j a b r n w0 w hS ho hr (by omega) hi hj hb).mono ?_
 rintro e w7 ⟨x1, y1, m1, rfl, hx1, hy1, hm1, hS1, o1⟩
 refine ⟨_, _, rfl, (fT s L y1 k a b r m1 w0 w7 hS1 o1 hr (by omega) hy1 hk hb).mono ?_⟩
 rintro e w11 ⟨x2, y2, m2, rfl, hx2, hy2, hm2, hS2, o2⟩
 refine ⟨_, _, rfl, (fT s L x1 x2 a b r m2 w0 w11 hS2 o2 hr (by omega) hx1 hx2 hb).mono ?_⟩
 rintro e w15 ⟨x3, y3, m3, rfl, hx3, hy3, hm3, hS3, o3⟩
 exact ⟨_, _, rfl, y3, m3, rfl, hy3, by omega, hS3, o3⟩
theorem fV (s : Slc) (L : List Fd) (i a b r : Nat) (n : Int) (w0 w : World) (hS : StF w0 s L w) (ho : ab w r [.int .i64 n]) (hr : w0.heap.size <= r) (hn : 0 <= n /\ n <= 900)
  (hi : a + 1 <= i /\ i + 1 < b) (hb : b <= L.length) (hL : L.length <= 60) :
  Calls Tryd.prog aA ⟨[s.v, .int .i64 (i : Int), .pointer (some ⟨r, 0, none⟩), fdf]⟩ w fun e w' => ∃ (x : Nat) (m : Int), e = .returned (.int .i64 (x : Int)) /\ (a <= x /\ x < b) /\
   (n <= m /\ m <= n + 3) /\ StF w0 s L w' /\ ab w' r [.int .i64 m] := by
 refine bJ _ _ _ ?_
 unfold aU
 have e1 : (i : Int) - 1 = ((i - 1 : Nat) : Int) := by omega
 have e2 : (i : Int) + 1 = ((i + 1 : Nat) : Int) := by omega
 refine ⟨af (by omega), af (by omega), ?_⟩
 rw [e1, e2]
 refine (fU s L (i - 1) i (i + 1) a b r n w0 w hS ho hr hn (by omega) (by omega) (by omega) hb).mono ?_
 rintro e w5 ⟨x, m, rfl, h⟩
 exact ⟨_, rfl, x, m, rfl, h⟩
theorem nc (s : Slc) (L : List Fd) (a b : Nat) (w0 w : World) (hS : StF w0 s L w) (hab : a + 8 <= b) (hb : b <= L.length) (hL : L.length <= 60) :
  Calls Tryd.prog aZ ⟨[s.v, .int .i64 (a : Int), .int .i64 (b : Int), fdf]⟩ w fun e w' => ∃ (x : Nat) (h : Int), e = .returned (.tuple ⟨[.int .i64 (x : Int), .int .i64 h]⟩) /\ (a <= x /\ x < b) /\ StF w0 s L w' := by
 refine bQ _ _ _ ?_
 unfold bf
 obtain ⟨n, hn⟩ : ∃ n, n = b - a := ⟨_, rfl⟩
 have ebi : (b : Int) - (a : Int) = (n : Int) := by omega
 rw [ebi]
 refine ⟨af (by omega), ai (fun r4 w5 hr4 hb4 k4 hs4 => ?_)⟩
 have hsz := hS.size
 have o4 : ab w5 r4 [.int .i64 0] := ab.bS hb4
 have hS5 := hS.ah k4
 have e1 : (a : Int) + (n : Int) / 4 * 1 = ((a + n / 4 : Nat) : Int) := by omega
 have e2 : (a : Int) + (n : Int) / 4 * 2 = ((a + n / 4 * 2 : Nat) : Int) := by omega
 have e3 : (a : Int) + (n : Int) / 4 * 3 = ((a + n / 4 * 3 : Nat) : Int) := by omega
 refine ⟨by omega, by omega, af (by omega), af (by omega), af (by omega), by omega, by omega, af (by omega), af (by omega), af (by omega), by omega, by omega, af (by omega), af (by omega), af (by omega), ?_⟩
 rw [e1, e2, e3]
 refine ⟨fun j w' => ∃ (x : Nat) (m : Int), j = (x : Int) /\ (a <= x /\ x < b) /\ StF w0 s L w' /\ ab w' r4 [.int .i64 m], ?_, ?_⟩
 ·refine aa (fun h8 => aa (fun h50 => ?_) (fun _ => ?_)) (fun h8 => absurd (by omega) h8)
  ·refine (fV s L (a + n / 4) a b r4 0 w0 w5 hS5 o4 (by omega) (by omega) (by omega) hb hL).mono ?_
   rintro e w8 ⟨x1, m1, rfl, hx1, hm1, hS1, o1⟩
   refine ⟨_, rfl, (fV s L (a + n / 4 * 2) a b r4 m1 w0 w8 hS1 o1 (by omega) (by omega) (by omega) hb hL).mono ?_⟩
   rintro e w11 ⟨x2, m2, rfl, hx2, hm2, hS2, o2⟩
   refine ⟨_, rfl, (fV s L (a + n / 4 * 3) a b r4 m2 w0 w11 hS2 o2 (by omega) (by omega) (by omega) hb hL).mono ?_⟩
   rintro e w14 ⟨x3, m3, rfl, hx3, hm3, hS3, o3⟩
   refine ⟨_, rfl, (fU s L x1 x2 x3 a b r4 m3 w0 w14 hS3 o3 (by omega) (by omega) hx1 hx2 hx3 hb).mono ?_⟩
   rintro e w17 ⟨x4, m4, rfl, hx4, hm4, hS4, o4⟩
   exact ⟨_, rfl, x4, m4, rfl, hx4, hS4, o4⟩
  ·refine (fU s L (a + n / 4) (a + n / 4 * 2) (a + n / 4 * 3) a b r4 0 w0 w5 hS5 o4 (by omega) (by omega) (by omega) (by omega) (by omega) hb).mono ?_
   rintro e w20 ⟨x, m, rfl, hx, hm, hS1, o1⟩
   exact ⟨_, rfl, x, m, rfl, hx, hS1, o1⟩
 ·rintro j w23 ⟨x, m, rfl, hx, hS1, o1⟩
  intros
  refine ⟨m, o1.cell 0 (by simp), aa (fun _ => ⟨x, _, rfl, hx, hS1⟩) (fun _ => aa (fun _ => ⟨x, _, rfl, hx, hS1⟩) (fun _ => ⟨x, _, rfl, hx, hS1⟩))⟩
theorem kH (s : Slc) (L : List Fd) (a b : Nat) (w0 w : World) (hS : StF w0 s L w) (hab : a < b) (hb : b <= L.length) (hL : L.length <= 60) :
  Calls Tryd.prog aV ⟨[s.v, .int .i64 (a : Int), .int .i64 (b : Int), fdf]⟩ w fun e w' => e = .returned (.tuple #[]) /\ ∃ L', StF w0 s L' w' /\ Loc a b L L' := by
 refine bM _ _ _ ?_
 unfold aY
 refine ⟨af (by omega), fun i j w8 => ∃ (x y : Nat) (L1 : List Fd), i = (x : Int) /\ j = (y : Int) - 1 /\ a <= x /\ y <= b /\ x <= b /\ a <= y /\ StF w0 s L1 w8 /\ Loc a b L L1, fun i j _ => (j - i + 1).toNat, ⟨a, b, L, rfl, rfl, Nat.le_refl _, Nat.le_refl _, by omega, by omega, hS, Loc.refl _ _ _⟩, ?_⟩
 rintro i j w8 ⟨x, y, L1, rfl, rfl, hx, hy, hxb, hay, hS1, hloc⟩
 intros
 have hl := hloc.len
 refine aa (fun h => ?_) (fun _ => ⟨rfl, L1, hS1, hloc⟩)
 refine cC hS1 (mi := x) (mj := y - 1) rfl (by omega) (by omega) (by omega) (fun w' hS2 _ => ?_)
 exact ⟨af (by omega), af (by omega), ⟨x + 1, y - 1, _, by omega, by omega, by omega, by omega, by omega, by omega, hS2, hloc.trans (Loc.swap ⟨by omega, by omega⟩ ⟨by omega, by omega⟩ (by omega))⟩, by dsimp only; omega⟩
end Go.D
namespace Go.D
open Go Go.Proofs
structure cR (a b i j : Nat) (p : Int) (L : List Fd) : Prop where
 piv : kf L a = p
 bd : a + 1 <= i /\ i <= j + 1 /\ j < b /\ a <= j
 lo : ∀ k, a + 1 <= k -> k < i -> kf L k < p
 hi : ∀ k, j < k -> k < b -> ¬ kf L k < p
theorem cR.up {a b i j : Nat} {p : Int} {L : List Fd} (h : cR a b i j p L) (hij : i <= j) (hl : kf L i < p) : cR a b (i + 1) j p L :=
 ⟨h.piv, by have := h.bd; omega, fun k h1 h2 => by
  by_cases hk : k = i
  ·subst hk; exact hl
  ·exact h.lo k h1 (by omega), h.hi⟩
theorem cR.down {a b i j : Nat} {p : Int} {L : List Fd} (h : cR a b i j p L) (hij : i <= j) (hl : ¬ kf L j < p) : cR a b i (j - 1) p L :=
 ⟨h.piv, by have := h.bd; omega, h.lo, fun k h1 h2 => by
  by_cases hk : k = j
  ·subst hk; exact hl
  ·exact h.hi k (by have := h.bd; omega) h2⟩
theorem cR.swap {a b i j : Nat} {p : Int} {L : List Fd} (h : cR a b i j p L) (hij : i <= j) (hl : ¬ kf L i < p) (hr : kf L j < p) (hb : b <= L.length) : cR a b (i + 1) (j - 1) p (swapF L i j) := by
 have hne : i ≠ j := fun e => by subst e; exact hl hr
 have hbd := h.bd
 have hg := cJ (L := L) (i := i) (j := j) (by omega) (by omega)
 refine ⟨by rw [hg, if_neg (by omega), if_neg (by omega)]; exact h.piv, by omega, fun k h1 h2 => ?_, fun k h1 h2 => ?_⟩
 ·rw [hg, if_neg (by omega)]
  by_cases hk : k = i
  ·rw [if_pos hk]; exact hr
  ·rw [if_neg hk]; exact h.lo k h1 (by omega)
 ·rw [hg]
  by_cases hk : k = j
  ·rw [if_pos hk]; exact hl
  ·rw [if_neg hk, if_neg (by omega)]; exact h.hi k (by omega) h2
theorem cR.done {a b i j : Nat} {p : Int} {L : List Fd} (h : cR a b i j p L) (hij : j < i) (hb : b <= L.length) :
  (∀ k, a <= k -> k < j -> kf (swapF L j a) k <= kf (swapF L j a) j) /\ ∀ k, j < k -> k < b -> kf (swapF L j a) j <= kf (swapF L j a) k := by
 have hbd := h.bd
 have hg := cJ (L := L) (i := j) (j := a) (by omega) (by omega)
 have hmid : kf (swapF L j a) j = p := by
  rw [hg]
  by_cases hja : j = a
  ·rw [if_pos hja, hja]; exact h.piv
  ·rw [if_neg hja, if_pos rfl]; exact h.piv
 rw [hmid]
 refine ⟨fun k h1 h2 => ?_, fun k h1 h2 => ?_⟩
 ·rw [hg]
  by_cases hk : k = a
  ·rw [if_pos hk]
   have := h.lo j (by omega) hij
   omega
  ·rw [if_neg hk, if_neg (by omega)]
   have := h.lo k (by omega) (by omega)
   omega
 ·rw [hg, if_neg (by omega), if_neg (by omega)]
  have := h.hi k h1 h2
  omega
theorem nS (s : Slc) (L : List Fd) (a b pv : Nat) (w0 w : World) (hS : StF w0 s L w) (hpv : a <= pv /\ pv < b) (hb : b <= L.length) (hL : L.length <= 60) :
  Calls Tryd.prog bj ⟨[s.v, .int .i64 (a : Int), .int .i64 (b : Int), .int .i64 (pv : Int), fdf]⟩ w fun e w' => ∃ (mid : Nat) (fl : Bool) (L' : List Fd), e = .returned (.tuple ⟨[.int .i64 (mid : Int), .bool fl]⟩) /\ (a <= mid /\ mid < b) /\ StF w0 s L' w' /\ Loc a b L L' /\
   (∀ k, a <= k -> k < mid -> kf L' k <= kf L' mid) /\ ∀ k, mid < k -> k < b -> kf L' mid <= kf L' k := by
 refine cc _ _ _ _ ?_
 unfold bk
 refine cC hS (mi := a) (mj := pv) rfl rfl (by omega) (by omega) (fun w20 hS1 _ => ?_)
 have hloc1 : Loc a b L (swapF L a pv) := Loc.swap ⟨by omega, by omega⟩ ⟨by omega, by omega⟩ hb
 obtain ⟨L1, hL1⟩ : ∃ L1, L1 = swapF L a pv := ⟨_, rfl⟩
 rw [<- hL1] at hS1 hloc1
 have hl1 := hloc1.len
 obtain ⟨p, hp⟩ : ∃ p, p = kf L1 a := ⟨_, rfl⟩
 have start : cR a b (a + 1) (b - 1) p L1 := ⟨hp.symm, by omega, fun k h1 h2 => by omega, fun k h1 h2 => by omega⟩
 -- comparing place k with the pivot
 have cmpP : ∀ {L2 : List Fd} {w2 : World} {k : Nat} {i : Int} {K : Int -> World -> Prop}, StF w0 s L2 w2 -> Loc a b L L2 -> kf L2 a = p -> i = (k : Int) -> k < b -> (∀ n w3, StF w0 s L2 w3 -> (n < 0 ↔ kf L2 k < p) -> K n w3) ->
   needSome s.p fun a1 => 0 <= i /\ i < ((s.l : Nat) : Int) /\ ∃ n1 : Int, ∃ n2 : Int, ∃ n3 : Int, ∃ n4 : Int, ∃ sd : Slc, rowAt w2.drew (a1.add (Int.toNat i * 5)) 0 [.int .i64 n1, .int .i64 n2, .int .i64 n3, .int .i64 n4, sd.v] /\
   needSome s.p fun a2 => 0 <= (a : Int) /\ (a : Int) < ((s.l : Nat) : Int) /\ ∃ m1 : Int, ∃ m2 : Int, ∃ m3 : Int, ∃ m4 : Int, ∃ se : Slc, rowAt w2.drew (a2.add (Int.toNat (a : Int) * 5)) 0 [.int .i64 m1, .int .i64 m2, .int .i64 m3, .int .i64 m4, se.v] /\
   Calls Tryd.prog ak ⟨[.agg ⟨[.int .i64 n1, .int .i64 n2, .int .i64 n3, .int .i64 n4, sd.v]⟩, .agg ⟨[.int .i64 m1, .int .i64 m2, .int .i64 m3, .int .i64 m4, se.v]⟩]⟩ w2.drew fun e w3 => ∃ n : Int, e = .returned (.int .i64 n) /\ K n w3 := by
  intro L2 w2 k i K hS2 hloc hpa hi hk hK
  have hl := hloc.len
  refine get_at hS2 (m := k) hi (by omega) (fun sd => get_at hS2 (m := a) rfl (by omega) (fun se => ?_))
  refine (dG _ _ sd se _ (hS2.ok _ (List.getElem_mem _)) (hS2.ok _ (List.getElem_mem _))).mono ?_
  rintro e w3 ⟨n, rfl, hn, k3⟩
  rw [<- eo, <- eo, hpa] at hn
  exact ⟨n, rfl, hK n w3 (hS2.drew.ah k3) hn⟩
 have bInt : (b : Int) - 1 = ((b - 1 : Nat) : Int) := by omega
 rw [bInt]
 refine ⟨af (by omega), af (by omega), fun i w' => ∃ x : Nat, i = (x : Int) /\ cR a b x (b - 1) p L1 /\ StF w0 s L1 w' /\ (x <= b - 1 -> ¬ kf L1 x < p), ?_, ?_⟩
 ·refine ⟨fun i w' => ∃ x : Nat, i = (x : Int) /\ cR a b x (b - 1) p L1 /\ StF w0 s L1 w', fun i _ => b + 1 - i.toNat, ⟨a + 1, by omega, start, hS1⟩, ?_⟩
  rintro i w25 ⟨x, rfl, hP, hS2⟩
  intros
  refine aa (fun h1 => ?_) (fun h1 => ⟨x, rfl, hP, hS2.drew, fun h2 => absurd (by omega) h1⟩)
  refine cmpP (k := x) hS2 hloc1 hP.piv rfl (by omega) (fun n w3 hS3 hn => ?_)
  exact aa (fun h2 => ⟨af (by omega), ⟨x + 1, by omega, hP.up (by omega) (hn.1 h2), hS3⟩, by dsimp only; omega⟩) (fun h2 => ⟨x, rfl, hP, hS3, fun _ h => h2 (hn.2 h)⟩)
 rintro i59 w60 ⟨x, rfl, hP, hS2, hx⟩
 intros
 refine ⟨fun j w' => ∃ y : Nat, j = (y : Int) /\ cR a b x y p L1 /\ StF w0 s L1 w' /\ (x <= y -> kf L1 y < p), ?_, ?_⟩
 ·refine ⟨fun j w' => ∃ y : Nat, j = (y : Int) /\ cR a b x y p L1 /\ StF w0 s L1 w', fun j _ => j.toNat, ⟨b - 1, rfl, hP, hS2⟩, ?_⟩
  rintro j w83 ⟨y, rfl, hP2, hS3⟩
  intros
  have hbd := hP2.bd
  refine aa (fun h1 => ?_) (fun h1 => ⟨y, rfl, hP2, hS3.drew, fun h2 => absurd (by omega) h1⟩)
  refine cmpP (k := y) hS3 hloc1 hP2.piv rfl (by omega) (fun n w3 hS4 hn => ?_)
  exact aR (fun h2 => ⟨af (by omega), ⟨y - 1, by omega, hP2.down (by omega) (fun h => h2 (hn.2 h)), hS4⟩, by dsimp only; omega⟩) (fun h2 => ⟨y, rfl, hP2, hS4, fun _ => hn.1 h2⟩)
 rintro j118 w119 ⟨y, rfl, hP2, hS3, hy⟩
 intros
 have hbd := hP2.bd
 -- the end
 have fin : ∀ {x y : Nat} {L2 : List Fd} {w2 : World} {K : World -> Prop}, cR a b x y p L2 -> y < x -> Loc a b L L2 -> StF w0 s L2 w2 -> True := fun _ _ _ _ => trivial
 refine aa (fun h1 => ?_) (fun h1 => ?_)
 ·refine cC hS3 (mi := y) (mj := a) rfl rfl (by omega) (by omega) (fun w154 hS4 _ => ?_)
  have hd := hP2.done (by omega) (by omega)
  exact ⟨y, true, _, rfl, by omega, hS4, hloc1.trans (Loc.swap ⟨by omega, by omega⟩ ⟨by omega, by omega⟩ (by omega)), hd.1, hd.2⟩
 refine cC hS3 (mi := x) (mj := y) rfl rfl (by omega) (by omega) (fun w170 hS4 _ => ?_)
 have hP3 := hP2.swap (by omega) (hx (by omega)) (hy (by omega)) (by omega)
 have hloc3 : Loc a b L (swapF L1 x y) := hloc1.trans (Loc.swap ⟨by omega, by omega⟩ ⟨by omega, by omega⟩ (by omega))
 refine ⟨af (by omega), af (by omega), fun j w' => ∃ (x y : Nat) (L2 : List Fd), j = (y : Int) /\ cR a b x y p L2 /\ y < x /\ StF w0 s L2 w' /\ Loc a b L L2, ?_, ?_⟩
 ·refine ⟨fun i j w' => ∃ (x y : Nat) (L2 : List Fd), i = (x : Int) /\ j = (y : Int) /\ cR a b x y p L2 /\ StF w0 s L2 w' /\ Loc a b L L2, fun i _ _ => b + 2 - i.toNat, ⟨x + 1, y - 1, _, by omega, by have := hP3.bd; omega, hP3, hS4, hloc3⟩, ?_⟩
  clear hP3 hloc3 hS4 hP2 hS3 hy hbd h1 hP hS2 hx
  rintro i174 j175 w176 ⟨x0, y, L2, rfl, rfl, hP0, hS5, hloc⟩
  intros
  have hl2 := hloc.len
  have hbd0 := hP0.bd
  refine ⟨fun i w' => ∃ x : Nat, i = (x : Int) /\ x0 <= x /\ cR a b x y p L2 /\ StF w0 s L2 w' /\ (x <= y -> ¬ kf L2 x < p), ?_, ?_⟩
  ·refine ⟨fun i w' => ∃ x : Nat, i = (x : Int) /\ x0 <= x /\ cR a b x y p L2 /\ StF w0 s L2 w', fun i _ => b + 1 - i.toNat, ⟨x0, rfl, Nat.le_refl _, hP0, hS5⟩, ?_⟩
   rintro i w239 ⟨x, rfl, hxx, hP, hS6⟩
   intros
   have hbd := hP.bd
   refine aa (fun h1 => ?_) (fun h1 => ⟨x, rfl, hxx, hP, hS6.drew, fun h2 => absurd (by omega) h1⟩)
   refine cmpP (k := x) hS6 hloc hP.piv rfl (by omega) (fun n w3 hS7 hn => ?_)
   exact aa (fun h2 => ⟨af (by omega), ⟨x + 1, by omega, by omega, hP.up (by omega) (hn.1 h2), hS7⟩, by dsimp only; omega⟩) (fun h2 => ⟨x, rfl, hxx, hP, hS7, fun _ h => h2 (hn.2 h)⟩)
  rintro i273 w274 ⟨x, rfl, hxx, hP, hS6, hx⟩
  intros
  refine ⟨fun j w' => ∃ z : Nat, j = (z : Int) /\ z <= y /\ cR a b x z p L2 /\ StF w0 s L2 w' /\ (x <= z -> kf L2 z < p), ?_, ?_⟩
  ·refine ⟨fun j w' => ∃ z : Nat, j = (z : Int) /\ z <= y /\ cR a b x z p L2 /\ StF w0 s L2 w', fun j _ => j.toNat, ⟨y, rfl, Nat.le_refl _, hP, hS6⟩, ?_⟩
   rintro j w297 ⟨z, rfl, hzy, hP2, hS7⟩
   intros
   have hbd := hP2.bd
   refine aa (fun h1 => ?_) (fun h1 => ⟨z, rfl, hzy, hP2, hS7.drew, fun h2 => absurd (by omega) h1⟩)
   refine cmpP (k := z) hS7 hloc hP2.piv rfl (by omega) (fun n w3 hS8 hn => ?_)
   exact aR (fun h2 => ⟨af (by omega), ⟨z - 1, by omega, by omega, hP2.down (by omega) (fun h => h2 (hn.2 h)), hS8⟩, by dsimp only; omega⟩) (fun h2 => ⟨z, rfl, hzy, hP2, hS8, fun _ => hn.1 h2⟩)
  rintro j332 w333 ⟨z, rfl, hzy, hP2, hS7, hz⟩
  intros
  have hbd := hP2.bd
  refine aa (fun h1 => ⟨x, z, L2, rfl, hP2, by omega, hS7, hloc⟩) (fun h1 => ?_)
  refine cC hS7 (mi := x) (mj := z) rfl rfl (by omega) (by omega) (fun w368 hS8 _ => ?_)
  exact ⟨af (by omega), af (by omega), ⟨x + 1, z - 1, _, by omega, by omega, hP2.swap (by omega) (hx (by omega)) (hz (by omega)) (by omega), hS8, hloc.trans (Loc.swap ⟨by omega, by omega⟩ ⟨by omega, by omega⟩ (by omega))⟩, by dsimp only; omega⟩
 ·rintro j369 w370 ⟨x', y', L2, rfl, hP4, hlt, hS5, hloc⟩
  intros
  have hbd4 := hP4.bd
  have hl2 := hloc.len
  refine cC hS5 (mi := y') (mj := a) rfl rfl (by omega) (by omega) (fun w445 hS6 _ => ?_)
  have hd := hP4.done hlt (by omega)
  exact ⟨y', false, _, rfl, by omega, hS6, hloc.trans (Loc.swap ⟨by omega, by omega⟩ ⟨by omega, by omega⟩ (by omega)), hd.1, hd.2⟩
end Go.D

