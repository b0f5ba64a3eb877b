/-
  WHAT IS PROVED: contracts of functions, and the plain law, for this proof. No further conditions.
-/
import Derived.Test.YtnbddjghhmbmcaaGreatDoorAll1
import Derived.Test.YtnbddjghhmbmcaaGreatDoorVCunit
import Derived.Test.YtnbddjghhmbmcaaGreatDoorMapI
import Derived.Test.YtnbddjghhmbmcaaGreatDoorSub
import Derived.Test.YtnbddjghhmbmcaaGreatDoorRd
import Derived.Test.YtnbddjghhmbmcaaGreatDoorVCpack
import Derived.Test.YtnbddjghhmbmcaaGreatDoorObjM
set_option linter.unusedVariables false
set_option linter.unusedSimpArgs false
namespace Go.D
open Go Go.Proofs
theorem ue (s : Slc) (B : List UInt8) (n lr b1 b2 : Nat) (J : Nat -> World -> Prop) (X : World -> Prop) (hn : 0 < n) (hnl : n <= 2 ^ 20) (hl : B.length <= 2 ^ 30) (hsc : s.l <= s.c)
  (hJ : ∀ k w, J k w -> w.cell? ⟨b1, 0, none⟩ = some s.v /\ w.cell? ⟨b2, 0, none⟩ = some (.int .i64 (n : Int)) /\ aq w s B)
  (hd : ∀ k w, J k w -> J k w.drew)
  (hstep : ∀ k (hk : k * n < B.length) (w : World) (sd : Slc), J k w -> aq w sd (ey B n k) ->
   gy Tryz.prog lr ⟨[sd.v]⟩ w fun e w' => (e = .returned (.bool true) /\ J (k + 1) w') \/ (e = .returned (.bool false) /\ X w'))
  (w : World) (h0 : J 0 w) :
  Calls Tryz.prog bG ⟨[.func (.yield lr) ⟨[]⟩ ⟨[]⟩, aw b1, aw b2]⟩ w fun e w' => e = .returned (.tuple #[]) /\ ((∃ k, B.length <= k * n /\ (k = 0 \/ (k - 1) * n < B.length) /\ J k w') \/ X w') := by
 refine kC _ _ _ ?_
 unfold ia
 refine ⟨fun i w2 => ∃ k : Nat, i = ((k * n : Nat) : Int) /\ (k = 0 \/ (k - 1) * n < B.length) /\ J k w2, fun i _ => ((B.length : Int) - i).toNat, ⟨0, by simp, .inl rfl, h0⟩, ?_⟩
 rintro i w7 ⟨k, rfl, hk, h7⟩
 intros
 obtain ⟨hc1, hc2, hB⟩ := hJ _ _ h7
 have hsl := hB.1
 have h7d := hd _ _ h7
 obtain ⟨hd1, hd2, hBd⟩ := hJ _ _ h7d
 refine aa rfl ⟨s, hc1, af (fun h1 => ?_) (fun h1 => ⟨rfl, .inl ⟨k, by omega, hk, h7⟩⟩)⟩
 have hkl : k * n < B.length := by omega
 have hknn : (k + 1) * n = k * n + n := by rw [Nat.add_mul, Nat.one_mul]
 have hsubl : (Slc.sub s 1 (Int.toNat ((k * n : Nat) : Int)) s.l s.c).l = s.l - k * n := by simp only [Slc.sub]; omega
 obtain ⟨m, hm⟩ : ∃ m : Nat, (m : Int) = if ((s.l - k * n : Nat) : Int) < (n : Int) then ((s.l - k * n : Nat) : Int) else (n : Int) := by split; exact ⟨_, rfl⟩; exact ⟨_, rfl⟩
 have hmn : m = min n (B.length - k * n) := by split at hm <;> omega
 refine aa rfl ⟨_, hd2, aa rfl ⟨s, hd1, by omega, by omega, by omega, by omega, aa rfl ⟨s, hd1, ?_⟩⟩⟩
 rw [hsubl, <- hm]
 refine ⟨ar (by omega), ar (by omega), by omega, by omega, by omega, by omega, ?_⟩
 have e1 : Int.toNat ((k * n : Nat) : Int) = k * n := by omega
 have e2 : Int.toNat (((k * n : Nat) : Int) + (m : Int)) = k * n + m := by omega
 rw [e1, e2]
 have hsd : aq w7.drew (Slc.sub s 1 (k * n) (k * n + m) (k * n + m)) (ey B n k) := by
  have := fM hBd (lo := k * n) (hi := k * n + m) (c := k * n + m) (by omega) (by omega) (by omega)
  have e3 : ey B n k = (B.take (k * n + m)).drop (k * n) := by
   unfold ey
   rw [List.drop_take, show k * n + m - k * n = m by omega]
   by_cases hmm : m = n
   ·rw [hmm]
   ·rw [List.take_of_length_le (by simp; omega), List.take_of_length_le (by simp; omega)]
  rw [e3]; exact this
 refine (hstep k hkl _ _ h7d hsd).mono ?_
 rintro e w45 (⟨rfl, h45⟩ | ⟨rfl, h45⟩)
 ·obtain ⟨hf1, hf2, _⟩ := hJ _ _ h45
  refine ⟨true, rfl, ai (fun h => by cases h) (fun _ => aa rfl ⟨_, hf2, ar (by omega), ⟨k + 1, by omega, .inr (by rw [Nat.add_sub_cancel]; exact hkl), h45⟩, by first | (dsimp only; omega) | omega⟩)⟩
 ·exact ⟨false, rfl, ai (fun _ => ⟨rfl, .inr h45⟩) (fun h => by cases h)⟩
def At (b : List UInt8) (j : Nat) : List UInt8 := ey b 64 j ++ List.replicate (64 - (ey b 64 j).length) 0
theorem qc (b : List UInt8) (j : Nat) : (ey b 64 j).length = min 64 (b.length - j * 64) := by simp [ey]
theorem xg (b : List UInt8) (j : Nat) : (At b j).length = 64 := by
 unfold At
 rw [List.length_append, List.length_replicate, qc]; omega
def om (b : List UInt8) (j : Nat) : List UInt8 := if j < bu b.length then At b j else ie
theorem th (b : List UInt8) (j : Nat) : (om b j).length = 64 := by
 unfold om; split
 ·exact xg b j
 ·rfl
theorem BA {T : Nat -> List UInt8} {b : List UInt8} {at_ : Nat} (h : ∀ j, j < bu b.length -> T (at_ + j) = At b j) : (pY T at_ (bu b.length)).take b.length = b := by
 have key : ∀ n, n <= bu b.length -> (pY T at_ n).take b.length = b.take (n * 64) /\ (pY T at_ n).length = n * 64 := by
  intro n
  induction n with
  | zero => intro _; simp [pY]
  | succ n ih =>
   intro hn
   obtain ⟨h1, h2⟩ := ih (by omega)
   have hb : n * 64 < b.length := by unfold bu at hn; omega
   rw [kg, h n (by omega)]
   refine ⟨?_, by rw [List.length_append, h2, xg]; omega⟩
   rw [List.take_append, h1, h2, show (n + 1) * 64 = n * 64 + 64 by omega, List.take_add]
   congr 1
   unfold At
   have hcl := qc b n
   rw [List.take_append]
   have e1 : (ey b 64 n).take (b.length - n * 64) = ey b 64 n := List.take_of_length_le (by omega)
   rw [e1]
   by_cases h3 : b.length - n * 64 <= 64
   ·rw [show b.length - n * 64 - (ey b 64 n).length = 0 by omega, List.take_zero, List.append_nil]
    rfl
   ·rw [show 64 - (ey b 64 n).length = 0 by omega]
    simp [ey]
 have := (key (bu b.length) (Nat.le_refl _)).1
 rw [this, List.take_of_length_le (by unfold bu; omega)]
section
variable {k : Nat} {L M : List aE} {g : aE} {img : List UInt8}
theorem CK {aC : List Wr} (hk : 64 * k <= img.length / 64) (h : bO (aN img) k L) (hg : g ∈ L) {f : Nat -> List UInt8} (hfl : ∀ j, (f j).length = 64) {c : Nat} (hc : g.fin + 1 + c <= 64) (hpe : aC = wrL (64 * g.place + g.fin + 1) f c) (kept torn cut : Int) :
  bO (aN (crashL kept torn cut 0 aC img)) k L := by
 subst hpe
 have hpl := h.pl g hg
 have q2 : ∀ x ∈ wrL (64 * g.place + g.fin + 1) f c, 0 <= x.1 /\ x.1 < ((img.length / 64 : Nat) : Int) /\ x.2.length = 64 := by
  intro x hx
  obtain ⟨m, hm, rfl⟩ := mG hx
  exact ⟨by simp only; omega, by simp only; omega, hfl m⟩
 have q3 : ∀ x ∈ wrL (64 * g.place + g.fin + 1) f c, ∀ c', c' <= 64 -> ∀ s : List UInt8, s.length = 64 -> (¬ (64 * g.place + g.fin < x.1.toNat /\ x.1.toNat < 64 * g.place + 64) -> s = aN img x.1.toNat) ->
   (¬ (64 * g.place + g.fin < x.1.toNat /\ x.1.toNat < 64 * g.place + 64) -> x.2.take c' ++ s.drop c' = aN img x.1.toNat) := by
  intro x hx c' hc' s hs hq hno
  obtain ⟨m, hm, rfl⟩ := mG hx
  exfalso
  apply hno
  simp only [Int.toNat_natCast]; omega
 obtain ⟨_, gg⟩ := pW (Q := fun i s => ¬ (64 * g.place + g.fin < i /\ i < 64 * g.place + 64) -> s = aN img i) (n := img.length / 64) kept torn cut _ 0 img rfl (fun i _ _ => rfl) q2 q3
 refine h.tail hg (fun i hi hno => gg i (by omega) (by omega)) (fun hf => ?_)
 rw [gg _ (by omega) (by omega)]
 exact jx (h.on g hg).2 hf
theorem Au {f : Nat -> List UInt8} (hfl : ∀ j, (f j).length = 64) {base c : Nat} (hb : base + c <= img.length / 64) :
  (applyL (wrL base f c) img).length / 64 = img.length / 64 /\ ∀ i, i < img.length / 64 -> aN (applyL (wrL base f c) img) i = if base <= i /\ i < base + c then f (i - base) else aN img i := by
 obtain ⟨g1, g2⟩ := pX (n := img.length / 64) (wrL base f c) img rfl (fun x hx => by
  obtain ⟨m, hm, rfl⟩ := mG hx
  exact ⟨by simp only; omega, by simp only; omega, hfl m⟩)
 refine ⟨g1, fun i hi => ?_⟩
 rw [g2 i hi, tg]
 split <;> rfl
def iQ (e n : Nat) : Nat := if e + 1 + bu n < 64 then bu n + 1 else bu n
theorem zF {S : Nat -> List UInt8} {b : List UInt8} (h : bO (aN img) k (M ++ [g])) (hb0 : 0 < b.length) (hfit : g.fin + cS b.length <= 64)
  (hS : ∀ i, i < 64 * k -> S i = if i = 64 * g.place + g.fin then dM b.length 1 else if 64 * g.place + g.fin + 1 <= i /\ i < 64 * g.place + g.fin + 1 + iQ g.fin b.length then om b (i - (64 * g.place + g.fin + 1)) else aN img i) :
  bO S k (M ++ [{ g with cc := g.cc ++ [b] }]) := by
 have hg : g ∈ M ++ [g] := by simp
 have hpl := h.pl g hg
 have hn : cS b.length = 1 + bu b.length := rfl
 have hcn : g.fin + 1 + iQ g.fin b.length <= 64 := by unfold iQ; split <;> omega
 refine h.add (fun i hi hno => ?_) ⟨hfit, hb0, ?_, ?_, fun hlt => ?_⟩
 ·rw [hS i hi, if_neg (by omega), if_neg (by omega)]
 ·show S (64 * g.place + g.fin) = _
  rw [hS _ (by omega), if_pos rfl]
 ·refine BA (fun j hj => ?_)
  have hcs : bu b.length <= iQ g.fin b.length := by unfold iQ; split <;> omega
  show S (64 * g.place + (g.fin + 1 + j)) = _
  rw [hS _ (by omega), if_neg (by omega), if_pos (by omega)]
  unfold om
  rw [show 64 * g.place + (g.fin + 1 + j) - (64 * g.place + g.fin + 1) = j by omega, if_pos hj]
 ·have hcs : iQ g.fin b.length = bu b.length + 1 := by unfold iQ; rw [if_pos (by omega)]
  show mkS (S (64 * g.place + (g.fin + cS b.length))) ≠ 1
  rw [hS _ (by omega), if_neg (by omega), if_pos (by omega)]
  unfold om
  rw [if_neg (by omega), mc]; decide
theorem CL {S : Nat -> List UInt8} {b : List UInt8} (h : bO (aN img) k (M ++ [g])) (hfit : g.fin + cS b.length <= 64)
  (hS : ∀ i, i < 64 * k -> i ≠ 64 * g.place + g.fin -> S i = if 64 * g.place + g.fin + 1 <= i /\ i < 64 * g.place + g.fin + 1 + iQ g.fin b.length then om b (i - (64 * g.place + g.fin + 1)) else aN img i) (hm : mkS (S (64 * g.place + g.fin)) ≠ 1) :
  bO S k (M ++ [g]) := by
 have hg : g ∈ M ++ [g] := by simp
 have hpl := h.pl g hg
 have hn : cS b.length = 1 + bu b.length := rfl
 have hcn : g.fin + 1 + iQ g.fin b.length <= 64 := by unfold iQ; split <;> omega
 refine h.tail hg (fun i hi hno => ?_) (fun _ => hm)
 rw [hS i hi (by omega), if_neg (by omega)]
end
def gr (L : List aE) (n : Nat) : Bool := match L.getLast? with | none => false | some g => decide (g.fin + cS n <= 64)
def ki (k : Nat) (L : List aE) (n : Nat) : Option (List aE) := if gr L n then some L else (eC k L).map fun p => mj p L
def addRec : List aE -> List UInt8 -> List aE
 | [], _ => []
 | [g], b => [{ g with cc := g.cc ++ [b] }]
 | g :: h :: L, b => g :: addRec (h :: L) b
theorem jA (M : List aE) (g : aE) (b : List UInt8) : addRec (M ++ [g]) b = M ++ [{ g with cc := g.cc ++ [b] }] := by
 induction M with
 | nil => rfl
 | cons a M ih =>
  cases M with
  | nil => rfl
  | cons c M => simp only [List.cons_append, addRec] at ih ⊢; rw [ih]
def kJ (k : Nat) (L : List aE) (b : List UInt8) : Option Nat × Int × List aE :=
 if b.length = 0 \/ 3968 < b.length then (some 3, 0, L)
 else match ki k L b.length with
  | none => (some 12, 0, L)
  | some L0 => (none, lastN L0, addRec L0 b)
theorem oq (M : List aE) (g : aE) : lastN (M ++ [g]) = g.num := by unfold lastN; simp
theorem tj (M : List aE) (g : aE) (n : Nat) : gr (M ++ [g]) n = decide (g.fin + cS n <= 64) := by unfold gr; simp
theorem pr {w : World} {r5 r7 : Nat} {v5 v7 : Value} (h5 : ao w r5 [v5]) (h7 : ao w r7 [v7]) (hne : r5 ≠ r7) (A : Nat -> Addr) (e' : Option Nat) {X : World -> Prop}
  (hX : ∀ w4, ao w4 r5 [.int .i64 0] -> ao w4 r7 [errO A e'] -> Ext (fun k => k = r5 \/ k = r7) w w4 -> X w4) :
  aJ w (⟨r5, 0, none⟩ : Addr) 1 /\ ∀ w40 : World, w40 = w.setCell (⟨r5, 0, none⟩ : Addr) (.int .i64 0) -> oneK (errO A e') (oneK (errO A e') (aJ w40 (⟨r7, 0, none⟩ : Addr) 1 /\ ∀ w41 : World, w41 = w40.setCell (⟨r7, 0, none⟩ : Addr) (errO A e') -> X w41)) := by
 obtain ⟨c1, c2⟩ := h5.bf 0 (by simp) (.int .i64 0)
 refine ⟨c1, fun w40 hw => oX A _ _ (oX A _ _ ?_)⟩
 obtain ⟨g1, g2, g3⟩ := c2 w40 hw
 obtain ⟨c3, c4⟩ := (h7.ext g2 (fun hh => hne hh.symm)).bf 0 (by simp) (errO A e')
 refine ⟨c3, fun w41 hw2 => ?_⟩
 obtain ⟨g4, g5, g6⟩ := c4 w41 hw2
 exact hX w41 (g1.ext g5 (fun hh => hne hh)) g4 ((g2.mono (fun k hk => .inl hk)).trans g5 (fun _ h => h) (fun k hk => .inl (.inr hk)))
end Go.D
namespace Go.D
open Go Go.Proofs
def mH (A : Nat -> Addr) (w : World) (n0 r rd : Nat) (u : StP) (q : bV) (d : aF) (L : List aE) (m : Nat) (b : List UInt8) (n : Int) (e' : Option Nat) (w' : World) : Prop :=
  ∃ (q' : bV) (d' : aF), aG w' rd q' d' /\ d'.n = d.n /\ d'.stops = d.stops /\
    ((kJ (d.n / 64) L b).1 ≠ none /\ e' = (kJ (d.n / 64) L b).1 /\ n = 0 /\ q' = q /\ d' = d /\ aj w w' \/
     (kJ (d.n / 64) L b).1 = none /\ e' = none /\ n = (kJ (d.n / 64) L b).2.1 /\ (∃ u', Sys w' n0 r rd u' q' d' (kJ (d.n / 64) L b).2.2 (m + 1) /\ bj (bT r u rd q) (bT r u' rd q') w w') \/
     (kJ (d.n / 64) L b).1 = none /\ e' = some 11 /\ d.stops = true /\ po d' (d.n / 64) [L, (ki (d.n / 64) L b.length).getD L, (kJ (d.n / 64) L b).2.2] /\ bj (bT r u rd q) (aY rd q') w w')
def BB (w8 : World) (n0 r rd : Nat) (u : StP) (q : bV) (d : aF) (L : List aE) (m : Nat) (b : List UInt8) (w2 : World) : Prop :=
 ∃ (M : List aE) (g : aE) (u2 : StP) (q2 : bV) (d2 : aF), ki (d.n / 64) L b.length = some (M ++ [g]) /\ g.fin + cS b.length <= 64 /\ Sys w2 n0 r rd u2 q2 d2 (M ++ [g]) (m + 1) /\ bj (bT r u rd q) (bT r u2 rd q2) w8 w2 /\ d2.n = d.n /\ d2.stops = d.stops
theorem xh {A : Nat -> Addr} {w w8 w2 : World} {n0 r rd m r5 r7 : Nat} {u : StP} {q : bV} {d : aF} {L : List aE} {b : List UInt8} {K : Value -> World -> Prop} (h : Sys w n0 r rd u q d L m) (hE : bn tf A n0 w) (hm : m <= 2 ^ 60)
  (hK : ∀ n e' w', mH A w n0 r rd u q d L m b n e' w' -> K (.tuple ⟨[.int .i64 n, errO A e']⟩) w') (hb0 : 0 < b.length) (hb1 : b.length <= 3968) (k8 : aj w w8) (o5 : ao w8 r5 [.int .i64 0]) (o7 : ao w8 r7 [.nilIface]) (h57 : r5 ≠ r7) (h5 : w.heap.size <= r5) (h7 : w.heap.size <= r7)
  (k2 : aj w8 w2) (hnf : gr L b.length = false) :
  Calls Tryz.prog cz ⟨[aw r]⟩ w2 fun e37 w38 => ∃ e39 : Value, e37 = .returned e39 /\ isI e39 /\
   BIf (!isNilI e39) (aJ w38 (⟨r5, 0, none⟩ : Addr) 1 /\ ∀ w40 : World, w40 = World.setCell w38 (⟨r5, 0, none⟩ : Addr) (Value.int .i64 (0 : Int)) ->
    oneK e39 (oneK e39 (aJ w40 (⟨r7, 0, none⟩ : Addr) 1 /\ ∀ w41 : World, w41 = World.setCell w40 (⟨r7, 0, none⟩ : Addr) e39 ->
     ∃ n42 : Int, World.cell? w41 (⟨r5, 0, none⟩ : Addr) = some (Value.int .i64 n42) /\ ∃ v43 : Value, World.cell? w41 (⟨r7, 0, none⟩ : Addr) = some v43 /\ K (Value.tuple ⟨[(Value.int .i64 n42), v43]⟩) w41)))
   (BB w8 n0 r rd u q d L m b w38) := by
 have k2' := k8.trans k2
 have z2 := k2'.size
 have z8 := k8.size
 have hbase : ki (d.n / 64) L b.length = (eC (d.n / 64) L).map fun p => mj p L := by unfold ki; rw [hnf]; rfl
 have happ : kJ (d.n / 64) L b = match ki (d.n / 64) L b.length with | none => (some 12, 0, L) | some L0 => (none, lastN L0, addRec L0 b) := by unfold kJ; rw [if_neg (by omega)]; try rfl
 have h5l := o5.lt
 have h7l := o7.lt
 refine (yF A (h.ae k2') (hE.ae k2') hm).mono ?_
 rintro e w38 ⟨e', q', d', rfl, hD', hn', hst', hcase⟩
 refine ⟨_, rfl, aB A _, ai (fun h0 => ?_) (fun h0 => ?_)⟩
 ·rcases hcase with ⟨rfl, hf, rfl, rfl, k38⟩ | ⟨rfl, _⟩ | ⟨rfl, hs, p, hf, hcr, ft⟩
  ·have e1 : kJ (d'.n / 64) L b = (some 12, 0, L) := by rw [happ, hbase, hf]; rfl
   refine pr ((o5.ae k2).ae k38) ((o7.ae k2).ae k38) h57 A _ (fun w4 g5 g7 x4 => ⟨(0 : Int), g5.cell 0 (by simp), errO A (some 12), g7.cell 0 (by simp), hK 0 (some 12) w4 ?_⟩)
   refine ⟨q', d', hD'.ext x4 (fun k hk hh => ?_), rfl, rfl, .inl ⟨by rw [e1]; simp, by rw [e1], rfl, rfl, rfl, (k2'.trans k38).ext x4 (fun k hk => by omega)⟩⟩
   have := h.B.D.lt k hk
   omega
  ·cases h0
  ·have e1 : kJ (d.n / 64) L b = (none, lastN (mj p L), addRec (mj p L) b) := by rw [happ, hbase, hf]; rfl
   have e2 : ki (d.n / 64) L b.length = some (mj p L) := by rw [hbase, hf]; rfl
   have hsb : ∀ k, bT r u rd q k -> k < w.heap.size := h.B.lt
   have ne5 : ¬ bT r u rd q r5 := fun hh => by have := hsb _ hh; omega
   have ne7 : ¬ bT r u rd q r7 := fun hh => by have := hsb _ hh; omega
   have zz := ft.1.size
   refine pr ((o5.ae k2).ext ft.1 ne5) ((o7.ae k2).ext ft.1 ne7) h57 A _ (fun w4 g5 g7 x4 => ⟨(0 : Int), g5.cell 0 (by simp), errO A (some 11), g7.cell 0 (by simp), hK 0 (some 11) w4 ?_⟩)
   have k28 := k2.size
   refine ⟨q', d', hD'.ext x4 (fun k hk hh => ?_), hn', hst', .inr (.inr ⟨by rw [e1], rfl, hs, ?_, ?_, ?_⟩)⟩
   ·rcases ft.2 k hk with h2 | h2
    ·have := hsb k h2; omega
    ·omega
   ·rw [e1, e2]
    exact hcr.mono (fun L' hL' => by simp at hL' ⊢; rcases hL' with rfl | rfl <;> simp)
   ·exact ((k2'.iU ft).1.trans x4 (fun _ h => h) (fun k hk => .inr (by omega)))
   ·exact fun k hk => (k2'.iU ft).2 k hk
 ·rcases hcase with ⟨rfl, _⟩ | ⟨rfl, p, u', hf, hS', ft⟩ | ⟨rfl, _⟩
  ·cases h0
  ·refine ⟨L, ⟨p, fQ L, []⟩, u', q', d', by rw [hbase, hf]; rfl, ?_, hS', ?_, hn', hst'⟩
   ·unfold aE.fin cS bu sumN; omega
   ·exact k2.iU ft
  ·cases h0
end Go.D
namespace Go.D
open Go Go.Proofs
structure iW (wb w2 : World) (rd r113 lr D : Nat) (q0 : bV) (d0 : aF) (q2 : bV) (d2 : aF) (a : Int) : Prop where
 dv : aG w2 rd q2 d2
 im : d2.img = d0.img
 st : d2.stops = d0.stops
 nb : ∀ k, aY rd q2 k -> aY rd q0 k \/ wb.heap.size <= k
 e : Ext (fun k => aY rd q0 k \/ k = r113 \/ k = lr) wb w2
 o : ao w2 r113 [.int .i64 a]
 h : w2.heap[D]? = some (.deferred (some []))
structure ApF (wb : World) (rd r113 lr D : Nat) (q0 : bV) : Prop where
 a : r113 < wb.heap.size /\ lr < wb.heap.size /\ D < wb.heap.size
 b : ¬ aY rd q0 r113 /\ ¬ aY rd q0 lr /\ ¬ aY rd q0 D
 c : r113 ≠ lr /\ D ≠ lr /\ D ≠ r113
section
variable {wb w2 w3 w4 : World} {rd r113 lr D : Nat} {q0 q2 q3 : bV} {d0 d2 d3 : aF} {a : Int}
theorem iW.not (hF : ApF wb rd r113 lr D q0) (h : iW wb w2 rd r113 lr D q0 d0 q2 d2 a) : ¬ aY rd q2 r113 /\ ¬ aY rd q2 lr /\ ¬ aY rd q2 D := by
 obtain ⟨a1, a2, a3⟩ := hF.a
 refine ⟨fun hh => ?_, fun hh => ?_, fun hh => ?_⟩
 ·rcases h.nb _ hh with g | g
  ·exact hF.b.1 g
  ·omega
 ·rcases h.nb _ hh with g | g
  ·exact hF.b.2.1 g
  ·omega
 ·rcases h.nb _ hh with g | g
  ·exact hF.b.2.2 g
  ·omega
theorem iW.ae (h : iW wb w2 rd r113 lr D q0 d0 q2 d2 a) (hk : aj w2 w3) : iW wb w3 rd r113 lr D q0 d0 q2 d2 a :=
 ⟨h.dv.ae hk, h.im, h.st, h.nb, h.e.trans hk (fun _ h => h) (fun _ h => h.elim), h.o.ae hk, hk.heap h.h⟩
theorem iW.dev (hF : ApF wb rd r113 lr D q0) (h : iW wb w2 rd r113 lr D q0 d0 q2 d2 a) (hd : aG w3 rd q3 d3) (hf : bj (aY rd q2) (aY rd q3) w2 w3) (hi : d3.img = d2.img) (hs : d3.stops = d2.stops) : iW wb w3 rd r113 lr D q0 d0 q3 d3 a := by
 obtain ⟨n1, n2, n3⟩ := h.not hF
 have z := h.e.size
 exact ⟨hd, by rw [hi, h.im], by rw [hs, h.st], fun k hk => (hf.2 k hk).elim (h.nb k) (fun h2 => .inr (by omega)), h.e.trans hf.1 (fun _ h => h) (fun k hk => (h.nb k hk).elim (fun h2 => .inl (.inl h2)) (fun h2 => .inr h2)),
  h.o.ext hf.1 n1, hf.1.heap h.h n3⟩
theorem iW.DR (hF : ApF wb rd r113 lr D q0) (h : iW wb w2 rd r113 lr D q0 d0 q2 d2 a) (hd : aG w3 rd q3 d3) (hf : bj (aY rd q2) (aY rd q3) w2 w3) : iW wb w3 rd r113 lr D q0 d3 q3 d3 a := by
 obtain ⟨n1, n2, n3⟩ := h.not hF
 have z := h.e.size
 exact ⟨hd, rfl, rfl, fun k hk => (hf.2 k hk).elim (h.nb k) (fun h2 => .inr (by omega)), h.e.trans hf.1 (fun _ h => h) (fun k hk => (h.nb k hk).elim (fun h2 => .inl (.inl h2)) (fun h2 => .inr h2)),
  h.o.ext hf.1 n1, hf.1.heap h.h n3⟩
theorem iW.put (hF : ApF wb rd r113 lr D q0) (h : iW wb w2 rd r113 lr D q0 d0 q2 d2 a) {o : Obj} (hw : w3 = w2.putObj lr o) : iW wb w3 rd r113 lr D q0 d0 q2 d2 a := by
 obtain ⟨n1, n2, n3⟩ := h.not hF
 have e3 : Ext (fun j => j = lr) w2 w3 := by rw [hw]; exact Ext.putObj _ _ _
 exact ⟨h.dv.ext e3 (fun k hk hh => n2 (hh ▸ hk)), h.im, h.st, h.nb, h.e.trans e3 (fun _ h => h) (fun k hk => .inl (.inr (.inr hk))), h.o.ext e3 (fun hh => hF.c.1 hh), e3.heap h.h (fun hh => hF.c.2.1 hh)⟩
theorem iW.set (hF : ApF wb rd r113 lr D q0) (h : iW wb w2 rd r113 lr D q0 d0 q2 d2 a) (v : Int) :
  aJ w2 (⟨r113, 0, none⟩ : Addr) 1 /\ ∀ w3 : World, w3 = w2.setCell (⟨r113, 0, none⟩ : Addr) (.int .i64 v) -> iW wb w3 rd r113 lr D q0 d0 q2 d2 v /\ Ext (fun k => k = r113) w2 w3 := by
 obtain ⟨n1, n2, n3⟩ := h.not hF
 obtain ⟨c1, c2⟩ := h.o.bf 0 (by simp) (.int .i64 v)
 refine ⟨c1, fun w3 hw => ?_⟩
 obtain ⟨g1, g2, g3⟩ := c2 w3 hw
 exact ⟨⟨h.dv.ext g2 (fun k hk hh => n1 (by rw [<- show k = r113 from hh]; exact hk)), h.im, h.st, h.nb, h.e.trans g2 (fun _ h => h) (fun k hk => .inl (.inr (.inl hk))), g1, g2.heap h.h (fun hh => hF.c.2.2 hh)⟩, g2⟩
end
theorem de.upd {w w' : World} {r rd : Nat} {u : StP} {M : List aE} {g g' : aE} {x' : pZ} (h : de w r rd u (M ++ [g])) {x : pZ} (hxi : M.length < u.xs.length) (hxe : u.xs[M.length] = x) (he : Ext (fH x) w w') (hx : eB w' x' g') (hB : ∀ k, fH x' k -> fH x k \/ w.heap.size <= k) (ho : x'.o = x.o) :
  de w' r rd ⟨u.sp, u.xs.take M.length ++ [x']⟩ (M ++ [g']) /\ ∀ k, StB r ⟨u.sp, u.xs.take M.length ++ [x']⟩ k -> StB r u k \/ w.heap.size <= k := by
 have hlen := h.len
 rw [List.length_append, List.length_singleton] at hlen
 have hxs : u.xs = u.xs.take M.length ++ [x] := by
  conv => lhs; rw [<- List.take_append_drop M.length u.xs, List.drop_eq_getElem_cons hxi, hxe]
  rw [List.drop_of_length_le (by omega)]
 have hxm : x ∈ u.xs := by rw [<- hxe]; exact List.getElem_mem hxi
 have hds := h.ds x hxm
 have hsep := h.sep
 rw [hxs] at hsep
 obtain ⟨p1, _, p3⟩ := List.pairwise_append.1 hsep
 have lt := h.lt
 have hlen2 : (u.xs.take M.length).length = M.length := by rw [List.length_take]; omega
 have hym : ∀ y ∈ u.xs.take M.length, y ∈ u.xs := fun y hy => List.mem_of_mem_take hy
 have hx'd : ∀ k, fH x' k -> k ≠ r /\ ¬ ah u.sp k := fun k hk => by
  rcases hB k hk with h1 | h1
  ·exact hds k h1
  ·exact ⟨fun hh => by have := lt r (.inl rfl); omega, fun hh => by have := lt k (.inr (.inl hh)); omega⟩
 refine ⟨⟨h.o.ext he (fun hh => (hds r hh).1 rfl), ?_, by simp [hlen2], fun i hi hi' => ?_, ?_, h.sr, ?_⟩, ?_⟩
 ·have h1 := h.s.ext he (fun k hk hh => (hds k hh).2 hk)
  have h2 : u.xs.map (fun x => aw x.o) = (u.xs.take M.length ++ [x']).map fun x => aw x.o := by
   conv => lhs; rw [hxs]
   rw [List.map_append, List.map_append, List.map_singleton, List.map_singleton, ho]
  rw [h2] at h1
  exact h1
 ·by_cases hik : i < M.length
  ·have e1 : (u.xs.take M.length ++ [x'])[i]'hi = u.xs[i]'(by omega) := by
    rw [List.getElem_append_left (by omega), List.getElem_take]
   have e2 : (M ++ [g'])[i]'hi' = M[i] := List.getElem_append_left hik
   have h1 := h.g i (by omega) (by simp; omega)
   rw [List.getElem_append_left hik] at h1
   simp only [e1, e2]
   refine h1.ext he (fun k hk hh => ?_)
   have h5 : u.xs[i]'(by omega) ∈ u.xs.take M.length := by
    rw [List.mem_take_iff_getElem]
    exact ⟨i, by omega, rfl⟩
   exact p3 _ h5 x (by simp) k hk hh
  ·have hie : i = M.length := by
    have : (M ++ [g']).length = M.length + 1 := by simp
    omega
   subst hie
   have e1 : (u.xs.take M.length ++ [x'])[M.length]'hi = x' := by
    rw [List.getElem_append_right (by omega)]
    simp [hlen2]
   have e2 : (M ++ [g'])[M.length]'hi' = g' := by simp
   simp only [e1, e2]
   exact hx
 ·refine List.pairwise_append.2 ⟨p1, List.pairwise_singleton _ _, fun y hy z hz k hk hh => ?_⟩
  rw [List.mem_singleton] at hz; subst hz
  rcases hB k hh with h1 | h1
  ·exact p3 y hy x (by simp) k hk h1
  ·have := lt k (.inr (.inr ⟨y, hym y hy, hk⟩)); omega
 ·intro y hy k hk
  rcases List.mem_append.1 hy with h1 | h1
  ·exact h.ds y (hym y h1) k hk
  ·rw [List.mem_singleton] at h1; subst h1; exact hx'd k hk
 ·rintro k (hk | hk | ⟨y, hy, hk⟩)
  ·exact .inl (.inl hk)
  ·exact .inl (.inr (.inl hk))
  ·rcases List.mem_append.1 hy with h1 | h1
   ·exact .inl (.inr (.inr ⟨y, hym y h1, hk⟩))
   ·rw [List.mem_singleton] at h1; subst h1
    rcases hB k hk with h2 | h2
    ·exact .inl (.inr (.inr ⟨x, hxm, h2⟩))
    ·exact .inr h2
theorem xi {A : Nat -> Addr} {w : World} {n0 r rd m : Nat} {u : StP} {q : bV} {d : aF} {L : List aE} {b : List UInt8} {s : Slc} {K : Value -> World -> Prop} (h : Sys w n0 r rd u q d L m) (hE : bn tf A n0 w) (hm : m <= 2 ^ 60)
  (hb : aq w s b) (hsc : s.l <= s.c) (hbl : b.length <= 2 ^ 20) (hbs : 0 < s.l -> ∀ k, ah s k -> ¬ bT r u rd q k)
  (hK : ∀ n e' w', mH A w n0 r rd u q d L m b n e' w' -> K (.tuple ⟨[.int .i64 n, errO A e']⟩) w') : gh (some ⟨r, 0, none⟩) s w K := by
 unfold gh
 refine ak (fun r3 w4 hr3 hb3 k3 hs3 => ak (fun r5 w6 hr5 hb5 k5 hs5 => ak (fun r7 w8 hr7 hb7 k7 hs7 => ?_)))
 have k8 : aj w w8 := (k3.trans k5).trans k7
 have o3 : ao w8 r3 [aw r] := ((ao.eV hb3).ae k5).ae k7
 have o5 : ao w8 r5 [.int .i64 0] := (ao.eV hb5).ae k7
 have o7 : ao w8 r7 [.nilIface] := ao.eV hb7
 have hsl := hb.1
 have kd8 : aj w8 (World.drew w8) := Ext.drew _ _
 have hsys := h.B.lt
 have formE : b.length = 0 \/ 3968 < b.length -> ∃ v10 : Value, World.cell? (World.drew w8) (⟨aD, 0, none⟩ : Addr) = some v10 /\
   aJ (World.drew w8) (⟨r5, 0, none⟩ : Addr) 1 /\ ∀ w11 : World, w11 = World.setCell (World.drew w8) (⟨r5, 0, none⟩ : Addr) (Value.int .i64 (0 : Int)) ->
   (∃ v12 : Value, World.cell? w11 (⟨aD, 0, none⟩ : Addr) = some v12 /\ v12 = v10) /\
   oneK v10 (oneK v10 (aJ w11 (⟨r7, 0, none⟩ : Addr) 1 /\ ∀ w13 : World, w13 = World.setCell w11 (⟨r7, 0, none⟩ : Addr) v10 ->
   ∃ n14 : Int, World.cell? w13 (⟨r5, 0, none⟩ : Addr) = some (Value.int .i64 n14) /\ ∃ v15 : Value, World.cell? w13 (⟨r7, 0, none⟩ : Addr) = some v15 /\ K (Value.tuple ⟨[(Value.int .i64 n14), v15]⟩) w13)) := by
  intro hlen
  have hg := dx ((hE.ae k8).ae kd8) 3 aD rfl (by decide)
  have hgl := hE.lt (g := aD) (by decide)
  have hz := h.B.z
  obtain ⟨c1, c2⟩ := pr (o5.ae kd8) (o7.ae kd8) (by omega) A (some 3) (X := fun w13 => ∃ n14 : Int, World.cell? w13 (⟨r5, 0, none⟩ : Addr) = some (Value.int .i64 n14) /\ ∃ v15 : Value, World.cell? w13 (⟨r7, 0, none⟩ : Addr) = some v15 /\ K (Value.tuple ⟨[(Value.int .i64 n14), v15]⟩) w13)
   (fun w4 g5 g7 x4 => ⟨(0 : Int), g5.cell 0 (by simp), errO A (some 3), g7.cell 0 (by simp), hK 0 (some 3) w4 (by
    have e1 : kJ (d.n / 64) L b = (some 3, 0, L) := by unfold kJ; rw [if_pos hlen]
    refine ⟨q, d, (h.B.D.ae (k8.trans kd8)).ext x4 (fun k hk hh => ?_), rfl, rfl, .inl ⟨by rw [e1]; simp, by rw [e1], rfl, rfl, rfl, (k8.trans kd8).ext x4 (fun k hk => by omega)⟩⟩
    have := h.B.D.lt k hk; omega)⟩)
  refine ⟨_, hg, c1, fun w11 hw => ⟨⟨_, ?_, rfl⟩, c2 w11 hw⟩⟩
  obtain ⟨_, c4⟩ := (o5.ae kd8).bf 0 (by simp) (.int .i64 0)
  exact (c4 w11 hw).2.1.cell hg (fun hh => by have : aD = r5 := hh; omega)
 refine ⟨fun w2 => aj w8 w2 /\ 0 < b.length /\ b.length <= 3968, af (fun h0 => formE (by omega)) (fun h0 => af (fun h1 => formE (by omega)) (fun h1 => ⟨Ext.refl _ _, by omega, by omega⟩)), ?_⟩
 rintro w22 ⟨k22, hb0, hb1⟩
 intros
 have h22 := h.ae (k8.trans k22)
 have kd22 : aj w22 (World.drew w22) := Ext.drew _ _
 have hLlen := h.len
 have hk := h.k
 have hSl := h.B.S.sl
 have hnn : d.n = d.img.length / 64 := rfl
 have happ : kJ (d.n / 64) L b = match ki (d.n / 64) L b.length with | none => (some 12, 0, L) | some L0 => (none, lastN L0, addRec L0 b) := by unfold kJ; rw [if_neg (by omega)]; try rfl
 refine ⟨_, (o3.ae k22).cell 0 (by simp), aa rfl ⟨_, h22.B.S.c1, fun w2 => BB w8 n0 r rd u q d L m b w2, af (fun h2 => ?_) (fun h2 => ?_), ?_⟩⟩
 ·have hL0 : L = [] := List.length_eq_zero_iff.1 (by omega)
  refine ⟨_, ((o3.ae k22).ae kd22).cell 0 (by simp), xh h hE hm hK hb0 hb1 k8 o5 o7 (by omega) (by have := k3.size; have := k5.size; omega) (by have := k3.size; have := k5.size; omega) (k22.trans kd22) ?_⟩
  subst hL0; rfl
 ·have hd22 := h22.ae kd22
  obtain ⟨M, g, hLM⟩ : ∃ M g, L = M ++ [g] := ⟨L.dropLast, L.getLast (fun e => by rw [e] at hSl; exact h2 (by simp at hSl; omega)), (List.dropLast_concat_getLast _).symm⟩
  have hML : L.length = M.length + 1 := by rw [hLM]; simp
  obtain ⟨a, x, ha, hc, hx, _⟩ := hd22.B.S.at (i := M.length) (by omega)
  have hgx : L[M.length]'(by omega) = g := by simp [hLM]
  rw [hgx] at hx
  have e1 : Int.toNat (((u.sp.l : Nat) : Int) - 1) = M.length := by omega
  have hfin : g.fin <= 64 := (h.I.on g (by rw [hLM]; simp)).fin
  refine ⟨_, ((o3.ae k22).ae kd22).cell 0 (by simp), aa rfl ⟨_, hd22.B.S.c1, ar (by omega), aa ha ⟨by omega, by omega, _, by rw [e1]; exact hc, aa rfl ⟨_, (eO _ hx).2.2.2, ar (by omega), ?_⟩⟩⟩⟩
  rw [hsl]
  refine (jQ b.length (by omega) _).mono ?_
  rintro e w52 ⟨rfl, rfl⟩
  have hsec : bu b.length <= 62 := by unfold bu; omega
  refine ⟨_, rfl, ⟨_, (eO _ hx).2.2.2, rfl⟩, ⟨_, by rw [e1]; exact hc, rfl⟩, ⟨_, hd22.B.S.c1, rfl⟩, ⟨_, ((o3.ae k22).ae kd22).cell 0 (by simp), rfl⟩, ar (by omega), af (fun h3 => ?_) (fun h3 => ?_)⟩
  ·refine ⟨_, ((o3.ae k22).ae kd22).cell 0 (by simp), xh h hE hm hK hb0 hb1 k8 o5 o7 (by omega) (by have := k3.size; have := k5.size; omega) (by have := k3.size; have := k5.size; omega) (k22.trans kd22) ?_⟩
   rw [hLM, tj]
   exact decide_eq_false (by unfold cS; omega)
  ·have hf : gr L b.length = true := by
    rw [hLM, tj]
    exact decide_eq_true (by unfold cS; omega)
   refine ⟨M, g, u, q, d, by unfold ki; rw [hf, if_pos rfl, hLM], by unfold cS; omega, by rw [<- hLM]; exact hd22.up (by omega), ?_, rfl, rfl⟩
   exact (k22.trans kd22).iU (bj.refl _ _)
 ·rintro w66 ⟨M, g, u0, q0, d0, hbase, hfit, h66, f66, hn0, hst0⟩
  intros
  have kd66 : aj w66 (World.drew w66) := Ext.drew _ _
  have zA := k3.size
  have zB := k5.size
  have zC := k7.size
  have n3 : ¬ bT r u rd q r3 := fun hh => by have := hsys _ hh; omega
  have n5 : ¬ bT r u rd q r5 := fun hh => by have := hsys _ hh; omega
  have n7 : ¬ bT r u rd q r7 := fun hh => by have := hsys _ hh; omega
  have o3l := o3.lt
  have o5l := o5.lt
  have o7l := o7.lt
  have o3' := (o3.ext f66.1 n3).ae kd66
  have o5' := (o5.ext f66.1 n5).ae kd66
  have o7' := (o7.ext f66.1 n7).ae kd66
  have hd66 := h66.ae kd66
  have hsub : ∀ k, bT r u0 rd q0 k -> bT r u rd q k \/ w8.heap.size <= k := f66.2
  have ns : ∀ j, j < w8.heap.size -> ¬ bT r u rd q j -> ¬ bT r u0 rd q0 j := fun j h1 h2 hh => (hsub j hh).elim h2 (fun h3 => by omega)
  have hb66 : aq (World.drew w66) s b := aH (bc (aH hb k8) f66.1 hbs) kd66
  have hbl66 : 0 < s.l -> ∀ k, ah s k -> k < w8.heap.size := fun h0 k hk => gW (aH hb k8) h0 k hk
  have hbs0 : 0 < s.l -> ∀ k, ah s k -> ¬ bT r u0 rd q0 k := fun h0 k hk => ns k (hbl66 h0 k hk) (hbs h0 k hk)
  have hE66 : bn tf A n0 (World.drew w66) := ((hE.ae k8).ext f66.1 (fun k hk => hk.elim (h.B.sn k) (h.B.dn k))).ae kd66
  have hSl0 := hd66.B.S.sl
  have hML : (M ++ [g]).length = M.length + 1 := by simp
  obtain ⟨a, x, ha, hc, hx, hxi, hxe⟩ := hd66.B.S.at (i := M.length) (by omega)
  have hgx : (M ++ [g])[M.length]'(by omega) = g := by simp
  rw [hgx] at hx
  have e1 : Int.toNat (((u0.sp.l : Nat) : Int) - 1) = M.length := by omega
  have hon := h66.I.on g (by simp)
  have hfin : g.fin <= 64 := hon.fin
  have hL0len := h66.len
  have hxB : ∀ k, fH x k -> StB r u0 k := fun k hk => .inr (.inr ⟨x, by rw [<- hxe]; exact List.getElem_mem hxi, hk⟩)
  refine ⟨_, o3'.cell 0 (by simp), aa rfl ⟨_, hd66.B.S.c1, _, o3'.cell 0 (by simp), aa rfl ⟨_, hd66.B.S.c1, ar (by omega), aa ha ⟨by omega, by omega, _, by rw [e1]; exact hc, ak (fun r102 w103 hr102 hb102 k103 hs103 => ?_)⟩⟩⟩⟩
  have h103 := hd66.ae k103
  have kc := k103
  refine ⟨⟨_, by rw [e1]; exact k103.cell hc, rfl⟩, ⟨_, h103.B.S.c1, rfl⟩, ⟨_, (o3'.ae k103).cell 0 (by simp), rfl⟩, ⟨_, h103.B.S.c1, rfl⟩, ⟨_, (o3'.ae k103).cell 0 (by simp), rfl⟩, ?_⟩
  obtain ⟨c1, c2⟩ := (ao.eV hb102).bf 0 (by simp) (aw x.o)
  refine ⟨c1, fun w109 hw109 => ?_⟩
  obtain ⟨o102, e109, z109⟩ := c2 w109 hw109
  have k109 : aj (World.drew w66) w109 := k103.ext e109 (fun k hk => by omega)
  have hx109 := hx.ae k109
  refine ⟨_, o102.cell 0 (by simp), aa rfl ⟨_, (eO _ hx109).2.2.2, ar (by omega), zr (fun r113 w115 hr113 o113 k115 hs115 => ?_)⟩⟩
  have hmul : ((64 : Int)) = ((64 : Nat) : Int) := rfl
  refine (yG s 64 (by omega) w115).mono ?_
  rintro e w117 ⟨b1, b2, rfl, ob1, ob2, k117, hb1l, hb2l⟩
  refine ⟨_, rfl, bG, [], [aw b1, aw b2], rfl, by rfl, ?_⟩
  intro D lr rc wb hD hlr hwb hY
  have N := wK hD hlr hwb
  have hdl := N.dl
  have hwbs := N.s
  have hdw := N.dw
  have kb : aj (World.drew w66) wb := ((k109.trans k115).trans k117).trans N.k
  have z115 := k115.size
  have z117 := k117.size
  have z66 : (World.drew w66).heap.size = w66.heap.size := rfl
  have zf66 := f66.1.size
  have hBb := hd66.B.ae kb
  have o3b := o3'.ae kb
  have o5b := o5'.ae kb
  have o7b := o7'.ae kb
  have o102b := ((o102.ae k115).ae k117).ae N.k
  have o113b := (o113.ae k117).ae N.k
  have ob1b := ob1.ae N.k
  have ob2b := ob2.ae N.k
  have hbb : aq wb s b := aH hb66 kb
  have hEb := hE66.ae kb
  have hxb := hx.ae kb
  have hsl66 : ∀ k, bT r u0 rd q0 k -> k < w66.heap.size := h66.B.lt
  have hr102l := o102.lt
  have hr113l := o113.lt
  have hb1l2 := ob1.lt
  have hb2l2 := ob2.lt
  have nD : ∀ j, w66.heap.size <= j -> ¬ bT r u0 rd q0 j := fun j hj hh => by have := hsl66 j hh; omega
  have hF : ApF wb rd r113 lr D q0 := ⟨⟨by omega, by omega, by omega⟩, ⟨fun hh => nD r113 (by omega) (.inr hh), fun hh => nD lr (by omega) (.inr hh), fun hh => nD D (by omega) (.inr hh)⟩, by omega, by omega, by omega⟩
  have nS : ∀ k, StB r u0 k -> ¬ (aY rd q0 k \/ k = r113 \/ k = lr) := fun k hk hh => by
   have h1 := hsl66 k (.inl hk)
   rcases hh with hh | hh | hh
   ·exact h66.B.sep k hk hh
   ·omega
   ·omega
  -- what stands at a state of the writes
  have at_ : ∀ {w2 dd q2 d2 a}, iW wb w2 rd r113 lr D q0 dd q2 d2 a -> de w2 r rd u0 (M ++ [g]) /\ ao w2 r3 [aw r] /\ ao w2 r5 [.int .i64 0] /\ ao w2 r7 [.nilIface] /\ ao w2 r102 [aw x.o] /\ aq w2 s b /\ bn tf A n0 w2 /\ eB w2 x g := by
   intro w2 dd q2 d2 a hs
   have no : ∀ j, ¬ bT r u0 rd q0 j -> j ≠ r113 -> j ≠ lr -> ¬ (aY rd q0 j \/ j = r113 \/ j = lr) := fun j h1 h2 h3 hh => by
    rcases hh with hh | hh | hh
    ·exact h1 (.inr hh)
    ·exact h2 hh
    ·exact h3 hh
   refine ⟨hBb.S.ext hs.e nS, o3b.ext hs.e (no _ (ns _ o3l n3) (by omega) (by omega)), o5b.ext hs.e (no _ (ns _ o5l n5) (by omega) (by omega)), o7b.ext hs.e (no _ (ns _ o7l n7) (by omega) (by omega)),
    o102b.ext hs.e (no _ (nD _ (by omega)) (by omega) (by omega)), ?_, hEb.ext hs.e (fun k hk => ?_), hxb.ext hs.e (fun k hk => nS k (hxB k hk))⟩
   ·exact bc hbb hs.e (fun h0 k hk => no k (hbs0 h0 k hk) (by have := hbl66 h0 k hk; omega) (by have := hbl66 h0 k hk; omega))
   ·have hz := h66.B.z
    rcases hk with hk | hk | hk
    ·exact h66.B.dn k hk
    ·omega
    ·omega
  have atn : ∀ {w2 q2 d2 a}, iW wb w2 rd r113 lr D q0 d0 q2 d2 a -> d2.n = d0.n := fun hs => by unfold aF.n; rw [hs.im]
  -- the way out, when the device is down
  have down : ∀ {w' q' d'}, aG w' rd q' d' -> d'.n = d0.n -> d'.stops = d0.stops -> d0.stops = true -> po d' (d.n / 64) [M ++ [g], addRec (M ++ [g]) b] -> Ext (fun k => bT r u0 rd q0 k \/ k = r113 \/ k = lr \/ k = D \/ k = r5 \/ k = r7) wb w' -> (∀ k, aY rd q' k -> aY rd q0 k \/ wb.heap.size <= k) ->
    K (.tuple ⟨[.int .i64 0, errO A (some 11)]⟩) w' := by
   intro w' q' d' hD' hn' hs' hst hcr hext hnb
   refine hK 0 (some 11) w' ⟨q', d', hD', by rw [hn', hn0], by rw [hs', hst0], .inr (.inr ⟨by rw [happ, hbase], rfl, by rw [<- hst0]; exact hst, ?_, ?_, fun k hk => ?_⟩)⟩
   ·rw [happ, hbase]
    exact hcr.mono (fun L' hL' => by simp at hL' ⊢; rcases hL' with rfl | rfl <;> simp)
   ·refine (((k8.iU f66).1.trans kd66 (fun _ h => h) (fun _ h => h.elim)).trans kb (fun _ h => h) (fun _ h => h.elim)).trans hext (fun _ h => h) (fun k hk => ?_)
    rcases hk with hk | hk
    ·rcases hsub k hk with h1 | h1
     ·exact .inl h1
     ·exact .inr (by omega)
    ·right; omega
   ·rcases hnb k hk with h1 | h1
    ·rcases hsub k (.inr h1) with h2 | h2
     ·exact .inl h2
     ·exact .inr (by omega)
    ·exact .inr (by have := kb.size; omega)
  have tail : ∀ {w2 q2 d2}, aG w2 rd q2 d2 -> d2.n = d0.n -> d2.stops = d0.stops -> d0.stops = true -> po d2 (d.n / 64) [M ++ [g], addRec (M ++ [g]) b] -> Ext (fun k => bT r u0 rd q0 k \/ k = r113 \/ k = lr \/ k = D \/ k = r5 \/ k = r7) wb w2 -> (∀ k, aY rd q2 k -> aY rd q0 k \/ wb.heap.size <= k) ->
    w2.heap[D]? = some (.deferred (some [])) -> ao w2 r5 [.int .i64 0] -> ao w2 r7 [errO A (some 11)] ->
    (World.heap w2)[D]? = some (.deferred (some [])) /\ ∀ w173 : World, w173 = World.putObj w2 D (.deferred none) ->
     ∃ n174 : Int, World.cell? w173 (⟨r5, 0, none⟩ : Addr) = some (Value.int .i64 n174) /\ ∃ v175 : Value, World.cell? w173 (⟨r7, 0, none⟩ : Addr) = some v175 /\ K (Value.tuple ⟨[(Value.int .i64 n174), v175]⟩) w173 := by
   intro w2 q2 d2 x1 x2 x3 x4 x5 x6 x7 x9 x10 x11
   refine ⟨x9, fun w151 hw151 => ?_⟩
   have e151 : Ext (fun j => j = D) w2 w151 := by rw [hw151]; exact Ext.putObj _ _ _
   have y5 := x10.ext e151 (fun hh => by omega)
   have y7 := x11.ext e151 (fun hh => by omega)
   have nlr : ∀ j, aY rd q2 j -> j ≠ D := fun j hj => by
    obtain ⟨f1, f2, f3⟩ := hF.a
    rcases x7 j hj with h1 | h1
    ·exact fun hh => hF.b.2.2 (hh ▸ h1)
    ·omega
   refine ⟨_, y5.cell 0 (by simp), _, y7.cell 0 (by simp), down (x1.ext e151 (fun j hj hh => nlr j hj hh)) x2 x3 x4 x5 ?_ x7⟩
   exact x6.trans e151 (fun _ h => h) (fun j hj => .inl (.inr (.inr (.inr (.inl hj)))))
  have errT : ∀ {w2 dd q2 d2 a}, iW wb w2 rd r113 lr D q0 dd q2 d2 a -> d2.n = d0.n -> d2.stops = d0.stops -> d0.stops = true -> po d2 (d.n / 64) [M ++ [g], addRec (M ++ [g]) b] ->
    aJ w2 (⟨r5, 0, none⟩ : Addr) 1 /\ ∀ w40 : World, w40 = w2.setCell (⟨r5, 0, none⟩ : Addr) (.int .i64 0) -> oneK (errO A (some 11)) (oneK (errO A (some 11)) (aJ w40 (⟨r7, 0, none⟩ : Addr) 1 /\ ∀ w41 : World, w41 = w40.setCell (⟨r7, 0, none⟩ : Addr) (errO A (some 11)) ->
     (World.heap w41)[D]? = some (.deferred (some [])) /\ ∀ w173 : World, w173 = World.putObj w41 D (.deferred none) ->
     ∃ n174 : Int, World.cell? w173 (⟨r5, 0, none⟩ : Addr) = some (Value.int .i64 n174) /\ ∃ v175 : Value, World.cell? w173 (⟨r7, 0, none⟩ : Addr) = some v175 /\ K (Value.tuple ⟨[(Value.int .i64 n174), v175]⟩) w173)) := by
   intro w2 dd q2 d2 a hs x2 x3 x4 x5
   obtain ⟨_, _, z3, z4, _⟩ := at_ hs
   refine pr z3 z4 (by omega) A _ (fun w140 t5 t7 x140 => ?_)
   have m5 : ∀ j, aY rd q2 j -> j ≠ r5 /\ j ≠ r7 := fun j hj => by
    rcases hs.nb j hj with h1 | h1
    ·exact ⟨fun hh => ns r5 o5l n5 (by rw [<- hh]; exact .inr h1), fun hh => ns r7 o7l n7 (by rw [<- hh]; exact .inr h1)⟩
    ·exact ⟨by omega, by omega⟩
   refine tail (hs.dv.ext x140 (fun j hj hh => hh.elim (m5 j hj).1 (m5 j hj).2)) x2 x3 x4 x5 ?_ hs.nb (x140.heap hs.h (fun hh => by omega)) t5 t7
   exact (hs.e.mono (fun j hj => by rcases hj with hj | hj | hj; exact .inl (.inr hj); exact .inr (.inl hj); exact .inr (.inr (.inl hj)))).trans x140 (fun _ h => h) (fun j hj => .inl (.inr (.inr (.inr (.inr hj)))))
  have hbl64 : b.length <= 3968 := hb1
  have hsecs : bu b.length <= 62 := by unfold bu; omega
  have hcn : g.fin + 1 + iQ g.fin b.length <= 64 := by unfold cS at hfit; unfold iQ; split <;> omega
  have hcs : bu b.length <= iQ g.fin b.length := by unfold iQ; split <;> omega
  have hpl := h66.I.pl g (by simp)
  have hkn : d0.n / 64 = d.n / 64 := by rw [hn0]
  have hI0 : bO (aN d0.img) (d.n / 64) (M ++ [g]) := by rw [<- hkn]; exact h66.I
  have hd0n : d0.n = d0.img.length / 64 := rfl
  have crd : ∀ {d' : aF} {c : Nat}, d'.img = d0.img -> c <= iQ g.fin b.length -> d'.aC = wrL (64 * g.place + g.fin + 1) (om b) c -> po d' (d.n / 64) [M ++ [g], addRec (M ++ [g]) b] := by
   intro d' c h1 h2 h3
   refine ⟨by rw [h3, jy]; omega, fun kept torn cut => ?_⟩
   refine ⟨M ++ [g], by simp, ?_⟩
   rw [h1]
   exact CK (by omega) hI0 (by simp) (th b) (by omega) h3 _ _ _
  let J : Nat -> World -> Prop := fun k w2 => ∃ q2 d2, iW wb w2 rd r113 lr D q0 d0 q2 d2 ((g.fin + 1 + k : Nat) : Int) /\ w2.heap[lr]? = some (.loop (rc .ready none)) /\ d2.aC = wrL (64 * g.place + g.fin + 1) (om b) k /\ k <= bu b.length
  let X : World -> Prop := fun w2 => ∃ q2 d2, aG w2 rd q2 d2 /\ d2.n = d0.n /\ d2.stops = d0.stops /\ d0.stops = true /\ po d2 (d.n / 64) [M ++ [g], addRec (M ++ [g]) b] /\ Ext (fun k => bT r u0 rd q0 k \/ k = r113 \/ k = lr \/ k = D \/ k = r5 \/ k = r7) wb w2 /\ (∀ k, aY rd q2 k -> aY rd q0 k \/ wb.heap.size <= k) /\
   w2.heap[lr]? = some (.loop (rc .done (some Code.ret))) /\ w2.heap[D]? = some (.deferred (some [])) /\ ao w2 r5 [.int .i64 0] /\ ao w2 r7 [errO A (some 11)]
  have hJ0 : J 0 wb := ⟨q0, d0, ⟨hBb.D, rfl, rfl, fun k hk => .inl hk, Ext.refl _ _, by have := o113b; rw [show ((g.fin : Int) + 1) = ((g.fin + 1 + 0 : Nat) : Int) by omega] at this; exact this, N.d⟩, N.l, h66.p, by omega⟩
  have step : ∀ k (hk : k * 64 < b.length) (w28 : World) (sd : Slc), J k w28 -> aq w28 sd (ey b 64 k) ->
    gy Tryz.prog lr ⟨[sd.v]⟩ w28 fun e w' => (e = .returned (.bool true) /\ J (k + 1) w') \/ (e = .returned (.bool false) /\ X w') := by
   rintro k hk w28 sd ⟨q2, d2, hs, hl, hp, hks⟩ hsd
   have hk1 : k < bu b.length := by unfold bu; omega
   refine hY sd w28 _ hl ⟨hl, fun w36 hw36 => ?_⟩
   have hs36 := hs.put hF hw36
   have hl36 : w36.heap[lr]? = some (.loop (rc .busy none)) := by rw [hw36]; exact gE hl
   have e36 : Ext (fun j => j = lr) w28 w36 := by rw [hw36]; exact Ext.putObj _ _ _
   have hsd36 : aq w36 sd (ey b 64 k) := bc hsd e36 (fun h0 j hj2 hh => by
    subst hh
    obtain ⟨a, ha, rfl⟩ := hj2
    obtain ⟨a', ha', hc'⟩ := bl hsd.2 (i := 0) (by rw [List.length_map, <- hsd.1]; exact h0)
    rw [ha] at ha'; cases ha'
    have : w28.cell? (a.add 0) = none := by
     unfold World.cell?
     rw [cM, hl]
    rw [this] at hc'; cases hc')
   refine ⟨by omega, by omega, by omega, ak (fun r127 w128 hr127 hb127 k128 hs128 => ?_)⟩
   have hz := Own.zu hb127
   have hcl := qc b k
   have hcp := fun (K : Int -> World -> Prop) => wL (K := K) (sz := 1) (lo := 0) (d := (⟨some ⟨r127, 0, none⟩, 64, 64⟩ : Slc)) (src := sd) (new := (ey b 64 k).map aQ) hz (by have := hsd.1; show 0 + sd.l <= 64; omega) (Nat.le_refl _) (by rw [List.length_map, hsd.1]; omega) (aH hsd36 k128).2 (mB _)
   have esub : Slc.sub (⟨some ⟨r127, 0, none⟩, 64, 64⟩ : Slc) 1 0 64 64 = ⟨some ⟨r127, 0, none⟩, 64, 64⟩ := by simp [Slc.sub, Addr.add]
   simp only [esub] at hcp
   refine hcp _ (fun w130 g1 g2 g3 => ?_)
   have epad : ((List.replicate 64 (0 : UInt8)).map aQ).take (0 * 1) ++ (ey b 64 k).map aQ ++ ((List.replicate 64 (0 : UInt8)).map aQ).drop (0 * 1 + ((ey b 64 k).map aQ).length) = (om b k).map aQ := by
    unfold om
    rw [if_pos hk1]
    unfold At
    simp only [Nat.zero_mul, List.take_zero, List.nil_append, Nat.zero_add, List.length_map, List.map_append, <- List.map_drop, List.drop_replicate]
   rw [epad] at g1
   have kd : aj w130 (World.drew w130) := Ext.drew _ _
   have k130 : aj w36 (World.drew w130) := (k128.ext g2 (fun j hj => by
    obtain ⟨a, ha, rfl⟩ := hj
    cases ha
    show w36.heap.size <= r127; omega)).trans kd
   have hs130 := hs36.ae k130
   obtain ⟨a1, a2, a3, a4, a5, a6, a7, a8⟩ := at_ hs130
   have a9 := atn hs130
   have gD := g1.ae kd
   refine ⟨_, a2.cell 0 (by simp), _, a5.cell 0 (by simp), aa rfl ⟨_, (eO _ a8).1, _, hs130.o.cell 0 (by simp), ?_⟩⟩
   refine (jz A a1.c0 hs130.dv g.place (g.fin + 1 + k) (by omega) _ (om b k) gD.bytes (th b k) (a7.sub eP) (h66.B.dn rd (.inl rfl)) (fun j hj hh => ?_) (by rw [hp, jy]; omega)).mono ?_
   ·obtain ⟨a, ha, rfl⟩ := hj
    cases ha
    have h9 := hs36.dv.lt rd (.inl rfl)
    have : r127 = rd := hh
    omega
   rintro e w137 ⟨e', q3, d3, rfl, hD3, f3, hi3, hst3, hcase⟩
   have hs137 := hs130.dev hF hD3 f3 hi3 hst3
   obtain ⟨_, y2, y3⟩ := hs130.not hF
   have hl137 := f3.1.heap (k130.heap hl36) y2
   obtain ⟨z1, z2, z3, z4, z5, z6, z7, z8⟩ := at_ hs137
   have z9 := atn hs137
   have ebase : ((64 * g.place + (g.fin + 1 + k) : Nat) : Int) = ((64 * g.place + g.fin + 1 + k : Nat) : Int) := by congr 1; omega
   refine ⟨_, rfl, aB A _, ai (fun h0 => ?_) (fun h0 => ?_)⟩
   ·rcases hcase with ⟨rfl, _⟩ | ⟨rfl, hst, hp3⟩
    ·cases h0
    ·refine pr z3 z4 (by omega) A _ (fun w140 t5 t7 x140 => ?_)
     have hl140 := x140.heap hl137 (fun hh => by omega)
     have hD140 := x140.heap hs137.h (fun hh => by omega)
     refine ⟨hl140, fun w141 hw141 => .inr ⟨rfl, ?_⟩⟩
     have e141 : Ext (fun j => j = lr) w140 w141 := by rw [hw141]; exact Ext.putObj _ _ _
     obtain ⟨m1, m2, m3⟩ := hs137.not hF
     have m5 : ∀ j, aY rd q3 j -> j ≠ r5 /\ j ≠ r7 := fun j hj => by
      rcases hs137.nb j hj with h1 | h1
      ·exact ⟨fun hh => ns r5 o5l n5 (by rw [<- hh]; exact .inr h1), fun hh => ns r7 o7l n7 (by rw [<- hh]; exact .inr h1)⟩
      ·exact ⟨by omega, by omega⟩
     refine ⟨q3, d3, (hD3.ext x140 (fun j hj hh => hh.elim (m5 j hj).1 (m5 j hj).2)).ext e141 (fun j hj hh => m2 (hh ▸ hj)), z9, hs137.st, by rw [<- hs130.st]; exact hst, crd (c := k) (by rw [hs137.im]) (by omega) (by rw [hp3, hp]), ?_, hs137.nb, ?_, ?_, ?_, ?_⟩
     ·exact ((hs137.e.mono (fun j hj => by rcases hj with hj | hj | hj; exact .inl (.inr hj); exact .inr (.inl hj); exact .inr (.inr (.inl hj)))).trans x140 (fun _ h => h) (fun j hj => .inl (.inr (.inr (.inr (.inr hj)))))).trans e141 (fun _ h => h) (fun j hj => .inl (.inr (.inr (.inl hj))))
     ·rw [hw141]; exact gE hl140
     ·exact e141.heap hD140 (fun hh => by omega)
     ·exact t5.ext e141 (fun hh => by omega)
     ·exact t7.ext e141 (fun hh => by omega)
   ·rcases hcase with ⟨rfl, hp3⟩ | ⟨rfl, _⟩
    ·obtain ⟨s1, s2⟩ := hs137.set hF (((g.fin + 1 + k : Nat) : Int) + 1)
     refine ⟨_, hs137.o.cell 0 (by simp), ar (by omega), s1, fun w143 hw143 => ?_⟩
     obtain ⟨hs143, x143⟩ := s2 w143 hw143
     have hl143 := x143.heap hl137 (fun hh => by omega)
     refine ⟨hl143, fun w144 hw144 => .inl ⟨rfl, q3, d3, ?_, by rw [hw144]; exact gE hl143, by rw [hp3, hp, pk, ebase], by omega⟩⟩
     have := hs143.put hF hw144
     rw [show (((g.fin + 1 + k : Nat) : Int) + 1) = ((g.fin + 1 + (k + 1) : Nat) : Int) by omega] at this
     exact this
    ·cases h0
  have hcall := ue s b 64 lr b1 b2 J X (by omega) (by omega) (by omega) hsc (fun k w2 hj => ?_) (fun k w2 hj => ?_) step wb hJ0
  refine Calls.mono (show Calls Tryz.prog bG _ wb _ from hcall) ?_
  ·rintro e w149 ⟨rfl, ⟨k, hk1, hk2, hj⟩ | hx9⟩
   ·obtain ⟨q2, d2, hs149, hl149, hp149, hks⟩ := hj
    have hke : k = bu b.length := by unfold bu at hks ⊢; omega
    subst hke
    refine ⟨⟨_, rfl⟩, .inr ⟨hl149, fun w154 hw154 => ?_⟩⟩
    have hs154 := hs149.put hF hw154
    refine ⟨fun w2 => ∃ q2 d2, iW wb w2 rd r113 lr D q0 d0 q2 d2 ((g.fin + 1 + bu b.length : Nat) : Int) /\ d2.aC = wrL (64 * g.place + g.fin + 1) (om b) (iQ g.fin b.length), ⟨_, hs154.o.cell 0 (by simp), af (fun h5 => ?_) (fun h5 => ?_)⟩, ?_⟩
    ·have hcn1 : iQ g.fin b.length = bu b.length + 1 := by unfold iQ; rw [if_pos (by omega)]
     have kd : aj w154 (World.drew w154) := Ext.drew _ _
     have hsd := hs154.ae kd
     obtain ⟨a1, a2, a3, a4, a5, a6, a7, a8⟩ := at_ hsd
     refine ⟨_, a2.cell 0 (by simp), _, a5.cell 0 (by simp), aa rfl ⟨_, (eO _ a8).1, _, hsd.o.cell 0 (by simp), by omega, by omega, by omega, ak (fun r162 w163 hr162 hb162 k163 hs163 => ?_)⟩⟩
     have hs163' := hsd.ae k163
     have hz := Own.zu hb162
     obtain ⟨b1', b2', b3', b4', b5', b6', b7', b8'⟩ := at_ hs163'
     refine ⟨⟨_, hs163'.o.cell 0 (by simp), rfl⟩, ⟨_, (eO _ b8').1, rfl⟩, ⟨_, b5'.cell 0 (by simp), rfl⟩, ⟨_, b2'.cell 0 (by simp), rfl⟩, ?_⟩
     have hzz : om b (bu b.length) = ie := by unfold om; rw [if_neg (by omega)]
     have hn9 := atn hs163'
     refine (jz A b1'.c0 hs163'.dv g.place (g.fin + 1 + bu b.length) (by omega) _ ie hz.bytes rfl (b7'.sub eP) (h66.B.dn rd (.inl rfl)) (fun j hj hh => ?_) (by rw [hp149, jy]; omega)).mono ?_
     ·obtain ⟨a, ha, rfl⟩ := hj
      cases ha
      have h9 := hsd.dv.lt rd (.inl rfl)
      have : r162 = rd := hh
      omega
     rintro e w169 ⟨e', q3, d3, rfl, hD3, f3, hi3, hst3, hcase⟩
     have hs169 := hs163'.dev hF hD3 f3 hi3 hst3
     refine ⟨_, rfl, aB A _, ai (fun h0 => ?_) (fun h0 => ?_)⟩
     ·rcases hcase with ⟨rfl, _⟩ | ⟨rfl, hst, hp3⟩
      ·cases h0
      ·exact errT hs169 (atn hs169) hs169.st (by rw [<- hs163'.st]; exact hst) (crd (c := bu b.length) hs169.im hcs (by rw [hp3, hp149]))
     ·rcases hcase with ⟨rfl, hp3⟩ | ⟨rfl, _⟩
      ·refine ⟨q3, d3, hs169, ?_⟩
       rw [hp3, hp149, hcn1, pk, hzz]
       rw [show ((64 * g.place + (g.fin + 1 + bu b.length) : Nat) : Int) = ((64 * g.place + g.fin + 1 + bu b.length : Nat) : Int) by congr 1; omega]
      ·cases h0
    ·have hcn1 : iQ g.fin b.length = bu b.length := by unfold iQ; rw [if_neg (by omega)]
     exact ⟨q2, d2, hs154, by rw [hcn1]; exact hp149⟩
    ·rintro w176 ⟨q2, d2, hs176, hp176⟩
     intros
     obtain ⟨a1, a2, a3, a4, a5, a6, a7, a8⟩ := at_ hs176
     have n9 := atn hs176
     refine ⟨_, a2.cell 0 (by simp), aa rfl ⟨_, a1.c0, (mg A hs176.dv (a7.sub eP) (h66.B.dn rd (.inl rfl)) (by rw [hp176, jy]; omega)).mono ?_⟩⟩
     rintro e w195 ⟨e', q3, d3, rfl, hD3, f3, hst3, hcase⟩
     refine ⟨_, rfl, aB A _, ai (fun h0 => ?_) (fun h0 => ?_)⟩
     ·rcases hcase with ⟨rfl, _⟩ | ⟨rfl, hst, hi3, hp3⟩
      ·cases h0
      ·have hs195 := hs176.dev hF hD3 f3 hi3 hst3
       exact errT hs195 (atn hs195) hs195.st (by rw [<- hs176.st]; exact hst) (crd (c := iQ g.fin b.length) hs195.im (Nat.le_refl _) (by rw [hp3, hp176]))
     ·rcases hcase.symm with ⟨rfl, _⟩ | ⟨rfl, hi3, hp3⟩
      ·cases h0
      rw [hp176, hs176.im] at hi3
      obtain ⟨c1', c2'⟩ := Au (img := d0.img) (th b) (base := 64 * g.place + g.fin + 1) (c := iQ g.fin b.length) (by omega)
      rw [<- hi3] at c1' c2'
      have hs195 := hs176.DR hF hD3 f3
      have hst30 : d3.stops = d0.stops := by rw [hst3, hs176.st]
      have kd : aj w195 (World.drew w195) := Ext.drew _ _
      have hsd := hs195.ae kd
      obtain ⟨z1, z2, z3, z4, z5, z6, z7, z8⟩ := at_ hsd
      rw [hsl]
      refine ⟨_, z2.cell 0 (by simp), _, z5.cell 0 (by simp), aa rfl ⟨_, (eO _ z8).1, _, z5.cell 0 (by simp), aa rfl ⟨_, (eO _ z8).2.2.2, (nY b.length 1 (by omega) _).mono ?_⟩⟩⟩
      rintro e w210 ⟨t, rfl, ht, htf, k210⟩
      have hs210 := hsd.ae k210
      obtain ⟨y1, y2, y3, y4, y5, y6, y7, y8⟩ := at_ hs210
      refine ⟨t, rfl, ⟨_, (eO _ y8).2.2.2, rfl⟩, ⟨_, y5.cell 0 (by simp), rfl⟩, ⟨_, (eO _ y8).1, rfl⟩, ⟨_, y5.cell 0 (by simp), rfl⟩, ⟨_, y2.cell 0 (by simp), rfl⟩, ?_⟩
      have hn3 : d3.n = d0.n := c1'
      have hz66 := h66.B.z
      have hnr : ¬ aY rd q3 r := fun hh => by
       rcases hs210.nb r hh with h1 | h1
       ·exact h66.B.nr h1
       ·have := hsl66 r (.inl (.inl rfl)); omega
      have hdn3 : ∀ k, aY rd q3 k -> n0 <= k := fun k hk => (hs210.nb k hk).elim (h66.B.dn k) (fun h1 => by omega)
      have zz210 := hs210.e.size
      refine (oh A y1.c0 hnr hs210.dv hp3 g.place g.fin (by unfold cS at hfit; omega) t _ ht.bytes (bd _ _) (y7.sub eP) hdn3 (by omega) (pn hsd.dv htf)).mono ?_
      rintro e w218 ⟨e', q4, d4, rfl, hD4, f4, hst4, hcase4⟩
      have hs218 := hs210.DR hF hD4 f4
      have ha3 : 64 * g.place + g.fin < d3.img.length / 64 := by unfold cS at hfit; omega
      refine ⟨_, rfl, aB A _, ai (fun h0 => ?_) (fun h0 => ?_)⟩
      ·rcases hcase4 with ⟨rfl, _⟩ | ⟨rfl, hst', hi4, hp4⟩
       ·cases h0
       ·refine errT hs218 (by unfold aF.n; rw [hi4]; exact hn3) (by rw [hst4, hst30]) (by rw [<- hst30]; exact hst') ⟨by rcases hp4 with h9 | h9 <;> rw [h9] <;> simp, fun kept torn cut => ?_⟩
        rw [hi4]
        obtain ⟨v1, v2⟩ := yE (a := 64 * g.place + g.fin) (img := d3.img) ha3 (bd b.length 1) hp4 kept torn cut
        have hS : ∀ i, i < 64 * (d.n / 64) -> i ≠ 64 * g.place + g.fin -> aN (crashL kept torn cut 0 d4.aC d3.img) i = if 64 * g.place + g.fin + 1 <= i /\ i < 64 * g.place + g.fin + 1 + iQ g.fin b.length then om b (i - (64 * g.place + g.fin + 1)) else aN d0.img i := by
         intro i hi hne
         rw [v1 i (by omega) hne, c2' i (by omega)]
        rcases v2 with v2 | ⟨c', hc', v2⟩
        ·refine ⟨addRec (M ++ [g]) b, by simp, ?_⟩
         rw [jA]
         refine zF hI0 hb0 hfit (fun i hi => ?_)
         by_cases hne : i = 64 * g.place + g.fin
         ·rw [if_pos hne, hne, v2]
         ·rw [if_neg hne]; exact hS i hi hne
        ·refine ⟨M ++ [g], by simp, ?_⟩
         refine CL hI0 hfit hS ?_
         rw [v2, vx (bd _ _) hc' (gi ha3), c2' _ (by omega), if_neg (by omega)]
         exact jx hon.2 (by unfold cS at hfit; show g.fin < 64; omega)
      ·rcases hcase4.symm with ⟨rfl, _⟩ | ⟨rfl, hi4, hp4⟩
       ·cases h0
       have hn4 : d4.n = d0.n := by
        show d4.img.length / 64 = _
        rw [hi4, iN ha3 (bd _ _) (Nat.le_refl _)]; exact hn3
       have hI4 : bO (aN d4.img) (d.n / 64) (M ++ [{ g with cc := g.cc ++ [b] }]) := by
        refine zF hI0 hb0 hfit (fun i hi => ?_)
        rw [hi4, iO ha3 (bd _ _) (by omega)]
        by_cases hne : i = 64 * g.place + g.fin
        ·rw [if_pos hne, if_pos hne]
        ·rw [if_neg hne, if_neg hne, c2' i (by omega)]
       have kd2 : aj w218 (World.drew w218) := Ext.drew _ _
       have hs2 := hs218.ae kd2
       obtain ⟨m1, m2, m3, m4, m5, m6, m7, m8⟩ := at_ hs2
       have r102c : ∀ {w2 : World}, aj (World.drew w218) w2 -> w2.cell? (⟨r102, 0, none⟩ : Addr) = some (aw x.o) := fun hk => (m5.ae hk).cell 0 (by simp)
       refine ⟨_, r102c (Ext.refl _ _), _, r102c (Ext.refl _ _), _, r102c (Ext.refl _ _), aa rfl ⟨_, (eO _ m8).2.2.1, _, hs2.o.cell 0 (by simp), (dV s b _ m6 (by omega)).mono ?_⟩⟩
       rintro e w232 ⟨t2, rfl, ht2, htf2, k232⟩
       refine ⟨t2, rfl, ⟨_, (hs2.ae k232).o.cell 0 (by simp), rfl⟩, ⟨_, (eO _ (m8.ae k232)).2.2.1, rfl⟩, ⟨_, r102c k232, rfl⟩, ⟨_, r102c k232, rfl⟩, ⟨_, r102c k232, rfl⟩, ak (fun r239 w240 hr239 hb239 k239 hs239 => ?_)⟩
       have k240 := k232.trans k239
       have hs240 := hs2.ae k240
       have x240 := m8.ae k240
       refine ⟨⟨_, hs240.o.cell 0 (by simp), rfl⟩, ⟨_, (eO _ x240).2.2.1, rfl⟩, ⟨_, r102c k240, rfl⟩, ⟨_, r102c k240, rfl⟩, ⟨_, r102c k240, rfl⟩, ?_⟩
       have hrl := vA g.cc
       have hfd : g.fin = 1 + sumN g.cc := rfl
       have zdr : (World.drew w218).heap.size = w218.heap.size := rfl
       refine x240.r.snoc (cs := [t2.v]) (x := b) (z := [(⟨none, 0, 0⟩ : Slc).v]) rfl ⟨t2, rfl, (ht2.ae k239).bytes⟩ (fun k hk hh => ?_) hb239 (.inl (by simp)) (by omega) (fun s' w247 g1 g2 g3 => ?_)
       ·have h5 := htf2 k (iP hk).2
        have h6 := m8.r.lt k hh
        omega
       ·have nx : ∀ j, fH x j -> j < w66.heap.size /\ ¬ aY rd q0 j /\ j ≠ r5 /\ j ≠ r7 := fun j hj => ⟨hsl66 j (.inl (hxB j hj)), h66.B.sep j (hxB j hj), fun hh => ns r5 o5l n5 (by rw [<- hh]; exact .inl (hxB j hj)), fun hh => ns r7 o7l n7 (by rw [<- hh]; exact .inl (hxB j hj))⟩
        have zwb := hs240.e.size
        have zD4 : ∀ j, aY rd q4 j -> ¬ fH x j := fun j hj hh => by
         rcases hs240.nb j hj with h1 | h1
         ·exact (nx j hh).2.1 h1
         ·have := (nx j hh).1; omega
        have m240 := m1.ae k240
        have o247 := x240.o.ext g2 x240.n1
        have hs' : ¬ ah s' x.o := fun hh => by
         rcases g3 _ hh with h5 | h5
         ·exact x240.n1 h5
         ·have := x240.o.lt; omega
        have hxo := x240.o.lt
        -- what is left alone by the segment's cells
        have far : ∀ {w3 : World}, Ext (fH x) w240 w3 -> w3.cell? (⟨r102, 0, none⟩ : Addr) = some (aw x.o) /\ ao w3 r113 [.int .i64 ((g.fin + 1 + bu b.length : Nat) : Int)] /\ ao w3 r5 [.int .i64 0] /\ ao w3 r7 [.nilIface] /\ w3.heap[D]? = some (.deferred (some [])) /\ aG w3 rd q4 d4 := by
         intro w3 hex
         have nn : ∀ j, w66.heap.size <= j -> ¬ fH x j := fun j hj hh => by have := (nx j hh).1; omega
         exact ⟨((m5.ae k240).ext hex (nn _ (by omega))).cell 0 (by simp), hs240.o.ext hex (nn _ (by omega)), (m3.ae k240).ext hex (fun hh => (nx _ hh).2.2.1 rfl), (m4.ae k240).ext hex (fun hh => (nx _ hh).2.2.2 rfl),
          hex.heap hs240.h (nn _ (by omega)), hs240.dv.ext hex (fun k hk hh => zD4 k hk hh)⟩
        have x247 : Ext (fH x) w240 w247 := g2.mono (fun k hk => .inr (.inl hk))
        obtain ⟨f1, f2, _⟩ := far x247
        obtain ⟨c3, c4⟩ := o247.bf 2 (by simp [lA]) s'.v
        refine ⟨⟨_, f2.cell 0 (by simp), rfl⟩, ⟨_, f1, rfl⟩, ⟨_, f1, rfl⟩, aa rfl ?_⟩
        rw [add_lit]
        refine ⟨c3, fun w252 hw252 => ?_⟩
        obtain ⟨o252, e252, _⟩ := c4 w252 hw252
        have x252 : Ext (fH x) w240 w252 := x247.trans e252 (fun _ h => h) (fun k hk => .inl (.inl hk))
        obtain ⟨f3, f4, _⟩ := far x252
        obtain ⟨c5, c6⟩ := o252.bf 3 (by simp [lA]) (.int .i64 ((g.fin + 1 + bu b.length : Nat) : Int))
        refine ⟨⟨_, f4.cell 0 (by simp), rfl⟩, ⟨_, f3, rfl⟩, aa rfl ?_⟩
        rw [add_lit]
        refine ⟨c5, fun w256 hw256 => ?_⟩
        obtain ⟨o256, e256, _⟩ := c6 w256 hw256
        have x256 : Ext (fH x) w240 w256 := x252.trans e256 (fun _ h => h) (fun k hk => .inl (.inl hk))
        obtain ⟨f5, f6, f7, f8, f9, f10⟩ := far x256
        have hcells : ((lA g x.s).set 2 s'.v).set 3 (.int .i64 ((g.fin + 1 + bu b.length : Nat) : Int)) = lA { g with cc := g.cc ++ [b] } s' := by
         simp only [lA, List.set_cons_succ, List.set_cons_zero, aE.fin, ix, cS]
         rw [show 1 + sumN g.cc + 1 + bu b.length = 1 + (sumN g.cc + (1 + bu b.length)) by omega]
        have o256' : ao w256 x.o (lA { g with cc := g.cc ++ [b] } s') := by rw [<- hcells]; exact o256
        have hf' : ∀ k, eZ (x.css ++ [[t2.v]]) k -> (fH x k \/ w240.heap.size <= k \/ w218.heap.size <= k) /\ k ≠ x.o := by
         rintro k ⟨cs, hc2, hk⟩
         rcases List.mem_append.1 hc2 with h6 | h6
         ·exact ⟨.inl (.inr (.inr ⟨cs, h6, hk⟩)), x240.n2 k ⟨cs, h6, hk⟩⟩
         ·rw [List.mem_singleton] at h6; subst h6
          have h7 := htf2 k (iP hk).2
          have := m8.o.lt
          exact ⟨.inr (.inr (by omega)), by omega⟩
        have g256 : Rows sS w256 s' (g.cc ++ [b]) (x.css ++ [[t2.v]]) := (g1.ext e252 (fun k hk hh => hs' (by rw [<- show k = x.o from hh]; exact hk)) (fun k hk hh => (hf' k hk).2 hh)).ext e256 (fun k hk hh => hs' (by rw [<- show k = x.o from hh]; exact hk)) (fun k hk hh => (hf' k hk).2 hh)
        have sx : eB w256 ⟨x.o, s', x.css ++ [[t2.v]]⟩ { g with cc := g.cc ++ [b] } := ⟨o256', g256, hs', fun k hk => (hf' k hk).2⟩
        -- the new blocks are new, as of w218
        have sxB : ∀ k, fH ⟨x.o, s', x.css ++ [[t2.v]]⟩ k -> fH x k \/ w218.heap.size <= k := by
         have zz := k240.size
         rintro k (hk | hk | hk)
         ·exact .inl (.inl hk)
         ·rcases g3 k hk with h5 | h5
          ·exact .inl (.inr (.inl h5))
          ·exact .inr (by omega)
         ·rcases (hf' k hk).1 with h5 | h5 | h5
          ·exact .inl h5
          ·exact .inr (by omega)
          ·exact .inr h5
        have x256' : Ext (fH x) (World.drew w218) w256 := Ext.trans k240 x256 (fun _ h => h.elim) (fun _ h => .inl h)
        obtain ⟨SU, BU⟩ := m1.upd hxi hxe x256' sx sxB rfl
        refine ⟨_, f5, aa rfl ⟨_, (eO _ sx).2.1, ?_⟩⟩
        obtain ⟨c7, c8⟩ := f7.bf 0 (by simp) (.int .i64 (g.num : Int))
        refine ⟨c7, fun w260 hw260 => ?_⟩
        obtain ⟨o260, e260, _⟩ := c8 w260 hw260
        obtain ⟨c9, c10⟩ := (f8.ext e260 (fun hh => by omega)).bf 0 (by simp) (.nilIface)
        refine ⟨c9, fun w261 hw261 => ?_⟩
        obtain ⟨o261, e261, _⟩ := c10 w261 hw261
        have hD261 := e261.heap (e260.heap f9 (fun hh => by omega)) (fun hh => by omega)
        refine ⟨hD261, fun w262 hw262 => ?_⟩
        have e262 : Ext (fun j => j = D) w261 w262 := by rw [hw262]; exact Ext.putObj _ _ _
        have xe : Ext (fun j => j = r5 \/ j = r7 \/ j = D) w256 w262 := ((e260.mono (fun j hj => .inl hj)).trans e261 (fun _ h => h) (fun j hj => .inl (.inr (.inl hj)))).trans e262 (fun _ h => h) (fun j hj => .inl (.inr (.inr hj)))
        have zwb2 := hs218.e.size
        have nU : ∀ k, StB r ⟨u0.sp, u0.xs.take M.length ++ [⟨x.o, s', x.css ++ [[t2.v]]⟩]⟩ k -> k ≠ r5 /\ k ≠ r7 /\ k ≠ D := fun k hk => by
         rcases BU k hk with h1 | h1
         ·have := hsl66 k (.inl h1)
          exact ⟨fun hh => ns r5 o5l n5 (by rw [<- hh]; exact .inl h1), fun hh => ns r7 o7l n7 (by rw [<- hh]; exact .inl h1), by omega⟩
         ·exact ⟨by omega, by omega, by omega⟩
        have nQ : ∀ k, aY rd q4 k -> k ≠ r5 /\ k ≠ r7 /\ k ≠ D := fun k hk => by
         rcases hs240.nb k hk with h1 | h1
         ·have := hsl66 k (.inr h1)
          exact ⟨fun hh => ns r5 o5l n5 (by rw [<- hh]; exact .inr h1), fun hh => ns r7 o7l n7 (by rw [<- hh]; exact .inr h1), by omega⟩
         ·exact ⟨by omega, by omega, by omega⟩
        refine ⟨_, (o260.ext e261 (fun hh => by omega)).ext e262 (fun hh => by omega) |>.cell 0 (by simp), _, (o261.ext e262 (fun hh => by omega)).cell 0 (by simp), hK (g.num : Int) none w262 ?_⟩
        have happ2 : kJ (d.n / 64) L b = (none, (g.num : Int), M ++ [{ g with cc := g.cc ++ [b] }]) := by
         rw [happ, hbase]
         show (none, lastN (M ++ [g]), addRec (M ++ [g]) b) = _
         rw [oq, jA]
        have fD := f10.ext xe (fun k hk hh => by
         obtain ⟨v1, v2, v3⟩ := nQ k hk
         rcases hh with hh | hh | hh
         ·exact v1 hh
         ·exact v2 hh
         ·exact v3 hh)
        have hst4' : d4.stops = d.stops := by rw [hst4, hst30, hst0]
        refine ⟨q4, d4, fD, by rw [hn4, hn0], hst4', .inr (.inl ⟨by rw [happ2], rfl, by rw [happ2], ⟨u0.sp, u0.xs.take M.length ++ [⟨x.o, s', x.css ++ [[t2.v]]⟩]⟩, ?_, ?_, fun k hk => ?_⟩)⟩
        ·rw [happ2]
         refine ⟨⟨SU.ext xe (fun k hk hh => by
          obtain ⟨v1, v2, v3⟩ := nU k hk
          rcases hh with hh | hh | hh
          ·exact v1 hh
          ·exact v2 hh
          ·exact v3 hh), fD, fun k hk hh => ?_, fun k hk => (hs240.nb k hk).elim (h66.B.dn k) (fun h1 => by omega), fun k hk => ?_, ?_⟩, hp4, by rw [hn4, hkn]; exact hI4, fun y hy => ?_, by rw [hn4, hkn]; exact hk⟩
         ·rcases BU k hk with h1 | h1
          ·rcases hs240.nb k hh with h2 | h2
           ·exact h66.B.sep k h1 h2
           ·have := hsl66 k (.inl h1); omega
          ·have := hD4.lt k hh; omega
         ·rcases BU k hk with h1 | h1
          ·exact h66.B.sn k h1
          ·omega
         ·have := xe.size; have := x256.size; omega
         ·rcases List.mem_append.1 hy with h1 | h1
          ·exact h66.N y (by simp [h1])
          ·rw [List.mem_singleton] at h1; subst h1
           exact h66.N g (by simp)
        ·have xbig : Ext (fun k => bT r u0 rd q0 k \/ k = r113 \/ k = lr \/ k = D \/ k = r5 \/ k = r7) wb w262 := by
          refine (((hs240.e.mono (fun j hj => ?_)).trans x256 (fun _ h => h) (fun j hj => .inl (.inl (.inl (hxB j hj)))))).trans xe (fun _ h => h) (fun j hj => ?_)
          ·rcases hj with hj | hj | hj
           ·exact .inl (.inr hj)
           ·exact .inr (.inl hj)
           ·exact .inr (.inr (.inl hj))
          ·rcases hj with hj | hj | hj
           ·exact .inl (.inr (.inr (.inr (.inr (.inl hj)))))
           ·exact .inl (.inr (.inr (.inr (.inr (.inr hj)))))
           ·exact .inl (.inr (.inr (.inr (.inl hj))))
         refine (((k8.iU f66).1.trans kd66 (fun _ h => h) (fun _ h => h.elim)).trans kb (fun _ h => h) (fun _ h => h.elim)).trans xbig (fun _ h => h) (fun k hk => ?_)
         rcases hk with hk | hk
         ·rcases hsub k hk with h1 | h1
          ·exact .inl h1
          ·exact .inr (by omega)
         ·right; omega
        ·have zkb := kb.size
         rcases hk with hk | hk
         ·rcases BU k hk with h1 | h1
          ·rcases hsub k (.inl h1) with h2 | h2
           ·exact .inl h2
           ·exact .inr (by omega)
          ·exact .inr (by omega)
         ·rcases hs240.nb k hk with h1 | h1
          ·rcases hsub k (.inr h1) with h2 | h2
           ·exact .inl h2
           ·exact .inr (by omega)
          ·exact .inr (by omega)
   ·obtain ⟨q2, d2, x1, x2, x3, x4, x5, x6, x7, x8, x9, x10, x11⟩ := hx9
    refine ⟨⟨_, rfl⟩, .inl ⟨x8, fun w150 hw150 => ?_⟩⟩
    have e150 : Ext (fun j => j = lr) w149 w150 := by rw [hw150]; exact Ext.putObj _ _ _
    have nlr : ∀ j, aY rd q2 j -> j ≠ lr := fun j hj => by
     obtain ⟨f1, f2, f3⟩ := hF.a
     rcases x7 j hj with h1 | h1
     ·exact fun hh => hF.b.2.1 (hh ▸ h1)
     ·omega
    refine tail (x1.ext e150 (fun j hj hh => nlr j hj hh)) x2 x3 x4 x5 ?_ x7 (e150.heap x9 (fun hh => by omega)) (x10.ext e150 (fun hh => by omega)) (x11.ext e150 (fun hh => by omega))
    exact x6.trans e150 (fun _ h => h) (fun j hj => .inl (.inr (.inr (.inl hj))))
  ·obtain ⟨q2, d2, hs, hl, hp, hks⟩ := hj
   have nb : ∀ j, w66.heap.size <= j -> j ≠ r113 -> j ≠ lr -> ¬ (aY rd q0 j \/ j = r113 \/ j = lr) := fun j h1 h2 h3 hh => by
    rcases hh with hh | hh | hh
    ·exact nD j h1 (.inr hh)
    ·exact h2 hh
    ·exact h3 hh
   exact ⟨(ob1b.ext hs.e (nb _ (by omega) (by omega) (by omega))).cell 0 (by simp), (ob2b.ext hs.e (nb _ (by omega) (by omega) (by omega))).cell 0 (by simp), (at_ hs).2.2.2.2.2.1⟩
  ·obtain ⟨q2, d2, hs, hl, hp, hks⟩ := hj
   exact ⟨q2, d2, hs.ae (Ext.drew _ _), hl, hp, hks⟩
end Go.D
namespace Go.D
open Go Go.Proofs
def yH (o : Nat) : List Value := [aw o]
theorem xj {o k : Nat} : ¬ j0 (yH o) k := by rintro ⟨s, hs, _⟩; simp [yH, Slc.v] at hs
theorem Av {l : List Nat} {k : Nat} : ¬ eZ (l.map yH) k := by
 rintro ⟨cs, hc, hk⟩
 obtain ⟨x, _, rfl⟩ := List.mem_map.1 hc
 exact xj hk
def D7 : vm Nat where
 n := 1
 pos := by omega
 R _ x cs := cs = yH x
 len h := by rw [h]; rfl
 one h := by rw [h]; intro v hv; simp [yH] at hv; subst hv; rfl
 ext h _ _ := h
 lt h := by rw [h]; intro k hk; exact (xj hk).elim
theorem xk (l : List Nat) : (l.map yH).flatten = l.map fun x => aw x := by
 induction l with
 | nil => rfl
 | cons a l ih => rw [List.map_cons, List.flatten_cons, ih]; rfl
theorem BC {w : World} {s : Slc} {l : List Nat} (h : Own w s 1 (l.map fun x => aw x)) : Rows D7 w s l (l.map yH) :=
 ⟨by rw [xk]; exact h, by simp, fun i h1 h2 => by rw [List.getElem_map]; rfl, fun k hk => (Av hk).elim⟩
theorem qd {α β : Type} (f : α -> β) (l : List α) (i : Nat) : (l.map f).eraseIdx i = (l.eraseIdx i).map f := by
 rw [List.eraseIdx_eq_take_drop_succ, List.eraseIdx_eq_take_drop_succ, List.map_append, List.map_take, List.map_drop]
theorem ug {sz : Nat} {E : TypeId} {z : List Value} {w : World} {s : Slc} {src : Src} {K K' : Slc -> World -> Prop} (h : aM sz E z w s src K) (hk : ∀ s w, K s w -> K' s w) : aM sz E z w s src K' := by
 obtain ⟨old, new, c1, c2, c3, c4, c5, c6, c7⟩ := h
 exact ⟨old, new, c1, c2, c3, c4, c5, c6, fun s7 w8 hA => hk _ _ (c7 s7 w8 hA)⟩
theorem vB {w : World} {s : Slc} {l : List Nat} (h : Own w s 1 (l.map fun x => aw x)) {i : Nat} (hi : i < l.length) (hl : l.length <= 2 ^ 30) :
  Calls Tryz.prog cW ⟨[s.v, .int .i64 (i : Int), .int .i64 ((i : Int) + 1)]⟩ w fun e w' => e = .returned (Slc.v ⟨s.p, s.l - 1, s.c⟩) /\ Own w' ⟨s.p, s.l - 1, s.c⟩ 1 ((l.eraseIdx i).map fun x => aw x) /\ Ext (ah s) w w' := by
 refine jN _ _ _ ?_
 unfold gq
 have hR := BC h
 have hsl := hR.sl
 have hcap := hR.cap
 refine ⟨by omega, by omega, by omega, by omega, af (fun hh => by omega) (fun _ => ⟨by omega, by omega, by omega, by omega, by omega, by omega, by omega, by omega, ?_⟩)⟩
 have hd := hR.ae (Ext.drew _ w)
 rw [show Int.toNat (i : Int) = i by omega, show Int.toNat ((i : Int) + 1) = i + 1 by omega]
 refine ug (hd.cut (z := [.pointer none]) (K := fun w' => Own w' ⟨s.p, s.l - 1, s.c⟩ 1 ((l.eraseIdx i).map fun x => aw x) /\ Ext (ah s) w.drew w') (i := i) (by simpa using hi) rfl (fun v hv => by simp at hv; subst hv; rfl) hl (fun w' g1 g2 g3 => ⟨by
  have := g1.own
  rw [qd, xk] at this
  exact this, g2⟩)) ?_
 rintro s7 w8 ⟨rfl, g⟩
 refine ⟨by omega, ?_, ?_, ?_, ?_⟩
 ·show ((s.l - 1 : Nat) : Int) <= _; omega
 ·show ((s.l : Nat) : Int) <= ((s.c : Nat) : Int); omega
 ·exact Int.le_refl _
 exact g.mono (fun w1 hg => ⟨rfl, hg.1, (Ext.drew _ _).trans hg.2 (fun _ h => h) (fun _ h => .inl h)⟩)
theorem de.erase {w w' : World} {r rd : Nat} {u : StP} {L : List aE} (h : de w r rd u L) {i : Nat} (hi : i < L.length) {s' : Slc} (hs : s'.p = u.sp.p) (he : Ext (fun k => k = r \/ ah u.sp k) w w') (ho : ao w' r [aw rd, s'.v]) (hw : Own w' s' 1 ((u.xs.eraseIdx i).map fun x => aw x.o)) :
  de w' r rd ⟨s', u.xs.eraseIdx i⟩ (L.eraseIdx i) /\ ∀ k, StB r ⟨s', u.xs.eraseIdx i⟩ k -> StB r u k := by
 have hlen := h.len
 have hob : ∀ k, ah s' k ↔ ah u.sp k := fun k => by unfold ah; rw [hs]
 have hsub := List.eraseIdx_sublist u.xs i
 refine ⟨⟨ho, hw, by rw [List.length_eraseIdx_of_lt (by omega), List.length_eraseIdx_of_lt hi, hlen], fun j h1 h2 => ?_, h.sep.sublist hsub, fun hh => h.sr ((hob r).1 hh), fun x hx k hk => ?_⟩, ?_⟩
 ·dsimp only at h1 ⊢
  rw [List.length_eraseIdx_of_lt (by omega)] at h1
  have key : ∀ j (hj : j < u.xs.length), eB w' u.xs[j] (L[j]'(by omega)) := fun j hj => (h.g j hj (by omega)).ext he (fun k hk hh => by
   obtain ⟨v1, v2⟩ := h.ds _ (List.getElem_mem hj) k hk
   exact hh.elim v1 v2)
  rw [List.getElem_eraseIdx, List.getElem_eraseIdx]
  by_cases e : j < i
  ·rw [dif_pos e, dif_pos e]; exact key j (by omega)
  ·rw [dif_neg e, dif_neg e]; exact key (j + 1) (by omega)
 ·obtain ⟨v1, v2⟩ := h.ds x (hsub.subset hx) k hk
  exact ⟨v1, fun hh => v2 ((hob k).1 hh)⟩
 ·rintro k (hk | hk | ⟨x, hx, hk⟩)
  ·exact .inl hk
  ·exact .inr (.inl ((hob k).1 hk))
  ·exact .inr (.inr ⟨x, hsub.subset hx, hk⟩)
def dropR (L : List aE) (n : Int) : Option Nat × List aE :=
 match L.findIdx? (fun g => decide ((g.num : Int) = n)) with
 | none => (some 15, L)
 | some i => if i + 1 = L.length then (some 16, L) else (none, L.eraseIdx i)
theorem yI {L : List aE} {n : Int} (h : seekI (fun g => decide ((g.num : Int) = n)) L = -1) : dropR L n = (some 15, L) := by
 unfold seekI at h
 unfold dropR
 split at h
 ·omega
 ·rename_i h2; rw [h2]
theorem yJ {L : List aE} {n : Int} {i : Nat} (h : seekI (fun g => decide ((g.num : Int) = n)) L = i) : dropR L n = if i + 1 = L.length then (some 16, L) else (none, L.eraseIdx i) := by
 unfold seekI at h
 unfold dropR
 split at h
 ·rename_i j h2
  have : j = i := by omega
  subst this
  rw [h2]
 ·omega
def BD (A : Nat -> Addr) (w : World) (n0 r rd : Nat) (u : StP) (q : bV) (d : aF) (L : List aE) (m : Nat) (n : Int) (e' : Option Nat) (w' : World) : Prop :=
  ∃ (q' : bV) (d' : aF), aG w' rd q' d' /\ d'.n = d.n /\ d'.stops = d.stops /\
    ((dropR L n).1 ≠ none /\ e' = (dropR L n).1 /\ q' = q /\ d' = d /\ aj w w' \/
     (dropR L n).1 = none /\ e' = none /\ (∃ u', Sys w' n0 r rd u' q' d' (dropR L n).2 m /\ bj (bT r u rd q) (bT r u' rd q') w w') \/
     (dropR L n).1 = none /\ e' = some 11 /\ d.stops = true /\ po d' (d.n / 64) [L, (dropR L n).2] /\ bj (bT r u rd q) (aY rd q') w w')
theorem yK {w : World} {n0 r rd m : Nat} {u : StP} {q : bV} {d : aF} {L : List aE} (A : Nat -> Addr) (h : Sys w n0 r rd u q d L m) (hE : bn tf A n0 w) (hm : m <= 2 ^ 60) (n : Int) :
  Calls Tryz.prog fw ⟨[aw r, .int .i64 n]⟩ w fun e w' => ∃ e', e = .returned (errO A e') /\ BD A w n0 r rd u q d L m n e' w' := by
 refine nI _ _ ?_
 unfold kZ
 have hLk := h.len
 have hk := h.k
 have hSl := h.B.S.sl
 have hnn : d.n = d.img.length / 64 := rfl
 refine (sX h.B.S n (by omega)).mono ?_
 rintro e w4 ⟨rfl, k4⟩
 have h4 := h.ae k4
 have hE4 := hE.ae k4
 rcases kH (fun g => decide ((g.num : Int) = n)) L with ⟨e1, _, _⟩ | ⟨i, hi, e1, hf, _, _⟩
 ·rw [e1]
  have hdr := yI e1
  refine ⟨_, rfl, af (fun _ => ⟨_, dx hE4 15 iF rfl (by decide), some 15, rfl, q, d, h4.B.D, rfl, rfl, .inl ⟨by rw [hdr]; simp, by rw [hdr], rfl, rfl, k4⟩⟩) (fun h0 => absurd (show (-1 : Int) < 0 by omega) h0)⟩
 ·rw [e1]
  have hdr := yJ e1
  have hn : (L[i].num : Int) = n := by simpa using hf
  subst hn
  refine ⟨_, rfl, af (fun h0 => by omega) (fun _ => aa rfl ⟨_, h4.B.S.c1, ar (by omega), af (fun h0 => ?_) (fun h0 => ?_)⟩)⟩
  ·rw [if_pos (by omega)] at hdr
   exact ⟨_, dx hE4 16 fO rfl (by decide), some 16, rfl, q, d, h4.B.D, rfl, rfl, .inl ⟨by rw [hdr]; simp, by rw [hdr], rfl, rfl, k4⟩⟩
  ·rw [if_neg (by omega)] at hdr
   have kd : aj w4 (World.drew w4) := Ext.drew _ _
   have hd := h4.ae kd
   obtain ⟨a, x, ha, hc, hx, hxi, hxe⟩ := hd.B.S.at hi
   refine aa rfl ⟨_, hd.B.S.c1, aa ha ⟨by omega, by omega, _, by rw [Int.toNat_natCast]; exact hc, aa rfl ⟨_, (eO _ hx).1, ?_⟩⟩⟩
   have hNi := h.N _ (List.getElem_mem hi)
   refine (nY L[i].num 2 (by omega) _).mono ?_
   rintro e w17 ⟨t, rfl, ht, htf, k17⟩
   have h17 := hd.ae k17
   have hpl := h.I.pl _ (List.getElem_mem hi)
   refine ⟨t, rfl, ⟨_, (eO _ (hx.ae k17)).1, rfl⟩, ⟨_, by rw [Int.toNat_natCast]; exact k17.cell hc, rfl⟩, ⟨_, h17.B.S.c1, rfl⟩, ?_⟩
   have k17' : aj w w17 := (k4.trans kd).trans k17
   refine (oh A h17.B.S.c0 h17.B.nr h17.B.D h.p L[i].place 0 (by omega) t _ ht.bytes (bd _ _) ((hE.ae k17').sub eP) h17.B.dn h17.B.z (pn hd.B.D htf)).mono ?_
   rintro e w23 ⟨e', q', d', rfl, hD', f', hst', hcase⟩
   have ha3 : 64 * L[i].place + 0 < d.img.length / 64 := by omega
   have hon := h.I.on _ (List.getElem_mem hi)
   have h0s : aN d.img (64 * L[i].place) = dM L[i].num 1 := hon.1
   refine ⟨_, rfl, aB A _, ai (fun h2 => ?_) (fun h2 => ?_)⟩
   ·rcases hcase with ⟨rfl, _⟩ | ⟨rfl, hs, hi', hp'⟩
    ·cases h2
    ·refine ⟨some 11, rfl, q', d', hD', by unfold aF.n; rw [hi'], hst', .inr (.inr ⟨by rw [hdr], rfl, hs, ⟨by rcases hp' with h9 | h9 <;> rw [h9] <;> simp, fun kept torn cut => ?_⟩, bj.By (k17'.iU f')⟩)⟩
     rw [hi', hdr]
     obtain ⟨v1, v2⟩ := yE (a := 64 * L[i].place + 0) (img := d.img) ha3 (bd L[i].num 2) hp' kept torn cut
     simp only [Nat.add_zero] at v1 v2
     rcases v2 with v2 | ⟨c, hc9, v2⟩
     ·refine ⟨L.eraseIdx i, by simp, h.I.drop hi (fun j hj hne => v1 j (by omega) hne) ?_⟩
      rw [v2, o0]; decide
     ·refine ⟨L, by simp, ?_⟩
      rw [h0s, yu _ _ _ hc9] at v2
      refine h.I.tail (List.getElem_mem hi) (fun j hj hno => ?_) (fun hfl => ?_)
      ·by_cases e9 : j = 64 * L[i].place
       ·rw [e9, v2, h0s]
       ·exact v1 j (by omega) e9
      ·have hf1 : 1 <= (L[i]).fin := by unfold aE.fin; omega
       rw [v1 _ (by omega) (by omega)]
       exact jx hon.2 hfl
   ·rcases hcase.symm with ⟨rfl, _⟩ | ⟨rfl, hi', hp'⟩
    ·cases h2
    have h23 := h17.B.dev hD' f'
    have hn' : d'.n = d.n := by
     show d'.img.length / 64 = _
     rw [hi', iN ha3 (bd _ _) (Nat.le_refl _)]; exact hnn.symm
    have hI' : bO (aN d'.img) (d.n / 64) (L.eraseIdx i) := by
     refine h.I.drop hi (fun j hj hne => ?_) ?_
     ·rw [hi', iO ha3 (bd _ _) (by omega), if_neg (by omega)]
     ·rw [hi', iO ha3 (bd _ _) (by omega), if_pos (by omega), o0]; decide
    refine aa rfl ⟨_, h23.S.c1, ar (by omega), ?_⟩
    have hlen := h.B.S.len
    have how : Own w23 u.sp 1 ((u.xs.map (·.o)).map fun x => aw x) := by rw [List.map_map]; exact h23.S.s
    refine (vB how (i := i) (by simp; omega) (by simp; omega)).mono ?_
    rintro e w28 ⟨rfl, ho28, e28⟩
    have o28 := h23.S.o.ext e28 h23.S.sr
    obtain ⟨c1, c2⟩ := o28.bf 1 (by simp) (Slc.v ⟨u.sp.p, u.sp.l - 1, u.sp.c⟩)
    refine ⟨_, rfl, aa rfl ?_⟩
    rw [add_lit]
    refine ⟨c1, fun w31 hw31 => ?_⟩
    obtain ⟨o31, e31, _⟩ := c2 w31 hw31
    have hob : ∀ k, ah (⟨u.sp.p, u.sp.l - 1, u.sp.c⟩ : Slc) k -> ah u.sp k := fun k hk => hk
    have ho31 := ho28.ext e31 (fun k hk hh => h23.S.sr (by rw [<- show k = r from hh]; exact hob k hk))
    rw [<- qd, List.map_map, qd] at ho31
    have x31 : Ext (fun k => k = r \/ ah u.sp k) w23 w31 := (e28.mono (fun k hk => .inr hk)).trans e31 (fun _ h => h) (fun k hk => .inl (.inl hk))
    obtain ⟨SU, BU⟩ := h23.S.erase hi (s' := ⟨u.sp.p, u.sp.l - 1, u.sp.c⟩) rfl x31 o31 ho31
    have hD31 := hD'.ext x31 (fun k hk hh => h23.sep k (hh.elim .inl (fun h => .inr (.inl h))) hk)
    refine ⟨none, rfl, q', d', hD31, hn', hst', .inr (.inl ⟨by rw [hdr], rfl, ⟨⟨u.sp.p, u.sp.l - 1, u.sp.c⟩, u.xs.eraseIdx i⟩, ?_, ?_⟩)⟩
    ·rw [hdr]
     exact ⟨⟨SU, hD31, fun k hk => h23.sep k (BU k hk), h23.dn, fun k hk => h23.sn k (BU k hk), Nat.le_trans h23.z x31.size⟩, hp', by rw [hn']; exact hI', fun g hg => h.N g ((List.eraseIdx_sublist L i).subset hg), by rw [hn']; exact hk⟩
    ·have fA : bj (bT r u rd q) (bT r u rd q') w w23 := bj.dev (k17'.iU f')
     refine ⟨fA.1.trans x31 (fun _ h => h) (fun k hk => .inl (.inl (hk.elim .inl (fun h => .inr (.inl h))))), fun k hk => ?_⟩
     exact fA.2 k (hk.imp (BU k) (fun h => h))
end Go.D
namespace Go.D
def fI (n : Nat) : List UInt8 :=
 if h : n < 128 then [UInt8.ofNat n] else UInt8.ofNat (n % 128 + 128) :: fI (n / 128)
termination_by n
decreasing_by omega
theorem ml : ∀ (n j : Nat), n < 128 ^ (j + 1) -> (fI n).length <= j + 1
 | n, 0, h => by rw [fI.eq_1, dif_pos (by simpa using h)]; simp
 | n, j + 1, h => by
  rw [fI.eq_1]
  split
  ·simp
  ·have := ml (n / 128) j (by rw [Nat.pow_succ] at h; omega)
   simp; omega
theorem BE (n : Nat) : 0 < (fI n).length := by
 rw [fI.eq_1]; split <;> simp
theorem zG {n : Nat} (h : n < 128) : fI n = [UInt8.ofNat n] := by rw [fI.eq_1, dif_pos h]
theorem zH {n : Nat} (h : ¬ n < 128) : fI n = UInt8.ofNat (n % 128 + 128) :: fI (n / 128) := by rw [fI.eq_1, dif_neg h]
end Go.D
namespace Go.D
def mT (n : Int) : List UInt8 := fI n.toNat
def qI (t : List UInt8) : List UInt8 := fI t.length ++ t
theorem eQ (n : Int) (h : n <= 2 ^ 40) : (mT n).length <= 6 := ml n.toNat 5 (by omega)
theorem uO (t : List UInt8) (h : t.length <= 2 ^ 20) : (qI t).length <= 6 + t.length := by
 have := ml t.length 5 (by omega)
 unfold qI; rw [List.length_append]; omega
end Go.D
namespace Go.D
open Go
inductive Rc where
 | cm (at_ : Nat) (t : List UInt8)
 | trim (to ep : Nat)
 | shut (ep : Nat)
def encR : Rc -> List UInt8
 | .cm a t => mT 1 ++ (mT (a : Int) ++ qI t)
 | .trim t e => mT 2 ++ (mT (t : Int) ++ mT (e : Int))
 | .shut e => mT 3 ++ mT (e : Int)
def okR : Rc -> Prop
 | .cm a t => a < 4096 /\ 1 <= t.length /\ t.length <= 2048
 | .trim t e => t <= 4096 /\ e <= 2 ^ 30
 | .shut e => e <= 2 ^ 30
theorem tk (n : Int) : 0 < (mT n).length := by
 unfold mT fI
 split <;> simp
theorem pt {x : Rc} (h : okR x) : 0 < (encR x).length /\ (encR x).length <= 2066 := by
 have h6 : ∀ n : Nat, n <= 2 ^ 40 -> (mT (n : Int)).length <= 6 := fun n hn => eQ _ (by omega)
 have h1 := eQ 1 (by omega)
 have h2 := eQ 2 (by omega)
 have h3 := eQ 3 (by omega)
 have p1 := tk 1
 have p2 := tk 2
 have p3 := tk 3
 cases x with
 | cm a t =>
  obtain ⟨v1, v2, v3⟩ := h
  have g1 := h6 a (by omega)
  have g2 := uO t (by omega)
  simp only [encR, List.length_append]; omega
 | trim t e =>
  obtain ⟨v1, v2⟩ := h
  have g1 := h6 t (by omega)
  have g2 := h6 e (by omega)
  simp only [encR, List.length_append]; omega
 | shut e =>
  have v1 : e <= 2 ^ 30 := h
  have g1 := h6 e (by omega)
  simp only [encR, List.length_append]; omega
def iR (x : Nat × Nat) : Rc -> Nat × Nat
 | .cm _ _ => x
 | .trim t e => (t, e)
 | .shut e => (x.1, e)
def vC (R : List Rc) : Nat × Nat := R.foldl iR (0, 0)
theorem qe (R : List Rc) (x : Rc) : vC (R ++ [x]) = iR (vC R) x := by simp [vC]
def pagesOf : List Rc -> List (Nat × List UInt8)
 | [] => []
 | .cm a t :: r => (a, t) :: pagesOf r
 | .trim _ _ :: r => pagesOf r
 | .shut _ :: r => pagesOf r
theorem ba (R S : List Rc) : pagesOf (R ++ S) = pagesOf R ++ pagesOf S := by
 induction R with
 | nil => rfl
 | cons x r ih => cases x <;> simp [pagesOf, ih]
def cK (P : List (Nat × List UInt8)) (a : Nat) : Option (List UInt8) := (P.find? (fun x => x.1 == a)).map (·.2)
def cU (P : List (Nat × List UInt8)) : Nat := P.foldl (fun m x => max m (x.1 + 1)) 0
theorem yL (P : List (Nat × List UInt8)) (x : Nat × List UInt8) : cU (P ++ [x]) = max (cU P) (x.1 + 1) := by simp [cU]
theorem mm (P : List (Nat × List UInt8)) (a : Nat) (t : List UInt8) (x : Nat) : cK (P ++ [(a, t)]) x = match cK P x with | some y => some y | none => if a = x then some t else none := by
 unfold cK
 rw [List.find?_append]
 cases h : P.find? (fun y => y.1 == x) with
 | some y => rfl
 | none =>
  by_cases e : a = x
  ·subst e; simp
  ·simp [e]
structure aL where
 place : Nat
 num : Nat
 rs : List Rc
def aL.s (g : aL) : aE := ⟨g.place, g.num, g.rs.map encR⟩
abbrev sU (U : List aL) : List aE := U.map aL.s
def dJ (U : List aL) : List Rc := U.flatMap (·.rs)
theorem mI (M : List aL) (g : aL) : dJ (M ++ [g]) = dJ M ++ g.rs := by simp [dJ]
def okU (U : List aL) : Prop := ∀ g ∈ U, ∀ x ∈ g.rs, okR x
end Go.D
namespace Go.D
open Go
theorem qJ {P : List (Nat × List UInt8)} {a : Nat} : cK P a = none ↔ ∀ x ∈ P, x.1 ≠ a := by
 unfold cK
 rw [Option.map_eq_none_iff, List.find?_eq_none]
 constructor
 ·intro h x hx e
  exact h x hx (by simp [e])
 ·intro h x hx
  simpa using h x hx
theorem uh {P Q : List (Nat × List UInt8)} {a : Nat} (h : ∀ x ∈ P, x.1 ≠ a) : cK (P ++ Q) a = cK Q a := by
 unfold cK
 rw [List.find?_append, List.find?_eq_none.2 (fun x hx => by simpa using h x hx)]
 rfl
theorem gX {P : List (Nat × List UInt8)} {n : Nat} : cU P <= n ↔ ∀ x ∈ P, x.1 < n := by
 have key : ∀ (P : List (Nat × List UInt8)) (m : Nat), P.foldl (fun m x => max m (x.1 + 1)) m <= n ↔ m <= n /\ ∀ x ∈ P, x.1 < n := by
  intro P
  induction P with
  | nil => intro m; simp
  | cons y P ih =>
   intro m
   rw [List.foldl_cons, ih]
   simp only [List.mem_cons, forall_eq_or_imp]
   constructor
   ·rintro ⟨h1, h2⟩; exact ⟨by omega, by omega, h2⟩
   ·rintro ⟨h1, h2, h3⟩; exact ⟨by omega, h3⟩
 unfold cU
 rw [key]
 simp
theorem pw (P Q : List (Nat × List UInt8)) : cU (P ++ Q) = max (cU P) (cU Q) := by
 apply Nat.le_antisymm
 ·rw [gX]
  intro x hx
  rcases List.mem_append.1 hx with h | h
  ·have := gX.1 (Nat.le_refl (cU P)) x h; omega
  ·have := gX.1 (Nat.le_refl (cU Q)) x h; omega
 ·have h1 : cU P <= cU (P ++ Q) := gX.2 (fun x hx => gX.1 (Nat.le_refl _) x (by simp [hx]))
  have h2 : cU Q <= cU (P ++ Q) := gX.2 (fun x hx => gX.1 (Nat.le_refl _) x (by simp [hx]))
  omega
abbrev pgU (U : List aL) : List (Nat × List UInt8) := pagesOf (dJ U)
structure fe (U : List aL) (tr ep T : Nat) : Prop where
 ok : okU U
 te : vC (dJ U) = (tr, ep)
 nd : ((pgU U).map (·.1)).Nodup
 tl : max (cU (pgU U)) tr = T
theorem fe.nil : fe [] 0 0 0 := ⟨by simp [okU], rfl, by simp [pgU, dJ, pagesOf], rfl⟩
theorem zI {M : List aL} {g : aL} {x : Rc} (h : okU (M ++ [g])) (hx : okR x) : okU (M ++ [{ g with rs := g.rs ++ [x] }]) := by
 intro y hy z hz
 rcases List.mem_append.1 hy with h1 | h1
 ·exact h y (by simp [h1]) z hz
 ·rw [List.mem_singleton] at h1; subst h1
  rcases List.mem_append.1 hz with h2 | h2
  ·exact h g (by simp) z h2
  ·rw [List.mem_singleton] at h2; subst h2; exact hx
theorem BF (M : List aL) (g : aL) (x : Rc) : dJ (M ++ [{ g with rs := g.rs ++ [x] }]) = dJ (M ++ [g]) ++ [x] := by
 rw [mI, mI, List.append_assoc]
theorem xl (U : List aL) (p n : Nat) : dJ (U ++ [⟨p, n, []⟩]) = dJ U := by rw [mI]; simp
theorem fe.add {U : List aL} {tr ep T : Nat} (h : fe U tr ep T) {M : List aL} {g : aL} {x : Rc} (hU : okU (M ++ [g])) (hR : dJ (M ++ [g]) = dJ U) (hx : okR x) (hp : ∀ a t, x = .cm a t -> ∀ y ∈ pgU U, y.1 ≠ a) :
  fe (M ++ [{ g with rs := g.rs ++ [x] }]) (iR (tr, ep) x).1 (iR (tr, ep) x).2 (match x with | .cm a _ => max T (a + 1) | .trim t _ => max (cU (pgU U)) t | .shut _ => T) := by
 have hall : dJ (M ++ [{ g with rs := g.rs ++ [x] }]) = dJ U ++ [x] := by rw [BF, hR]
 refine ⟨zI hU hx, by rw [hall, qe, h.te], ?_, ?_⟩
 ·unfold pgU
  rw [hall, ba]
  cases x with
  | cm a t =>
   have := hp a t rfl
   rw [List.map_append]
   refine List.nodup_append.2 ⟨h.nd, by simp [pagesOf], fun y hy z hz => ?_⟩
   obtain ⟨v, hv, rfl⟩ := List.mem_map.1 hy
   simp [pagesOf] at hz
   rw [hz]; exact this v hv
  | trim t e => simpa [pagesOf] using h.nd
  | shut e => simpa [pagesOf] using h.nd
 ·have htl := h.tl
  unfold pgU at htl ⊢
  rw [hall, ba, pw]
  cases x with
  | cm a t =>
   have e1 : cU (pagesOf [Rc.cm a t]) = a + 1 := by simp [pagesOf, cU]
   rw [e1]
   simp only [iR]
   omega
  | trim t e =>
   have e1 : cU (pagesOf [Rc.trim t e]) = 0 := rfl
   rw [e1]; simp only [iR]; omega
  | shut e =>
   have e1 : cU (pagesOf [Rc.shut e]) = 0 := rfl
   rw [e1]; simp only [iR]; omega
theorem fe.drop {g : aL} {U : List aL} {tr ep T : Nat} (h : fe (g :: U) tr ep T) (hl : ∃ R, dJ U = R ++ [.trim tr ep]) (hg : ∀ y ∈ pagesOf g.rs, y.1 < tr) :
  fe U tr ep T /\ ∀ a, tr <= a -> cK (pgU U) a = cK (pgU (g :: U)) a := by
 have hall : dJ (g :: U) = g.rs ++ dJ U := by simp [dJ]
 have hpg : pgU (g :: U) = pagesOf g.rs ++ pgU U := by unfold pgU; rw [hall, ba]
 refine ⟨⟨fun y hy => h.ok y (by simp [hy]), ?_, ?_, ?_⟩, fun a ha => ?_⟩
 ·obtain ⟨R, hR⟩ := hl
  rw [hR, qe]; rfl
 ·have := h.nd
  rw [hpg, List.map_append] at this
  exact (List.nodup_append.1 this).2.1
 ·have htl := h.tl
  rw [hpg, pw] at htl
  have h1 : cU (pagesOf g.rs) <= tr := gX.2 hg
  omega
 ·rw [hpg, uh (fun x hx => by have := hg x hx; omega)]
end Go.D
namespace Go.D
open Go Go.Proofs
def eN : Option Nat -> Int
 | none => 0
 | some k => ((k + 1 : Nat) : Int)
theorem tm (A : Nat -> Addr) (e' : Option Nat) (h : ∀ k, e' = some k -> k < 19) (w : World) (hE : b7 A w) : Calls Tryz.prog bk ⟨[errO A e']⟩ w fun e w' => e = .returned (.int .i64 (eN e')) /\ aj w w' := by
 cases e' with
 | none =>
  refine (CC w).mono ?_
  rintro e w' ⟨rfl, rfl⟩
  exact ⟨rfl, Ext.refl _ _⟩
 | some k => exact Bm A k (h k rfl) w hE
end Go.D
namespace Go.D
open Go Go.Proofs
theorem CM (n i : Nat) : mkS (aN (List.replicate n 0) i) = 0 := by
 unfold mkS aN
 rw [List.drop_replicate, List.take_replicate, List.getD_eq_getElem?_getD, List.getElem?_replicate]
 split <;> rfl
theorem BG (n k : Nat) : bO (aN (Bo n).img) k [] :=
 ⟨by simp, List.Pairwise.nil, List.Pairwise.nil, by simp, fun p hp _ => by
  show mkS (aN (List.replicate (n * 64) 0) (64 * p)) ≠ 1
  rw [CM]; decide⟩
theorem Dx (n : Nat) : (Bo n).n = n := by
 show (List.replicate (n * 64) (0 : UInt8)).length / 64 = n
 rw [List.length_replicate]; omega
theorem Aw {w1 : World} {n0 rd m : Nat} {q : bV} {d : aF} {L : List aE} (A : Nat -> Addr) (hE : bn tf A n0 w1) (hD : aG w1 rd q d) (hp : d.aC = []) (hI : bO (aN d.img) (d.n / 64) L) (hk : 1 <= d.n / 64 /\ d.n / 64 < 20) (hN : ∀ g ∈ L, g.num < m) (hm : m <= 2 ^ 60)
  (hdn : ∀ k, aY rd q k -> n0 <= k) (hz : n0 <= w1.heap.size) :
  Calls Tryz.prog ik ⟨[aw rd]⟩ w1 fun e w2 => ∃ (r : Nat) (u : StP), e = .returned (.tuple ⟨[aw r, .nilIface]⟩) /\ Sys w2 n0 r rd u q d L m /\ (∀ k, StB r u k -> w1.heap.size <= k) /\ aj w1 w2 := by
 refine (yB A hD hp (hE.sub eP) hI hk.1 hk.2 (fun g hg => by have := hN g hg; omega)).mono ?_
 rintro e w2 ⟨r, u, rfl, hS, hf, k2⟩
 have hD2 := hD.ae k2
 refine ⟨r, u, rfl, ⟨⟨hS, hD2, fun k hk hh => ?_, hdn, fun k hk => Nat.le_trans hz (hf k hk), Nat.le_trans hz k2.size⟩, hp, hI, hN, hk⟩, hf, k2⟩
 have := hf k hk
 have := hD.lt k hh
 omega
end Go.D
namespace Go.D
open Go Go.Proofs
abbrev KS : KV Int Slc := KV.int Slc.v
structure UnP where
 mp : Nat
 mi : Nat
 pl : List (Int × Slc)
 il : List (Int × Slc)
structure UnM (w : World) (r st : Nat) (x : UnP) (tr ep top : Int) (pg : Int -> Option (List UInt8)) (ins : Int -> List Int) : Prop where
 o : ao w r [aw st, .map (some x.mp), .map (some x.mi), .int .i64 tr, .int .i64 ep, .int .i64 top]
 p : fF KS w x.mp x.pl
 i : fF KS w x.mi x.il
 ne : x.mp ≠ x.mi
 pv : ∀ a, (∀ s, lookL x.pl a = some s -> ∃ t, pg a = some t /\ aq w s t /\ t.length <= 2048) /\ (lookL x.pl a = none -> pg a = none)
 iv : ∀ n, az w ((lookL x.il n).getD ⟨none, 0, 0⟩) (ins n)
 sep : ∀ n m s t, lookL x.il n = some s -> lookL x.il m = some t -> n ≠ m -> ∀ k, ah s k -> ¬ ah t k
 ir : ∀ n s, lookL x.il n = some s -> ¬ ah s r
 pb : ∀ a s, lookL x.pl a = some s -> 0 < s.l -> ∀ k, ah s k -> k ≠ r /\ ∀ n t, lookL x.il n = some t -> ¬ ah t k
def UnW (r : Nat) (x : UnP) (k : Nat) : Prop := k = r \/ k = x.mp \/ k = x.mi \/ ∃ n s, lookL x.il n = some s /\ ah s k
def UnY (x : UnP) (k : Nat) : Prop := ∃ a s, lookL x.pl a = some s /\ 0 < s.l /\ ah s k
section
variable {w w' : World} {r st : Nat} {x : UnP} {tr ep top : Int} {pg : Int -> Option (List UInt8)} {ins : Int -> List Int}
theorem UnM.ext {M : Nat -> Prop} (h : UnM w r st x tr ep top pg ins) (he : Ext M w w') (h1 : ∀ k, UnW r x k -> ¬ M k) (h2 : ∀ k, UnY x k -> ¬ M k) : UnM w' r st x tr ep top pg ins := by
 refine ⟨h.o.ext he (h1 _ (.inl rfl)), h.p.ext he (h1 _ (.inr (.inl rfl))), h.i.ext he (h1 _ (.inr (.inr (.inl rfl)))), h.ne, fun a => ⟨fun s hs => ?_, (h.pv a).2⟩, fun n => ?_, h.sep, h.ir, h.pb⟩
 ·obtain ⟨t, g1, g2, g3⟩ := (h.pv a).1 s hs
  exact ⟨t, g1, bc g2 he (fun h0 k hk => h2 k ⟨a, s, hs, h0, hk⟩), g3⟩
 ·refine (h.iv n).ext he (fun k hk => ?_)
  cases hl : lookL x.il n with
  | none => rw [hl] at hk; obtain ⟨a, ha, _⟩ := hk; cases ha
  | some s => rw [hl] at hk; exact h1 k (.inr (.inr (.inr ⟨n, s, hl, hk⟩)))
theorem UnM.ae (h : UnM w r st x tr ep top pg ins) (he : aj w w') : UnM w' r st x tr ep top pg ins := h.ext he (fun _ _ h => h) (fun _ _ h => h)
theorem UnM.lt (h : UnM w r st x tr ep top pg ins) : (∀ k, UnW r x k -> k < w.heap.size) /\ ∀ k, UnY x k -> k < w.heap.size := by
 refine ⟨?_, ?_⟩
 ·rintro k (rfl | rfl | rfl | ⟨n, s, hs, hk⟩)
  ·exact h.o.lt
  ·exact h.p.lt
  ·exact h.i.lt
  ·have := h.iv n
   rw [hs] at this
   exact Rows.lt this k hk
 ·rintro k ⟨a, s, hs, h0, hk⟩
  obtain ⟨t, _, g2, _⟩ := (h.pv a).1 s hs
  exact gW g2 h0 k hk
theorem UnM.c (h : UnM w r st x tr ep top pg ins) : w.cell? ⟨r, 0, none⟩ = some (aw st) /\ w.cell? ((⟨r, 0, none⟩ : Addr).add 1) = some (.map (some x.mp)) /\ w.cell? ((⟨r, 0, none⟩ : Addr).add 2) = some (.map (some x.mi)) /\ w.cell? ((⟨r, 0, none⟩ : Addr).add 3) = some (.int .i64 tr) /\
  w.cell? ((⟨r, 0, none⟩ : Addr).add 4) = some (.int .i64 ep) /\ w.cell? ((⟨r, 0, none⟩ : Addr).add 5) = some (.int .i64 top) := by
 simp only [add_lit]
 exact ⟨h.o.cell 0 (by simp), h.o.cell 1 (by simp), h.o.cell 2 (by simp), h.o.cell 3 (by simp), h.o.cell 4 (by simp), h.o.cell 5 (by simp)⟩
theorem UnM.has (h : UnM w r st x tr ep top pg ins) (a : Int) : (lookL x.pl a).isSome = (pg a).isSome := by
 cases hl : lookL x.pl a with
 | none => rw [(h.pv a).2 hl]; rfl
 | some s => obtain ⟨t, g, _⟩ := (h.pv a).1 s hl; rw [g]; rfl
def BH : List Nat := [av, gb, db, cO, da, gC, aD, lL]
theorem px : ∀ g ∈ BH, g ∈ eM := by decide
def cL (ep epoch a most : Int) : Option Nat := if epoch < ep \/ 1073741824 < epoch then some 7 else if a < 0 \/ most < a then some 0 else none
theorem mn (A : Nat -> Addr) (h : UnM w r st x tr ep top pg ins) (epoch a most : Int) {n0 : Nat} (hE : bn BH A n0 w) :
  Calls Tryz.prog cu ⟨[aw r, .int .i64 epoch, .int .i64 a, .int .i64 most]⟩ w fun e w' => e = .returned (errO A (cL ep epoch a most)) /\ w' = w := by
 refine nK _ _ _ _ ?_
 unfold ld
 refine ⟨fun b w2 => b = decide (epoch < ep \/ 1073741824 < epoch) /\ w2 = w, aa rfl ⟨_, h.c.2.2.2.2.1, af (fun h0 => ⟨by simp [h0], rfl⟩) (fun h0 => ⟨by simp [h0], rfl⟩)⟩, ?_⟩
 rintro b w9 ⟨rfl, rfl⟩
 intros
 unfold cL
 refine af (fun h0 => ?_) (fun h0 => af (fun h1 => ?_) (fun h1 => af (fun h2 => ?_) (fun h2 => ?_)))
 ·rw [if_pos h0]
  exact ⟨_, dx hE 7 gb rfl (by decide), rfl, rfl⟩
 ·rw [if_neg h0, if_pos (.inl h1)]
  exact ⟨_, dx hE 0 av rfl (by decide), rfl, rfl⟩
 ·rw [if_neg h0, if_pos (.inr h2)]
  exact ⟨_, dx hE 0 av rfl (by decide), rfl, rfl⟩
 ·rw [if_neg h0, if_neg (by omega)]
  exact ⟨rfl, rfl⟩
def readE (tr ep : Int) (pg : Int -> Option (List UInt8)) (epoch a : Int) : Option Nat := match cL ep epoch a 4095 with
 | some c => some c
 | none => if a < tr then some 10 else if (pg a).isSome then none else some 9
theorem tq (A : Nat -> Addr) (h : UnM w r st x tr ep top pg ins) (epoch a : Int) {n0 : Nat} (hE : bn BH A n0 w) :
  Calls Tryz.prog bE ⟨[aw r, .int .i64 epoch, .int .i64 a]⟩ w fun e w' => ∃ t : Slc, e = .returned (.tuple ⟨[t.v, errO A (readE tr ep pg epoch a)]⟩) /\ Own w' t 1 ((if (readE tr ep pg epoch a).isNone then (pg a).getD [] else []).map aQ) /\ aU w t /\ aj w w' := by
 refine oN _ _ _ ?_
 unfold l4
 refine (mn A h epoch a 4095 hE).mono ?_
 rintro e w5 ⟨rfl, rfl⟩
 unfold readE
 cases hc : cL ep epoch a 4095 with
 | some c =>
  exact ⟨_, rfl, trivial, ai (fun _ => ⟨_, rfl, Own.nil _ _, aU.nil _ _ _, Ext.refl _ _⟩) (fun h => by cases h)⟩
 | none =>
  have kd : aj w5 (World.drew w5) := Ext.drew _ _
  obtain ⟨es, h1, h2⟩ := h.p.get
  refine ⟨_, rfl, trivial, ai (fun h => by cases h) (fun _ => aa rfl ⟨_, h.c.2.1, es, h1, lookL x.pl a, h2 a, aa rfl ⟨_, h.c.2.2.2.1, af (fun h3 => ?_) (fun h3 => ai (fun h4 => ?_) (fun h4 => ?_))⟩⟩)⟩
  ·refine ⟨_, dx (hE.ae kd) 10 db rfl (by decide), ?_⟩
   simp only [if_pos h3]
   exact ⟨_, rfl, Own.nil _ _, aU.nil _ _ _, kd⟩
  ·refine ⟨_, dx (hE.ae kd) 9 cO rfl (by decide), ?_⟩
   rw [h.has] at h4
   have h5 : (pg a).isSome = false := by simpa using h4
   simp only [if_neg h3, h5]
   exact ⟨_, rfl, Own.nil _ _, aU.nil _ _ _, kd⟩
  ·rw [h.has] at h4
   have h5 : (pg a).isSome = true := by simpa using h4
   simp only [if_neg h3, h5]
   cases hl : lookL x.pl a with
   | none =>
    have := (h.pv a).2 hl
    rw [this] at h5; cases h5
   | some s =>
    obtain ⟨t, g1, g2, g3⟩ := (h.pv a).1 s hl
    refine (dV s t w5 g2 (by have := g2.1; omega)).mono ?_
    rintro e w16 ⟨t2, rfl, ht2, hf2, k16⟩
    refine ⟨t2, rfl, t2, rfl, ?_, hf2, k16⟩
    rw [g1]
    exact ht2
end
end Go.D
namespace Go.D
open Go Go.Proofs
section
variable {w w' : World} {r st : Nat} {x : UnP} {tr ep top : Int} {pg : Int -> Option (List UInt8)} {ins : Int -> List Int}
abbrev inS (x : UnP) (n : Int) : Slc := (lookL x.il n).getD ⟨none, 0, 0⟩
theorem jB {n : Int} {k : Nat} (h : ah (inS x n) k) : ∃ s, lookL x.il n = some s /\ inS x n = s /\ ah s k := by
 unfold inS at h ⊢
 cases hl : lookL x.il n with
 | none => rw [hl] at h; obtain ⟨a, ha, _⟩ := h; cases ha
 | some s => rw [hl] at h; exact ⟨s, rfl, rfl, h⟩
theorem bW {w : World} {s : Slc} {b : List UInt8} {k : Nat} {es : Array MapEntry} {ck : Nat} (h : aq w s b) (h0 : 0 < s.l) (hk : ah s k) (hm : w.heap[k]? = some (.map es ck)) : False := by
 obtain ⟨a, ha, rfl⟩ := hk
 obtain ⟨a', ha', hc'⟩ := bl h.2 (i := 0) (by rw [List.length_map, <- h.1]; exact h0)
 rw [ha] at ha'; cases ha'
 have : w.cell? (a.add 0) = none := by
  unfold World.cell?
  rw [cM, hm]
 rw [this] at hc'; cases hc'
def Dy (r : Nat) (x x' : UnP) (Y : Nat -> Prop) (w w' : World) : Prop := Ext (UnW r x) w w' /\ (∀ k, UnW r x' k -> UnW r x k \/ w.heap.size <= k) /\ ∀ k, UnY x' k -> UnY x k \/ Y k \/ w.heap.size <= k
def fi {α : Type} (f : Int -> α) (n : Int) (a : α) : Int -> α := fun m => if m = n then a else f m
theorem tu (h : UnM w r st x tr ep top pg ins) (seg a : Int) (s : Slc) (t : List UInt8) (hb : aq w s t) (ht : t.length <= 2048) (hs : 0 < s.l -> ∀ k, ah s k -> ¬ UnW r x k) (hpg : pg a = none) (ha : 0 <= a /\ a <= 2 ^ 40) (htop : top <= 2 ^ 41) (hlen : (ins seg).length < 2 ^ 20) :
  Calls Tryz.prog eA ⟨[aw r, .int .i64 seg, .int .i64 a, s.v]⟩ w fun e w' => e = .returned (.tuple #[]) /\ ∃ x', UnM w' r st x' tr ep (max top (a + 1)) (fi pg a (some t)) (fi ins seg (ins seg ++ [a])) /\ Dy r x x' (fun k => 0 < s.l /\ ah s k) w w' := by
 refine oL _ _ _ _ ?_
 unfold lW
 have kd : aj w (World.drew w) := Ext.drew _ _
 have hd := h.ae kd
 obtain ⟨es, h1, h2⟩ := hd.i.get
 refine aa rfl ⟨_, hd.c.2.2.1, aa rfl ⟨_, hd.c.2.2.1, es, h1, lookL x.il seg, h2 seg, ak (fun r11 w12 hr hb11 k12 hs12 => ?_)⟩⟩
 have h12 := hd.ae k12
 obtain ⟨es', h1', h2'⟩ := h12.i.get
 refine ⟨⟨es', h1', lookL x.il seg, h2' seg, rfl⟩, ⟨_, h12.c.2.2.1, rfl⟩, ⟨_, h12.c.2.2.1, rfl⟩, ?_⟩
 have lt := h.lt
 have lt12 := h12.lt
 have z12 := k12.size
 have hdz : (World.drew w).heap.size = w.heap.size := rfl
 refine Rows.snoc (cs := oc a) (x := a) (z := [.int .i64 0]) (h12.iv seg) rfl rfl (fun k hk => (me hk).elim) hb11 (.inl (by simp)) (by omega) (fun s17 w18 g1 g2 g3 => ?_)
 have gI : az w18 s17 (ins seg ++ [a]) := az.of (by simpa using g1)
 -- the old slice's blocks
 have oldB : ∀ k, ah (inS x seg) k -> UnW r x k /\ k ≠ r /\ k ≠ x.mp /\ k ≠ x.mi := fun k hk => by
  obtain ⟨s0, e1, e2, e3⟩ := jB hk
  have ho := (h12.iv seg).own
  rw [e1] at ho
  obtain ⟨c, T, f, hc⟩ := Own.ne ho e3
  obtain ⟨_, _, hp1, _⟩ := h12.p.at'
  obtain ⟨_, _, hi1, _⟩ := h12.i.at'
  exact ⟨.inr (.inr (.inr ⟨seg, s0, e1, e3⟩)), fun e => h.ir seg s0 e1 (e ▸ e3), (fun e => by rw [e, hp1] at hc; cases hc), (fun e => by rw [e, hi1] at hc; cases hc)⟩
 have o18 := h12.o.ext g2 (fun hh => (oldB r hh).2.1 rfl)
 have p18 := h12.p.ext g2 (fun hh => (oldB _ hh).2.2.1 rfl)
 have i18 := h12.i.ext g2 (fun hh => (oldB _ hh).2.2.2 rfl)
 have nW : ∀ k, ah s17 k -> ah (inS x seg) k \/ w.heap.size <= k := fun k hk => (g3 k hk).imp (fun h => h) (fun h => by omega)
 obtain ⟨es1, ck1, es2, ck2, m1, m2, m3⟩ := i18.put seg s17
 refine ⟨⟨_, by rw [add_lit]; exact o18.cell 2 (by simp), rfl⟩, x.mi, es1, ck1, es2, ck2, rfl, m1, m2, fun w25 hw25 => ?_⟩
 obtain ⟨i25, e25, z25⟩ := m3 w25 hw25
 have rmi : r ≠ x.mi := fun e => by
  obtain ⟨T, f, hc, _⟩ := h.o
  obtain ⟨_, _, hi1, _⟩ := h.i.at'
  rw [e, hi1] at hc; cases hc
 have rmp : r ≠ x.mp := fun e => by
  obtain ⟨T, f, hc, _⟩ := h.o
  obtain ⟨_, _, hp1, _⟩ := h.p.at'
  rw [e, hp1] at hc; cases hc
 have o25 := o18.ext e25 (fun hh => rmi hh)
 have p25 := p18.ext e25 (fun hh => h.ne hh)
 obtain ⟨c1, c2⟩ := o25.bf 5 (by simp) (.int .i64 (if (a + (1 : Int)) > top then (a + (1 : Int)) else top))
 refine aa rfl ⟨_, by rw [add_lit]; exact o25.cell 5 (by simp), ar (by omega), aa rfl ?_⟩
 rw [add_lit]
 refine ⟨c1, fun w29 hw29 => ?_⟩
 obtain ⟨o29, e29, z29⟩ := c2 w29 hw29
 have i29 := i25.ext e29 (fun hh => rmi hh.symm)
 have p29 := p25.ext e29 (fun hh => rmp hh.symm)
 obtain ⟨es3, n1, n2⟩ := p29.get
 have hno : lookL x.pl a = none := by
  cases hl : lookL x.pl a with
  | none => rfl
  | some s0 => obtain ⟨t0, g, _⟩ := (h.pv a).1 s0 hl; rw [hpg] at g; cases g
 refine aa rfl ⟨_, by rw [add_lit]; exact o29.cell 1 (by simp), es3, n1, lookL x.pl a, n2 a, ?_⟩
 rw [hno]
 obtain ⟨es4, ck4, es5, ck5, q1, q2, q3⟩ := p29.put a s
 refine ai (fun _ => aa rfl ⟨_, by rw [add_lit]; exact o29.cell 1 (by simp), x.mp, es4, ck4, es5, ck5, rfl, q1, q2, fun w41 hw41 => ?_⟩) (fun hh => by cases hh)
 obtain ⟨p41, e41, z41⟩ := q3 w41 hw41
 -- all that is changed
 have xall : Ext (fun k => ah (inS x seg) k \/ k = x.mi \/ k = r \/ k = x.mp) w12 w41 := (((g2.mono (fun k hk => .inl hk)).trans e25 (fun _ h => h) (fun k hk => .inl (.inr (.inl hk)))).trans e29 (fun _ h => h) (fun k hk => .inl (.inr (.inr (.inl hk))))).trans e41 (fun _ h => h) (fun k hk => .inl (.inr (.inr (.inr hk))))
 have xpost : Ext (fun k => k = x.mi \/ k = r \/ k = x.mp) w18 w41 := ((e25.mono (fun k hk => .inl hk)).trans e29 (fun _ h => h) (fun k hk => .inl (.inr (.inl hk)))).trans e41 (fun _ h => h) (fun k hk => .inl (.inr (.inr hk)))
 have s17k : ∀ k, ah s17 k -> ¬ (k = x.mi \/ k = r \/ k = x.mp) := fun k hk hh => by
  rcases nW k hk with g | g
  ·obtain ⟨_, v1, v2, v3⟩ := oldB k g
   rcases hh with hh | hh | hh
   ·exact v3 hh
   ·exact v1 hh
   ·exact v2 hh
  ·have l1 := lt.1 r (.inl rfl)
   have l2 := lt.1 x.mp (.inr (.inl rfl))
   have l3 := lt.1 x.mi (.inr (.inr (.inl rfl)))
   omega
 have lk : ∀ n, lookL (putL x.il seg s17) n = if n = seg then some s17 else lookL x.il n := fun n => rZ seg n s17 x.il
 have lp : ∀ b, lookL (putL x.pl a s) b = if b = a then some s else lookL x.pl b := fun b => rZ a b s x.pl
 have hsz : w12.heap.size <= w18.heap.size := g2.size
 refine ⟨rfl, ⟨x.mp, x.mi, putL x.pl a s, putL x.il seg s17⟩, ⟨?_, p41, i29.ext e41 (fun hh => h.ne hh.symm), h.ne, fun b => ⟨fun s0 hs0 => ?_, fun hb0 => ?_⟩, fun n => ?_, fun n m s1 s2 hn hm hne k hk hk2 => ?_, fun n s1 hn hh => ?_, fun b s1 hb1 h0 k hk => ?_⟩, ?_, ?_, ?_⟩
 ·have := o29.ext e41 (fun hh => rmp hh)
  rw [show (if (a + (1 : Int)) > top then (a + (1 : Int)) else top) = max top (a + 1) by split <;> omega] at this
  exact this
 ·dsimp only at hs0
  rw [lp] at hs0
  unfold fi
  by_cases e : b = a
  ·rw [if_pos e] at hs0 ⊢
   cases hs0
   refine ⟨t, rfl, bc (aH hb (kd.trans k12)) xall (fun h0 k hk hh => ?_), ht⟩
   have h9 := hs h0 k hk
   rcases hh with hh | hh | hh | hh
   ·exact h9 (oldB k hh).1
   ·exact h9 (.inr (.inr (.inl hh)))
   ·exact h9 (.inl hh)
   ·exact h9 (.inr (.inl hh))
  ·rw [if_neg e] at hs0 ⊢
   obtain ⟨t0, v1, v2, v3⟩ := (h12.pv b).1 s0 hs0
   refine ⟨t0, v1, bc v2 xall (fun h0 k hk hh => ?_), v3⟩
   obtain ⟨y1, y2⟩ := h.pb b s0 hs0 h0 k hk
   rcases hh with hh | hh | hh | hh
   ·obtain ⟨s9, u1, u2, u3⟩ := jB hh
    exact y2 seg s9 u1 u3
   ·obtain ⟨_, _, hi1, _⟩ := h12.i.at'
    exact bW v2 h0 hk (by rw [hh]; exact hi1)
   ·exact y1 hh
   ·obtain ⟨_, _, hp1, _⟩ := h12.p.at'
    exact bW v2 h0 hk (by rw [hh]; exact hp1)
 ·dsimp only at hb0
  rw [lp] at hb0
  unfold fi
  by_cases e : b = a
  ·rw [if_pos e] at hb0; cases hb0
  ·rw [if_neg e] at hb0 ⊢
   exact (h.pv b).2 hb0
 ·dsimp only
  rw [lk]
  unfold fi
  by_cases e : n = seg
  ·rw [if_pos e, if_pos e]
   exact gI.ext xpost s17k
  ·rw [if_neg e, if_neg e]
   refine (h12.iv n).ext xall (fun k hk hh => ?_)
   obtain ⟨s9, u1, u2, u3⟩ := jB (x := x) hk
   have ho := (h12.iv n).own
   obtain ⟨c, T, f, hc⟩ := Own.ne ho hk
   rcases hh with hh | hh | hh | hh
   ·obtain ⟨s8, v1, v2, v3⟩ := jB hh
    exact h.sep n seg s9 s8 u1 v1 e k u3 v3
   ·obtain ⟨_, _, hi1, _⟩ := h12.i.at'
    rw [hh, hi1] at hc; cases hc
   ·exact h.ir n s9 u1 (hh ▸ u3)
   ·obtain ⟨_, _, hp1, _⟩ := h12.p.at'
    rw [hh, hp1] at hc; cases hc
 ·dsimp only at hn hm
  rw [lk] at hn hm
  by_cases e : n = seg
  ·rw [if_pos e] at hn
   cases hn
   rw [if_neg (fun e2 => hne (e.trans e2.symm))] at hm
   rcases nW k hk with g | g
   ·obtain ⟨s8, v1, v2, v3⟩ := jB g
    exact h.sep seg m s8 s2 v1 hm (fun e2 => hne (e.trans e2)) k v3 hk2
   ·have := lt.1 k (.inr (.inr (.inr ⟨m, s2, hm, hk2⟩))); omega
  ·rw [if_neg e] at hn
   by_cases e2 : m = seg
   ·rw [if_pos e2] at hm
    cases hm
    rcases nW k hk2 with g | g
    ·obtain ⟨s8, v1, v2, v3⟩ := jB g
     exact h.sep n seg s1 s8 hn v1 e k hk v3
    ·have := lt.1 k (.inr (.inr (.inr ⟨n, s1, hn, hk⟩))); omega
   ·rw [if_neg e2] at hm
    exact h.sep n m s1 s2 hn hm hne k hk hk2
 ·dsimp only at hn
  rw [lk] at hn
  by_cases e : n = seg
  ·rw [if_pos e] at hn
   cases hn
   exact s17k r hh (.inr (.inl rfl))
  ·rw [if_neg e] at hn
   exact h.ir n s1 hn hh
 ·dsimp only at hb1 ⊢
  rw [lp] at hb1
  have key : k < w.heap.size /\ k ≠ r /\ ∀ n t, lookL x.il n = some t -> ¬ ah t k := by
   by_cases e : b = a
   ·rw [if_pos e] at hb1
    cases hb1
    have h9 := hs h0 k hk
    exact ⟨gW hb h0 k hk, fun e => h9 (.inl e), fun n t0 hn hh => h9 (.inr (.inr (.inr ⟨n, t0, hn, hh⟩)))⟩
   ·rw [if_neg e] at hb1
    exact ⟨lt.2 k ⟨b, s1, hb1, h0, hk⟩, h.pb b s1 hb1 h0 k hk⟩
  refine ⟨key.2.1, fun n t0 hn hh => ?_⟩
  rw [lk] at hn
  by_cases e : n = seg
  ·rw [if_pos e] at hn
   cases hn
   rcases nW k hh with g | g
   ·obtain ⟨s8, v1, v2, v3⟩ := jB g
    exact key.2.2 seg s8 v1 v3
   ·have := key.1; omega
  ·rw [if_neg e] at hn
   exact key.2.2 n t0 hn hh
 ·exact Ext.trans (kd.trans k12) xall (fun _ h => h.elim) (fun k hk => .inl (by
   rcases hk with hk | hk | hk | hk
   ·exact (oldB k hk).1
   ·exact .inr (.inr (.inl hk))
   ·exact .inl hk
   ·exact .inr (.inl hk)))
 ·rintro k (hk | hk | hk | ⟨n, s1, hn, hk⟩)
  ·exact .inl (.inl hk)
  ·exact .inl (.inr (.inl hk))
  ·exact .inl (.inr (.inr (.inl hk)))
  ·dsimp only at hn
   rw [lk] at hn
   by_cases e : n = seg
   ·rw [if_pos e] at hn
    cases hn
    rcases nW k hk with g | g
    ·exact .inl (oldB k g).1
    ·exact .inr g
   ·rw [if_neg e] at hn
    exact .inl (.inr (.inr (.inr ⟨n, s1, hn, hk⟩)))
 ·rintro k ⟨b, s1, hb1, h0, hk⟩
  dsimp only at hb1
  rw [lp] at hb1
  by_cases e : b = a
  ·rw [if_pos e] at hb1
   cases hb1
   exact .inr (.inl ⟨h0, hk⟩)
  ·rw [if_neg e] at hb1
   exact .inl ⟨b, s1, hb1, h0, hk⟩
end
end Go.D
namespace Go.D
open Go Go.Proofs
section
variable {w w' : World} {r st : Nat} {x : UnP} {tr ep top : Int} {pg : Int -> Option (List UInt8)} {ins : Int -> List Int}
theorem UnM.del (h : UnM w r st x tr ep top pg ins) (k : Int) (hp : fF KS w' x.mp (gS x.pl k)) (he : Ext (fun j => j = x.mp) w w') : UnM w' r st { x with pl := gS x.pl k } tr ep top (fi pg k none) ins := by
 have lk : ∀ b, lookL (gS x.pl k) b = if b = k then none else lookL x.pl b := fun b => oP k b h.p.nd
 obtain ⟨_, _, hp1, _⟩ := h.p.at'
 have rmp : r ≠ x.mp := fun e => by
  obtain ⟨T, f, hc, _⟩ := h.o
  rw [e, hp1] at hc; cases hc
 refine ⟨h.o.ext he (fun hh => rmp hh), hp, h.i.ext he (fun hh => h.ne hh.symm), h.ne, fun a => ⟨fun s hs => ?_, fun hn => ?_⟩, fun n => ?_, h.sep, h.ir, fun a s hs h0 j hj => ?_⟩
 ·dsimp only at hs
  rw [lk] at hs
  by_cases e : a = k
  ·rw [if_pos e] at hs; cases hs
  ·rw [if_neg e] at hs
   obtain ⟨t, g1, g2, g3⟩ := (h.pv a).1 s hs
   refine ⟨t, by unfold fi; rw [if_neg e]; exact g1, bc g2 he (fun h0 j hj hh => bW g2 h0 (show ah s x.mp from hh ▸ hj) hp1), g3⟩
 ·dsimp only at hn
  rw [lk] at hn
  unfold fi
  by_cases e : a = k
  ·rw [if_pos e]
  ·rw [if_neg e] at hn ⊢
   exact (h.pv a).2 hn
 ·refine (h.iv n).ext he (fun j hj hh => ?_)
  obtain ⟨c, T, f, hc⟩ := Own.ne (h.iv n).own hj
  rw [hh, hp1] at hc; cases hc
 ·dsimp only at hs
  rw [lk] at hs
  by_cases e : a = k
  ·rw [if_pos e] at hs; cases hs
  ·rw [if_neg e] at hs
   exact h.pb a s hs h0 j hj
theorem tv {β : Type} [DecidableEq β] {a b : List β} (hn : a.Nodup) (hs : ∀ x ∈ a, x ∈ b) : a.length <= b.length := hn.length_le_of_subset (fun x hx => hs x hx)
def tw (tr : Int) (pg : Int -> Option (List UInt8)) : Int -> Option (List UInt8) := fun a => if a < tr then none else pg a
theorem py (h : UnM w r st x tr ep top pg ins) :
  Calls Tryz.prog dt ⟨[aw r]⟩ w fun e w' => e = .returned (.tuple #[]) /\ ∃ x', UnM w' r st x' tr ep top (tw tr pg) ins /\ Dy r x x' (fun _ => False) w w' := by
 refine mP _ ?_
 unfold j4
 have lt := h.lt
 refine aa rfl ⟨_, h.c.2.1, h.p.range (fun r5 w6 hr5 hI6 k6 hs6 => ?_)⟩
 refine ⟨fun w2 => ∃ (pl' : List (Int × Slc)) (pgx : Int -> Option (List UInt8)) (ks : List Int), UnM w2 r st { x with pl := pl' } tr ep top pgx ins /\ gZ KS w2 r5 x.mp pl' ks /\ ks.Nodup /\ (∀ k ∈ ks, k ∈ x.pl.map (·.1)) /\ pl'.Sublist x.pl /\
   (∀ a, pgx a = pg a \/ (a < tr /\ pgx a = none)) /\ (∀ k ∈ ks, k < tr -> pgx k = none) /\ Ext (UnW r x) w w2, fun w2 => x.pl.length - Bk w2 r5,
  ⟨x.pl, pg, [], h.ae k6, hI6, by simp, by simp, List.Sublist.refl _, fun a => .inl rfl, by simp, k6.mono (fun _ h => h.elim)⟩, ?_⟩
 rintro w9 ⟨pl', pgx, ks, hU, hI, hnd, hin, hsub, hpx, hkx, hx⟩
 intros
 refine hI.next hU.p.nd (fun hall => ?_) (fun k a w28 hka hkn hI2 e28 hs28 hent => ?_)
 ·refine ⟨rfl, { x with pl := pl' }, ?_, hx, fun k hk => ?_, fun k hk => ?_⟩
  ·have : pgx = tw tr pg := by
    funext a
    unfold tw
    split
    ·rename_i hlt
     cases hl : lookL pl' a with
     | none => exact (hU.pv a).2 hl
     | some s =>
      have hm := jP hl
      exact hkx a (hall _ hm) hlt
    ·rename_i hge
     rcases hpx a with g | ⟨g, _⟩
     ·exact g
     ·omega
   rw [<- this]; exact hU
  ·rcases hk with hk | hk | hk | hk
   ·exact .inl (.inl hk)
   ·exact .inl (.inr (.inl hk))
   ·exact .inl (.inr (.inr (.inl hk)))
   ·exact .inl (.inr (.inr (.inr hk)))
  ·obtain ⟨b, s, hs, h0, hk⟩ := hk
   have hm := hsub.subset (jP hs)
   exact .inl ⟨b, s, wO h.p.nd hm, h0, hk⟩
 ·have hkin : k ∈ x.pl.map (·.1) := List.mem_map.2 ⟨(k, a), hsub.subset hka, rfl⟩
  have hr5n : ∀ j, UnW r x j \/ UnY x j -> j ≠ r5 := fun j hj e => by
   rcases hj with hj | hj
   ·have := lt.1 j hj; omega
   ·have := lt.2 j hj; omega
  have subW : ∀ j, UnW r { x with pl := pl' } j -> UnW r x j := fun j hj => hj
  have subY : ∀ j, UnY { x with pl := pl' } j -> UnY x j := by
   rintro j ⟨b, s, hs, h0, hj⟩
   exact ⟨b, s, wO h.p.nd (hsub.subset (jP hs)), h0, hj⟩
  have hU28 := hU.ext e28 (fun j hj hh => hr5n j (.inl (subW j hj)) hh) (fun j hj hh => hr5n j (.inr (subY j hj)) hh)
  have x28 : Ext (UnW r x) w w28 := hx.trans e28 (fun _ h => h) (fun j hj => .inr (by rw [show j = r5 from hj]; omega))
  have hnd2 : (ks ++ [k]).Nodup := by
   rw [List.nodup_append]
   exact ⟨hnd, by simp, fun y hy z hz => by rw [List.mem_singleton] at hz; subst hz; rintro rfl; exact hkn hy⟩
  have hin2 : ∀ y ∈ ks ++ [k], y ∈ x.pl.map (·.1) := fun y hy => by
   rcases List.mem_append.1 hy with hy | hy
   ·exact hin y hy
   ·rw [List.mem_singleton] at hy; subst hy; exact hkin
  have hlen := tv hnd2 hin2
  rw [List.length_map, List.length_append, List.length_singleton] at hlen
  have hs9 := hI.seen
  refine ⟨_, _, hent, Sh.C8 (s := .int .i64) (x := k) (aa rfl ⟨_, hU28.c.2.2.2.1, af (fun hlt => ?_) (fun hge => ?_)⟩)⟩
  ·obtain ⟨es, ck, es', m1, m2, m3⟩ := hI2.del k
   refine aa rfl ⟨_, hU28.c.2.1, x.mp, es, ck, es', rfl, m1, m2, fun w40 hw40 => ?_⟩
   obtain ⟨I40, e40, z40⟩ := m3 w40 hw40
   have hs40 := I40.seen
   have nd40 := uH hU.p.nd k
   have U40 := hU28.del k (I40.D6 nd40) e40
   refine ⟨⟨gS pl' k, fi pgx k none, ks ++ [k], U40, I40, hnd2, hin2, (vq k pl').trans hsub, fun b => ?_, fun y hy hyt => ?_, x28.trans e40 (fun _ h => h) (fun j hj => .inl (.inr (.inl hj)))⟩, ?_⟩
   ·unfold fi
    by_cases e : b = k
    ·rw [if_pos e]; exact .inr ⟨by omega, rfl⟩
    ·rw [if_neg e]; exact hpx b
   ·unfold fi
    by_cases e : y = k
    ·rw [if_pos e]
    ·rw [if_neg e]
     rcases List.mem_append.1 hy with hy | hy
     ·exact hkx y hy hyt
     ·rw [List.mem_singleton] at hy; exact absurd hy e
   ·dsimp only
    rw [hs40, hs9, List.length_append, List.length_singleton]; omega
  ·have hs28' := hI2.seen
   refine ⟨⟨pl', pgx, ks ++ [k], hU28, hI2, hnd2, hin2, hsub, hpx, fun y hy hyt => ?_, x28⟩, ?_⟩
   ·rcases List.mem_append.1 hy with hy | hy
    ·exact hkx y hy hyt
    ·rw [List.mem_singleton] at hy; subst hy; exact absurd hyt hge
   ·dsimp only
    rw [hs28', hs9, List.length_append, List.length_singleton]; omega
end
end Go.D
namespace Go.D
open Go Go.Proofs
def qK (ev v : Value) : Value := if isNilI ev then v else ev
theorem ui (r : Nat) (s : Slc) (bs : List UInt8) (ev v : Value) (w : World) (h : ez w r s bs ev) (hi : isI ev) (hv : ∀ X : Prop, X -> oneK v X) :
  Calls Tryz.prog eX ⟨[.pointer (some ⟨r, 0, none⟩), v]⟩ w fun e w' => e = .returned (.tuple #[]) /\ ez w' r s bs (qK ev v) /\ bj (iB r s) (iB r s) w w' := by
 refine pR _ _ ?_
 refine aa rfl ⟨_, by rw [add_lit]; exact h.c1, hi, ai (fun hn => aa rfl (hv _ (hv _ ?_))) (fun hn => ?_)⟩
 ·obtain ⟨h1, h2, h3⟩ := h.yj v
  rw [add_lit]
  refine ⟨h1, ?_⟩
  rintro w6 rfl
  refine ⟨rfl, ?_, h3⟩
  rw [qK, if_pos hn]; exact h2
 ·refine ⟨rfl, ?_, bj.refl _ _⟩
  rw [qK, if_neg (by rw [hn]; decide)]; exact h
theorem tx (A : Nat -> Addr) (g : Nat) : ∀ X : Prop, X -> oneK (iV A g) X := fun X h => h
theorem pz (A : Nat -> Addr) (r : Nat) (s : Slc) (bs : List UInt8) (ev : Value) (n : Int) (w : World) (h : ez w r s bs ev) (hi : isI ev) (hn : -9223372036854775808 <= n /\ n <= 9223372036854775807) (hl : bs.length <= 2 ^ 20)
  (hE : qs wG w av (A av)) :
  Calls Tryz.prog bL ⟨[.pointer (some ⟨r, 0, none⟩), .int .i64 n]⟩ w fun e w' => e = .returned (.tuple #[]) /\
   ∃ s', ez w' r s' (if n < 0 \/ 4611686018427387903 < n then bs else bs ++ fI n.toNat) (if n < 0 \/ 4611686018427387903 < n then qK ev (iV A av) else ev) /\ bj (iB r s) (iB r s') w w' := by
 refine qS _ _ ?_
 unfold oQ
 by_cases hbad : n < 0 \/ 4611686018427387903 < n
 ·rw [if_pos hbad, if_pos hbad]
  have key := ui r s bs ev (iV A av) w h hi (tx A _)
  refine ⟨fun _ => False, af (fun h1 => ⟨_, hE.1, key.mono ?_⟩) (fun h1 => af (fun h2 => ⟨_, hE.1, key.mono ?_⟩) (fun h2 => by omega)), fun _ h => h.elim⟩
  ·rintro e w' ⟨rfl, h2, h3⟩
   exact ⟨rfl, rfl, s, h2, h3⟩
  ·rintro e w' ⟨rfl, h2, h3⟩
   exact ⟨rfl, rfl, s, h2, h3⟩
 ·rw [if_neg hbad, if_neg hbad]
  refine ⟨fun w2 => w2 = w, af (fun h1 => by omega) (fun h1 => af (fun h2 => by omega) (fun h2 => rfl)), ?_⟩
  rintro w2 rfl
  intros
  refine ⟨fun m w3 => ∃ (k : Nat) (s' : Slc) (x : List UInt8), m = k /\ x ++ fI k = bs ++ fI n.toNat /\ ez w3 r s' x ev /\ bj (iB r s) (iB r s') w2 w3, fun m _ => m.toNat, ⟨n.toNat, s, bs, by omega, rfl, h, bj.refl _ _⟩, ?_⟩
  rintro m w3 ⟨k, s', x, rfl, hx, ho, hft⟩
  intros
  have hlen := congrArg List.length hx
  have hle := ml n.toNat 8 (by omega)
  have hpos := BE k
  simp only [List.length_append] at hlen
  have hsl : s'.l = x.length := by have := ho.2.1.1; simpa using this
  refine af (fun h1 => ?_) (fun h1 => ?_)
  ·refine aa rfl ⟨s', ho.c0, by omega, by omega, ar (by omega), ak (fun r43 w44 hr43 hb43 hk43 hs43 => ?_)⟩
   have e1 : ((k : Int) % 128 + 128) = ((k % 128 + 128 : Nat) : Int) := by omega
   rw [e1, Bs] at hb43
   have hb : aq w44 ⟨some ⟨r43, 0, none⟩, 1, 1⟩ [UInt8.ofNat (k % 128 + 128)] := (Own.new (sz := 1) (n := 1) hb43 (.inl (by simp)) rfl).bytes
   refine (ho.ae hk43).append rfl (jb hb) (by simp only [Src.n]; omega) (fun s45 w46 hc hh => aa rfl ⟨hc, ?_⟩)
   rintro w48 rfl
   obtain ⟨h5, h6⟩ := hh _ rfl
   refine ⟨by omega, by omega, ⟨k / 128, s45, _, by omega, ?_, h5, (hft.ae hk43).trans h6⟩, by dsimp only; omega⟩
   rw [<- hx, fI.eq_1 k, dif_neg (by omega)]; simp
  ·refine aa rfl ⟨s', ho.c0, ak (fun r43 w44 hr43 hb43 hk43 hs43 => ?_)⟩
   rw [Bs] at hb43
   have hb : aq w44 ⟨some ⟨r43, 0, none⟩, 1, 1⟩ [UInt8.ofNat k] := (Own.new (sz := 1) (n := 1) hb43 (.inl (by simp)) rfl).bytes
   refine (ho.ae hk43).append rfl (jb hb) (by simp only [Src.n]; omega) (fun s45 w46 hc hh => aa rfl ⟨hc, ?_⟩)
   rintro w48 rfl
   obtain ⟨h5, h6⟩ := hh _ rfl
   refine ⟨rfl, s45, ?_, (hft.ae hk43).trans h6⟩
   rw [fI.eq_1 k, dif_pos (by omega)] at hx
   rw [<- hx]; exact h5
end Go.D
namespace Go.D
open Go Go.Proofs
end Go.D
namespace Go.D
open Go Go.Proofs
def rawR : Nat -> Nat -> List UInt8 -> Except Nat (Nat × List UInt8)
 | _, _, [] => .error 1
 | k, n, c :: rest =>
  if 128 <= c.toNat /\ k < 8 then rawR (k + 1) (n + (c.toNat % 128) * 2 ^ (7 * k)) rest
  else if 128 <= c.toNat \/ (c.toNat = 0 /\ 0 < k) \/ 4611686018427387903 < n + (c.toNat % 128) * 2 ^ (7 * k) then .error 3
  else .ok (n + (c.toNat % 128) * 2 ^ (7 * k), rest)
def mo (w : World) (r : Nat) (s : Slc) (bs : List UInt8) (ev : Value) : Prop := ao w r [s.v, ev] /\ aq w s bs /\ ¬ ah s r /\ s.l <= s.c
def eqB (r k : Nat) : Prop := k = r
theorem mo.c0 {w : World} {r : Nat} {s : Slc} {bs : List UInt8} {ev : Value} (h : mo w r s bs ev) : w.cell? ⟨r, 0, none⟩ = some s.v := h.1.cell 0 (by simp)
theorem mo.c1 {w : World} {r : Nat} {s : Slc} {bs : List UInt8} {ev : Value} (h : mo w r s bs ev) : w.cell? ⟨r, 1, none⟩ = some ev := h.1.cell 1 (by simp)
theorem mo.yj {w : World} {r : Nat} {s : Slc} {bs : List UInt8} {ev : Value} (h : mo w r s bs ev) (v : Value) :
  aJ w ⟨r, 1, none⟩ 1 /\ mo (w.setCell ⟨r, 1, none⟩ v) r s bs v /\ Ext (eqB r) w (w.setCell ⟨r, 1, none⟩ v) := by
 obtain ⟨h1, h2, h3⟩ := h.1.set 1 (by simp) v
 exact ⟨h1, ⟨h2, fL h.2.1 h3 (fun k hk he => h.2.2.1 (he ▸ hk)), h.2.2⟩, h3⟩
theorem pA (r : Nat) (s : Slc) (bs : List UInt8) (ev v : Value) (w : World) (h : mo w r s bs ev) (hi : isI ev) (hv : ∀ X : Prop, X -> oneK v X) :
  Calls Tryz.prog aO ⟨[.pointer (some ⟨r, 0, none⟩), v]⟩ w fun e w' => e = .returned (.int .i64 0) /\ mo w' r s bs (qK ev v) /\ Ext (eqB r) w w' := by
 refine qT _ _ ?_
 refine aa rfl ⟨_, by rw [add_lit]; exact h.c1, hi, ai (fun hn => aa rfl (hv _ (hv _ ?_))) (fun hn => ?_)⟩
 ·obtain ⟨h1, h2, h3⟩ := h.yj v
  rw [add_lit]
  refine ⟨h1, ?_⟩
  rintro w6 rfl
  refine ⟨rfl, ?_, h3⟩
  rw [qK, if_pos hn]; exact h2
 ·refine ⟨rfl, ?_, Ext.refl _ _⟩
  rw [qK, if_neg (by rw [hn]; decide)]; exact h
theorem tz {s : Slc} {sz lo hi c k : Nat} (h : ah (Slc.sub s sz lo hi c) k) : ah s k := by
 obtain ⟨a, ha, rfl⟩ := h
 simp only [Slc.sub] at ha
 split at ha
 ·exact ⟨a, ha, rfl⟩
 ·obtain ⟨b, hb, rfl⟩ := Option.map_eq_some_iff.1 ha
  exact ⟨b, hb, (cM b _).symm⟩
theorem mo.cut {w : World} {r : Nat} {s : Slc} {bs : List UInt8} {ev : Value} (h : mo w r s bs ev) {k : Nat} (hk : k <= bs.length) :
  aJ w ⟨r, 0, none⟩ 1 /\ mo (w.setCell ⟨r, 0, none⟩ (Slc.sub s 1 k s.l s.c).v) r (Slc.sub s 1 k s.l s.c) (bs.drop k) ev /\ Ext (eqB r) w (w.setCell ⟨r, 0, none⟩ (Slc.sub s 1 k s.l s.c).v) := by
 obtain ⟨h1, h2, h3⟩ := h.1.set 0 (by simp) (Slc.sub s 1 k s.l s.c).v
 have hl := h.2.1.1
 have hc := h.2.2.2
 have hb : aq w (Slc.sub s 1 k s.l s.c) (bs.drop k) := by
  have := fM h.2.1 (lo := k) (hi := s.l) (c := s.c) (by omega) (by omega) (by omega)
  rw [hl, List.take_length] at this
  rw [hl]; exact this
 have hn : ¬ ah (Slc.sub s 1 k s.l s.c) r := fun hh => h.2.2.1 (tz hh)
 refine ⟨h1, ⟨h2, fL hb h3 (fun x hx he => hn (he ▸ hx)), hn, ?_⟩, h3⟩
 simp only [Slc.sub]
 omega
def yM (A : Nat -> Addr) (w w' : World) (r : Nat) (s : Slc) (bs : List UInt8) (n : Int) : Except Nat (Nat × List UInt8) -> Prop
 | .error k => n = 0 /\ mo w' r s bs (iV A (eM.getD k 0)) /\ Ext (eqB r) w w'
 | .ok (m, rest) => n = m /\ ∃ s', mo w' r s' rest .nilIface /\ (∀ k, ah s' k -> ah s k) /\ Ext (eqB r) w w'
theorem xm (A : Nat -> Addr) (r : Nat) (s : Slc) (bs : List UInt8) (w : World) (h : mo w r s bs .nilIface) (hl : bs.length <= 2 ^ 30) (hE : b7 A w) :
  Calls Tryz.prog iD ⟨[.pointer (some ⟨r, 0, none⟩)]⟩ w fun e w' => ∃ n : Int, e = .returned (.int .i64 n) /\ yM A w w' r s bs n (rawR 0 0 bs) := by
 have hsl := h.2.1.1
 refine sf _ ?_
 unfold qz
 refine aa rfl ⟨s, h.c0, ?_⟩
 refine ⟨fun n i w2 => w2 = w /\ ∃ k m : Nat, i = k /\ n = m /\ k <= bs.length /\ k <= 8 /\ m < 2 ^ (7 * k) /\ rawR k m (bs.drop k) = rawR 0 0 bs, fun _ i _ => ((bs.length : Int) - i).toNat, ⟨rfl, 0, 0, rfl, rfl, by omega, by omega, by simp, rfl⟩, ?_⟩
 rintro n6 i7 w8 ⟨rfl, k, m, rfl, rfl, hk, hk8, hm, hraw⟩
 intros
 have fail : ∀ (j : Nat), j < 19 -> Calls Tryz.prog aO ⟨[.pointer (some ⟨r, 0, none⟩), iV A (eM.getD j 0)]⟩ w8 fun e w' => e = .returned (.int .i64 0) /\ mo w' r s bs (iV A (eM.getD j 0)) /\ Ext (eqB r) w8 w' :=
  fun j hj => pA r s bs .nilIface _ w8 h trivial (tx A _)
 refine af (fun h1 => ?_) (fun h1 => ?_)
 ·have hkl : k < bs.length := by omega
  obtain ⟨a, ha, hc⟩ := dO h.2.1 hkl
  have hd : bs.drop k = bs[k] :: bs.drop (k + 1) := Bt hkl
  rw [hd, rawR] at hraw
  have hcl := bs[k].toNat_lt
  generalize hcc : bs[k].toNat = c at hraw hcl
  have hc' : w8.cell? (a.add k) = some (.int .u8 (c : Int)) := by rw [hc, aQ, hcc]
  have hmin : min (Int.toNat ((7 : Int) * (k : Int))) 64 = 7 * k := by omega
  have hP : 2 ^ (7 * k) <= 2 ^ 56 := Nat.pow_le_pow_right (by omega) (by omega)
  have hP1 : 2 ^ (7 * (k + 1)) = 128 * 2 ^ (7 * k) := by rw [show 7 * (k + 1) = 7 + 7 * k by omega, Nat.pow_add]
  have hor := zy m (c % 128) (7 * k) hm
  have hdm : (c % 128) * 2 ^ (7 * k) <= 127 * 2 ^ (7 * k) := Nat.mul_le_mul_right _ (by omega)
  rw [hmin]
  have ecast : ((c : Int) % 128) * ((2 ^ (7 * k) : Nat) : Int) = (((c % 128) * 2 ^ (7 * k) : Nat) : Int) := by
   rw [Int.natCast_mul]; congr 1
  refine aa ha ⟨by omega, h1, (c : Int), by rw [show (Int.toNat (k : Int)) * 1 = k by omega]; exact hc', ?_⟩
  rw [ecast, zx, hor]
  generalize hdv : (c % 128) * 2 ^ (7 * k) = d at hraw hdm
  generalize hPv : 2 ^ (7 * k) = P at hP hP1 hm hdm
  refine ⟨by omega, by omega, ar (by omega), ar (by omega), by omega, ar (by omega), by omega, by omega, ar (by omega), ar (by omega), ?_⟩
  refine ⟨fun w2 => w2 = w8 /\ ¬ (128 <= c /\ k < 8), af (fun h2 => af (fun h3 => ?_) (fun h3 => ⟨rfl, by omega⟩)) (fun h2 => ⟨rfl, by omega⟩), ?_⟩
  ·rw [if_pos (by omega)] at hraw
   exact ⟨ar (by omega), ⟨rfl, k + 1, m + d, rfl, rfl, by omega, by omega, by rw [hP1]; omega, hraw⟩, by dsimp only; omega⟩
  ·rintro w66 ⟨rfl, hno⟩
   intros
   rw [if_neg hno] at hraw
   have form : (128 <= c \/ (c = 0 /\ 0 < k) \/ 4611686018427387903 < m + d) -> ∃ v : Value, w66.cell? ⟨aD, 0, none⟩ = some v /\ Calls Tryz.prog aO ⟨[.pointer (some ⟨r, 0, none⟩), v]⟩ w66 fun e w' => ∃ n : Int, e = .returned (.int .i64 n) /\ ∃ n' : Int, Ending.returned (Value.int .i64 n) = .returned (.int .i64 n') /\ yM A w66 w' r s bs n' (rawR 0 0 bs) := by
    intro hbad
    refine ⟨_, b7.at hE 3 (by omega), (fail 3 (by omega)).mono ?_⟩
    rintro e w' ⟨rfl, g1, g2⟩
    rw [if_pos hbad] at hraw
    refine ⟨0, rfl, 0, rfl, ?_⟩
    rw [<- hraw]
    exact ⟨rfl, g1, g2⟩
   have good : ¬ (128 <= c \/ (c = 0 /\ 0 < k) \/ 4611686018427387903 < m + d) ->
     needSome (some (⟨r, 0, none⟩ : Addr)) fun a102 => ∃ s103 : Slc, w66.cell? a102 = some s103.v /\ inR .i64 ((k : Int) + 1) /\ 0 <= ((k : Int) + 1) /\ ((k : Int) + 1) <= ((s103.l : Nat) : Int) /\ ((s103.l : Nat) : Int) <= ((s103.c : Nat) : Int) /\ ((s103.c : Nat) : Int) <= ((s103.c : Nat) : Int) /\
      needSome (some (⟨r, 0, none⟩ : Addr)) fun a105 => aJ w66 a105 1 /\ ∀ w106 : World, w106 = w66.setCell a105 (Slc.v (Slc.sub s103 1 (Int.toNat ((k : Int) + 1)) s103.l s103.c)) ->
       ∃ n' : Int, Ending.returned (Value.int .i64 ((m + d : Nat) : Int)) = .returned (.int .i64 n') /\ yM A w66 w106 r s bs n' (rawR 0 0 bs) := by
    intro hgood
    rw [if_neg hgood] at hraw
    have ek : Int.toNat ((k : Int) + 1) = k + 1 := by omega
    obtain ⟨g1, g2, g3⟩ := h.cut (k := k + 1) (by omega)
    refine aa rfl ⟨s, h.c0, ar (by omega), by omega, by omega, by have := h.2.2.2; omega, by omega, aa rfl ⟨g1, ?_⟩⟩
    rintro w106 rfl
    rw [ek]
    refine ⟨_, rfl, ?_⟩
    rw [<- hraw]
    exact ⟨rfl, _, g2, fun x hx => tz hx, g3⟩
   refine af (fun h2 => form (.inl (by omega))) (fun h2 => af (fun h3 => af (fun h4 => form (.inr (.inl (by omega)))) (fun h4 => ?_)) (fun h3 => ?_))
   ·refine af (fun h5 => form (.inr (.inr (by omega)))) (fun h5 => af (fun h6 => by omega) (fun h6 => good (by omega)))
   ·refine af (fun h5 => form (.inr (.inr (by omega)))) (fun h5 => af (fun h6 => by omega) (fun h6 => good (by omega)))
 ·refine ⟨_, b7.at hE 1 (by omega), (fail 1 (by omega)).mono ?_⟩
  rintro e w' ⟨rfl, g1, g2⟩
  have : bs.drop k = [] := List.drop_eq_nil_of_le (by omega)
  rw [this, rawR] at hraw
  refine ⟨0, rfl, 0, rfl, ?_⟩
  rw [<- hraw]
  exact ⟨rfl, g1, g2⟩
end Go.D
namespace Go.D
open Go Go.Proofs
abbrev InS := List UInt8 × Option Nat
def vD (A : Nat -> Addr) (w : World) (r : Nat) (s : Slc) (st : InS) : Prop := ez w r s st.1 (errO A st.2)
def CN (n : Int) (st : InS) : InS := if n < 0 \/ 4611686018427387903 < n then (st.1, some (st.2.getD 0)) else (st.1 ++ fI n.toNat, st.2)
def BI (t : List UInt8) (st : InS) : InS := (st.1 ++ fI t.length ++ t, st.2)
theorem yN (A : Nat -> Addr) (e : Option Nat) : qK (errO A e) (iV A av) = errO A (some (e.getD 0)) := by
 cases e <;> rfl
theorem BJ (A : Nat -> Addr) (n0 r : Nat) (s : Slc) (st : InS) (n : Int) (w : World) (h : vD A w r s st) (hn : -9223372036854775808 <= n /\ n <= 9223372036854775807) (hl : st.1.length <= 2 ^ 20) (hE : cE A n0 w) :
  Calls Tryz.prog bL ⟨[.pointer (some ⟨r, 0, none⟩), .int .i64 n]⟩ w fun e w' => e = .returned (.tuple #[]) /\ ∃ s', vD A w' r s' (CN n st) /\ bj (iB r s) (iB r s') w w' := by
 refine (pz A r s st.1 (errO A st.2) n w h (aB _ _) hn hl (hE.1.1 av (iL (k := 0) (by omega)))).mono ?_
 rintro e w' ⟨rfl, s', h1, h2⟩
 refine ⟨rfl, s', ?_, h2⟩
 unfold vD CN
 split at h1
 ·rename_i hh; rw [if_pos hh]
  rw [yN] at h1; exact h1
 ·rename_i hh; rw [if_neg hh]
  exact h1
theorem vD.new {w1 : World} {r : Nat} {T : TypeId} (A : Nat -> Addr) (h : w1.heap[r]? = some (.cells ⟨[(Slc.v (⟨none, 0, 0⟩ : Slc)), Value.nilIface]⟩ T)) : vD A w1 r ⟨none, 0, 0⟩ ([], none) :=
 ⟨⟨T, (0, 0), h, .inl (by simp)⟩, Own.nil _ _, by rintro ⟨a, ha, _⟩; cases ha⟩
theorem BK {r k : Nat} (h : iB r ⟨none, 0, 0⟩ k) : k = r := by
 rcases h with h | ⟨a, ha, _⟩
 ·exact h
 ·cases ha
end Go.D
namespace Go.D
open Go Go.Proofs
theorem pB {n : Nat} (h : n < 256) : (UInt8.ofNat n).toNat = n := by
 simp [UInt8.toNat_ofNat', Nat.mod_eq_of_lt h]
theorem pC (c : UInt8) : UInt8.ofNat c.toNat = c := by simp
theorem DS (k : Nat) : 2 ^ (7 * (k + 1)) = 128 * 2 ^ (7 * k) := by rw [show 7 * (k + 1) = 7 + 7 * k by omega, Nat.pow_add]
theorem xo : ∀ (bs : List UInt8) (k m n : Nat) (rest : List UInt8), rawR k m bs = .ok (n, rest) ->
  ∃ q, n = m + q * 2 ^ (7 * k) /\ bs = fI q ++ rest /\ (0 < k -> 0 < q) /\ n <= 4611686018427387903
 | [], k, m, n, rest, h => by simp [rawR] at h
 | c :: bs, k, m, n, rest, h => by
  rw [rawR] at h
  have hc := c.toNat_lt
  split at h
  ·rename_i h1
   obtain ⟨q, h2, h3, h4, h5⟩ := xo bs (k + 1) _ n rest h
   refine ⟨c.toNat % 128 + 128 * q, ?_, ?_, fun _ => by have := h4 (by omega); omega, h5⟩
   ·rw [h2, DS, Nat.add_mul, Nat.add_assoc, <- Nat.mul_assoc, Nat.mul_comm q 128]
   ·have hq := h4 (by omega)
    rw [zH (by omega), h3]
    have e1 : (c.toNat % 128 + 128 * q) % 128 + 128 = c.toNat := by omega
    have e2 : (c.toNat % 128 + 128 * q) / 128 = q := by omega
    rw [e1, e2, pC]; rfl
  ·split at h
   ·cases h
   ·rename_i h1 h2
    simp only [Except.ok.injEq, Prod.mk.injEq] at h
    obtain ⟨rfl, rfl⟩ := h
    have h3 : c.toNat < 128 := by omega
    have e1 : c.toNat % 128 = c.toNat := by omega
    rw [e1] at h2 ⊢
    refine ⟨c.toNat, rfl, ?_, fun _ => by omega, by omega⟩
    rw [zG h3, pC]; rfl
theorem BL : ∀ (q k m : Nat) (rest : List UInt8), k <= 8 -> (0 < k -> 0 < q) -> m + q * 2 ^ (7 * k) <= 4611686018427387903 ->
  rawR k m (fI q ++ rest) = .ok (m + q * 2 ^ (7 * k), rest) := by
 intro q
 induction q using Nat.strongRecOn with
 | ind q ih =>
  intro k m rest hk hq hm
  by_cases h : q < 128
  ·rw [zG h]
   simp only [List.cons_append, List.nil_append, rawR, pB (show q < 256 by omega)]
   have e1 : q % 128 = q := by omega
   rw [e1, if_neg (by omega), if_neg (by omega)]
  ·rw [zH h]
   simp only [List.cons_append, rawR, pB (show q % 128 + 128 < 256 by omega)]
   have e1 : (q % 128 + 128) % 128 = q % 128 := by omega
   have hk8 : k < 8 := by
    rcases Nat.lt_or_ge k 8 with h | h
    ·exact h
    ·have hk8 : k = 8 := by omega
     subst hk8
     exfalso
     have e9 : (2 : Nat) ^ (7 * 8) = 72057594037927936 := by decide
     rw [e9] at hm
     have : 128 * 72057594037927936 <= q * 72057594037927936 := Nat.mul_le_mul_right _ (by omega)
     omega
   have e2 : m + q % 128 * 2 ^ (7 * k) + q / 128 * 2 ^ (7 * (k + 1)) = m + q * 2 ^ (7 * k) := by
    rw [DS, Nat.add_assoc]
    congr 1
    rw [<- Nat.mul_assoc, <- Nat.add_mul]
    congr 1
    omega
   rw [e1, if_pos ⟨by omega, hk8⟩, ih (q / 128) (by omega) (k + 1) _ rest (by omega) (fun _ => by omega) (by rw [e2]; exact hm), e2]
theorem CO (n : Nat) (rest : List UInt8) (h : n <= 4611686018427387903) : rawR 0 0 (fI n ++ rest) = .ok (n, rest) := by
 have := BL n 0 0 rest (by omega) (fun h => by omega) (by simpa using h)
 simpa using this
theorem CP {bs : List UInt8} {n : Nat} {rest : List UInt8} (h : rawR 0 0 bs = .ok (n, rest)) : bs = fI n ++ rest /\ n <= 4611686018427387903 := by
 obtain ⟨q, h1, h2, _, h4⟩ := xo bs 0 0 n rest h
 have : n = q := by simpa using h1
 subst this
 exact ⟨h2, h4⟩
theorem xp : ∀ (bs : List UInt8) (k m j : Nat), rawR k m bs = .error j -> j = 1 \/ j = 3
 | [], k, m, j, h => by simp [rawR] at h; exact .inl h.symm
 | c :: bs, k, m, j, h => by
  rw [rawR] at h
  split at h
  ·exact xp bs _ _ j h
  ·split at h
   ·simp at h; exact .inr h.symm
   ·cases h
end Go.D
namespace Go.D
open Go Go.Proofs
def InR (A : Nat -> Addr) (w : World) (r : Nat) (F : Nat -> Prop) (st : InS) : Prop :=
 ∃ s, mo w r s st.1 (errO A st.2) /\ (∀ k, ah s k -> F k) /\ ¬ F r
def rNum (most : Int) : InS -> Int × InS
 | (bs, some k) => (0, (bs, some k))
 | (bs, none) => match rawR 0 0 bs with
  | .error k => (0, (bs, some k))
  | .ok (n, rest) => if most < (n : Int) then (0, (rest, some 0)) else ((n : Int), (rest, none))
theorem xq {bs : List UInt8} {k : Nat} (most : Int) (h : rawR 0 0 bs = .error k) : rNum most (bs, none) = (0, (bs, some k)) := by simp [rNum, h]
theorem xr {bs rest : List UInt8} {n : Nat} {most : Int} (h : rawR 0 0 bs = .ok (n, rest)) (hm : most < (n : Int)) : rNum most (bs, none) = (0, (rest, some 0)) := by simp [rNum, h, hm]
theorem vF {bs rest : List UInt8} {n : Nat} {most : Int} (h : rawR 0 0 bs = .ok (n, rest)) (hm : ¬ most < (n : Int)) : rNum most (bs, none) = ((n : Int), (rest, none)) := by simp [rNum, h, hm]
theorem Ext.trans' {M : Nat -> Prop} {a b c : World} (h1 : Ext M a b) (h2 : Ext M b c) : Ext M a c := h1.trans h2 (fun _ h => h) (fun _ h => .inl h)
theorem Ax (A : Nat -> Addr) (s : Slc) (bs : List UInt8) (w : World) (h : aq w s bs) (hl : s.l <= 2 ^ 30) :
  Calls Tryz.prog kA ⟨[s.v]⟩ w fun e w' => ∃ (r : Nat) (F : Nat -> Prop), e = .returned (.pointer (some ⟨r, 0, none⟩)) /\ InR A w' r F (bs, none) /\ aj w w' /\ w.heap.size <= r /\ (∀ k, F k -> w.heap.size <= k /\ k < w'.heap.size) := by
 refine vr _ ?_
 unfold uJ
 refine (dV s bs w h hl).mono ?_
 rintro e w3 ⟨t, rfl, ht, hf, hk⟩
 refine ⟨t, rfl, ak (fun r w6 hr hb hk6 hs6 => ?_)⟩
 have hnot : ¬ ah t r := fun hh => by have := eF ht r hh; omega
 exact ⟨r, ah t, rfl, ⟨t, ⟨⟨_, _, hb, .inl (by simp)⟩, aH ht.bytes hk6, hnot, ht.le (by omega)⟩, fun _ h => h, hnot⟩, hk.trans hk6, by have := hk.size; omega, fun k hk => ⟨hf k hk, by have := eF ht k hk; omega⟩⟩
theorem xt {A : Nat -> Addr} {r : Nat} {F : Nat -> Prop} {bs : List UInt8} {w : World} (h : InR A w r F (bs, none)) (k : Nat) :
  Calls Tryz.prog aO ⟨[.pointer (some ⟨r, 0, none⟩), iV A (eM.getD k 0)]⟩ w fun e w' => e = .returned (.int .i64 0) /\ InR A w' r F (bs, some k) /\ Ext (eqB r) w w' := by
 obtain ⟨s, h1, h2, h3⟩ := h
 refine (pA r s bs .nilIface (iV A (eM.getD k 0)) w h1 trivial (tx A _)).mono ?_
 rintro e w' ⟨rfl, g1, g2⟩
 exact ⟨rfl, ⟨s, g1, h2, h3⟩, g2⟩
theorem qL (A : Nat -> Addr) (n0 r : Nat) (F : Nat -> Prop) (st : InS) (most : Int) (w : World) (h : InR A w r F st) (hl : st.1.length <= 2 ^ 30) (hE : cE A n0 w) (hr : n0 <= r) :
  Calls Tryz.prog cx ⟨[.pointer (some ⟨r, 0, none⟩), .int .i64 most]⟩ w fun e w' => e = .returned (.int .i64 (rNum most st).1) /\ InR A w' r F (rNum most st).2 /\ Ext (eqB r) w w' := by
 obtain ⟨bs, er⟩ := st
 refine sg _ _ ?_
 unfold qA
 have h0 := h
 obtain ⟨s, h1, h2, h3⟩ := h
 refine aa rfl ⟨_, by rw [add_lit]; exact h1.c1, aB _ _, ?_⟩
 cases er with
 | some k =>
  refine ai (fun _ => ?_) (fun hh => by cases hh)
  exact ⟨rfl, h0, Ext.refl _ _⟩
 | none =>
  refine ai (fun hh => by cases hh) (fun _ => ?_)
  refine (xm A r s bs w h1 hl hE.1).mono ?_
  rintro e w6 ⟨n, rfl, hres⟩
  refine ⟨n, rfl, ?_⟩
  cases hraw : rawR 0 0 bs with
  | error k =>
   rw [hraw] at hres
   obtain ⟨rfl, g1, g2⟩ := hres
   rw [xq most hraw]
   refine aa rfl ⟨iV A (eM.getD k 0), by rw [add_lit]; exact g1.c1, trivial, ai (fun hh => by cases hh) (fun _ => ?_)⟩
   exact ⟨rfl, ⟨s, g1, h2, h3⟩, g2⟩
  | ok x =>
   obtain ⟨m, rest⟩ := x
   rw [hraw] at hres
   obtain ⟨rfl, s', g1, g2, g3⟩ := hres
   have hR : InR A w6 r F (rest, none) := ⟨s', g1, fun k hk => h2 k (g2 k hk), h3⟩
   refine aa rfl ⟨.nilIface, by rw [add_lit]; exact g1.c1, trivial, ai (fun _ => af (fun hlt => ?_) (fun hlt => ?_)) (fun hh => by cases hh)⟩
   ·refine ⟨_, b7.at (hE.ext g3 (fun k hk => by rw [show k = r from hk]; exact hr)).1 0 (by omega), (xt hR 0).mono ?_⟩
    rintro e w12 ⟨rfl, q1, q2⟩
    rw [xr hraw hlt]
    exact ⟨_, rfl, rfl, q1, g3.trans' q2⟩
   ·rw [vF hraw hlt]
    exact ⟨rfl, hR, g3⟩
theorem tA (most : Int) (st : InS) :
  (∃ bs k, st = (bs, some k) /\ rNum most st = (0, (bs, some k))) \/
  (∃ bs k, st = (bs, none) /\ (k = 1 \/ k = 3) /\ rNum most st = (0, (bs, some k))) \/
  (∃ n rest, st = (fI n ++ rest, none) /\ n <= 4611686018427387903 /\ most < (n : Int) /\ rNum most st = (0, (rest, some 0))) \/
  (∃ n rest, st = (fI n ++ rest, none) /\ n <= 4611686018427387903 /\ (n : Int) <= most /\ rNum most st = ((n : Int), (rest, none))) := by
 obtain ⟨bs, er⟩ := st
 cases er with
 | some k => exact .inl ⟨bs, k, rfl, rfl⟩
 | none =>
  cases h : rawR 0 0 bs with
  | error k => exact .inr (.inl ⟨bs, k, rfl, xp _ _ _ _ h, xq most h⟩)
  | ok x =>
   obtain ⟨n, rest⟩ := x
   obtain ⟨h1, h2⟩ := CP h
   by_cases hm : most < (n : Int)
   ·exact .inr (.inr (.inl ⟨n, rest, by rw [h1], h2, hm, xr h hm⟩))
   ·exact .inr (.inr (.inr ⟨n, rest, by rw [h1], h2, by omega, vF h hm⟩))
theorem xu (most : Int) (n : Nat) (rest : List UInt8) (h : n <= 4611686018427387903) (hm : (n : Int) <= most) : rNum most (fI n ++ rest, none) = ((n : Int), (rest, none)) :=
 vF (CO n rest h) (by omega)
theorem BM (most : Int) (st : InS) : (rNum most st).2.1.length <= st.1.length := by
 rcases tA most st with ⟨bs, k, rfl, h⟩ | ⟨bs, k, rfl, _, h⟩ | ⟨n, rest, rfl, _, _, h⟩ | ⟨n, rest, rfl, _, _, h⟩ <;> rw [h] <;> simp
theorem xv (most : Int) (st : InS) : 0 <= (rNum most st).1 /\ (rNum most st).1 <= 4611686018427387903 := by
 rcases tA most st with ⟨bs, k, rfl, h⟩ | ⟨bs, k, rfl, _, h⟩ | ⟨n, rest, rfl, _, _, h⟩ | ⟨n, rest, rfl, _, _, h⟩ <;> rw [h] <;> simp <;> omega
def Dz : InS -> Option Nat
 | (bs, some k) => some k
 | (bs, none) => if 0 < bs.length then some 3 else none
theorem xw (A : Nat -> Addr) (n0 r : Nat) (F : Nat -> Prop) (st : InS) (w : World) (h : InR A w r F st) (hE : cE A n0 w) :
  Calls Tryz.prog fX ⟨[.pointer (some ⟨r, 0, none⟩)]⟩ w fun e w' => e = .returned (errO A (Dz st)) /\ w' = w := by
 refine sh _ ?_
 obtain ⟨bs, er⟩ := st
 obtain ⟨s, h1, h2, h3⟩ := h
 have hl := h1.2.1.1
 dsimp only at hl
 refine aa rfl ⟨_, by rw [add_lit]; exact h1.c1, aB _ _, ?_⟩
 cases er with
 | some k => exact ai (fun hh => by cases hh) (fun _ => aa rfl ⟨_, by rw [add_lit]; exact h1.c1, rfl, rfl⟩)
 | none =>
  refine ai (fun _ => aa rfl ⟨s, h1.c0, af (fun hlt => ?_) (fun hlt => ?_)⟩) (fun hh => by cases hh)
  ·refine ⟨_, b7.at hE.1 3 (by omega), ?_, rfl⟩
   rw [Dz, if_pos (by omega)]; rfl
  ·refine aa rfl ⟨_, by rw [add_lit]; exact h1.c1, ?_, rfl⟩
   rw [Dz, if_neg (by omega)]
def tB (n : Int) : InS -> List UInt8 × InS
 | (bs, some k) => ([], (bs, some k))
 | (bs, none) => if (bs.length : Int) < n then ([], (bs, some 1)) else (bs.take n.toNat, (bs.drop n.toNat, none))
theorem vG {n : Int} {bs : List UInt8} (h : (bs.length : Int) < n) : tB n (bs, none) = ([], (bs, some 1)) := by simp [tB, h]
theorem uP {n : Int} {bs : List UInt8} (h : ¬ (bs.length : Int) < n) : tB n (bs, none) = (bs.take n.toNat, (bs.drop n.toNat, none)) := by simp [tB, h]
def xx (most : Int) (st : InS) : List UInt8 × InS := tB (rNum most st).1 (rNum most st).2
theorem Ay (most : Int) (t rest : List UInt8) (h : t.length <= 4611686018427387903) (hm : (t.length : Int) <= most) : xx most (fI t.length ++ (t ++ rest), none) = (t, (rest, none)) := by
 rw [xx, xu most _ _ h hm, uP (by simp; omega)]
 simp
end Go.D
namespace Go.D
open Go Go.Proofs
structure RdK (A : Nat -> Addr) (n0 : Nat) (w0 w : World) (r : Nat) (F : Nat -> Prop) (bs : List UInt8) : Prop where
 i : InR A w r F (bs, none)
 ge : w0.heap.size <= r
 l : r < w.heap.size
 f : ∀ k, F k -> w0.heap.size <= k /\ k < w.heap.size
 k : aj w0 w
 e : cE A n0 w0
 n : n0 <= w0.heap.size
 b : bs.length <= 2 ^ 20
section
variable {A : Nat -> Addr} {n0 : Nat} {w0 w : World} {r : Nat} {F : Nat -> Prop} {bs rest : List UInt8}
theorem RdK.step {w' : World} {bs' : List UInt8} (h : RdK A n0 w0 w r F bs) (he : Ext (eqB r) w w') (hi : InR A w' r F (bs', none)) (hb : bs'.length <= 2 ^ 20) : RdK A n0 w0 w' r F bs' := by
 have z := he.size
 exact ⟨hi, h.ge, by have := h.l; omega, fun k hk => ⟨(h.f k hk).1, by have := (h.f k hk).2; omega⟩, h.k.ext he (fun k hk => by rw [show k = r from hk]; exact h.ge), h.e, h.n, hb⟩
theorem rdNum {n most : Int} (h : RdK A n0 w0 w r F (mT n ++ rest)) (hn : 0 <= n) (hm : n <= most) (hb : most <= 2 ^ 40) :
  Calls Tryz.prog cx ⟨[.pointer (some ⟨r, 0, none⟩), .int .i64 most]⟩ w fun e w' => e = .returned (.int .i64 n) /\ RdK A n0 w0 w' r F rest /\ Ext (eqB r) w w' := by
 have hl := h.b
 have q := xu most n.toNat rest (by omega) (by omega)
 have hrl : rest.length <= 2 ^ 20 := by rw [List.length_append] at hl; omega
 refine (qL A n0 r F _ most w h.i (by dsimp only; omega) (h.e.ae h.k) (by have := h.n; have := h.ge; omega)).mono ?_
 rintro e w' ⟨rfl, g, k⟩
 unfold mT at *
 rw [q] at g ⊢
 refine ⟨?_, h.step k g hrl, k⟩
 rw [show ((n.toNat : Nat) : Int) = n by omega]
end
end Go.D
namespace Go.D
open Go Go.Proofs
theorem uj (A : Nat -> Addr) (r : Nat) (s : Slc) (bs : List UInt8) (ev : Value) (t : List UInt8) (w : World) (h : ez w r s bs ev) (hi : isI ev) (hl : bs.length <= 2 ^ 20) (ht : t.length <= 2 ^ 20)
  (hE : qs wG w av (A av)) :
  Calls Tryz.prog dC ⟨[.pointer (some ⟨r, 0, none⟩), aT t]⟩ w fun e w' => e = .returned (.tuple #[]) /\
   ∃ s', ez w' r s' (bs ++ fI t.length ++ t) ev /\ bj (iB r s) (iB r s') w w' := by
 refine pS _ _ ?_
 unfold nc
 refine (pz A r s bs ev t.length w h hi (by omega) hl hE).mono ?_
 rintro e w4 ⟨rfl, s4, h4, f4⟩
 rw [if_neg (by omega), if_neg (by omega)] at h4
 have hn : ((t.length : Nat) : Int).toNat = t.length := by omega
 rw [hn] at h4
 have hle := ml t.length 8 (by omega)
 have hsl : s4.l = bs.length + (fI t.length).length := by have := h4.2.1.1; simpa using this
 refine ⟨rfl, aa rfl ⟨s4, h4.c0, h4.append rfl ⟨rfl, rfl⟩ (by simp only [Src.n]; omega) (fun s7 w8 hc hh => aa rfl ⟨hc, ?_⟩)⟩⟩
 rintro w10 rfl
 obtain ⟨h5, h6⟩ := hh _ rfl
 exact ⟨rfl, s7, h5, f4.trans h6⟩
end Go.D
namespace Go.D
open Go Go.Proofs
theorem Az (A : Nat -> Addr) (n0 r : Nat) (s : Slc) (st : InS) (t : List UInt8) (w : World) (h : vD A w r s st) (hl : st.1.length <= 2 ^ 20) (ht : t.length <= 2 ^ 20) (hE : cE A n0 w) :
  Calls Tryz.prog dC ⟨[.pointer (some ⟨r, 0, none⟩), aT t]⟩ w fun e w' => e = .returned (.tuple #[]) /\ ∃ s', vD A w' r s' (BI t st) /\ bj (iB r s) (iB r s') w w' := by
 exact uj A r s st.1 (errO A st.2) t w h (aB _ _) hl ht (hE.1.1 av (iL (k := 0) (by omega)))
end Go.D
namespace Go.D
open Go Go.Proofs
theorem vH (A : Nat -> Addr) (n0 r : Nat) (F : Nat -> Prop) (st : InS) (most : Int) (w : World) (h : InR A w r F st) (hl : st.1.length <= 2 ^ 30) (hE : cE A n0 w) (hr : n0 <= r) :
  Calls Tryz.prog fk ⟨[.pointer (some ⟨r, 0, none⟩), .int .i64 most]⟩ w fun e w' => e = .returned (aT (xx most st).1) /\ InR A w' r F (xx most st).2 /\ Ext (eqB r) w w' := by
 refine qU _ _ ?_
 unfold oR
 refine (qL A n0 r F st most w h hl hE hr).mono ?_
 rintro e w4 ⟨rfl, hR, k4⟩
 have hlen := BM most st
 have hnn := xv most st
 unfold xx
 generalize hst : rNum most st = x at hR hlen hnn ⊢
 obtain ⟨n, bs, er⟩ := x
 dsimp only at hR hlen hnn ⊢
 have hE4 : cE A n0 w4 := hE.ext k4 (fun k hk => by rw [show k = r from hk]; exact hr)
 have hR0 := hR
 obtain ⟨s, h1, h2, h3⟩ := hR
 have hsl := h1.2.1.1
 have hsc := h1.2.2.2
 dsimp only at hsl h1
 refine ⟨_, rfl, aa rfl ⟨_, by rw [add_lit]; exact h1.c1, aB _ _, ?_⟩⟩
 cases er with
 | some k => exact ai (fun _ => ⟨rfl, hR0, k4⟩) (fun hh => by cases hh)
 | none =>
  refine ai (fun hh => by cases hh) (fun _ => aa rfl ⟨s, h1.c0, af (fun hlt => ?_) (fun hlt => ?_)⟩)
  ·refine ⟨_, b7.at hE4.1 1 (by omega), (xt hR0 1).mono ?_⟩
   rintro e w12 ⟨rfl, q1, q2⟩
   rw [vG (by omega)]
   exact ⟨_, rfl, rfl, q1, k4.trans' q2⟩
  ·rw [uP (by omega)]
   obtain ⟨g1, g2, g3⟩ := h1.cut (k := n.toNat) (by omega)
   have hb := fM h1.2.1 (lo := 0) (hi := n.toNat) (c := s.c) (by omega) (by omega) (by omega)
   refine aa rfl ⟨s, h1.c0, by omega, by omega, by omega, by omega, bs.take n.toNat, by simpa using hb, aa rfl ⟨s, h1.c0, by omega, by omega, by omega, by omega, aa rfl ⟨g1, ?_⟩⟩⟩
   rintro w22 rfl
   exact ⟨rfl, ⟨_, g2, fun k hk => h2 k (tz hk), h3⟩, k4.trans' g3⟩
end Go.D
namespace Go.D
open Go Go.Proofs
section
variable {A : Nat -> Addr} {n0 : Nat} {w0 w : World} {r : Nat} {F : Nat -> Prop} {bs rest : List UInt8}
theorem DA {t : List UInt8} {most : Int} (h : RdK A n0 w0 w r F (qI t ++ rest)) (hm : (t.length : Int) <= most) (hb : most <= 2 ^ 40) :
  Calls Tryz.prog fk ⟨[.pointer (some ⟨r, 0, none⟩), .int .i64 most]⟩ w fun e w' => e = .returned (aT t) /\ RdK A n0 w0 w' r F rest /\ Ext (eqB r) w w' := by
 have hl := h.b
 have q := Ay most t rest (by omega) (by omega)
 have hrl : rest.length <= 2 ^ 20 := by rw [List.length_append] at hl; omega
 refine (vH A n0 r F _ most w h.i (by dsimp only; omega) (h.e.ae h.k) (by have := h.n; have := h.ge; omega)).mono ?_
 rintro e w' ⟨rfl, g, k⟩
 unfold qI at *
 rw [List.append_assoc] at g ⊢
 rw [q] at g ⊢
 exact ⟨rfl, h.step k g hrl, k⟩
end
end Go.D
namespace Go.D
open Go Go.Proofs
section
variable {w w' : World} {r st : Nat} {x : UnP} {tr ep top : Int} {pg : Int -> Option (List UInt8)} {ins : Int -> List Int}
theorem UnM.zJ (h : UnM w r st x tr ep top pg ins) : r ≠ x.mp /\ r ≠ x.mi := by
 obtain ⟨T, f, hc, _⟩ := h.o
 obtain ⟨_, _, hp1, _⟩ := h.p.at'
 obtain ⟨_, _, hi1, _⟩ := h.i.at'
 exact ⟨(fun e => by rw [e, hp1] at hc; cases hc), (fun e => by rw [e, hi1] at hc; cases hc)⟩
theorem UnM.CQ {tr' ep' top' : Int} (h : UnM w r st x tr ep top pg ins) (he : Ext (fun k => k = r) w w') (ho : ao w' r [aw st, .map (some x.mp), .map (some x.mi), .int .i64 tr', .int .i64 ep', .int .i64 top']) : UnM w' r st x tr' ep' top' pg ins := by
 obtain ⟨n1, n2⟩ := h.zJ
 refine ⟨ho, h.p.ext he (fun hh => n1 hh.symm), h.i.ext he (fun hh => n2 hh.symm), h.ne, fun a => ⟨fun s hs => ?_, (h.pv a).2⟩, fun n => ?_, h.sep, h.ir, h.pb⟩
 ·obtain ⟨t, g1, g2, g3⟩ := (h.pv a).1 s hs
  exact ⟨t, g1, bc g2 he (fun h0 k hk hh => (h.pb a s hs h0 k hk).1 hh), g3⟩
 ·refine (h.iv n).ext he (fun k hk hh => ?_)
  obtain ⟨s, e1, e2, e3⟩ := jB (x := x) hk
  exact h.ir n s e1 (hh ▸ e3)
def BN (tr : Int) : Rc -> Int
 | .trim t _ => t
 | _ => tr
def BO (ep : Int) : Rc -> Int
 | .trim _ e => e
 | .shut e => e
 | _ => ep
def tellTop (top : Int) : Rc -> Int
 | .cm a _ => max top (a + 1)
 | _ => top
def qf (pg : Int -> Option (List UInt8)) : Rc -> Int -> Option (List UInt8)
 | .cm a t => fi pg a (some t)
 | _ => pg
def iS (ins : Int -> List Int) (seg : Int) : Rc -> Int -> List Int
 | .cm a _ => fi ins seg (ins seg ++ [(a : Int)])
 | _ => ins
theorem yO (A : Nat -> Addr) {n0 : Nat} (h : UnM w r st x tr ep top pg ins) (seg : Int) (c : Rc) (hc : okR c) (s : Slc) (hb : aq w s (encR c)) (hE : cE A n0 w) (hn0 : n0 <= w.heap.size) (hpg : ∀ a t, c = .cm a t -> pg (a : Int) = none) (htop : top <= 2 ^ 41) (hlen : (ins seg).length < 2 ^ 20) :
  Calls Tryz.prog fU ⟨[aw r, .int .i64 seg, s.v]⟩ w fun e w' => e = .returned .nilIface /\ ∃ x', UnM w' r st x' (BN tr c) (BO ep c) (tellTop top c) (qf pg c) (iS ins seg c) /\ Dy r x x' (fun _ => False) w w' := by
 refine oM _ _ _ ?_
 unfold lX
 have hel := pt hc
 have hsl := hb.1
 have lt := h.lt
 refine (Ax A s (encR c) w hb (by omega)).mono ?_
 rintro e w5 ⟨ri, F, rfl, hi, k5, hri, hF⟩
 have hR : RdK A n0 w w5 ri F (encR c) := ⟨hi, hri, by obtain ⟨_, h, _⟩ := hi; exact h.1.lt, hF, k5, hE, hn0, by omega⟩
 refine ⟨_, rfl, ?_⟩
 -- the end of the reading: nothing is left
 have fin : ∀ {w2 : World}, RdK A n0 w w2 ri F [] -> Calls Tryz.prog fX ⟨[.pointer (some ⟨ri, 0, none⟩)]⟩ w2 fun e w' => e = .returned .nilIface /\ w' = w2 := by
  intro w2 h2
  refine (xw A n0 ri F _ w2 h2.i (h2.e.ae h2.k)).mono ?_
  rintro e w' ⟨rfl, rfl⟩
  exact ⟨rfl, rfl⟩
 cases c with
 | cm a t =>
  obtain ⟨v1, v2, v3⟩ := hc
  refine (rdNum (n := 1) (most := 3) hR (by omega) (by omega) (by omega)).mono ?_
  rintro e w8 ⟨rfl, h8, _⟩
  refine ⟨_, rfl, (rdNum (n := (a : Int)) (most := 1073741824) h8 (by omega) (by omega) (by omega)).mono ?_⟩
  rintro e w11 ⟨rfl, h11, _⟩
  refine ⟨_, rfl, fun t2 e2 w2 => t2 = t /\ RdK A n0 w w2 ri F [], af (fun _ => (DA (rest := []) (most := 2048) (by simpa using h11) (by omega) (by omega)).mono ?_) (fun hh => absurd rfl hh), ?_⟩
  ·rintro e w15 ⟨rfl, h15, _⟩
   exact ⟨t, rfl, rfl, h15⟩
  ·rintro t2 e2 w22 ⟨rfl, h22⟩
   intros
   refine (fin h22).mono ?_
   rintro e w33 ⟨rfl, rfl⟩
   refine ⟨_, rfl, trivial, ai (fun hh => by cases hh) (fun _ => af (fun _ => af (fun hh => by omega) (fun _ => af (fun hh => ?_) (fun _ => An (fun s38 w39 hb38 hc38 hf38 k39 => ?_)))) (fun hh => absurd rfl hh))⟩
   ·rw [hh] at v2; simp at v2
   ·have h39 := (h.ae h22.k).ae k39
    have hpga := hpg a t2 rfl
    have z22 := h22.k.size
    refine (tu h39 seg (a : Int) s38 t2 hb38 v3 (fun _ k hk hh => ?_) hpga (by omega) htop hlen).mono ?_
    ·have := hf38 k hk
     have := lt.1 k hh; omega
    ·rintro e w41 ⟨rfl, x', hU, hT1, hT2, hT3⟩
     have z39 := k39.size
     refine ⟨rfl, rfl, x', hU, Ext.trans (h22.k.trans k39) hT1 (fun _ h => h.elim) (fun _ h => .inl h), fun k hk => (hT2 k hk).imp (fun h => h) (fun h => by omega), fun k hk => ?_⟩
     rcases hT3 k hk with g | ⟨_, g⟩ | g
     ·exact .inl g
     ·have := hf38 k g; exact .inr (.inr (by omega))
     ·exact .inr (.inr (by omega))
 | trim to e0 =>
  obtain ⟨v1, v2⟩ := hc
  refine (rdNum (n := 2) (most := 3) hR (by omega) (by omega) (by omega)).mono ?_
  rintro e w8 ⟨rfl, h8, _⟩
  refine ⟨_, rfl, (rdNum (n := (to : Int)) (most := 1073741824) h8 (by omega) (by omega) (by omega)).mono ?_⟩
  rintro e w11 ⟨rfl, h11, _⟩
  refine ⟨_, rfl, fun t2 e2 w2 => e2 = (e0 : Int) /\ RdK A n0 w w2 ri F [], af (fun hh => absurd hh (by omega)) (fun _ => af (fun _ => (rdNum (rest := []) (n := (e0 : Int)) (most := 1073741824) (by simpa using h11) (by omega) (by omega) (by omega)).mono ?_) (fun hh => absurd rfl hh)), ?_⟩
  ·rintro e w15 ⟨rfl, h15, _⟩
   exact ⟨_, rfl, rfl, h15⟩
  ·rintro t2 e2 w22 ⟨rfl, h22⟩
   intros
   refine (fin h22).mono ?_
   rintro e w33 ⟨rfl, rfl⟩
   have h33 := h.ae h22.k
   obtain ⟨c1, c2⟩ := h33.o.bf 3 (by simp) (.int .i64 (to : Int))
   refine ⟨_, rfl, trivial, ai (fun hh => by cases hh) (fun _ => af (fun hh => absurd hh (by omega)) (fun _ => af (fun _ => af (fun hh => by omega) (fun _ => aa rfl ?_)) (fun hh => absurd rfl hh)))⟩
   rw [add_lit]
   refine ⟨c1, fun w44 hw44 => aa rfl ?_⟩
   obtain ⟨o44, e44, _⟩ := c2 w44 hw44
   have h44 := h33.CQ e44 o44
   obtain ⟨c3, c4⟩ := o44.bf 4 (by simp) (.int .i64 (e0 : Int))
   rw [add_lit]
   refine ⟨c3, fun w46 hw46 => ?_⟩
   obtain ⟨o46, e46, _⟩ := c4 w46 hw46
   refine ⟨rfl, x, h44.CQ e46 o46, ?_, fun k hk => .inl hk, fun k hk => .inl hk⟩
   exact (Ext.trans h22.k (e44.mono (fun j hj => Or.inl hj)) (fun _ h => h.elim) (fun _ h => .inl h)).trans e46 (fun _ h => h) (fun j hj => .inl (.inl hj))
 | shut e0 =>
  have v1 : e0 <= 2 ^ 30 := hc
  refine (rdNum (n := 3) (most := 3) hR (by omega) (by omega) (by omega)).mono ?_
  rintro e w8 ⟨rfl, h8, _⟩
  refine ⟨_, rfl, (rdNum (rest := []) (n := (e0 : Int)) (most := 1073741824) (by simpa using h8) (by omega) (by omega) (by omega)).mono ?_⟩
  rintro e w11 ⟨rfl, h11, _⟩
  refine ⟨_, rfl, fun t2 e2 w2 => e2 = (e0 : Int) /\ RdK A n0 w w2 ri F [], af (fun hh => absurd hh (by omega)) (fun _ => af (fun hh => absurd hh (by omega)) (fun _ => ⟨rfl, h11⟩)), ?_⟩
  rintro t2 e2 w22 ⟨rfl, h22⟩
  intros
  refine (fin h22).mono ?_
  rintro e w33 ⟨rfl, rfl⟩
  have h33 := h.ae h22.k
  obtain ⟨c3, c4⟩ := h33.o.bf 4 (by simp) (.int .i64 (e0 : Int))
  refine ⟨_, rfl, trivial, ai (fun hh => by cases hh) (fun _ => af (fun hh => absurd hh (by omega)) (fun _ => af (fun hh => absurd hh (by omega)) (fun _ => af (fun _ => aa rfl ?_) (fun hh => absurd rfl hh))))⟩
  rw [add_lit]
  refine ⟨c3, fun w46 hw46 => ?_⟩
  obtain ⟨o46, e46, _⟩ := c4 w46 hw46
  refine ⟨rfl, x, h33.CQ e46 o46, ?_, fun k hk => .inl hk, fun k hk => .inl hk⟩
  exact Ext.trans h22.k (e46.mono (fun j hj => Or.inl hj)) (fun _ h => h.elim) (fun _ h => .inl h)
end
end Go.D
namespace Go.D
open Go Go.Proofs
structure yP (A : Nat -> Addr) (w0 w : World) (r : Nat) (s : Slc) (b : List UInt8) : Prop where
 o : vD A w r s (b, none)
 m : ∀ k, iB r s k -> w0.heap.size <= k
 k : aj w0 w
section
variable {A : Nat -> Addr} {n0 : Nat} {w0 w : World} {r : Nat} {s : Slc} {b : List UInt8}
theorem yQ {n : Int} (h : yP A w0 w r s b) (hn : 0 <= n /\ n <= 2 ^ 40) (hb : b.length <= 2 ^ 19) (hE : cE A n0 w0) :
  Calls Tryz.prog bL ⟨[.pointer (some ⟨r, 0, none⟩), .int .i64 n]⟩ w fun e w' => e = .returned (.tuple #[]) /\ ∃ s', yP A w0 w' r s' (b ++ mT n) /\ bj (iB r s) (iB r s') w w' := by
 refine (BJ A n0 r s (b, none) n w h.o (by omega) (by simp only; omega) (hE.ae h.k)).mono ?_
 rintro e w' ⟨rfl, s', g1, g2⟩
 have e1 : CN n (b, none) = (b ++ mT n, none) := by unfold CN mT; rw [if_neg (by omega)]
 rw [e1] at g1
 obtain ⟨g3, g4⟩ := g2.new h.k h.m
 exact ⟨rfl, s', ⟨g1, g4, g3⟩, g2⟩
end
theorem BP {A : Nat -> Addr} {n0 : Nat} {w0 w : World} {r : Nat} {s : Slc} {b : List UInt8} (h : yP A w0 w r s b) (hb : b.length <= 65536) (hE : cE A n0 w0) :
  Calls Tryz.prog gA ⟨[.pointer (some ⟨r, 0, none⟩)]⟩ w fun e w' => ∃ t : Slc, e = .returned (.tuple ⟨[t.v, .nilIface]⟩) /\ Own w' t 1 (b.map aQ) /\ aU w0 t /\ aj w0 w' /\ aj w w' := by
 refine pT _ ?_
 unfold ng
 have ho := h.o
 have hsl : s.l = b.length := by have := ho.2.1.1; simpa using this
 refine aa rfl ⟨_, by rw [add_lit]; exact ho.c1, aB A _, ai (fun hn => by cases hn) (fun hn => ?_)⟩
 refine aa rfl ⟨s, ho.c0, af (fun h1 => by omega) (fun h1 => ?_)⟩
 refine aa rfl ⟨s, ho.c0, ?_⟩
 refine (dV s b w ho.2.1.bytes (by omega)).mono ?_
 rintro e w' ⟨t, rfl, hb, hf, hk⟩
 exact ⟨t, rfl, t, rfl, hb, hf.mono h.k.size, h.k.trans hk, hk⟩
end Go.D
namespace Go.D
open Go Go.Proofs
section
variable {A : Nat -> Addr} {n0 : Nat} {w0 w : World} {r : Nat} {s : Slc} {b : List UInt8}
theorem CS {t : List UInt8} (h : yP A w0 w r s b) (ht : t.length <= 2 ^ 19) (hb : b.length <= 2 ^ 19) (hE : cE A n0 w0) :
  Calls Tryz.prog dC ⟨[.pointer (some ⟨r, 0, none⟩), aT t]⟩ w fun e w' => e = .returned (.tuple #[]) /\ ∃ s', yP A w0 w' r s' (b ++ qI t) /\ bj (iB r s) (iB r s') w w' := by
 refine (Az A n0 r s (b, none) t w h.o (by simp only; omega) (by omega) (hE.ae h.k)).mono ?_
 rintro e w' ⟨rfl, s', g1, g2⟩
 have e1 : BI t (b, none) = (b ++ qI t, none) := by unfold BI qI; simp
 rw [e1] at g1
 obtain ⟨g3, g4⟩ := g2.new h.k h.m
 exact ⟨rfl, s', ⟨g1, g4, g3⟩, g2⟩
end
end Go.D
namespace Go.D
open Go
section
variable (N E C s0 : Nat) (z : List UInt8) (B : List aE)
variable {N E C s0 z B}
end
end Go.D
namespace Go.D
open Go Go.Proofs
theorem CT {w : World} {n0 r rd m : Nat} {u : StP} {q : bV} {d : aF} {L : List aE} (h : Sys w n0 r rd u q d L m) : ∀ k, bT r u rd q k -> n0 <= k := fun k hk => hk.elim (h.B.sn k) (h.B.dn k)
end Go.D

