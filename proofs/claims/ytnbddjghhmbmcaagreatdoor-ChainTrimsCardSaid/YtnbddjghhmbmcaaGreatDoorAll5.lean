/-
  WHAT IS PROVED: contracts of functions, and the plain law, for this proof. No further conditions.
-/
import Derived.Test.YtnbddjghhmbmcaaGreatDoorAll4
import Derived.Test.YtnbddjghhmbmcaaGreatDoorVClaw14
import Derived.Test.YtnbddjghhmbmcaaGreatDoorRowsM
import Derived.Test.YtnbddjghhmbmcaaGreatDoorObjM
import Derived.Test.YtnbddjghhmbmcaaGreatDoorFlat
import Derived.Test.YtnbddjghhmbmcaaGreatDoorVClaw14t
set_option linter.unusedVariables false
set_option linter.unusedSimpArgs false
namespace Go.D
open Go Go.Proofs
abbrev s00 : UnS := ⟨[], 0, 0, 0⟩
abbrev dG : Nat -> Bool := fun _ => true
section
variable {A : Nat -> Addr} {w w' : World} {n0 N m m' z : Nat} {r rd r2 : Nat -> Nat} {f f' : Nat -> UnF} {d d' : Nat -> aF} {fr fr' : Nat -> RuF} {P P' : Nat -> List RuE} {top top' : Nat -> Int} {S S' : Nat -> UnS} {us ws : Slc} {up : Nat -> Bool}
theorem C1 {r1 rd1 : Nat} {f1 : UnF} {b : Nat} : FB (N + 1) (aV r N r1) (aV rd N rd1) (aV f N f1) b ↔ FB N r rd f b \/ UB r1 rd1 f1 b := by
 constructor
 ·rintro ⟨i, hi, hb⟩
  by_cases e : i = N
  ·subst e; rw [aA, aA, aA] at hb; exact .inr hb
  ·rw [aI e, aI e, aI e] at hb; exact .inl ⟨i, by omega, hb⟩
 ·rintro (⟨i, hi, hb⟩ | hb)
  ·exact ⟨i, by omega, by rw [aI (by omega), aI (by omega), aI (by omega)]; exact hb⟩
  ·exact ⟨N, by omega, by rw [aA, aA, aA]; exact hb⟩
theorem C2 {f1 : UnF} {b : Nat} : FY (N + 1) (aV f N f1) b ↔ FY N f b \/ UnY f1.x b := by
 constructor
 ·rintro ⟨i, hi, hb⟩
  by_cases e : i = N
  ·subst e; rw [aA] at hb; exact .inr hb
  ·rw [aI e] at hb; exact .inl ⟨i, by omega, hb⟩
 ·rintro (⟨i, hi, hb⟩ | hb)
  ·exact ⟨i, by omega, by rw [aI (by omega)]; exact hb⟩
  ·exact ⟨N, by omega, by rw [aA]; exact hb⟩
theorem C3 {r1 : Nat} {f1 : RuF} {b : Nat} : RB (N + 1) (aV r2 N r1) (aV fr N f1) b ↔ RB N r2 fr b \/ RuW r1 f1 b := by
 constructor
 ·rintro ⟨i, hi, hb⟩
  by_cases e : i = N
  ·subst e; rw [aA, aA] at hb; exact .inr hb
  ·rw [aI e, aI e] at hb; exact .inl ⟨i, by omega, hb⟩
 ·rintro (⟨i, hi, hb⟩ | hb)
  ·exact ⟨i, by omega, by rw [aI (by omega), aI (by omega)]; exact hb⟩
  ·exact ⟨N, by omega, by rw [aA, aA]; exact hb⟩
theorem C4 {f1 : RuF} {b : Nat} : RY (N + 1) (aV fr N f1) b ↔ RY N fr b \/ RuY f1 b := by
 constructor
 ·rintro ⟨i, hi, hb⟩
  by_cases e : i = N
  ·subst e; rw [aA] at hb; exact .inr hb
  ·rw [aI e] at hb; exact .inl ⟨i, by omega, hb⟩
 ·rintro (⟨i, hi, hb⟩ | hb)
  ·exact ⟨i, by omega, by rw [aI (by omega)]; exact hb⟩
  ·exact ⟨N, by omega, by rw [aA]; exact hb⟩
theorem jS.push (h : jS A w n0 N m r rd f d S) {r1 rd1 : Nat} {f1 : UnF} {d1 : aF} {s1 : UnS} (hU : UAt w n0 r1 rd1 f1 d1 s1 m) (hk : d1.n / 64 = 2 /\ d1.stops = false) (hlt : ∀ b, FB N r rd f b \/ FY N f b -> b < z) (hnew : ∀ b, UB r1 rd1 f1 b \/ UnY f1.x b -> z <= b) :
  jS A w n0 (N + 1) m (aV r N r1) (aV rd N rd1) (aV f N f1) (aV d N d1) (aV S N s1) := by
 refine ⟨h.E, fun i hi => ?_, fun i hi => ?_, fun i j hi hj hne b hb => ?_⟩
 ·by_cases e : i = N
  ·subst e; simp only [aA]; exact hU
  ·simp only [aI e]; exact h.U i (by omega)
 ·by_cases e : i = N
  ·subst e; simp only [aA]; exact hk
  ·simp only [aI e]; exact h.k i (by omega)
 ·by_cases e : i = N
  ·subst e
   have e2 : j ≠ i := fun g => hne g.symm
   simp only [aA] at hb
   simp only [aI e2]
   have := hnew b (.inl hb)
   exact ⟨fun hh => by have := hlt b (.inl ⟨j, by omega, hh⟩); omega, fun hh => by have := hlt b (.inr ⟨j, by omega, hh⟩); omega⟩
  ·simp only [aI e] at hb
   have hl := hlt b (.inl ⟨i, by omega, hb⟩)
   by_cases e2 : j = N
   ·subst e2
    simp only [aA]
    exact ⟨fun hh => by have := hnew b (.inl hh); omega, fun hh => by have := hnew b (.inr hh); omega⟩
   ·simp only [aI e2]; exact h.sep i j (by omega) (by omega) hne b hb
theorem qj.push (h : qj w N m r2 fr P top S) {r1 : Nat} {f1 : RuF} {P1 : List RuE} {t1 : Int} {s1 : UnS} (hR : RuS w r1 2 f1 P1 t1 s1) (hP : P1.length <= m) (hs : UPl 2 m s1) (hlt : ∀ b, RB N r2 fr b \/ RY N fr b -> b < z) (hnew : ∀ b, RuW r1 f1 b \/ RuY f1 b -> z <= b) :
  qj w (N + 1) m (aV r2 N r1) (aV fr N f1) (aV P N P1) (aV top N t1) (aV S N s1) := by
 refine ⟨fun i hi => ?_, fun i hi => ?_, fun i j hi hj hne b hb => ?_⟩
 ·by_cases e : i = N
  ·subst e; simp only [aA]; exact hR
  ·simp only [aI e]; exact h.R i (by omega)
 ·by_cases e : i = N
  ·subst e; simp only [aA]; exact ⟨hP, hs⟩
  ·simp only [aI e]; exact h.pl i (by omega)
 ·by_cases e : i = N
  ·subst e
   have e2 : j ≠ i := fun g => hne g.symm
   simp only [aA] at hb
   simp only [aI e2]
   have := hnew b (.inl hb)
   exact ⟨fun hh => by have := hlt b (.inl ⟨j, by omega, hh⟩); omega, fun hh => by have := hlt b (.inr ⟨j, by omega, hh⟩); omega⟩
  ·simp only [aI e] at hb
   have hl := hlt b (.inl ⟨i, by omega, hb⟩)
   by_cases e2 : j = N
   ·subst e2
    simp only [aA]
    exact ⟨fun hh => by have := hnew b (.inl hh); omega, fun hh => by have := hnew b (.inr hh); omega⟩
   ·simp only [aI e2]; exact h.sep i j (by omega) (by omega) hne b hb
theorem xM {r1 : Nat} : usL (N + 1) dG (aV r N r1) = usL N dG r ++ [aw r1] := by
 unfold usL
 rw [List.range_succ, List.map_append]
 congr 1
 ·refine List.map_congr_left (fun i hi => ?_)
  rw [aI (by have := List.mem_range.1 hi; omega)]
 ·simp [aA]
theorem km (N : Nat) (up : Nat -> Bool) (r : Nat -> Nat) : ∀ v ∈ usL N up r, v.oneCell' = true := by
 intro v hv
 obtain ⟨i, _, rfl⟩ := List.mem_map.1 hv
 split <;> rfl
theorem zO {T E : TypeId} {f1 : Nat × Nat} {vs : List Value} {r1 o : Nat} {K : Slc -> World -> Prop} (h : Own w us 1 vs) (hb : w.heap[o]? = some (.cells ⟨[aw r1]⟩ T f1)) (hcf : clear f1 1) (hlen : vs.length < 2 ^ 30)
  (hK : ∀ s' w', Own w' s' 1 (vs ++ [aw r1]) -> Ext (ah us) w w' -> (∀ k, ah s' k -> ah us k \/ w.heap.size <= k) -> K s' w') : aM 1 E [.pointer none] w us (.slc ⟨some ⟨o, 0, none⟩, 1, 1⟩) K := by
 have hsrc : mV w 1 (.slc ⟨some ⟨o, 0, none⟩, 1, 1⟩) [aw r1] := iw (Own.new (sz := 1) (n := 1) hb hcf rfl).cells rfl
 have h1 := h.1
 exact dK h (by omega) rfl hsrc (fun v hv => by rw [List.mem_singleton] at hv; subst hv; rfl) (by simp only [Src.n]; omega) (fun s' w' q1 q2 q3 q4 => hK s' w' q1 q2 q3)
end
theorem tL (A : Nat -> Addr) (N : Nat) (hN : N <= 6) (w0 w : World) (hE : b7 A w0) (hk : aj w0 w) :
  Calls Tryz.prog cd ⟨[.int .i64 (N : Int)]⟩ w fun e w' => ∃ (us ws : Slc) (r rd r2 : Nat -> Nat) (f : Nat -> UnF) (d : Nat -> aF) (fr : Nat -> RuF) (P : Nat -> List RuE) (top : Nat -> Int) (S : Nat -> UnS), e = .returned (.tuple ⟨[us.v, ws.v]⟩) /\
   Uns A w' w0.heap.size N 0 r rd r2 f d fr P top S us ws dG /\ (∀ i, i < N -> S i = s00) /\ aj w w' /\ (∀ b, xL N r rd r2 f fr b \/ ah us b \/ ah ws b -> w.heap.size <= b) := by
 refine j7 _ ?_
 unfold gT
 have hB : cE A w0.heap.size w0 := hE.b
 refine ak (fun ra w3 hra hba ka hsa => ak (fun rb w5 hrb hbb kb hsb => ?_))
 have z0 := hk.size
 have za := ka.size
 have zb := kb.size
 have oa : Own w5 ⟨some ⟨ra, 0, none⟩, 0, 0⟩ 1 (usL 0 dG (fun _ => 0)) := (Own.new (sz := 1) (n := 0) hba (.inl (by simp)) rfl).ae kb
 have ob : Own w5 ⟨some ⟨rb, 0, none⟩, 0, 0⟩ 1 (usL 0 dG (fun _ => 0)) := Own.new (sz := 1) (n := 0) hbb (.inl (by simp)) rfl
 have own1 : ∀ {x : Nat} {b : Nat}, ah (⟨some ⟨x, 0, none⟩, 0, 0⟩ : Slc) b -> b = x := by rintro x b ⟨a, ha, rfl⟩; cases ha; rfl
 refine ⟨fun us ws i w2 => ∃ (n : Nat) (r rd r2 : Nat -> Nat) (f : Nat -> UnF) (d : Nat -> aF) (fr : Nat -> RuF) (P : Nat -> List RuE) (top : Nat -> Int) (S : Nat -> UnS), i = n /\ n <= N /\ Uns A w2 w0.heap.size n 0 r rd r2 f d fr P top S us ws dG /\ (∀ i, i < n -> S i = s00) /\ aj w w2 /\
   (∀ b, xL n r rd r2 f fr b \/ ah us b \/ ah ws b -> w.heap.size <= b), fun _ _ i _ => ((N : Int) - i).toNat,
  ⟨0, fun _ => 0, fun _ => 0, fun _ => 0, fun _ => ⟨0, ⟨0, 0, [], []⟩, ⟨⟨none, 0, 0⟩, []⟩, ⟨⟨none, 0, 0⟩, ⟨none, 0, 0⟩, []⟩, 0⟩, fun _ => ⟨[], [], false, 0⟩, fun _ => ⟨0, ⟨none, 0, 0⟩, [], ⟨none, 0, 0⟩, ⟨none, 0, 0⟩, ⟨none, 0, 0⟩, []⟩, fun _ => [], fun _ => 0, fun _ => s00, rfl, by omega, ?_, fun i hi => by omega, ka.trans kb, ?_⟩, ?_⟩
 ·have no : ∀ {b : Nat} {F : Nat -> Nat -> Prop}, ¬ ∃ i, i < 0 /\ F i b := by rintro b F ⟨i, hi, _⟩; omega
  refine ⟨⟨⟨hB.ae ((hk.trans ka).trans kb), fun i hi => by omega, fun i hi => by omega, fun i j hi => by omega⟩, oa, fun b _ => no⟩, ⟨⟨fun i hi => by omega, fun i hi => by omega, fun i j hi => by omega⟩, ob, fun b _ => no⟩, fun b hb => (no hb).elim, fun b hb => (no hb).elim, fun b hb => ⟨no, no, no, fun hh => ?_⟩, fun b hb => ⟨no, no, no⟩, fun b hb => (no hb).elim, by omega⟩
  have e1 := own1 hb
  have e2 := own1 hh
  omega
 ·rintro b ((⟨i, hi, _⟩ | ⟨i, hi, _⟩ | ⟨i, hi, _⟩ | ⟨i, hi, _⟩) | hb | hb)
  iterate 4 omega
  ·have := own1 hb; omega
  ·have := own1 hb; omega
 rintro us ws i w11 ⟨n, r, rd, r2, f, d, fr, P, top, S, rfl, hn, hU, hS0, k11, hnew⟩
 intros
 refine af (fun h1 => ?_) (fun h1 => ?_)
 rotate_left
 ·have hnN : n = N := by omega
  subst hnN
  exact ⟨us, ws, r, rd, r2, f, d, fr, P, top, S, rfl, hU, hS0, k11, hnew⟩
 have kk : aj w0 w11 := hk.trans k11
 refine (xH A 2 (by omega) w0 w11 hE kk).mono ?_
 rintro e w45 ⟨rd1, q1, d1, rfl, k45, hd1, hst1, hopen⟩
 refine ⟨_, _, rfl, trivial, ai (fun g => by cases g) (fun _ => (hopen w45 (Ext.refl _ _)).mono ?_)⟩
 rintro e w49 ⟨r1, f1, rfl, hU1, hq1, k49, hB1, hY1⟩
 refine ⟨_, _, rfl, trivial, ai (fun g => by cases g) (fun _ => ai (fun g => by cases g) (fun _ => ak (fun r52 w53 hr52 hb52 k52 hs52 => ?_)))⟩
 have k53 : aj w11 w53 := (k45.trans k49).trans k52
 have h53 := hU.ae k53
 have hU53 := hU1.ae k52
 have lt11 := hU.lt
 have lu := eF hU.U.uo
 have lw := eF hU.R.uo
 have z11 := k11.size
 have z53 := k53.size
 have lt1 := hU53.lt
 refine zO h53.U.uo hb52 (.inl (by simp)) (by rw [gK]; omega) (fun s54 w55 g1 g2 g3 => ?_)
 rw [<- xM] at g1
 have ls := eF g1
 have z55 := g2.size
 have hF55 := h53.U.F.ext g2 (fun b hb hh => h53.U.ub b hh hb) (fun b hb hh => (h53.ub b hh).1 hb) (fun b hb => by have := hnew b (.inr (.inl hb)); omega)
 have hU55 := hU53.ext g2 (fun b hb hh => by have := hB1 b hb; have := lu b hh; omega) (fun b hb hh => by have := hY1 b hb; have := lu b hh; omega)
 have hP := hF55.push (z := w11.heap.size) hU55 ⟨hd1, hst1⟩ (fun b hb => hb.elim (fun g => lt11 b (.inl g)) (fun g => lt11 b (.inr (.inl g)))) (fun b hb => hb.elim (hB1 b) (hY1 b))
 have hR55 := h53.R.F.ext g2 (fun b hb hh => (h53.ub b hh).2.1 hb) (fun b hb hh => (h53.ub b hh).2.2.1 hb)
 have ow55 := h53.R.uo.ext g2 (fun b hb hh => (h53.ub b hh).2.2.2 hb)
 refine (vP w55 2).mono ?_
 rintro e w57 ⟨r3, f3, rfl, hR57, hRW, hRY, k57⟩
 refine ⟨_, rfl, ak (fun r59 w60 hr59 hb59 k59 hs59 => ?_)⟩
 have k60 : aj w55 w60 := k57.trans k59
 have hR60 := hR57.ae k59
 have ltR := hR60.A.lt
 have z60 := k60.size
 refine zO (ow55.ae k60) hb59 (.inl (by simp)) (by rw [gK]; omega) (fun s61 w62 q1 q2 q3 => ?_)
 rw [<- xM] at q1
 have z62 := q2.size
 -- which blocks are where
 have cF : ∀ b, FB (n + 1) (aV r n r1) (aV rd n rd1) (aV f n f1) b -> FB n r rd f b \/ (w11.heap.size <= b /\ b < w53.heap.size) := fun b hb => (C1.1 hb).imp (fun g => g) (fun g => ⟨hB1 b g, lt1.1 b g⟩)
 have cY : ∀ b, FY (n + 1) (aV f n f1) b -> FY n f b \/ (w11.heap.size <= b /\ b < w53.heap.size) := fun b hb => (C2.1 hb).imp (fun g => g) (fun g => ⟨hY1 b g, lt1.2 b g⟩)
 have cR : ∀ b, RB (n + 1) (aV r2 n r3) (aV fr n f3) b -> RB n r2 fr b \/ (w55.heap.size <= b /\ b < w60.heap.size) := fun b hb => (C3.1 hb).imp (fun g => g) (fun g => ⟨hRW b g, ltR.1 b g⟩)
 have cZ : ∀ b, RY (n + 1) (aV fr n f3) b -> RY n fr b := fun b hb => (C4.1 hb).elim (fun g => g) (fun g => (hRY b g).elim)
 have lF : ∀ b, FB n r rd f b -> b < w11.heap.size := fun b hb => lt11 b (.inl hb)
 have lY : ∀ b, FY n f b -> b < w11.heap.size := fun b hb => lt11 b (.inr (.inl hb))
 have lR : ∀ b, RB n r2 fr b -> b < w11.heap.size := fun b hb => lt11 b (.inr (.inr (.inl hb)))
 have lZ : ∀ b, RY n fr b -> b < w11.heap.size := fun b hb => lt11 b (.inr (.inr (.inr hb)))
 have wF : ∀ b, ah ws b -> ¬ FB (n + 1) (aV r n r1) (aV rd n rd1) (aV f n f1) b := fun b hb hh => (cF b hh).elim (hU.wb b hb).1 (fun g => by have := lw b hb; omega)
 have wY : ∀ b, ah ws b -> ¬ FY (n + 1) (aV f n f1) b := fun b hb hh => (cY b hh).elim (hU.wb b hb).2.1 (fun g => by have := lw b hb; omega)
 have wR : ∀ b, ah ws b -> ¬ RB (n + 1) (aV r2 n r3) (aV fr n f3) b := fun b hb hh => (cR b hh).elim (hU.R.ub b hb) (fun g => by have := lw b hb; omega)
 have wZ : ∀ b, ah ws b -> ¬ RY (n + 1) (aV fr n f3) b := fun b hb hh => (hU.wb b hb).2.2 (cZ b hh)
 have us_ws : ∀ b, ah s54 b -> ¬ ah ws b := fun b hb hh => (g3 b hb).elim (fun g => (hU.ub b g).2.2.2 hh) (fun g => by have := lw b hh; omega)
 have sF : ∀ b, ah s54 b -> ¬ FB (n + 1) (aV r n r1) (aV rd n rd1) (aV f n f1) b := fun b hb hh => (g3 b hb).elim (fun g => (cF b hh).elim (hU.U.ub b g) (fun g2 => by have := lu b g; omega)) (fun g => (cF b hh).elim (fun g2 => by have := lF b g2; omega) (fun g2 => by omega))
 have sY : ∀ b, ah s54 b -> ¬ FY (n + 1) (aV f n f1) b := fun b hb hh => (g3 b hb).elim (fun g => (cY b hh).elim (hU.ub b g).1 (fun g2 => by have := lu b g; omega)) (fun g => (cY b hh).elim (fun g2 => by have := lY b g2; omega) (fun g2 => by omega))
 have sR : ∀ b, ah s54 b -> ¬ RB (n + 1) (aV r2 n r3) (aV fr n f3) b := fun b hb hh => (cR b hh).elim (fun g2 => (g3 b hb).elim (fun g => (hU.ub b g).2.1 g2) (fun g => by have := lR b g2; omega)) (fun g2 => by have := ls b hb; omega)
 have sZ : ∀ b, ah s54 b -> ¬ RY (n + 1) (aV fr n f3) b := fun b hb hh => (g3 b hb).elim (fun g => (hU.ub b g).2.2.1 (cZ b hh)) (fun g => by have := lZ b (cZ b hh); omega)
 have hF62 := (hP.ae k60).ext q2 (fun b hb hh => wF b hh hb) (fun b hb hh => wY b hh hb) (fun b hb => by have := hnew b (.inr (.inr hb)); omega)
 have hPR := (hR55.ae k60).push (z := w55.heap.size) hR60 (by simp) (UPl.nil 2 (by omega)) (fun b hb => hb.elim (fun g => by have := lR b g; omega) (fun g => by have := lZ b g; omega)) (fun b hb => hb.elim (hRW b) (fun g => (hRY b g).elim))
 have hR62 := hPR.ext q2 (fun b hb hh => wR b hh hb) (fun b hb hh => wZ b hh hb)
 refine ⟨ar (by omega), ⟨n + 1, aV r n r1, aV rd n rd1, aV r2 n r3, aV f n f1, aV d n d1, aV fr n f3, aV P n [], aV top n 0, aV S n s00, rfl, by omega, ?_, ?_, ?_, ?_⟩, by dsimp only; omega⟩
 ·refine ⟨⟨hF62, (g1.ae k60).ext q2 us_ws, sF⟩, ⟨hR62, q1, fun b hb hh => (q3 b hb).elim (fun g => wR b g hh) (fun g => ?_)⟩, fun b hb => ⟨fun hh => ?_, fun hh => ?_⟩, fun b hb hh => ?_, fun b hb => ⟨sY b hb, sR b hb, sZ b hb, fun hh => (q3 b hh).elim (us_ws b hb) (fun g => by have := ls b hb; omega)⟩, fun b hb => ⟨fun hh => ?_, fun hh => ?_, fun hh => ?_⟩, fun b hb => ?_, by omega⟩
  ·rcases cR b hh with g2 | g2
   ·have := lR b g2; omega
   ·omega
  ·rcases cR b hb with g2 | g2
   ·rcases cF b hh with g3 | g3
    ·exact (hU.rb b g2).1 g3
    ·have := lR b g2; omega
   ·rcases cF b hh with g3 | g3
    ·have := lF b g3; omega
    ·omega
  ·rcases cR b hb with g2 | g2
   ·rcases cY b hh with g3 | g3
    ·exact (hU.rb b g2).2 g3
    ·have := lR b g2; omega
   ·rcases cY b hh with g3 | g3
    ·have := lY b g3; omega
    ·omega
  ·rcases cF b hh with g3 | g3
   ·exact hU.ry b (cZ b hb) g3
   ·have := lZ b (cZ b hb); omega
  ·rcases q3 b hb with g | g
   ·exact wF b g hh
   ·rcases cF b hh with g3 | g3
    ·have := lF b g3; omega
    ·omega
  ·rcases q3 b hb with g | g
   ·exact wY b g hh
   ·rcases cY b hh with g3 | g3
    ·have := lY b g3; omega
    ·omega
  ·rcases q3 b hb with g | g
   ·exact wZ b g hh
   ·have := lZ b (cZ b hh); omega
  ·rcases cR b hb with g2 | g2
   ·exact hU.rn b g2
   ·omega
 ·intro i hi
  unfold aV
  split
  ·rfl
  ·exact hS0 i (by omega)
 ·exact (((k11.trans k53).ext g2 (fun b hb => hnew b (.inr (.inl hb)))).trans k60).ext q2 (fun b hb => hnew b (.inr (.inr hb)))
 ·rintro b ((hb | hb | hb | hb) | hb | hb)
  ·exact (cF b hb).elim (fun g => hnew b (.inl (.inl g))) (fun g => by omega)
  ·exact (cY b hb).elim (fun g => hnew b (.inl (.inr (.inl g)))) (fun g => by omega)
  ·exact (cR b hb).elim (fun g => hnew b (.inl (.inr (.inr (.inl g))))) (fun g => by omega)
  ·exact hnew b (.inl (.inr (.inr (.inr (cZ b hb)))))
  ·exact (g3 b hb).elim (fun g => hnew b (.inr (.inl g))) (fun g => by omega)
  ·exact (q3 b hb).elim (fun g => hnew b (.inr (.inr g))) (fun g => by omega)
end Go.D
set_option maxRecDepth 8000
namespace Go.D
open Go Go.Proofs
theorem xN (ep : Int) (s : Slc) (cs : List (List Int)) (w : World) (h : Chs w s cs) :
  Calls Tryz.prog dP ⟨[.agg ⟨[.int .i64 ep, s.v]⟩]⟩ w fun e w' => ∃ b : Bool, e = .returned (.bool b) /\ aj w w' /\ (b = false -> cs.length <= 10 /\ ∀ c ∈ cs, c.length <= 10) := by
 have hsl := h.1
 refine kE _ _ ?_
 unfold ic
 refine ak (fun r3 w4 hr3 hb3 k4 hs4 => ?_)
 have o4 := ao.eV hb3
 refine ⟨s, o4.cell 1 (by simp), af (fun _ => ⟨true, rfl, k4, fun h => by cases h⟩) (fun h1 => ⟨s, o4.cell 1 (by simp), ?_⟩)⟩
 refine ⟨fun i w2 => ∃ k : Nat, i = k /\ k <= cs.length /\ aj w w2 /\ ∀ c ∈ cs.take k, c.length <= 10, fun i _ => ((cs.length : Int) - i).toNat, ⟨0, rfl, by omega, k4, fun c hc => by simp at hc⟩, ?_⟩
 rintro i w10 ⟨k, rfl, hk, k10, hall⟩
 intros
 refine af (fun h2 => ?_) (fun h2 => ?_)
 ·have hkl : k < cs.length := by omega
  obtain ⟨a, t, ha, hc, ht, _⟩ := (h.ae k10).2 k hkl
  have htl := ht.1
  refine aa ha ⟨by omega, h2, t, by rw [Int.toNat_natCast]; exact hc, af (fun _ => ⟨true, rfl, k10, fun h => by cases h⟩) (fun h3 => ⟨ar (by omega), ⟨k + 1, rfl, hkl, k10, fun c hc => ?_⟩, by first | (dsimp only; omega) | omega⟩)⟩
  rw [List.take_succ_eq_append_getElem hkl] at hc
  rcases List.mem_append.1 hc with h | h
  ·exact hall c h
  ·rw [List.mem_singleton] at h; subst h; omega
 ·have hkn : k = cs.length := by omega
  subst hkn
  rw [List.take_length] at hall
  exact ⟨false, rfl, k10, fun _ => ⟨by omega, hall⟩⟩
abbrev s01 : UnS := ⟨[⟨0, 0, [.cm 0 [0]]⟩], 0, 0, 1⟩
theorem B9 {S : Nat -> UnS} (h0 : S 0 = s00) (h1 : S 1 = s00) : flA 2 dG 0 [[0, 1]] 0 S = (none, [0], aV (aV S 0 s01) 1 s01) := by
 have hw : writeP 2 s00 0 0 [0] = (none, s01) := rfl
 have e1 : ∀ (first : Bool) (T : Nat -> UnS) (n : Int), upB 2 dG n = true -> T n.toNat = s00 -> putP 2 dG first 0 0 [0] n T = (none, aV T n.toNat s01) := by
  intro first T n hn hT
  unfold putP
  rw [if_pos hn, hT, hw]
  simp
 have hp : plE 0 [[0, 1]] 0 = none := by decide
 have hc : iT [[0, 1]] 0 = [0, 1] := by decide
 unfold flA
 rw [if_pos hp, hc]
 unfold B4
 have q1 := e1 true S 0 (by decide) h0
 have q2 := e1 false (aV S 0 s01) 1 (by decide) (by rw [aI (by decide)]; exact h1)
 show uV 2 dG 0 0 [0, 1] (putP 2 dG true 0 0 [0] 0 S) = _
 rw [q1]
 unfold uV
 rw [if_pos rfl]
 have q3 : othP 2 dG 0 0 [0] [1] (aV S 0 s01) = (none, aV (aV S 0 s01) 1 s01) := by
  rw [qh, q2, if_pos rfl]; rfl
 have q4 : vK 2 dG 0 0 [0] [1] (aV S 0 s01) = (none, [0], aV (aV S 0 s01) 1 s01) := by
  unfold vK
  rw [q3]; rfl
 exact q4
theorem Ca {S : Nat -> UnS} (h0 : S 0 = s01) : (wrA 2 dG 0 [[0, 1]] 0 [97] S).1 = some 8 := by
 have hw : writeP 2 s01 0 0 [97] = (some 8, s01) := rfl
 have hp : plE 0 [[0, 1]] 0 = none := by decide
 have hc : iT [[0, 1]] 0 = [0, 1] := by decide
 have q : putP 2 dG true 0 0 [97] 0 S = (some 8, aV S 0 s01) := by
  unfold putP
  rw [if_pos (by decide)]
  show ((if _ then (writeP 2 (S 0) 0 0 [97]).1 else _), aV S 0 (writeP 2 (S 0) 0 0 [97]).2) = _
  rw [h0, hw]; simp
 unfold wrA
 rw [if_pos hp, hc]
 unfold CY
 show (if (putP 2 dG true 0 0 [97] 0 S).1 = none then _ else putP 2 dG true 0 0 [97] 0 S).1 = _
 rw [q]; rfl
theorem vQ (A : Nat -> Addr) (w : World) (hE : b7 A w) : Calls Tryz.prog dz ⟨[]⟩ w fun e w' => e = .returned (.bool true) /\ aj w w' := by
 refine j8 ?_
 unfold gU
 refine (tL A 2 (by omega) w w hE (Ext.refl _ _)).mono ?_
 rintro e w2 ⟨us, ws, r, rd, r2, f, d, fr, P, top, S, rfl, hU, hS, k2, hnew⟩
 refine ⟨us, ws, rfl, ak (fun r5 w6 hr5 hb5 k5 hs5 => ak (fun r7 w8 hr7 hb7 k7 hs7 => nt rfl rfl (fun r9 w11 hr9 o9 k9 hs9 => ?_)))⟩
 have k11 : aj w2 w11 := (k5.trans k7).trans k9
 have h11 := hU.U.ae k11
 have hsl := h11.sl
 have lt2 := hU.U.F.lt
 have z5 := k5.size
 have z7 := k7.size
 have o5 := ((ao.eV hb5).ae k7).ae k9
 have o7 := (ao.eV hb7).ae k9
 have hP : PlF w11 (FB 2 r rd f) ⟨some ⟨r7, 0, none⟩, 1, 1⟩ [[0, 1]] := by
  refine ⟨rfl, fun i hi => ?_⟩
  have : i = 0 := by simpa using hi
  subst this
  refine ⟨⟨r7, 0, none⟩, ⟨some ⟨r5, 0, none⟩, 2, 2⟩, rfl, o7.cell 0 (by simp), ⟨rfl, .inr ⟨_, rfl, fun i hi => ?_⟩⟩, by simp, fun hh => by have := lt2.1 _ hh; simp only at this; omega, ?_⟩
  ·rw [add_lit, Nat.zero_add]
   have hi2 : i < 2 := by simpa using hi
   rcases (by omega : i = 0 \/ i = 1) with rfl | rfl
   ·exact o5.cell 0 (by simp)
   ·exact o5.cell 1 (by simp)
  ·rintro _ k ⟨a, ha, rfl⟩ hh
   cases ha
   have := lt2.1 _ hh
   simp only at this; omega
 refine dY (fun h0 => absurd (by omega) h0) (fun _ => ⟨0, _, o9.row, ?_⟩)
 refine (AN h11 (by omega) 0 0 hP (by simp)).mono ?_
 rw [B9 (hS 0 (by omega)) (hS 1 (by omega))]
 rintro e w15 ⟨u, rfl, hb15, hf15, f3, d3, h15, ft15⟩
 refine ⟨u, _, rfl, trivial, ai (fun _ => ?_) (fun g => by cases g)⟩
 have n9 : ¬ FB 2 r rd f r9 := fun hh => by have := lt2.1 _ hh; have := k9.size; omega
 have o15 : ObF w15 (FB 2 r rd f3) r9 _ := (⟨o9, n9⟩ : ObF w11 (FB 2 r rd f) r9 _).to ft15
 refine Calls.mono (R := fun e w' => e = .returned (.bool true) /\ w' = w15) (sE _ ?_) ?_
 ·unfold qE
  exact ⟨[0], hb15, by rw [decide_eq_true rfl], rfl⟩
 rintro e w19 ⟨rfl, rfl⟩
 refine ⟨_, rfl, ai (fun _ => ⟨0, _, o15.ob.row, ak (fun r23 w24 hr23 hb23 k23 hs23 => ?_)⟩) (fun g => by cases g)⟩
 rintro w26 rfl
 obtain ⟨hm1, hm2⟩ := rR hb23
 have kk : aj w19 (markW w24 r23) := k23.step (r := r23) (by omega) hm2
 have ho : Own (markW w24 r23) ⟨some ⟨r23, 0, none⟩, 1, 1⟩ 1 (([97] : List UInt8).map aQ) := Own.new (sz := 1) (n := 1) hm1 (rS _) rfl
 have h26 := h15.ae kk
 have lt15 := h15.F.lt
 have hb : Txt (markW w24 r23) (FB 2 r rd f3) ⟨some ⟨r23, 0, none⟩, 1, 1⟩ [97] := ⟨ho.bytes, fun k hk => ⟨eF ho k hk, fun hh => by
  obtain ⟨a, ha, rfl⟩ := hk
  cases ha
  have := lt15.1 _ hh
  simp only at this; omega⟩, by simp⟩
 have hP26 := (hP.to ft15).ae kk
 refine (tJ h26 (by omega) 0 0 hP26 (by simp) _ [97] hb).mono ?_
 rintro e w28 ⟨rfl, f4, d4, h28, ft28⟩
 have hw : (wrA 2 dG 0 [[0, 1]] 0 [97] (aV (aV S 0 s01) 1 s01)).1 = some 8 := Ca (by rw [aI (by decide), aA])
 rw [hw]
 refine ⟨_, rfl, (tm A (some 8) (fun j hj => by cases hj; omega) _ h28.F.E.1).mono ?_⟩
 rintro e w31 ⟨rfl, k31⟩
 refine ⟨_, rfl, rfl, ?_⟩
 have n0 : ∀ b, FB 2 r rd f b -> w.heap.size <= b := fun b hb => hnew b (.inl (.inl hb))
 have k15w : aj w w19 := (k2.trans k11).ext ft15.1 n0
 have n3 : ∀ b, FB 2 r rd f3 b -> w.heap.size <= b := fun b hb => (ft15.2.1 b hb).elim (n0 b) (fun g => by have := (k2.trans k11).size; omega)
 exact ((k15w.trans kk).ext ft28.1 n3).trans k31
end Go.D
namespace Go.D
open Go Go.Proofs
theorem Chs.row {w : World} {s : Slc} {cs : List (List Int)} (h : Chs w s cs) {k : Nat} (hk : k < cs.length) : ∃ (a : Addr) (t : Slc), s.p = some a /\ w.cell? (a.add (k * 1)) = some t.v /\ cI w t cs[k] /\ t.l <= t.c := by
 exact h.2 k hk
theorem vR {s t : Slc} (h : s.v ∈ [t.v]) : s = t := by
 simp at h
 exact Slc.Da h
def HdR : vm Slc where
 n := 1
 pos := by omega
 R w x cs := cs = [x.v] /\ ∀ k, ah x k -> k < w.heap.size
 len h := by rw [h.1]; rfl
 one h := by rw [h.1]; intro v hv; simp at hv; subst hv; rfl
 ext h he _ := ⟨h.1, fun k hk => Nat.lt_of_lt_of_le (h.2 k hk) he.size⟩
 lt h := by
  rintro k ⟨s, hs, _, hk⟩
  rw [h.1] at hs
  exact h.2 k (vR hs ▸ hk)
def hdC (t : Slc) : List Value := [t.v]
theorem C5 {ts : List Slc} {k : Nat} (h : eZ (ts.map hdC) k) : ∃ t ∈ ts, ah t k := by
 obtain ⟨cs, hc, s, hs, _, hk⟩ := h
 obtain ⟨t, ht, rfl⟩ := List.mem_map.1 hc
 exact ⟨t, ht, vR hs ▸ hk⟩
structure ChO (w : World) (s : Slc) (ts : List Slc) (cs : List (List Int)) : Prop where
 hd : Rows HdR w s ts (ts.map hdC)
 len : ts.length = cs.length
 ch : ∀ i (h : i < ts.length) (h' : i < cs.length), az w ts[i] cs[i]
 sep : ∀ t ∈ ts, ∀ k, ah t k -> ¬ ah s k
 dis : ∀ i j (h : i < ts.length) (h' : j < ts.length), i ≠ j -> ∀ k, ah ts[i] k -> ¬ ah ts[j] k
def ChB (s : Slc) (ts : List Slc) (k : Nat) : Prop := ah s k \/ ∃ t ∈ ts, ah t k
theorem az.D9 {w : World} {s : Slc} {l : List Int} (h : az w s l) : s.l <= s.c := Rows.cap h
section
variable {w w' : World} {s : Slc} {ts : List Slc} {cs : List (List Int)}
theorem ChO.ext {M : Nat -> Prop} (h : ChO w s ts cs) (he : Ext M w w') (hm : ∀ k, ChB s ts k -> ¬ M k) : ChO w' s ts cs :=
 ⟨h.hd.ext he (fun k hk => hm k (.inl hk)) (fun k hk => hm k (.inr (C5 hk))), h.len, fun i h1 h2 => (h.ch i h1 h2).ext he (fun k hk => hm k (.inr ⟨_, List.getElem_mem h1, hk⟩)), h.sep, h.dis⟩
theorem ChO.ae (h : ChO w s ts cs) (he : aj w w') : ChO w' s ts cs := h.ext he (fun _ _ h => h)
theorem ChO.lt (h : ChO w s ts cs) : ∀ k, ChB s ts k -> k < w.heap.size := by
 rintro k (hk | ⟨t, ht, hk⟩)
 ·exact h.hd.lt k hk
 ·obtain ⟨i, hi, rfl⟩ := List.getElem_of_mem ht
  exact (h.ch i hi (by rw [<- h.len]; exact hi)).lt k hk
theorem ChO.get (h : ChO w s ts cs) {i : Nat} (hi : i < cs.length) : ∃ (a : Addr) (hi' : i < ts.length), s.p = some a /\ w.cell? (a.add (i * 1)) = some (ts[i]).v /\ az w ts[i] cs[i] := by
 have hi' : i < ts.length := by rw [h.len]; exact hi
 obtain ⟨a, ha, _, hr⟩ := h.hd.get (i := i) (by simpa using hi')
 rw [List.getElem_map] at hr
 have := mC hr 0 (by simp [hdC])
 have e : (a.add (i * HdR.n)).add (0 + 0) = a.add (i * 1) := by simp [Addr.add, HdR]
 rw [e] at this
 exact ⟨a, hi', ha, this, h.ch i hi' hi⟩
theorem ChO.sl (h : ChO w s ts cs) : s.l = cs.length := by rw [h.hd.sl, h.len]
theorem ChO.new {r : Nat} : ChO w ⟨none, 0, 0⟩ [] [] := ⟨Rows.nil _ _, rfl, fun i h => by simp at h, fun t h => by simp at h, fun i j h => by simp at h⟩
theorem ChO.snoc {T E : TypeId} {f : Nat × Nat} {t : Slc} {c : List Int} {r : Nat} {K : Slc -> World -> Prop} (h : ChO w s ts cs) (hc : az w t c) (h1 : ∀ k, ah t k -> ¬ ChB s ts k) (hb : w.heap[r]? = some (.cells ⟨[t.v]⟩ T f)) (hcf : clear f 1) (hlen : cs.length < 2 ^ 30)
  (hK : ∀ s' w', ChO w' s' (ts ++ [t]) (cs ++ [c]) -> Ext (ah s) w w' -> (∀ k, ah s' k -> ah s k \/ w.heap.size <= k) -> K s' w') : aM 1 E [(Slc.v (⟨none, 0, 0⟩ : Slc))] w s (.slc ⟨some ⟨r, 0, none⟩, 1, 1⟩) K := by
 refine h.hd.snoc (cs := hdC t) (x := t) (z := [(Slc.v (⟨none, 0, 0⟩ : Slc))]) rfl ⟨rfl, hc.lt⟩ (fun k hk => ?_) hb hcf (by rw [h.len]; exact hlen) (fun s' w' g1 g2 g3 => ?_)
 ·obtain ⟨s2, hs, _, hk⟩ := hk
  exact fun hh => h1 k (vR hs ▸ hk) (.inl hh)
 ·refine hK s' w' ⟨by simpa using g1, by simp [h.len], fun i hi hi' => ?_, fun t' ht' k hk hh => ?_, fun i j hi hj hne k hk hk2 => ?_⟩ g2 g3
  ·by_cases hil : i < ts.length
   ·rw [List.getElem_append_left hil, List.getElem_append_left (by rw [<- h.len]; exact hil)]
    exact (h.ch i hil (by rw [<- h.len]; exact hil)).ext g2 (fun k hk => h.sep _ (List.getElem_mem hil) k hk)
   ·have hie : i = ts.length := by simp at hi; omega
    subst hie
    have hl := h.len
    rw [List.getElem_append_right (by omega), List.getElem_append_right (by omega)]
    simp only [hl, Nat.sub_self, List.getElem_cons_zero]
    exact hc.ext g2 (fun k hk hh => h1 k hk (.inl hh))
  ·rcases g3 k hh with hs | hs
   ·rcases List.mem_append.1 ht' with ht | ht
    ·exact h.sep t' ht k hk hs
    ·rw [List.mem_singleton] at ht; subst ht; exact h1 k hk (.inl hs)
   ·rcases List.mem_append.1 ht' with ht | ht
    ·have := h.lt k (.inr ⟨t', ht, hk⟩); omega
    ·rw [List.mem_singleton] at ht; subst ht; have := hc.lt k hk; omega
  ·have go : ∀ (i j : Nat) (hi : i < (ts ++ [t]).length) (hj : j < (ts ++ [t]).length), i < j -> ah (ts ++ [t])[i] k -> ah (ts ++ [t])[j] k -> False := by
    intro i j hi hj hlt hk hk2
    have hil : i < ts.length := by simp at hj; omega
    rw [List.getElem_append_left hil] at hk
    by_cases hjl : j < ts.length
    ·rw [List.getElem_append_left hjl] at hk2
     exact h.dis i j hil hjl (by omega) k hk hk2
    ·have hje : j = ts.length := by simp at hj; omega
     subst hje
     rw [List.getElem_append_right (by omega)] at hk2
     simp only [Nat.sub_self, List.getElem_cons_zero] at hk2
     exact h1 k hk2 (.inr ⟨_, List.getElem_mem hil, hk⟩)
   rcases Nat.lt_or_ge i j with hlt | hge
   ·exact go i j hi hj hlt hk hk2
   ·exact go j i hj hi (by omega) hk2 hk
end
end Go.D
namespace Go.D
open Go Go.Proofs
theorem AP (ep : Int) (s : Slc) (cs : List (List Int)) (w : World) (h : Chs w s cs) (hcl : cs.length <= 1000) (hll : ∀ c ∈ cs, c.length <= 1000) :
  Calls Tryz.prog ky ⟨[.agg ⟨[.int .i64 ep, s.v]⟩]⟩ w fun e w' => ∃ (t : Slc) (ts : List Slc), e = .returned (.agg ⟨[.int .i64 ep, t.v]⟩) /\ ChO w' t ts cs /\ (∀ k, ChB t ts k -> w.heap.size <= k) /\ aj w w' := by
 have hsl := h.1
 refine vu _ _ ?_
 unfold uK
 refine ak (fun r3 w4 hr3 hb3 k3 hs3 => ak (fun r5 w6 hr5 hb5 k5 hs5 => ?_))
 have o3 := (ao.eV hb3).ae k5
 have o5 : ao w6 r5 [.int .i64 0, (⟨none, 0, 0⟩ : Slc).v] := ao.eV hb5
 have z3 := k3.size
 refine ⟨ep, o3.cell 0 (by simp), nt (cs := [.int .i64 ep, (⟨none, 0, 0⟩ : Slc).v]) rfl rfl (fun r8 w10 hr8 o8 k8 hs8 => ?_)⟩
 have k10 := (k3.trans k5).trans k8
 have z5 := k5.size
 have h8lt := o8.lt
 have h5lt := o5.lt
 have z8 := k8.size
 refine ⟨s, (o3.ae k8).cell 1 (by simp), ?_⟩
 refine ⟨fun i w2 => ∃ (k : Nat) (t : Slc) (ts : List Slc), i = k /\ k <= cs.length /\ ao w2 r8 [.int .i64 ep, t.v] /\ ao w2 r5 [.int .i64 0, (⟨none, 0, 0⟩ : Slc).v] /\ ChO w2 t ts (cs.take k) /\ (∀ j, ChB t ts j -> w10.heap.size <= j) /\ aj w w2 /\ w10.heap.size <= w2.heap.size, fun i _ => ((cs.length : Int) - i).toNat,
  ⟨0, _, [], rfl, by omega, o8, o5.ae k8, ChO.new (r := 0), (by rintro j (⟨a, ha, _⟩ | ⟨t, ht, _⟩); cases ha; cases ht), k10, Nat.le_refl _⟩, ?_⟩
 rintro i w15 ⟨k, t, ts, rfl, hk, o8, o5, hC, hB, k15, z15⟩
 intros
 refine af (fun h1 => ?_) (fun h1 => ?_)
 ·have hkl : k < cs.length := by omega
  obtain ⟨a, t0, ha, hc0, ht0, _⟩ := (h.ae k15).row hkl
  have kd : aj w15 w15.drew := Ext.drew jW _
  have hc1 := hll _ (List.getElem_mem hkl)
  have o8d := o8.ae kd
  refine aa ha ⟨by omega, h1, t0, by rw [Int.toNat_natCast]; exact hc0, t, o8d.cell 1 (by simp), ?_⟩
  refine (qO t0 _ _ (dL ht0 kd) (by omega)).mono ?_
  rintro e w32 ⟨s33, rfl, h33, k32, f33⟩
  have f33' : ∀ j, ah s33 j -> w15.heap.size <= j := f33
  have k1532 := kd.trans k32
  refine ⟨s33, rfl, ⟨t, (o8d.ae k32).cell 1 (by simp), rfl⟩, ak (fun r35 w36 hr35 hb35 k35 hs35 => ?_)⟩
  have k1536 := k1532.trans k35
  have o8e := o8.ae k1536
  have z36 := k1536.size
  have hC36 := hC.ae k1536
  refine ⟨⟨t, o8e.cell 1 (by simp), rfl⟩, ?_⟩
  refine hC36.snoc (h33.ae k35) (fun j hj hh => by have := f33' j hj; have := hC.lt j hh; omega) hb35 (.inl (by simp)) (by rw [List.length_take]; omega) (fun s' w39 g1 g2 g3 => ?_)
  have hnr : ¬ ah t r8 := fun hh => by have := hB _ (.inl hh); omega
  have hnr5 : ¬ ah t r5 := fun hh => by have := hB _ (.inl hh); omega
  obtain ⟨c1, c2⟩ := (o8e.ext g2 hnr).bf 1 (by simp) s'.v
  refine ⟨c1, fun w40 hw40 => ?_⟩
  obtain ⟨o8f, g4, g5⟩ := c2 w40 hw40
  have hB' : ∀ j, ChB s' (ts ++ [s33]) j -> w10.heap.size <= j := by
   rintro j (hj | ⟨t', ht', hj⟩)
   ·exact (g3 j hj).elim (fun h => hB j (.inl h)) (fun h => by omega)
   ·rcases List.mem_append.1 ht' with h | h
    ·exact hB j (.inr ⟨t', h, hj⟩)
    ·rw [List.mem_singleton] at h; subst h; have := f33' j hj; omega
  have z39 := g2.size
  refine ⟨ar (by omega), ⟨k + 1, s', _, rfl, hkl, o8f, ((o5.ae k1536).ext g2 hnr5).ext g4 (fun hh => by omega), ?_, hB', ?_, by omega⟩, by first | (dsimp only; omega) | omega⟩
  ·rw [List.take_succ_eq_append_getElem hkl]
   exact g1.ext g4 (fun j hj hh => by have := hB' j hj; omega)
  ·exact ((k15.trans k1536).ext g2 (fun j hj => by have := hB j (.inl hj); have := k10.size; omega)).ext g4 (fun j hj => by have := (k3.trans k5).size; omega)
 ·have hkn : k = cs.length := by omega
  subst hkn
  rw [List.take_length] at hC
  obtain ⟨c1, c2⟩ := o5.Du (n := 2) rfl (cs := [.int .i64 ep, t.v]) rfl
  refine ⟨ep, t, o8.row, c1, fun w43 hw43 => ?_⟩
  obtain ⟨o43, g4, g5⟩ := c2 w43 hw43
  refine ⟨ep, t, o43.row, t, ts, rfl, hC.ext g4 (fun j hj hh => by have := hB j hj; omega), fun j hj => by have := hB j hj; have := k10.size; omega, k15.ext g4 (fun j hj => by omega)⟩
end Go.D
namespace Go.D
open Go Go.Proofs
structure xO where
 us : Slc
 al : Slc
 ws : Slc
 od : Slc
 s : Slc
 s2 : Slc
def xP (p : xO) (ep : Int) : List Value := [p.us.v, p.al.v, p.ws.v, p.od.v, .int .i64 ep, p.s.v, .int .i64 ep, p.s2.v]
structure Dd (A : Nat -> Addr) (wb w : World) (rx m : Nat) (r rd r2 : Nat -> Nat) (f : Nat -> UnF) (d : Nat -> aF) (fr : Nat -> RuF) (P : Nat -> List RuE) (top : Nat -> Int) (S : Nat -> UnS) (p : xO) (up : Nat -> Bool) (ep : Int) (cs : List (List Int)) : Prop where
 o : ao w rx (xP p ep)
 U : Uns A w wb.heap.size 6 m r rd r2 f d fr P top S p.us p.ws up
 al : Own w p.al 1 (usL 6 dG r)
 od : Own w p.od 1 (usL 6 dG r2)
 c1 : Chs wb p.s cs
 c2 : Chs wb p.s2 cs
 kb : aj wb w
 xn : ¬ xL 6 r rd r2 f fr rx /\ ¬ ah p.us rx /\ ¬ ah p.ws rx /\ ¬ ah p.al rx /\ ¬ ah p.od rx
 an : ∀ b, ah p.al b \/ ah p.od b -> ¬ xL 6 r rd r2 f fr b /\ ¬ ah p.us b /\ ¬ ah p.ws b
 ge : wb.heap.size <= rx /\ ∀ b, ah p.us b \/ ah p.ws b -> wb.heap.size <= b
section
variable {A : Nat -> Addr} {wb w w' : World} {rx m m' : Nat} {r rd r2 : Nat -> Nat} {f f' : Nat -> UnF} {d d' : Nat -> aF} {fr fr' : Nat -> RuF} {P P' : Nat -> List RuE} {top top' : Nat -> Int} {S S' : Nat -> UnS} {p : xO} {up : Nat -> Bool} {ep : Int} {cs : List (List Int)}
end
theorem vS (A : Nat -> Addr) (w0 w : World) (hE : b7 A w0) (hk : aj w0 w) (ep : Int) (s : Slc) (cs : List (List Int)) (hC : Chs w s cs) (hcl : cs.length <= 10 /\ ∀ c ∈ cs, c.length <= 10) :
  Calls Tryz.prog dA ⟨[.agg ⟨[.int .i64 ep, s.v]⟩]⟩ w fun e w' => ∃ (wb : World) (rx : Nat) (r rd r2 : Nat -> Nat) (f : Nat -> UnF) (d : Nat -> aF) (fr : Nat -> RuF) (P : Nat -> List RuE) (top : Nat -> Int) (S : Nat -> UnS) (p : xO), e = .returned (aw rx) /\ aj w wb /\
   Dd A wb w' rx 0 r rd r2 f d fr P top S p dG ep cs /\ ∀ i, i < 6 -> S i = s00 := by
 refine j9 _ _ ?_
 unfold gV
 refine ak (fun r3 w4 hr3 hb3 k3 hs3 => ?_)
 have o4 := ao.eV hb3
 have kd : aj w4 (World.drew w4) := Ext.drew _ _
 have od := o4.ae kd
 have k4d := k3.trans kd
 refine ⟨ep, s, od.row, ep, s, od.row, (AP ep s cs (World.drew w4) (hC.ae k4d) (by omega) (fun c hc => by have := hcl.2 c hc; omega)).mono ?_⟩
 rintro e w10 ⟨t, ts, rfl, hO, hnw, k10'⟩
 have k10 := k4d.trans k10'
 have hc2 : Chs w10 t cs := ⟨hO.sl, fun i hi => by
  obtain ⟨a, hi', h1, h2, h3⟩ := hO.get hi
  exact ⟨a, ts[i], h1, h2, h3.ints, h3.D9⟩⟩
 refine ⟨ep, t, rfl, ⟨ep, s, (od.ae k10').row, rfl⟩, ak (fun r15 w16 hr15 hb15 k15 hs15 => ?_)⟩
 have o16 := ao.eV hb15
 refine (tL A 6 (by omega) w10 w16 (hE.ae (hk.trans k10)) k15).mono ?_
 rintro e w18 ⟨us, ws, r, rd, r2, f, d, fr, P, top, S, rfl, hU, hS, k18, hnew⟩
 have o18 := o16.ae k18
 have z16 := k15.size
 have z18 := k18.size
 have lt18 := hU.lt
 have lu := eF hU.U.uo
 have lw := eF hU.R.uo
 have nx : ∀ b, xL 6 r rd r2 f fr b \/ ah us b \/ ah ws b -> b ≠ r15 := fun b hb => by have := hnew b hb; omega
 obtain ⟨c1, c2⟩ := o18.bf 0 (by simp) us.v
 refine ⟨us, ws, rfl, c1, fun w21 hw21 => ?_⟩
 obtain ⟨o21, e21, z21⟩ := c2 w21 hw21
 obtain ⟨c3, c4⟩ := o21.bf 2 (by simp) ws.v
 refine ⟨c3, fun w22 hw22 => ?_⟩
 obtain ⟨o22, e22, z22⟩ := c4 w22 hw22
 have ex : Ext (fun b => b = r15) w18 w22 := e21.trans e22 (fun _ h => h) (fun b hb => .inl hb)
 have n15 : ∀ {b : Nat}, xL 6 r rd r2 f fr b \/ ah us b \/ ah ws b -> ¬ b = r15 := fun hb => nx _ hb
 have hU22 : Uns A w22 w10.heap.size 6 0 r rd r2 f d fr P top S us ws dG := by
  refine ⟨⟨hU.U.F.ext ex (fun b hb => n15 (.inl (.inl hb))) (fun b hb => n15 (.inl (.inr (.inl hb)))) (fun b hb => by have hb' : b = r15 := hb; omega), hU.U.uo.ext ex (fun b hb => n15 (.inr (.inl hb))), hU.U.ub⟩, ⟨hU.R.F.ext ex (fun b hb => n15 (.inl (.inr (.inr (.inl hb))))) (fun b hb => n15 (.inl (.inr (.inr (.inr hb))))), hU.R.uo.ext ex (fun b hb => n15 (.inr (.inr hb))), hU.R.ub⟩, hU.rb, hU.ry, hU.ub, hU.wb, hU.rn, by omega⟩
 have o22' : ao w22 r15 [us.v, (⟨none, 0, 0⟩ : Slc).v, ws.v, (⟨none, 0, 0⟩ : Slc).v, .int .i64 ep, s.v, .int .i64 ep, t.v] := o22
 have kb22 : aj w10 w22 := (k15.trans k18).ext ex (fun b hb => by have hb' : b = r15 := hb; omega)
 have kd22 : aj w22 (World.drew w22) := Ext.drew _ _
 -- the end, in whichever order the copies were made
 have fin : ∀ (wf : World) (sa so : Slc), aj w22 wf -> Own wf sa 1 (usL 6 dG r) -> Own wf so 1 (usL 6 dG r2) -> (∀ b, ah sa b -> w22.heap.size <= b) -> (∀ b, ah so b -> w22.heap.size <= b) ->
   aJ wf (⟨r15, 1, none⟩ : Addr) 1 /\ ∀ w37 : World, w37 = World.setCell wf (⟨r15, 1, none⟩ : Addr) sa.v -> aJ w37 (⟨r15, 3, none⟩ : Addr) 1 /\ ∀ w38 : World, w38 = World.setCell w37 (⟨r15, 3, none⟩ : Addr) so.v ->
   ∃ (wb : World) (rx : Nat) (r rd r2 : Nat -> Nat) (f : Nat -> UnF) (d : Nat -> aF) (fr : Nat -> RuF) (P : Nat -> List RuE) (top : Nat -> Int) (S : Nat -> UnS) (p : xO), Ending.returned (Value.pointer (some (⟨r15, 0, none⟩ : Addr))) = .returned (aw rx) /\ aj w wb /\
    Dd A wb w38 rx 0 r rd r2 f d fr P top S p dG ep cs /\ ∀ i, i < 6 -> S i = s00 := by
  intro wf sa so kf ha ho na no
  have zf := kf.size
  have of' := o22'.ae kf
  obtain ⟨d1, d2⟩ := of'.bf 1 (by simp) sa.v
  refine ⟨d1, fun w37 hw37 => ?_⟩
  obtain ⟨o37, e37, z37⟩ := d2 w37 hw37
  obtain ⟨d3, d4⟩ := o37.bf 3 (by simp) so.v
  refine ⟨d3, fun w38 hw38 => ?_⟩
  obtain ⟨o38, e38, z38⟩ := d4 w38 hw38
  have ex2 : Ext (fun b => b = r15) wf w38 := e37.trans e38 (fun _ h => h) (fun b hb => .inl hb)
  have hUf := hU22.ae kf
  have l15 : r15 < w22.heap.size := o22'.lt
  have ltA : ∀ b, xL 6 r rd r2 f fr b \/ ah us b \/ ah ws b -> b < w22.heap.size := fun b hb => by
   rcases hb with hb | hb | hb
   ·exact hU22.lt b hb
   ·exact eF hU22.U.uo b hb
   ·exact eF hU22.R.uo b hb
  have nn : ∀ b, ah sa b \/ ah so b -> w22.heap.size <= b := fun b hb => hb.elim (na b) (no b)
  refine ⟨w10, r15, r, rd, r2, f, d, fr, P, top, S, ⟨us, sa, ws, so, s, t⟩, rfl, k10, ⟨o38, ?_, ha.ext ex2 (fun b hb hh => by have h1 := na b hb; have h2 : b = r15 := hh; omega), ho.ext ex2 (fun b hb hh => by have h1 := no b hb; have h2 : b = r15 := hh; omega), hC.ae k10, hc2, (kb22.trans kf).ext ex2 (fun b hb => by have hb' : b = r15 := hb; omega), ?_, ?_, by omega, fun b hb => by have := hnew b (.inr hb); omega⟩, hS⟩
  ·refine ⟨⟨hUf.U.F.ext ex2 (fun b hb => n15 (.inl (.inl hb))) (fun b hb => n15 (.inl (.inr (.inl hb)))) (fun b hb => by have hb' : b = r15 := hb; omega), hUf.U.uo.ext ex2 (fun b hb => n15 (.inr (.inl hb))), hUf.U.ub⟩, ⟨hUf.R.F.ext ex2 (fun b hb => n15 (.inl (.inr (.inr (.inl hb))))) (fun b hb => n15 (.inl (.inr (.inr (.inr hb))))), hUf.R.uo.ext ex2 (fun b hb => n15 (.inr (.inr hb))), hUf.R.ub⟩, hUf.rb, hUf.ry, hUf.ub, hUf.wb, hUf.rn, by have := hUf.z; omega⟩
  ·exact ⟨fun hh => nx _ (.inl hh) rfl, fun hh => nx _ (.inr (.inl hh)) rfl, fun hh => nx _ (.inr (.inr hh)) rfl, fun hh => by have := na _ hh; omega, fun hh => by have := no _ hh; omega⟩
  ·intro b hb
   have h1 := nn b hb
   exact ⟨fun hh => by have := ltA b (.inl hh); omega, fun hh => by have := ltA b (.inr (.inl hh)); omega, fun hh => by have := ltA b (.inr (.inr hh)); omega⟩
 have own1 : ∀ {x : Nat} {b : Nat}, ah (⟨some ⟨x, 0, none⟩, 0, 0⟩ : Slc) b -> b = x := by rintro x b ⟨a, ha, rfl⟩; cases ha; rfl
 have nil1 : ∀ {w2 : World} {x : Nat} {T : TypeId}, w2.heap[x]? = some (.cells ⟨[]⟩ T) -> Own w2 ⟨some ⟨x, 0, none⟩, 0, 0⟩ 1 [] := fun hb => Own.new (sz := 1) (n := 0) hb (.inl (by simp)) rfl
 -- a copy of the pointers
 have cpy : ∀ {w2 : World} {x : Nat} {E : TypeId} {src : Slc} {vs : List Value} {K : Slc -> World -> Prop}, aj w22 w2 -> w22.heap.size <= x -> Own w2 ⟨some ⟨x, 0, none⟩, 0, 0⟩ 1 [] -> Own w2 src 1 vs -> (∀ v ∈ vs, v.oneCell' = true) -> vs.length = 6 ->
   (∀ s' w', aj w22 w' -> Own w' s' 1 vs -> Ext (fun b => b = x) w2 w' -> (∀ b, ah s' b -> b = x \/ w2.heap.size <= b) -> K s' w') -> aM 1 E [.pointer none] w2 (⟨some ⟨x, 0, none⟩, 0, 0⟩ : Slc) (.slc src) K := by
  intro w2 x E src vs K kw hx ho hs hone hl6 hK
  have hsl := hs.1
  refine dK ho (by omega) rfl (iw hs.cells hsl.symm) hone (by simp only [Src.n]; omega) (fun s' w' q1 q2 q3 q4 => hK s' w' ?_ (by simpa using q1) (q2.mono (fun b hb => own1 hb)) (fun b hb => (q3 b hb).imp own1 (fun g => g)))
  exact kw.ext q2 (fun b hb => by have := own1 hb; omega)
 have hus : ∀ {w2 : World}, aj w22 w2 -> Own w2 us 1 (usL 6 dG r) := fun hk => hU22.U.uo.ae hk
 have hws : ∀ {w2 : World}, aj w22 w2 -> Own w2 ws 1 (usL 6 dG r2) := fun hk => hU22.R.uo.ae hk
 have oo : ∀ {w2 : World}, aj w22 w2 -> ao w2 r15 [us.v, (⟨none, 0, 0⟩ : Slc).v, ws.v, (⟨none, 0, 0⟩ : Slc).v, .int .i64 ep, s.v, .int .i64 ep, t.v] := fun hk => o22'.ae hk
 refine ⟨us, (oo kd22).cell 0 (by simp), ws, (oo kd22).cell 2 (by simp), ak (fun r25 w26 hr25 hb25 k25 hs25 => ?_), ak (fun r50 w51 hr50 hb50 k50 hs50 => ?_)⟩
 ·have k26 := kd22.trans k25
  have q25 : w22.heap.size <= r25 := by rw [hr25]; exact kd22.size
  refine ⟨⟨ws, (oo k26).cell 2 (by simp), rfl⟩, ⟨us, (oo k26).cell 0 (by simp), rfl⟩, ?_, ak (fun r39 w40 hr39 hb39 k39 hs39 => ?_)⟩
  ·refine cpy k26 q25 (nil1 hb25) (hus k26) (km _ _ _) gK (fun s29 w30 k30 ho29 e30 n29 => ?_)
   have l29 := eF ho29
   refine ⟨⟨ws, (oo k30).cell 2 (by simp), rfl⟩, ak (fun r32 w33 hr32 hb32 k32 hs32 => ⟨⟨ws, (oo (k30.trans k32)).cell 2 (by simp), rfl⟩, ?_⟩)⟩
   have k33 := k30.trans k32
   refine cpy k33 (by have := k30.size; omega) (nil1 hb32) (hws k33) (km _ _ _) gK (fun s35 w36 k36 ho35 e36 n35 => ?_)
   have z33 := k33.size
   have z26 := k26.size
   have z30 := k30.size
   exact fin w36 s29 s35 k36 ((ho29.ae k32).ext e36 (fun b hb hh => by have h1 := l29 b hb; have h2 : b = r32 := hh; omega)) ho35 (fun b hb => (n29 b hb).elim (fun g => by omega) (fun g => by omega)) (fun b hb => (n35 b hb).elim (fun g => by omega) (fun g => by omega))
  ·have k40 := k26.trans k39
   have z26 := k26.size
   refine ⟨⟨ws, (oo k40).cell 2 (by simp), rfl⟩, ⟨us, (oo k40).cell 0 (by simp), rfl⟩, ?_⟩
   refine cpy k40 q25 ((nil1 hb25).ae k39) (hus k40) (km _ _ _) gK (fun s43 w44 k44 ho43 e44 n43 => ⟨⟨ws, (oo k44).cell 2 (by simp), rfl⟩, ?_⟩)
   have z40 := k40.size
   have z44 := k44.size
   have hne : r39 ≠ r25 := by have := bq hb25; omega
   refine cpy k44 (by omega) ((nil1 hb39).ext e44 (fun b hb hh => by have h1 := own1 hb; have h2 : b = r25 := hh; omega)) (hws k44) (km _ _ _) gK (fun s46 w47 k47 ho46 e47 n46 => ?_)
   have l39 := bq hb39
   exact fin w47 s43 s46 k47 (ho43.ext e47 (fun b hb hh => by have h2 : b = r39 := hh; rcases n43 b hb with g | g <;> omega)) ho46 (fun b hb => (n43 b hb).elim (fun g => by omega) (fun g => by omega)) (fun b hb => (n46 b hb).elim (fun g => by omega) (fun g => by omega))
 ·have k51 := kd22.trans k50
  have q50 : w22.heap.size <= r50 := by rw [hr50]; exact kd22.size
  refine ⟨⟨ws, (oo k51).cell 2 (by simp), rfl⟩, ⟨us, (oo k51).cell 0 (by simp), rfl⟩, ak (fun r54 w55 hr54 hb54 k54 hs54 => ?_)⟩
  have k55 := k51.trans k54
  have z51 := k51.size
  have z55 := k55.size
  have l50 := bq hb50
  have l54 := bq hb54
  refine ⟨⟨ws, (oo k55).cell 2 (by simp), rfl⟩, ⟨us, (oo k55).cell 0 (by simp), rfl⟩, ?_⟩
  refine cpy k55 (by omega) (nil1 hb54) (hus k55) (km _ _ _) gK (fun s58 w59 k59 ho58 e59 n58 => ⟨⟨ws, (oo k59).cell 2 (by simp), rfl⟩, ?_⟩)
  have z59 := k59.size
  refine cpy k59 q50 (((nil1 hb50).ae k54).ext e59 (fun b hb hh => by have h1 := own1 hb; have h2 : b = r54 := hh; omega)) (hws k59) (km _ _ _) gK (fun s61 w62 k62 ho61 e62 n61 => ?_)
  exact fin w62 s58 s61 k62 (ho58.ext e62 (fun b hb hh => by have h2 : b = r50 := hh; rcases n58 b hb with g | g <;> omega)) ho61 (fun b hb => (n58 b hb).elim (fun g => by omega) (fun g => by omega)) (fun b hb => (n61 b hb).elim (fun g => by omega) (fun g => by omega))
end Go.D
namespace Go.D
open Go
def qk (x : Rc) : Prop := ∃ a t, x = Rc.cm a t /\ a < 20 /\ t.length <= 300
theorem ov {x : Rc} (h : qk x) : cS (encR x).length <= 6 := by
 obtain ⟨a, t, rfl, ha, ht⟩ := h
 have g1 := eQ (a : Int) (by omega)
 have g2 := uO t (by omega)
 have g3 := eQ 1 (by omega)
 have : (encR (.cm a t)).length <= 318 := by simp only [encR, List.length_append]; omega
 unfold cS bu; omega
theorem AQ {to ep : Nat} (h : to <= 4096 /\ ep <= 2 ^ 30) : cS (encR (.trim to ep)).length <= 2 := by
 have g1 := eQ (to : Int) (by omega)
 have g2 := eQ (ep : Int) (by omega)
 have g3 := eQ 2 (by omega)
 have : (encR (.trim to ep)).length <= 18 := by simp only [encR, List.length_append]; omega
 unfold cS bu; omega
theorem ql : ∀ (rs : List Rc), (∀ x ∈ rs, qk x) -> sumN (rs.map encR) <= 6 * rs.length
 | [], _ => by simp [sumN]
 | x :: rs, h => by
  have h1 := ql rs (fun y hy => h y (by simp [hy]))
  have h2 := ov (h x (by simp))
  simp only [List.map_cons, sumN, List.length_cons]; omega
theorem Cb {M : List aL} {g : aL} {n : Nat} (hf : ¬ gr (sU (M ++ [g])) n = true) : 64 < 1 + sumN (g.rs.map encR) + cS n := by
 have e2 : sU (M ++ [g]) = sU M ++ [g.s] := List.map_append
 rw [e2] at hf
 unfold gr at hf
 rw [List.getLast?_concat] at hf
 have h3 : ¬ g.s.fin + cS n <= 64 := by simpa using hf
 unfold aE.fin at h3
 have h4 : g.s.cc = g.rs.map encR := rfl
 rw [h4] at h3; omega
structure TU (s : UnS) (q : Int -> Option (List UInt8)) : Prop where
 pl : ∃ m, UPl 2 m s
 z : s.tr = 0 /\ s.ep = 0
 r : ∀ g ∈ s.U, ∀ x ∈ g.rs, qk x
 b : ∀ g h, s.U = [g, h] -> 10 <= g.rs.length
 q : pgM s.U 0 = q
theorem qP : ∀ (R : List Rc), (∀ x ∈ R, qk x) -> (pagesOf R).length = R.length /\ ∀ y ∈ pagesOf R, y.1 < 20
 | [], _ => ⟨rfl, by simp [pagesOf]⟩
 | x :: R, h => by
  obtain ⟨h1, h2⟩ := qP R (fun y hy => h y (by simp [hy]))
  obtain ⟨a, t, rfl, ha, _⟩ := h x (by simp)
  refine ⟨by simp [pagesOf, h1], fun y hy => ?_⟩
  rcases List.mem_cons.1 hy with rfl | hy
  ·exact ha
  ·exact h2 y hy
theorem few {l : List Nat} (hn : l.Nodup) (hl : ∀ x ∈ l, x < 20) : l.length <= 20 := by
 have := hn.length_le_of_subset (l₂ := List.range 20) (fun x hx => List.mem_range.2 (hl x hx))
 simpa using this
section
variable {s : UnS} {q : Int -> Option (List UInt8)}
theorem TU.two (h : TU s q) {x : Rc} (hx : appU 2 s.U x = none) : ∃ g g2, s.U = [g, g2] /\ ¬ gr (sU s.U) (encR x).length = true := by
 obtain ⟨m, hp⟩ := h.pl
 have hl := hp.g.len
 unfold appU at hx
 by_cases hf : gr (sU s.U) (encR x).length = true
 ·have hne := pF hf
  rw [if_pos hf, dif_pos hne] at hx
  cases hx
 ·rw [if_neg hf] at hx
  have hfp : eC 2 (sU s.U) = none := by
   cases hh : eC 2 (sU s.U) with
   | none => rfl
   | some p => rw [hh] at hx; cases hx
  have hno : ∀ p, p < 2 -> ∃ g ∈ s.U, g.place = p := by
   intro p hp2
   unfold eC at hfp
   rw [List.find?_eq_none] at hfp
   have h2 := hfp p (List.mem_range.2 hp2)
   rw [mF] at h2
   simp only [ne_eq, Classical.not_forall, not_imp, Decidable.not_not] at h2
   obtain ⟨g, hg, e⟩ := h2
   obtain ⟨y, hy, rfl⟩ := List.mem_map.1 hg
   exact ⟨y, hy, e⟩
  obtain ⟨g0, hg0, e0⟩ := hno 0 (by omega)
  obtain ⟨g1, hg1, e1⟩ := hno 1 (by omega)
  generalize s.U = U at hl hg0 hg1 hf
  match U, hl with
  | [], _ => simp at hg0
  | [a], _ =>
   rw [List.mem_singleton] at hg0 hg1
   subst hg0; subst hg1; omega
  | [a, b], _ => exact ⟨a, b, rfl, hf⟩
  | _ :: _ :: _ :: _, hl => simp at hl
theorem TU.all (h : TU s q) : ∀ x ∈ dJ s.U, qk x := by
 intro x hx
 obtain ⟨g, hg, hx⟩ := List.mem_flatMap.1 hx
 exact h.r g hg x hx
theorem TU.fit (h : TU s q) {x : Rc} (hx : (∃ a t, x = .cm a t /\ a < 20 /\ t.length <= 300 /\ ∀ y ∈ pgU s.U, y.1 ≠ a) \/ cS (encR x).length <= 2) : appU 2 s.U x ≠ none := by
 intro hn
 obtain ⟨g, g2, e, hf⟩ := h.two hn
 obtain ⟨m, hp⟩ := h.pl
 have h1 := h.b g g2 e
 have h3 := ql g2.rs (h.r g2 (by rw [e]; simp))
 have hnf := Cb (M := [g]) (g := g2) (n := (encR x).length) (by rw [e] at hf; exact hf)
 obtain ⟨h4, h5⟩ := qP _ h.all
 have h6 : (dJ s.U).length = g.rs.length + g2.rs.length := by rw [e]; simp [dJ]
 have h7 : ((pgU s.U).map (·.1)).length = g.rs.length + g2.rs.length := by rw [List.length_map]; unfold pgU; rw [h4, h6]
 rcases hx with ⟨a, t, rfl, ha, ht, hy⟩ | hx
 ·have h8 := ov (x := .cm a t) ⟨a, t, rfl, ha, ht⟩
  have h9 := few (l := a :: (pgU s.U).map (·.1)) (List.nodup_cons.2 ⟨fun hh => by obtain ⟨y, hy2, e2⟩ := List.mem_map.1 hh; exact hy y hy2 e2, hp.o.nd⟩) (fun z hz => by
   rcases List.mem_cons.1 hz with rfl | hz
   ·exact ha
   ·obtain ⟨y, hy2, rfl⟩ := List.mem_map.1 hz
    exact h5 y hy2)
  rw [List.length_cons, h7] at h9
  omega
 ·have h9 := few hp.o.nd (fun z hz => by
   obtain ⟨y, hy2, rfl⟩ := List.mem_map.1 hz
   exact h5 y hy2)
  rw [h7] at h9
  omega
theorem TU.write (h : TU s q) {e : Int} (he : 0 <= e /\ e <= 1073741824) {a : Nat} (ha : a < 20) {t : List UInt8} (ht : t.length <= 300) :
  (t = [] -> writeP 2 s e a t = (some 2, s)) /\ (t ≠ [] -> (q a).isSome -> writeP 2 s e a t = (some 8, s)) /\ (t ≠ [] -> q a = none -> (writeP 2 s e a t).1 = none /\ TU (writeP 2 s e a t).2 (fi q a (some t))) := by
 obtain ⟨m, hp⟩ := h.pl
 obtain ⟨U, tr, ep, T⟩ := s
 obtain ⟨rfl, rfl⟩ : tr = 0 /\ ep = 0 := h.z
 have hc : cL ((0 : Nat) : Int) e a 4095 = none := by unfold cL; rw [if_neg (by omega), if_neg (by omega)]
 have hq : pgM U 0 = q := h.q
 refine ⟨fun h0 => ?_, fun h0 h1 => ?_, fun h0 h1 => ?_⟩
 ·unfold writeP
  rw [hc]
  subst h0
  simp
 ·unfold writeP
  rw [hc]
  have : t.length ≠ 0 := fun hh => h0 (List.length_eq_zero_iff.1 hh)
  dsimp only
  rw [if_neg (by omega), if_neg (by omega), hq, if_pos h1]
 ·have hl0 : t.length ≠ 0 := fun hh => h0 (List.length_eq_zero_iff.1 hh)
  have hno : ∀ y ∈ pgU U, y.1 ≠ a := pH (tr := 0) (by omega) (by rw [hq]; exact h1)
  have hok : okR (.cm a t) := ⟨by omega, by omega, by omega⟩
  have hwP : writeP 2 ⟨U, 0, 0, T⟩ e a t = match appU 2 U (.cm a t) with | none => (some 12, ⟨U, 0, 0, T⟩) | some (n, V) => (none, ⟨V, 0, 0, max T (a + 1)⟩) := by
   unfold writeP
   rw [hc]
   dsimp only
   rw [if_neg (by omega), if_neg (by omega), hq, if_neg (by rw [h1]; simp), Int.toNat_natCast]
   rfl
  have hup := AG hp e a t
  cases hap : appU 2 U (.cm a t) with
  | none => exact absurd hap (h.fit (.inl ⟨a, t, rfl, ha, ht, hno⟩))
  | some p =>
   obtain ⟨n, V⟩ := p
   rw [hap] at hwP
   rw [hwP] at hup ⊢
   refine ⟨rfl, ⟨_, hup⟩, ⟨rfl, rfl⟩, ?_, ?_, ?_⟩
   ·obtain ⟨_, _, M, g, rfl, hM⟩ := gk hap
    intro y hy x hx
    have key : ∀ z ∈ M ++ [g], ∀ x ∈ z.rs, qk x := by
     rcases hM with e2 | ⟨p, _, rfl, rfl⟩
     ·rw [e2]; exact h.r
     ·intro z hz x hx
      rcases List.mem_append.1 hz with hz | hz
      ·exact h.r z hz x hx
      ·rw [List.mem_singleton] at hz; subst hz; simp at hx
    rcases List.mem_append.1 hy with hy | hy
    ·exact key y (by simp [hy]) x hx
    ·rw [List.mem_singleton] at hy; subst hy
     rcases List.mem_append.1 hx with hx | hx
     ·exact key g (by simp) x hx
     ·rw [List.mem_singleton] at hx; subst hx; exact ⟨a, t, rfl, ha, ht⟩
   ·intro g g2 e2
    have e2' : V = [g, g2] := e2
    unfold appU at hap
    by_cases hf : gr (sU U) (encR (.cm a t)).length = true
    ·have hne := pF hf
     rw [if_pos hf, dif_pos hne] at hap
     cases hap
     have e3 : U.dropLast ++ [U.getLast hne] = U := List.dropLast_concat_getLast hne
     have e4 : U.dropLast = [g] := by
      have := congrArg List.dropLast e2'
      rw [List.dropLast_concat] at this
      exact this
     rw [e4] at e3
     exact h.b g (U.getLast hne) e3.symm
    ·rw [if_neg hf] at hap
     cases hfp : eC 2 (sU U) with
     | none => rw [hfp] at hap; cases hap
     | some p =>
      rw [hfp] at hap
      cases hap
      have e4 : U = [g] := by
       have := congrArg List.dropLast e2'
       rw [List.dropLast_concat] at this
       exact this
      subst e4
      have hnf := Cb (M := []) (g := g) hf
      have h8 := ov (x := .cm a t) ⟨a, t, rfl, ha, ht⟩
      have h3 := ql g.rs (h.r g (by simp))
      omega
   ·show pgM V 0 = _
    rw [xB (pG (gk hap).1) (by omega) (by rw [hq]; exact h1), hq]
structure TT (s : UnS) (q : Int -> Option (List UInt8)) (own : Nat) : Prop where
 tr : s.tr = own
 ep : s.ep = 0
 q : ∀ a : Int, own <= a -> pgM s.U own a = q a
theorem TU.trim (h : TU s q) {e : Int} (he : 0 <= e /\ e <= 1073741824) {own : Nat} (ho : own <= 22) : (gu 2 s e own).1 = none /\ TT (gu 2 s e own).2 q own := by
 obtain ⟨m, hp⟩ := h.pl
 have hp0 := hp.o
 obtain ⟨U, tr, ep, T⟩ := s
 obtain ⟨rfl, rfl⟩ : tr = 0 /\ ep = 0 := h.z
 have hc : cL ((0 : Nat) : Int) e own 4096 = none := by unfold cL; rw [if_neg (by omega), if_neg (by omega)]
 have hq : pgM U 0 = q := h.q
 by_cases h0 : own = 0
 ·subst h0
  have : gu 2 ⟨U, 0, 0, T⟩ e ((0 : Nat) : Int) = (none, ⟨U, 0, 0, T⟩) := by
   unfold gu
   rw [hc]
   simp
  rw [this]
  exact ⟨rfl, rfl, rfl, fun a _ => by rw [<- hq]⟩
 have hok : okR (.trim own 0) := ⟨by omega, by omega⟩
 have htP : gu 2 ⟨U, 0, 0, T⟩ e own = match appU 2 U (.trim own 0) with | none => (some 12, ⟨U, 0, 0, T⟩) | some (n, V) => (none, ⟨ee own V, own, 0, max T own⟩) := by
  unfold gu
  rw [hc]
  dsimp only
  rw [if_neg (by omega), Int.toNat_natCast]
  rfl
 cases hap : appU 2 U (.trim own 0) with
 | none => exact absurd hap (h.fit (.inr (AQ ⟨by omega, by omega⟩)))
 | some p =>
  obtain ⟨n, V⟩ := p
  rw [hap] at htP
  rw [htP]
  refine ⟨rfl, rfl, rfl, fun a ha => ?_⟩
  have hO : fe V own 0 (tailR T (cU (pgU U)) (.trim own 0)) := uS hp0 hok hap (fun a' t' he y hy => by cases he)
  obtain ⟨hqs, _, M, g, rfl, _⟩ := gk hap
  show pgM (ee own _) own a = _
  rw [kL _ hO ⟨M, g.place, g.num, g.rs, rfl⟩, xC (pG hqs) (fun _ _ hh => by cases hh), <- hq]
  unfold pgM
  rw [if_neg (by omega), if_neg (by omega)]
theorem TU.read (h : TU s q) {e : Int} (he : 0 <= e /\ e <= 1073741824) {a : Int} (ha : 0 <= a /\ a <= 4095) : rdE s e a = (if (q a).isSome then none else some 9) /\ pgD s a = (q a).getD [] := by
 obtain ⟨U, tr, ep, T⟩ := s
 obtain ⟨rfl, rfl⟩ : tr = 0 /\ ep = 0 := h.z
 have hc : cL ((0 : Nat) : Int) e a 4095 = none := by unfold cL; rw [if_neg (by omega), if_neg (by omega)]
 have hq : pgM U 0 = q := h.q
 unfold rdE pgD readE
 rw [hc]
 dsimp only
 rw [if_neg (by omega), hq]
 exact ⟨rfl, rfl⟩
theorem TT.read {own : Nat} (h : TT s q own) {e : Int} (he : 0 <= e /\ e <= 1073741824) {a : Int} (ha : 0 <= a /\ a <= 4095) :
  rdE s e a = (if a < own then some 10 else if (q a).isSome then none else some 9) /\ (own <= a -> pgD s a = (q a).getD []) := by
 obtain ⟨U, tr, ep, T⟩ := s
 obtain rfl : tr = own := h.tr
 obtain rfl : ep = 0 := h.ep
 have hc : cL ((0 : Nat) : Int) e a 4095 = none := by unfold cL; rw [if_neg (by omega), if_neg (by omega)]
 have hq := h.q a
 unfold rdE pgD readE
 rw [hc]
 dsimp only
 refine ⟨?_, fun g => by rw [hq g]⟩
 by_cases g : a < (tr : Int)
 ·rw [if_pos g, if_pos g]
 ·rw [if_neg g, if_neg g, hq (by omega)]
theorem TU.some (h : TU s q) {a : Int} {t : List UInt8} (ha : q a = some t) : t ≠ [] := by
 obtain ⟨m, hp⟩ := h.pl
 have hq := h.q
 rw [<- hq] at ha
 unfold pgM at ha
 split at ha
 ·cases ha
 unfold cK at ha
 obtain ⟨x, hx, rfl⟩ := Option.map_eq_some_iff.1 ha
 have h2 := hp.o.Db x (List.mem_of_find?_eq_some hx)
 intro e
 rw [e] at h2
 simp at h2
end
end Go.D
namespace Go.D
open Go
abbrev up6 : Nat -> Bool := fun _ => true
theorem tM {u : Int} (h : 0 <= u /\ u <= 5) : upB 6 up6 u = true := mK.2 ⟨by omega, rfl⟩
theorem AR {α : Type} (f : Nat -> α) (i : Nat) : aV f i (f i) = f := by
 funext j
 unfold aV
 split
 ·rename_i h; rw [h]
 ·rfl
theorem C6 {cs : List (List Int)} (h : cs.flatten.Nodup) : ∀ c ∈ cs, c.Nodup := by
 induction cs with
 | nil => simp
 | cons a cs ih =>
  rw [List.flatten_cons, List.nodup_append] at h
  intro c hc
  rcases List.mem_cons.1 hc with rfl | hc
  ·exact h.1
  ·exact ih h.2.1 c hc
theorem Cc {cs : List (List Int)} (h : cs.flatten.Nodup) : ∀ (i j : Nat) (hi : i < cs.length) (hj : j < cs.length), i ≠ j -> ∀ u ∈ cs[i], u ∉ cs[j] := by
 induction cs with
 | nil => intro i j hi; simp at hi
 | cons a cs ih =>
  rw [List.flatten_cons, List.nodup_append] at h
  intro i j hi hj hne u hu hv
  match i, j with
  | 0, 0 => exact hne rfl
  | 0, j + 1 => exact h.2.2 u hu u (List.mem_flatten.2 ⟨_, List.getElem_mem (by simpa using hj), hv⟩) rfl
  | i + 1, 0 => exact h.2.2 u hv u (List.mem_flatten.2 ⟨_, List.getElem_mem (by simpa using hi), hu⟩) rfl
  | i + 1, j + 1 => exact ih h.2.1 i j (by simpa using hi) (by simpa using hj) (by omega) u hu hv
def xQ (l : List Int) : Prop := ∀ u ∈ l, 0 <= u /\ u <= 5
section
variable {S : Nat -> UnS} {q : Int -> Option (List UInt8)} {e : Int} {a own : Nat} {t : List UInt8}
theorem Cd {first : Bool} {u : Int} (hu : 0 <= u /\ u <= 5) (h : TU (S u.toNat) q) (he : 0 <= e /\ e <= 1073741824) (ha : a < 20) (ht : t.length <= 300) (h0 : t ≠ []) (hq : q a = none) :
  (putP 6 up6 first e a t u S).1 = none /\ ∃ s', (putP 6 up6 first e a t u S).2 = aV S u.toNat s' /\ TU s' (fi q a (some t)) := by
 obtain ⟨h1, h2⟩ := (h.write he ha ht).2.2 h0 hq
 unfold putP
 rw [if_pos (tM hu), if_pos (.inr (by rw [h1]; simp))]
 exact ⟨h1, _, rfl, h2⟩
theorem Ce (he : 0 <= e /\ e <= 1073741824) (ha : a < 20) (ht : t.length <= 300) (h0 : t ≠ []) (hq : q a = none) : ∀ (l : List Int) (S : Nat -> UnS), xQ l -> l.Nodup -> (∀ u ∈ l, TU (S u.toNat) q) ->
  (othP 6 up6 e a t l S).1 = none /\ (∀ u ∈ l, TU ((othP 6 up6 e a t l S).2 u.toNat) (fi q a (some t))) /\ ∀ j, (∀ u ∈ l, u.toNat ≠ j) -> (othP 6 up6 e a t l S).2 j = S j
 | [], S, _, _, _ => ⟨rfl, by simp, fun j _ => rfl⟩
 | u :: l, S, h5, hn, hT => by
  rw [List.nodup_cons] at hn
  have hu := h5 u (by simp)
  obtain ⟨h1, s', h2, h3⟩ := Cd (first := false) hu (hT u (by simp)) he ha ht h0 hq
  have hne : ∀ v ∈ l, v.toNat ≠ u.toNat := fun v hv e => hn.1 (by
   have := h5 v (by simp [hv])
   rw [show u = v by omega]; exact hv)
  obtain ⟨g1, g2, g3⟩ := Ce he ha ht h0 hq l (aV S u.toNat s') (fun v hv => h5 v (by simp [hv])) hn.2 (fun v hv => by rw [aI (hne v hv)]; exact hT v (by simp [hv]))
  rw [qh, h1, if_pos rfl, h2]
  refine ⟨g1, fun v hv => ?_, fun j hj => ?_⟩
  ·rcases List.mem_cons.1 hv with rfl | hv
   ·rw [g3 v.toNat hne, aA]; exact h3
   ·exact g2 v hv
  ·rw [g3 j (fun v hv => hj v (by simp [hv])), aI (fun e => hj u (by simp) e.symm)]
theorem xR (he : 0 <= e /\ e <= 1073741824) (ho : own <= 22) : ∀ (l : List Int) (S : Nat -> UnS), xQ l -> l.Nodup -> (∀ u ∈ l, TU (S u.toNat) q) ->
  (ot 6 up6 e own l S).1 = none /\ (∀ u ∈ l, TT ((ot 6 up6 e own l S).2 u.toNat) q own) /\ ∀ j, (∀ u ∈ l, u.toNat ≠ j) -> (ot 6 up6 e own l S).2 j = S j
 | [], S, _, _, _ => ⟨rfl, by simp, fun j _ => rfl⟩
 | u :: l, S, h5, hn, hT => by
  rw [List.nodup_cons] at hn
  have hu := h5 u (by simp)
  obtain ⟨h1, h3⟩ := (hT u (by simp)).trim he ho
  have hne : ∀ v ∈ l, v.toNat ≠ u.toNat := fun v hv e => hn.1 (by
   have := h5 v (by simp [hv])
   rw [show u = v by omega]; exact hv)
  obtain ⟨g1, g2, g3⟩ := xR he ho l (aV S u.toNat (gu 2 (S u.toNat) e own).2) (fun v hv => h5 v (by simp [hv])) hn.2 (fun v hv => by rw [aI (hne v hv)]; exact hT v (by simp [hv]))
  rw [uX, if_pos (tM hu), h1, if_pos rfl]
  refine ⟨g1, fun v hv => ?_, fun j hj => ?_⟩
  ·rcases List.mem_cons.1 hv with rfl | hv
   ·rw [g3 v.toNat hne, aA]; exact h3
   ·exact g2 v hv
  ·rw [g3 j (fun v hv => hj v (by simp [hv])), aI (fun e => hj u (by simp) e.symm)]
end
theorem zP {n c : Nat} {to : Int} (hn : 1 <= n /\ n <= 3) (hc : c < n) (ht : 0 <= to /\ to <= 21) : ∃ o : Nat, mr n c to = o /\ o <= 22 := by
 unfold mr
 rcases (by omega : n = 1 \/ n = 2 \/ n = 3) with rfl | rfl | rfl
 ·exact ⟨(max 0 ((to - c + 1 - 1) / 1)).toNat, by omega, by omega⟩
 ·exact ⟨(max 0 ((to - c + 2 - 1) / 2)).toNat, by omega, by omega⟩
 ·exact ⟨(max 0 ((to - c + 3 - 1) / 3)).toNat, by omega, by omega⟩
theorem C7 {n : Nat} {to a : Int} (hn : 1 <= n /\ n <= 3) (ha : 0 <= a) (ht : 0 <= to /\ to <= 21) : a < to ↔ a / (n : Int) < mr n (a % (n : Int)).toNat to := by
 unfold mr
 rcases (by omega : n = 1 \/ n = 2 \/ n = 3) with rfl | rfl | rfl <;> omega
structure CI (cs : List (List Int)) (S : Nat -> UnS) (q : Nat -> Int -> Option (List UInt8)) : Prop where
 t : ∀ c (h : c < cs.length), ∀ u ∈ cs[c], TU (S u.toNat) (q c)
structure CR (ep : Int) (cs : List (List Int)) : Prop where
 r : ct ep cs
 u : ∀ c ∈ cs, xQ c
section
variable {S : Nat -> UnS} {q : Nat -> Int -> Option (List UInt8)} {ep : Int} {cs : List (List Int)} {t : List UInt8}
theorem qm {c : List Int} (h : 0 < c.length) : c.getD 0 0 ∈ c /\ c.getD (c.length - 1) 0 ∈ c := by
 rw [List.getD_eq_getElem?_getD, List.getElem?_eq_getElem h, List.getD_eq_getElem?_getD, List.getElem?_eq_getElem (show c.length - 1 < c.length by omega)]
 exact ⟨List.getElem_mem _, List.getElem_mem _⟩
theorem CI.write (h : CI cs S q) (hr : CR ep cs) {a : Int} (ha : 0 <= a /\ a < 20) (ht : t.length <= 300) : ∃ q', CI cs (wrA 6 up6 ep cs a t S).2 q' := by
 have hp : plE ep cs a = none := by
  unfold plE
  rw [if_neg (by simpa using hr.r), if_neg (by omega)]
 obtain ⟨c, hc, e1, e2, hok, e3⟩ := kO hr.r (a := a)
 have hn := hr.r.2.1
 have he : 0 <= ep /\ ep <= 1073741824 := hr.r.1
 have h5 := hr.u _ (List.getElem_mem hc)
 have hnd := C6 hr.r.2.2.2 _ (List.getElem_mem hc)
 have hsep := Cc hr.r.2.2.2
 obtain ⟨at_, hat⟩ : ∃ x : Nat, a / (cs.length : Int) = x := ⟨(a / (cs.length : Int)).toNat, by have := Int.ediv_nonneg ha.1 (show (0 : Int) <= cs.length by omega); omega⟩
 have hat20 : at_ < 20 := by have := Int.ediv_le_self (cs.length : Int) ha.1; omega
 unfold wrA
 rw [if_pos hp, e2, hat]
 have hm := (qm hok.1).1
 have hu := h5 _ hm
 have hT := h.t c hc _ hm
 unfold CY
 have hput : ∀ {x : Nat}, writeP 2 (S (cs[c].getD 0 0).toNat) ep at_ t = (some x, S (cs[c].getD 0 0).toNat) -> putP 6 up6 true ep at_ t (cs[c].getD 0 0) S = (some x, S) := by
  intro x hx
  unfold putP
  rw [if_pos (tM hu), if_pos (.inl rfl), hx]
  show (some x, aV S _ (S _)) = _
  rw [AR]
 obtain ⟨w1, w2, w3⟩ := hT.write he hat20 ht
 by_cases h0 : t = []
 ·rw [hput (w1 h0), if_neg (by simp)]
  exact ⟨q, h⟩
 cases hq : q c at_ with
 | some y =>
  rw [hput (w2 h0 (by rw [hq]; rfl)), if_neg (by simp)]
  exact ⟨q, h⟩
 | none =>
  obtain ⟨p1, s', p2, p3⟩ := Cd (first := true) hu hT he hat20 ht h0 hq
  rw [p1, if_pos rfl, p2]
  obtain ⟨u0, l, hcl⟩ : ∃ u0 l, cs[c] = u0 :: l := by
   cases hh : cs[c] with
   | nil => rw [hh] at hok; simp [iu] at hok
   | cons u0 l => exact ⟨u0, l, rfl⟩
  have hg : cs[c].getD 0 0 = u0 := by rw [hcl]; rfl
  have htl : cs[c].tail = l := by rw [hcl]; rfl
  rw [hg] at hu ⊢
  rw [htl]
  have hnd2 : u0 ∉ l /\ l.Nodup := by rw [hcl, List.nodup_cons] at hnd; exact hnd
  have h5l : xQ l := fun v hv => h5 v (by rw [hcl]; simp [hv])
  have hne : ∀ v ∈ l, v.toNat ≠ u0.toNat := fun v hv e => hnd2.1 (by
   have := h5l v hv
   rw [show u0 = v by omega]; exact hv)
  obtain ⟨g1, g2, g3⟩ := Ce (e := ep) he hat20 ht h0 hq l (aV S u0.toNat s') h5l hnd2.2 (fun v hv => by rw [aI (hne v hv)]; exact h.t c hc v (by rw [hcl]; simp [hv]))
  refine ⟨aV q c (fi (q c) at_ (some t)), ⟨fun c' hc' v hv => ?_⟩⟩
  by_cases hcc : c' = c
  ·subst hcc
   rw [aA]
   rw [hcl] at hv
   rcases List.mem_cons.1 hv with rfl | hv
   ·rw [g3 v.toNat hne, aA]; exact p3
   ·exact g2 v hv
  ·rw [aI hcc]
   have hv5 := hr.u _ (List.getElem_mem hc') v hv
   have hnot : v ∉ cs[c] := hsep c' c hc' hc hcc v hv
   rw [hcl] at hnot
   have hvu : ∀ x ∈ u0 :: l, x.toNat ≠ v.toNat := fun x hx e => hnot (by
    have : 0 <= x := (h5 x (by rw [hcl]; exact hx)).1
    rw [show v = x by omega]; exact hx)
   rw [g3 v.toNat (fun x hx => hvu x (by simp [hx])), aI (fun e => hvu u0 (by simp) e.symm)]
   exact h.t c' hc' v hv
theorem uZ (hr : CR ep cs) {a : Int} (ha : 0 <= a /\ a < 4096) {x : Option Nat} {b : List UInt8} (hx : x = none \/ x = some 9 /\ b = [] \/ x = some 10 /\ b = [])
  (hc : ∀ u ∈ iT cs a, rdE (S u.toNat) ep (a / (cs.length : Int)) = x /\ (x = none -> pgD (S u.toNat) (a / (cs.length : Int)) = b)) : rdA 6 up6 ep cs a S = (x, b, S) := by
 have hp : plE ep cs a = none := by
  unfold plE
  rw [if_neg (by simpa using hr.r), if_neg (by omega)]
 obtain ⟨c, hcl, e1, e2, hok, e3⟩ := kO hr.r (a := a)
 unfold rdA
 rw [if_pos hp]
 rw [e2] at hc ⊢
 have h5 := hr.u _ (List.getElem_mem hcl)
 obtain ⟨m1, m2⟩ := qm hok.1
 obtain ⟨f1, f2⟩ := hc _ m1
 obtain ⟨l1, l2⟩ := hc _ m2
 unfold B3
 rw [if_pos (tM (h5 _ m2)), l1]
 rcases hx with rfl | ⟨rfl, rfl⟩ | ⟨rfl, rfl⟩
 ·rw [if_pos rfl, l2 rfl]
 ·rw [if_neg (by simp)]
  by_cases h1 : cs[c].length = 1
  ·rw [if_pos (.inr h1)]
  ·rw [if_neg (fun hh => hh.elim (fun g => g rfl) h1), if_pos (tM (h5 _ m1)), f1, if_neg (by simp)]
 ·rw [if_neg (by simp), if_pos (.inl (by simp))]
def lB (q : Nat -> Int -> Option (List UInt8)) (n : Nat) (a : Int) : Option (List UInt8) := q (a % (n : Int)).toNat (a / (n : Int))
theorem CI.read (h : CI cs S q) (hr : CR ep cs) {a : Int} (ha : 0 <= a /\ a < 4096) : rdA 6 up6 ep cs a S = (if (lB q cs.length a).isSome then none else some 9, (lB q cs.length a).getD [], S) := by
 obtain ⟨c, hcl, e1, e2, hok, e3⟩ := kO hr.r (a := a)
 have h0 := Int.ediv_nonneg ha.1 (show (0 : Int) <= cs.length by omega)
 have h1 := Int.ediv_le_self (cs.length : Int) ha.1
 unfold lB
 rw [e1]
 refine uZ hr ha ?_ (fun u hu => ?_)
 ·cases q c (a / (cs.length : Int)) with
  | none => exact .inr (.inl ⟨rfl, rfl⟩)
  | some y => exact .inl rfl
 ·rw [e2] at hu
  obtain ⟨g1, g2⟩ := (h.t c hcl u hu).read (e := ep) hr.r.1 (a := a / (cs.length : Int)) (by omega)
  exact ⟨g1, fun _ => g2⟩
theorem xS (hep : 0 <= ep /\ ep <= 1073741824) {n : Nat} {to : Int} (hn : 1 <= n /\ n <= 3) (ht : 0 <= to /\ to <= 21) : ∀ (rest : List (List Int)) (k : Nat) (S : Nat -> UnS), k + rest.length <= n -> (∀ c ∈ rest, xQ c) -> rest.flatten.Nodup ->
  (∀ i (h : i < rest.length), ∀ u ∈ rest[i], TU (S u.toNat) (q (k + i))) ->
  (vL 6 up6 ep to n k rest S).1 = none /\ (∀ i (h : i < rest.length), ∀ u ∈ rest[i], TT ((vL 6 up6 ep to n k rest S).2 u.toNat) (q (k + i)) (mr n (k + i) to).toNat) /\ ∀ j, (∀ u ∈ rest.flatten, u.toNat ≠ j) -> (vL 6 up6 ep to n k rest S).2 j = S j
 | [], k, S, _, _, _, _ => ⟨rfl, fun i h => by simp at h, fun j _ => rfl⟩
 | l :: rest, k, S, hk, h5, hnd, hT => by
  rw [List.length_cons] at hk
  have hnd' := hnd
  rw [List.flatten_cons, List.nodup_append] at hnd
  have h5l := h5 l (by simp)
  obtain ⟨o, ho, ho2⟩ := zP (c := k) hn (by omega) ht
  obtain ⟨c1, c2, c3⟩ := xR (q := q k) (e := ep) (own := o) hep ho2 l S h5l hnd.1 (fun u hu => hT 0 (by simp) u hu)
  have hne : ∀ v ∈ rest.flatten, ∀ u ∈ l, u.toNat ≠ v.toNat := fun v hv u hu e => by
   have h1 := h5l u hu
   obtain ⟨c, hc, hv2⟩ := List.mem_flatten.1 hv
   have h2 := h5 c (by simp [hc]) v hv2
   exact hnd.2.2 u hu v hv (by omega)
  obtain ⟨g1, g2, g3⟩ := xS hep hn ht rest (k + 1) (ot 6 up6 ep o l S).2 (by omega) (fun c hc => h5 c (by simp [hc])) hnd.2.1 (fun i hi u hu => by
   rw [c3 u.toNat (fun v hv => hne u (List.mem_flatten.2 ⟨_, List.getElem_mem hi, hu⟩) v hv)]
   have := hT (i + 1) (by simpa using hi) u (by simpa using hu)
   rw [show k + 1 + i = k + (i + 1) by omega]; exact this)
  rw [uY, ho, c1, if_pos rfl]
  refine ⟨g1, fun i hi u hu => ?_, fun j hj => ?_⟩
  ·match i with
   | 0 =>
    have hu' : u ∈ l := hu
    rw [g3 u.toNat (fun v hv e => hne v hv u hu' e.symm), Nat.add_zero, ho, Int.toNat_natCast]
    exact c2 u hu'
   | i + 1 =>
    have := g2 i (by simpa using hi) u (by simpa using hu)
    rw [show k + 1 + i = k + (i + 1) by omega] at this; exact this
  ·rw [g3 j (fun v hv => hj v (by rw [List.flatten_cons]; simp [hv])), c3 j (fun v hv => hj v (by rw [List.flatten_cons]; simp [hv]))]
theorem CI.trim (h : CI cs S q) (hr : CR ep cs) {to : Int} (ht : 0 <= to /\ to <= 21) : (trA 6 up6 ep cs to S).1 = none /\
  ∀ a : Int, 0 <= a -> a < 4096 -> rdA 6 up6 ep cs a (trA 6 up6 ep cs to S).2 = (if a < to then some 10 else if (lB q cs.length a).isSome then none else some 9, if a < to then [] else (lB q cs.length a).getD [], (trA 6 up6 ep cs to S).2) := by
 have hn := hr.r.2.1
 obtain ⟨g1, g2, _⟩ := xS (q := q) hr.r.1 hn ht cs 0 S (by omega) hr.u hr.r.2.2.2 (fun i hi u hu => by rw [Nat.zero_add]; exact h.t i hi u hu)
 unfold trA
 rw [if_neg (by simpa using hr.r), if_neg (by omega)]
 refine ⟨g1, fun a h0 h1 => ?_⟩
 obtain ⟨c, hcl, e1, e2, hok, e3⟩ := kO hr.r (a := a)
 have h2 := Int.ediv_nonneg h0 (show (0 : Int) <= cs.length by omega)
 have h3 := Int.ediv_le_self (cs.length : Int) h0
 have hlaw := C7 hn h0 ht
 obtain ⟨o, ho, ho2⟩ := zP (c := c) hn hcl ht
 unfold lB
 rw [e1, ho] at hlaw
 rw [e1]
 refine uZ hr ⟨h0, h1⟩ ?_ (fun u hu => ?_)
 ·by_cases g : a < to
  ·rw [if_pos g, if_pos g]; exact .inr (.inr ⟨rfl, rfl⟩)
  ·rw [if_neg g, if_neg g]
   cases q c (a / (cs.length : Int)) with
   | none => exact .inr (.inl ⟨rfl, rfl⟩)
   | some y => exact .inl rfl
 ·rw [e2] at hu
  have hTT := g2 c hcl u hu
  rw [Nat.zero_add, ho, Int.toNat_natCast] at hTT
  obtain ⟨p1, p2⟩ := hTT.read (e := ep) hr.r.1 (a := a / (cs.length : Int)) (by omega)
  by_cases g : a < to
  ·rw [if_pos g, if_pos g, p1, if_pos (hlaw.1 g)]
   exact ⟨rfl, fun hh => by cases hh⟩
  ·have g' : ¬ a / (cs.length : Int) < (o : Int) := fun hh => g (hlaw.2 hh)
   rw [if_neg g, if_neg g, p1, if_neg g']
   exact ⟨rfl, fun _ => p2 (by omega)⟩
theorem CI.some (h : CI cs S q) (hr : CR ep cs) {a : Int} {t : List UInt8} (ha : lB q cs.length a = some t) : t ≠ [] := by
 obtain ⟨c, hcl, e1, e2, hok, e3⟩ := kO hr.r (a := a)
 unfold lB at ha
 rw [e1] at ha
 exact (h.t c hcl _ (qm hok.1).1).some ha
theorem CI.new (hS : ∀ i, i < 6 -> S i = ⟨[], 0, 0, 0⟩) (hr : CR ep cs) : CI cs S (fun _ _ => none) := ⟨fun c hc u hu => by
 have h5 := hr.u _ (List.getElem_mem hc) u hu
 rw [hS u.toNat (by omega)]
 refine ⟨⟨0, UPl.nil 2 (by omega)⟩, ⟨rfl, rfl⟩, by simp, by simp, ?_⟩
 funext a
 unfold pgM
 split
 ·rfl
 ·rfl⟩
end
end Go.D
namespace Go.D
open Go Go.Proofs
theorem De (n : Int) (k : Nat) (hk : 0 < k /\ k <= 1000) : 0 <= IntKind.wrap .u64 n /\ ∃ a : Nat, IntKind.wrap .i64 ((IntKind.wrap .u64 n) % (k : Int)) = a /\ a < k := by
 have h0 : 0 <= IntKind.wrap .u64 n := by
  simp [IntKind.wrap, IntKind.signed, IntKind.bits]; omega
 have h1 := Int.emod_nonneg (IntKind.wrap .u64 n) (show (k : Int) ≠ 0 by omega)
 have h2 := Int.emod_lt_of_pos (IntKind.wrap .u64 n) (show (0 : Int) < k by omega)
 refine ⟨h0, (IntKind.wrap .u64 n % (k : Int)).toNat, ?_, by omega⟩
 rw [dX (ar (by omega))]
 omega
abbrev xU : Rd (Int × (Slc × List (Slc × List Int))) := Rd.pair (Rd.int .i64) (Rd.slice Rd.ints)
theorem xV {w : World} {x : Array Value} {b : Int × (Slc × List (Slc × List Int))} (h : xU.R w b x.toList) : x = ⟨[.int .i64 b.1, b.2.1.v]⟩ /\ Chs w b.2.1 (b.2.2.map (·.2)) /\ b.2.1.l <= b.2.1.c := by
 obtain ⟨c1, c2, hx, ⟨rfl, hr⟩, ⟨rfl, h2⟩⟩ := h
 obtain ⟨l⟩ := x
 exact ⟨by rw [show l = _ from hx]; rfl, Chs.of h2, h2.2.1⟩
abbrev u4 := Int × Int × Int × List UInt8
abbrev zQ : Rd u4 := Rd.pair (Rd.int .i64) (Rd.pair (Rd.int .i64) (Rd.pair (Rd.int .i64) Rd.str))
def qn (a : u4) : List Value := [.int .i64 a.1, .int .i64 a.2.1, .int .i64 a.2.2.1, aT a.2.2.2]
def xW (w : World) (s : Slc) (xs : List u4) : Prop := s.l = xs.length /\ s.l <= s.c /\ ∀ i (h : i < xs.length), ∃ a, s.p = some a /\ rowAt w (a.add (i * 4)) 0 (qn xs[i])
theorem AS {w : World} {s : Slc} {xs : List u4} (h : uz zQ w s xs) : xW w s xs := by
 obtain ⟨h1, h2, _, h3⟩ := h
 refine ⟨h1, h2, fun i hi => ?_⟩
 obtain ⟨a, cs, ha, ⟨_, _, hcs, ⟨rfl, _⟩, ⟨_, _, rfl, ⟨rfl, _⟩, ⟨_, _, rfl, ⟨rfl, _⟩, ⟨rfl, _⟩⟩⟩⟩, hrow⟩ := h3 i hi
 subst hcs
 exact ⟨a, ha, hrow⟩
theorem ze {P : Program} {e : TypeId} {b : List UInt8} {w : World} {F : Nat -> Prop} {K : Slc -> World -> Prop} (hl : b.length <= 2 ^ 20) (hF : ∀ k, F k -> k < w.heap.size)
  (h : ∀ (s : Slc) (w1 : World), Txt w1 F s b -> aj w w1 -> K s w1) : pO P e b w K := by
 intro cap w1 hc hw
 subst hw
 have hk : aj w (w.drew.alloc (.cells ⟨b.map aQ ++ List.replicate (cap - b.length) (.int .u8 0)⟩ e (cap, cap + 1))) := aj.trans (Ext.drew _ w) (Ext.alloc _ _ _)
 have hb : (w.drew.alloc (.cells ⟨b.map aQ ++ List.replicate (cap - b.length) (.int .u8 0)⟩ e (cap, cap + 1))).heap[w.heap.size]? = some (.cells ⟨b.map aQ ++ List.replicate (cap - b.length) (.int .u8 0)⟩ e (cap, cap + 1)) := iA w.drew _
 refine h _ _ ⟨⟨rfl, .inr ⟨_, rfl, fun i hi => ?_⟩⟩, fun k hk2 => ?_, hl⟩ hk
 ·rw [add_lit, cell_of hb, Nat.zero_add, List.getElem?_append_left hi, List.getElem?_eq_getElem hi]
 ·obtain ⟨a, ha, rfl⟩ := hk2
  cases ha
  exact ⟨bq hb, fun hh => by have := hF _ hh; simp only at this; omega⟩
structure TSt (A : Nat -> Addr) (wb w : World) (rx r5 m : Nat) (r rd : Nat -> Nat) (f : Nat -> UnF) (d : Nat -> aF) (S : Nat -> UnS) (p : xO) (ep : Int) (s : Slc) : Prop where
 U : ChU A w wb.heap.size 6 m r rd f d S p.us up6
 x : ObF w (FB 6 r rd f) rx (xP p ep)
 o : ObF w (FB 6 r rd f) r5 [.int .i64 ep, s.v]
 kb : aj wb w
section
variable {A : Nat -> Addr} {wb w w' : World} {rx r5 m m' : Nat} {r rd : Nat -> Nat} {f f' : Nat -> UnF} {d d' : Nat -> aF} {S S' : Nat -> UnS} {p : xO} {ep : Int} {s : Slc}
theorem TSt.ae (h : TSt A wb w rx r5 m r rd f d S p ep s) (hk : aj w w') : TSt A wb w' rx r5 m r rd f d S p ep s := ⟨h.U.ae hk, h.x.ae hk, h.o.ae hk, h.kb.trans hk⟩
theorem TSt.to (h : TSt A wb w rx r5 m r rd f d S p ep s) (hU : ChU A w' wb.heap.size 6 m' r rd f' d' S' p.us up6) (ht : FTo 6 r rd f f' w w') : TSt A wb w' rx r5 m' r rd f' d' S' p ep s :=
 ⟨hU, h.x.to ht, h.o.to ht, h.kb.ext ht.1 h.U.F.ge⟩
end
structure ObG (w : World) (N : Nat) (r rd : Nat -> Nat) (f : Nat -> UnF) (o : Nat) (cs : List Value) : Prop where
 ob : ao w o cs
 nf : ¬ FB N r rd f o
 ny : ¬ FY N f o
section
variable {A : Nat -> Addr} {wb w w' : World} {rx r5 m m' N o : Nat} {r rd : Nat -> Nat} {f f' : Nat -> UnF} {d d' : Nat -> aF} {S S' : Nat -> UnS} {p : xO} {ep : Int} {s : Slc} {vs : List Value}
theorem ObG.to (h : ObG w N r rd f o vs) (ht : FTo N r rd f f' w w') : ObG w' N r rd f' o vs :=
 ⟨h.ob.ext ht.1 h.nf, fun hh => (ht.2.1 _ hh).elim h.nf (fun g => by have := h.ob.lt; omega), fun hh => (ht.2.2 _ hh).elim h.ny (fun g => by have := h.ob.lt; omega)⟩
theorem ObG.ae (h : ObG w N r rd f o vs) (hk : aj w w') : ObG w' N r rd f o vs := ⟨h.ob.ae hk, h.nf, h.ny⟩
theorem TSt.apart (h : TSt A wb w rx r5 m r rd f d S p ep s) (hx : Ext (fun b => b = o) w w') (hf : ¬ FB 6 r rd f o) (hy : ¬ FY 6 f o) (h1 : o ≠ rx) (h2 : o ≠ r5) (h3 : ¬ ah p.us o) (h4 : wb.heap.size <= o) : TSt A wb w' rx r5 m r rd f d S p ep s :=
 ⟨⟨h.U.F.ext hx (fun b hb e => hf (by rw [<- show b = o from e]; exact hb)) (fun b hb e => hy (by rw [<- show b = o from e]; exact hb)) (fun b e => by have e' : b = o := e; omega), h.U.uo.ext hx (fun b hb e => h3 (by rw [<- show b = o from e]; exact hb)), h.U.ub⟩,
  ⟨h.x.ob.ext hx (fun e => h1 (show rx = o from e).symm), h.x.f⟩, ⟨h.o.ob.ext hx (fun e => h2 (show r5 = o from e).symm), h.o.f⟩, h.kb.ext hx (fun b e => by have e' : b = o := e; omega)⟩
end
def rf (g : Nat -> List UInt8) : List Value := (List.range 24).map fun i => aT (g i)
theorem xX (g : Nat -> List UInt8) : (rf g).length = 24 := by simp [rf]
theorem tN (g : Nat -> List UInt8) {j : Nat} (hj : j < (rf g).length) : (rf g)[j] = aT (g j) := by simp [rf]
theorem Cf (g : Nat -> List UInt8) (j : Nat) (t : List UInt8) : (rf g).set j (aT t) = rf (fun i => if i = j then t else g i) := by
 apply List.ext_getElem
 ·simp [rf]
 ·intro i h1 h2
  rw [tN, List.getElem_set]
  show _ = aT (if i = j then t else g i)
  by_cases e : j = i
  ·rw [if_pos e, if_pos e.symm]
  ·rw [if_neg e, tN, if_neg (fun h => e h.symm)]
theorem rh (A : Nat -> Addr) (ep : Int) (s : Slc) (cs : List (List Int)) (sl : Slc) (xs : List u4) (to : Int) (w : World) (hC : Chs w s cs) (hl : xW w sl xs) (hE : b7 A w) :
  Calls Tryz.prog cl ⟨[.agg ⟨[.int .i64 ep, s.v]⟩, sl.v, .int .i64 to]⟩ w fun e w' => e = .returned (.bool true) /\ aj w w' := by
 refine g9 _ _ _ _ ?_
 unfold fb
 have hll := hl.1
 have hlc := hl.2.1
 refine ak (fun r5 w6 hr5 hb5 k5 hs5 => ?_)
 have o5 := ao.eV hb5
 refine (vQ A w6 (hE.ae k5)).mono ?_
 rintro e w8 ⟨rfl, k8'⟩
 have k8 := k5.trans k8'
 have o8 := o5.ae k8'
 refine ⟨_, rfl, ai (fun g => by cases g) (fun _ => ⟨fun w2 => aj w6 w2 /\ ct ep cs /\ xs.length <= 30 /\ (cs.length <= 10 /\ ∀ c ∈ cs, c.length <= 10), ⟨ep, s, o8.row, (xN ep s cs w8 (hC.ae k8)).mono ?_⟩, ?_⟩)⟩
 ·rintro e w14 ⟨b, rfl, k14', hlong⟩
  have k14 := k8.trans k14'
  refine ⟨b, rfl, ai (fun _ => ⟨rfl, k14⟩) (fun g => af (fun h1 => ⟨rfl, k14⟩) (fun h1 => ?_))⟩
  have hlg := hlong g
  refine ⟨ep, s, (o8.ae k14').row, (kM ep s cs w14 (hC.ae k14) (by omega)).mono ?_⟩
  rintro e w19 ⟨b2, rfl, hb2, k19'⟩
  have k19 := k14.trans k19'
  refine ⟨b2, rfl, ai (fun _ => ⟨rfl, k19⟩) (fun g2 => ⟨ep, ((o8.ae k14').ae k19').cell 0 (by simp), af (fun _ => ⟨rfl, k19⟩) (fun h2 => ⟨(k8'.trans k14').trans k19', hb2.1 (by simpa using g2), by omega, hlg⟩)⟩)⟩
 rintro w22 ⟨k22', hr, hx30, hlg⟩
 intros
 have k22 := k5.trans k22'
 have o22 := o5.ae k22'
 refine ⟨ep, s, o22.row, (vS A w w22 hE k22 ep s cs (hC.ae k22) hlg).mono ?_⟩
 rintro e w44 ⟨wb, rx, r, rd, r2, f, d, fr, P, top, S, p, rfl, kwb, hPl, hS⟩
 have k44 : aj w22 w44 := kwb.trans hPl.kb
 have kw44 := k22.trans k44
 have o44 := o22.ae k44
 have l5 : r5 < wb.heap.size := by have := o22.lt; have := kwb.size; omega
 have hT0 : TSt A wb w44 rx r5 0 r rd f d S p ep s := ⟨hPl.U.U, ⟨hPl.o, fun hh => hPl.xn.1 (.inl hh)⟩, ⟨o44, fun hh => by have := hPl.U.U.F.ge _ hh; omega⟩, hPl.kb⟩
 have kwb0 : aj w wb := k22.trans kwb
 have husl := hPl.U.U.sl
 refine ⟨_, rfl, aa rfl ⟨_, hPl.o.cell 0 (by simp [xP]), dY (fun g => absurd (by omega) g) (fun _ => ⟨ep, s, o44.row, (y9 ep s cs w44 (hC.ae kw44) (by omega)).mono ?_⟩)⟩⟩
 rintro e w51 ⟨su, lu, rfl, hlu, k51, _, hlu2⟩
 have hmem := (hlu2 hr).2
 have hsul := hlu.1
 have hlul : lu.length <= 9 := by
  have h0 : lu.Nodup := (hlu2 hr).1.imp (fun h => Int.ne_of_lt h)
  have h1 := h0.length_le_of_subset (l₂ := cs.flatten) (fun x hx => (hmem x).1 hx)
  have h2 := rm 3 cs (fun c hc => (hr.2.2.1 c hc).2.1)
  have h3 := hr.2.1
  omega
 refine ⟨su, rfl, fun i w2 => ∃ j : Nat, i = j /\ j <= lu.length /\ aj w51 w2 /\ ∀ x ∈ lu.take j, x <= 5, fun i _ => ((lu.length : Int) - i).toNat, ⟨0, rfl, by omega, Ext.refl _ _, by simp⟩, ?_⟩
 rintro i w56 ⟨j, rfl, hj, k56, hle⟩
 intros
 refine af (fun h1 => ?_) (fun h1 => ?_)
 ·have hjl : j < lu.length := by omega
  obtain ⟨a, ha, hc⟩ := gN (dL hlu k56) hjl
  refine aa ha ⟨by omega, h1, _, by rw [Int.toNat_natCast, Nat.mul_one]; exact hc, af (fun _ => ⟨rfl, (kw44.trans k51).trans k56⟩) (fun h2 => ⟨ar (by omega), ⟨j + 1, rfl, hjl, k56, fun x hx => ?_⟩, by dsimp only; omega⟩)⟩
  rw [List.take_succ_eq_append_getElem hjl] at hx
  rcases List.mem_append.1 hx with hx | hx
  ·exact hle x hx
  ·rw [List.mem_singleton] at hx; subst hx; omega
 have hjl : j = lu.length := by omega
 subst hjl
 rw [List.take_length] at hle
 have hCR : CR ep cs := ⟨hr, fun c hc u hu => ⟨((hr.2.2.1 c hc).2.2 u hu).1, hle u ((hmem u).2 (List.mem_flatten.2 ⟨c, hc, hu⟩))⟩⟩
 have k56w := k51.trans k56
 have hT56 := hT0.ae k56w
 have hcl : cs.length <= 2 ^ 40 := by omega
 have pl : ∀ {w2 : World} {m : Nat} {f : Nat -> UnF} {d : Nat -> aF} {S : Nat -> UnS}, TSt A wb w2 rx r5 m r rd f d S p ep s -> PlF w2 (FB 6 r rd f) s cs := fun h => PlF.old (hC.ae kwb0) h.kb h.U.F.ge
 -- the pages are written
 refine ⟨fun i w2 => ∃ (j : Nat) (f : Nat -> UnF) (d : Nat -> aF) (S : Nat -> UnS) (q : Nat -> Int -> Option (List UInt8)), i = j /\ j <= xs.length /\ TSt A wb w2 rx r5 (4 * j) r rd f d S p ep s /\ CI cs S q, fun i _ => ((xs.length : Int) - i).toNat,
  ⟨0, f, d, S, _, rfl, by omega, hT56, CI.new hS hCR⟩, ?_⟩
 rintro i w70 ⟨j, f, d, S, q, rfl, hj, hT, hq⟩
 intros
 have kw70 := kwb0.trans hT.kb
 refine af (fun h1 => ?_) (fun h1 => ?_)
 ·have hjl : j < xs.length := by omega
  obtain ⟨a, ha, hrow⟩ := hl.2.2 j hjl
  generalize xs[j] = x at hrow
  obtain ⟨x1, x2, x3, x4⟩ := x
  refine aa ha ⟨by omega, h1, _, _, _, _, by rw [Int.toNat_natCast]; exact rT hrow kw70, ?_⟩
  refine nt (cs := qn (x1, x2, x3, x4)) rfl rfl (fun r100 w102 hr100 o100 k100 hs100 => ⟨_, o100.cell 3 (by simp [qn]), af (fun _ => ⟨rfl, kw70.trans k100⟩) (fun h2 => ?_)⟩)
  have kd := k100.drew
  have hTd := hT.ae kd
  have od := o100.ae (Ext.drew jW _)
  have o100' : ObF (World.drew w102) (FB 6 r rd f) r100 _ := ⟨od, fun hh => by have := hT.U.F.lt.1 _ hh; omega⟩
  obtain ⟨hw0, at_, hwa, hwl⟩ := De x2 20 (by omega)
  refine aa rfl ⟨_, hTd.x.ob.cell 0 (by simp [xP]), ep, s, hTd.o.ob.row, _, od.cell 1 (by simp [qn]), hw0, by omega, _, od.cell 3 (by simp [qn]), ?_⟩
  refine ze (F := FB 6 r rd f) (show x4.length <= 2 ^ 20 by have h3 : ¬ (300 : Int) < (x4.length : Int) := h2; omega) (fun k hk => by have := hTd.U.F.lt.1 k hk; exact this) (fun s110 w111 hb110 k111 => ?_)
  have hT111 := hTd.ae k111
  refine ⟨⟨_, (od.ae k111).cell 1 (by simp [qn]), rfl⟩, ⟨ep, s, hT111.o.ob.row, rfl⟩, ⟨_, hT111.x.ob.cell 0 (by simp [xP]), rfl⟩, ?_⟩
  have hwa' : IntKind.wrap .i64 (IntKind.wrap .u64 x2 % (20 : Int)) = (at_ : Int) := hwa
  show Calls _ _ ⟨[_, _, .int .i64 (IntKind.wrap .i64 (IntKind.wrap .u64 x2 % (20 : Int))), _]⟩ _ _
  rw [hwa']
  refine (tJ hT111.U (by omega) ep (at_ : Int) (pl hT111) hcl s110 x4 hb110).mono ?_
  rintro e w117 ⟨rfl, f2, d2, hU2, ft⟩
  obtain ⟨q', hq'⟩ := hq.write hCR (a := (at_ : Int)) (t := x4) (by omega) (by have h3 : ¬ (300 : Int) < (x4.length : Int) := h2; omega)
  exact ⟨_, rfl, ar (by omega), ⟨j + 1, f2, d2, _, q', rfl, hjl, hT111.to (by rw [show 4 * (j + 1) = 4 * j + 4 by omega]; exact hU2) ft, hq'⟩, by dsimp only; omega⟩
 have hjl : j = xs.length := by omega
 subst hjl
 obtain ⟨hw0, to', hwt, hwl⟩ := De to 22 (by omega)
 have hwt' : IntKind.wrap .i64 (IntKind.wrap .u64 to % (22 : Int)) = (to' : Int) := hwt
 rw [hwt']
 refine ⟨hw0, by omega, nt (cs := rf fun _ => []) rfl rfl (fun r119 w121 hr119 o121 k121 hs121 => ?_)⟩
 have hT121 := hT.ae k121
 have n119 : r119 ≠ rx /\ r119 ≠ r5 /\ ¬ ah p.us r119 /\ wb.heap.size <= r119 := by
  have h2 := hT.x.ob.lt
  have h3 := hT.o.ob.lt
  have h4 := hT.kb.size
  exact ⟨by omega, by omega, fun hh => by have := eF hT.U.uo _ hh; omega, by omega⟩
 have o121' : ObG w121 6 r rd f r119 (rf fun _ => []) := ⟨o121, fun hh => by have := hT.U.F.lt.1 _ hh; omega, fun hh => by have := hT.U.F.lt.2 _ hh; omega⟩
 -- what can be read
 let g : Nat -> Nat -> List UInt8 := fun j i => if i < j then (lB q cs.length (i : Int)).getD [] else []
 have add119 : ∀ {j : Nat}, (Addr.add (⟨r119, 0, none⟩ : Addr) (Int.toNat (j : Int) * 1)) = ⟨r119, j, none⟩ := by intro j; rw [add_lit, Int.toNat_natCast, Nat.mul_one, Nat.zero_add]
 have e0 : g 0 = fun _ => [] := by funext i; simp [g]
 refine ⟨fun i w2 => ∃ (j : Nat) (f : Nat -> UnF) (d : Nat -> aF), i = j /\ j <= 24 /\ TSt A wb w2 rx r5 (200 + 4 * j) r rd f d S p ep s /\ ObG w2 6 r rd f r119 (rf (g j)), fun i _ => ((24 : Int) - i).toNat,
  ⟨0, f, d, rfl, by omega, ⟨hT121.U.lift (by omega), hT121.x, hT121.o, hT121.kb⟩, by rw [e0]; exact o121'⟩, ?_⟩
 rintro i w125 ⟨j, f2, d2, rfl, hj, hT125, o125⟩
 intros
 have kd125 : aj w125 (World.drew w125) := Ext.drew _ _
 have hTd := hT125.ae kd125
 have od := o125.ae kd125
 refine af (fun h1 => ?_) (fun h1 => ?_)
 ·have hj24 : j < 24 := by omega
  refine aa rfl ⟨_, hTd.x.ob.cell 0 (by simp [xP]), ep, s, hTd.o.ob.row, (uW hTd.U (by omega) ep (j : Int) (pl hTd) hcl).mono ?_⟩
  rw [hq.read hCR (by omega)]
  rintro e w153 ⟨u, rfl, hb, hf, f3, d3, hU3, ft⟩
  have hT153 := hTd.to (m' := 200 + 4 * (j + 1)) (by rw [show 200 + 4 * (j + 1) = 200 + 4 * j + 4 by omega]; exact hU3) ft
  have o153 := od.to ft
  refine ⟨u, _, rfl, aB A _, ?_⟩
  cases hw : lB q cs.length (j : Int) with
  | some t =>
   rw [hw] at hb
   refine ai (fun _ => ⟨t, hb, by omega, by show (j : Int) < 24; omega, ?_⟩) (fun g => by cases g)
   rw [add119]
   obtain ⟨c1, c2⟩ := o153.ob.bf j (by rw [xX]; exact hj24) (aT t)
   refine ⟨c1, fun w157 hw157 => ?_⟩
   obtain ⟨o157, e157, z157⟩ := c2 w157 hw157
   rw [Cf] at o157
   have hg : (fun i => if i = j then t else g j i) = g (j + 1) := by
    funext i
    show (if i = j then t else if i < j then _ else _) = if i < j + 1 then _ else _
    by_cases e1 : i = j
    ·subst e1; rw [if_pos rfl, if_pos (by omega), hw]; rfl
    ·rw [if_neg e1]
     by_cases e2 : i < j
     ·rw [if_pos e2, if_pos (by omega)]
     ·rw [if_neg e2, if_neg (by omega)]
   rw [hg] at o157
   exact ⟨ar (by omega), ⟨j + 1, f3, d3, rfl, hj24, hT153.apart e157 o153.nf o153.ny n119.1 n119.2.1 n119.2.2.1 n119.2.2.2, ⟨o157, o153.nf, o153.ny⟩⟩, by dsimp only; omega⟩
  | none =>
   rw [hw] at hb
   refine ai (fun g => by cases g) (fun _ => ⟨ar (by omega), ⟨j + 1, f3, d3, rfl, hj24, hT153, ?_⟩, by dsimp only; omega⟩)
   have hg : g j = g (j + 1) := by
    funext i
    show (if i < j then _ else _) = if i < j + 1 then _ else _
    by_cases e1 : i = j
    ·subst e1; rw [if_neg (by omega), if_pos (by omega), hw]; rfl
    ·by_cases e2 : i < j
     ·rw [if_pos e2, if_pos (by omega)]
     ·rw [if_neg e2, if_neg (by omega)]
   rw [<- hg]; exact o153
 have hj24 : j = 24 := by omega
 subst hj24
 -- the trim
 refine aa rfl ⟨_, hTd.x.ob.cell 0 (by simp [xP]), ep, s, hTd.o.ob.row, ?_⟩
 refine (AO hTd.U (by omega) ep (to' : Int) (pl hTd) hcl).mono ?_
 obtain ⟨t1, t2⟩ := hq.trim hCR (to := (to' : Int)) (by omega)
 rintro e w163 ⟨rfl, f4, d4, hU4, ft4⟩
 rw [t1]
 have hT163 := hTd.to hU4 ft4
 have o163 := od.to ft4
 generalize (trA 6 up6 ep cs (to' : Int) S).2 = S4 at t2 hT163
 refine ⟨_, rfl, trivial, ai (fun g => by cases g) (fun _ => ?_)⟩
 refine ⟨fun i w2 => ∃ (j : Nat) (f : Nat -> UnF) (d : Nat -> aF), i = j /\ j <= 24 /\ TSt A wb w2 rx r5 (400 + 4 * j) r rd f d S4 p ep s /\ ObG w2 6 r rd f r119 (rf (g 24)), fun i _ => ((24 : Int) - i).toNat,
  ⟨0, f4, d4, rfl, by omega, ⟨hT163.U.lift (by omega), hT163.x, hT163.o, hT163.kb⟩, o163⟩, ?_⟩
 rintro i w171 ⟨j, f5, d5, rfl, hj5, hT171, o171⟩
 intros
 have hTe := hT171.ae (Ext.drew jW w171)
 have oe := o171.ae (Ext.drew jW w171)
 refine af (fun h2 => ?_) (fun h2 => ⟨rfl, kwb0.trans hT171.kb⟩)
 have hj24 : j < 24 := by omega
 refine aa rfl ⟨_, hTe.x.ob.cell 0 (by simp [xP]), ep, s, hTe.o.ob.row, (uW hTe.U (by omega) ep (j : Int) (pl hTe) hcl).mono ?_⟩
 rw [t2 (j : Int) (by omega) (by omega)]
 rintro e w224 ⟨u, rfl, hb, hf, f6, d6, hU6, ft6⟩
 have hT224 := hTe.to (m' := 400 + 4 * (j + 1)) (by rw [show 400 + 4 * (j + 1) = 400 + 4 * j + 4 by omega]; exact hU6) ft6
 have kd224 : aj w224 (World.drew w224) := Ext.drew _ _
 have hTf := hT224.ae kd224
 have of6 := (oe.to ft6).ae kd224
 have hbd := aH hb kd224
 refine ⟨u, _, rfl, af (fun h3 => ?_) (fun h3 => ?_)⟩
 ·rw [if_pos h3]
  refine (tm A (some 10) (fun k hk => by cases hk; omega) _ hTf.U.F.E.1).mono ?_
  rintro e w228 ⟨rfl, k228⟩
  refine ⟨_, rfl, dY (fun hh => absurd rfl hh) (fun _ => af (fun hh => by omega) (fun _ => ⟨ar (by omega), ⟨j + 1, f6, d6, rfl, hj24, hTf.ae k228, of6.ae k228⟩, by dsimp only; omega⟩))⟩
 ·have hbd' : aq (World.drew w224) u ((lB q cs.length (j : Int)).getD []) := by
   have h9 : aq (World.drew w224) u (if (j : Int) < (to' : Int) then [] else (lB q cs.length (j : Int)).getD []) := hbd
   rw [if_neg h3] at h9; exact h9
  rw [if_neg h3]
  have hcell : World.cell? (World.drew w224) (⟨r119, j, none⟩ : Addr) = some (aT ((lB q cs.length (j : Int)).getD [])) := by
   have h9 := of6.ob.cell j (by rw [xX]; exact hj24)
   rw [tN] at h9
   have e9 : g 24 j = (lB q cs.length (j : Int)).getD [] := if_pos hj24
   rw [e9] at h9
   exact h9
  refine af (fun _ => ⟨(lB q cs.length (j : Int)).getD [], hbd', by omega, by show (j : Int) < 24; omega, (lB q cs.length (j : Int)).getD [], by rw [add119]; exact hcell, dY (fun hh => absurd rfl hh) (fun _ => ⟨aB A _, by omega, by show (j : Int) < 24; omega, (lB q cs.length (j : Int)).getD [], by rw [add119]; exact hcell, ?_⟩)⟩) (fun hh => absurd (by omega) hh)
  refine ai (fun hh => ?_) (fun _ => ⟨ar (by omega), ⟨j + 1, f6, d6, rfl, hj24, hTf, of6⟩, by dsimp only; omega⟩)
  exfalso
  cases hw : lB q cs.length (j : Int) with
  | none => rw [hw] at hh; simp [errO, isNilI] at hh
  | some t =>
   rw [hw] at hh
   have ht := hq.some hCR hw
   simp [errO, isNilI, ht] at hh
theorem sG (x : Array Value) (b : Int × (Slc × List (Slc × List Int))) (sl : Slc) (xs : List u4) (to : Int) (w : World) (hx : xU.R w b x.toList) (hl : uz zQ w sl xs) (A : Nat -> Addr) (hE : b7 A w) :
  Calls Tryz.prog cl ⟨[.agg x, sl.v, .int .i64 to]⟩ w fun e w' => e = .returned (.bool true) /\ aj w w' := by
 obtain ⟨rfl, h, _⟩ := xV hx
 exact rh A b.1 b.2.1 _ sl xs to w h (AS hl) hE
end Go.D

