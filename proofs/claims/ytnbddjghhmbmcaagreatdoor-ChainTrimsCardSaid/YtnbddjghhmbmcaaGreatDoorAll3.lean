/-
  WHAT IS PROVED: contracts of functions, and the plain law, for this proof. No further conditions.
-/
import Derived.Test.YtnbddjghhmbmcaaGreatDoorAll2
import Derived.Test.YtnbddjghhmbmcaaGreatDoorVCref08
import Derived.Test.YtnbddjghhmbmcaaGreatDoorVCref04
import Derived.Test.YtnbddjghhmbmcaaGreatDoorAll1
import Derived.Test.YtnbddjghhmbmcaaGreatDoorArgs
import Derived.Test.YtnbddjghhmbmcaaGreatDoorRd
import Derived.Test.YtnbddjghhmbmcaaGreatDoorVCref09
set_option linter.unusedVariables false
set_option linter.unusedSimpArgs false
namespace Go.D
open Go Go.Proofs
def kindR : Rc -> Int
 | .cm _ _ => 1
 | .trim _ _ => 2
 | .shut _ => 3
def q7 : Rc -> Int
 | .cm a _ => a
 | .trim t _ => t
 | .shut e => e
def DT : Rc -> List UInt8
 | .cm _ t => t
 | _ => []
theorem pD {w : World} {n0 r st rd m : Nat} {u : StP} {q : bV} {d : aF} {L : List aE} {x : UnP} {tr ep top : Int} {pg : Int -> Option (List UInt8)} {ins : Int -> List Int} (A : Nat -> Addr) (hS : Sys w n0 st rd u q d L m) (h : UnM w r st x tr ep top pg ins) (hE : cE A n0 w) (hm : m <= 2 ^ 60)
  (c : Rc) (hc : okR c) (hep : ∀ t e, c = .trim t e -> ep = (e : Int)) (s : Slc) (hb : (∃ a t, c = .cm a t) -> aq w s (DT c)) :
  Calls Tryz.prog dq ⟨[aw r, .int .i64 (kindR c), .int .i64 (q7 c), s.v]⟩ w fun e w' => ∃ (n : Int) (e' : Option Nat) (w1 : World), e = .returned (.tuple ⟨[.int .i64 n, errO A e']⟩) /\ aj w w1 /\ mH A w1 n0 st rd u q d L m (encR c) n e' w' := by
 refine mQ _ _ _ _ ?_
 unfold j5
 have hel := pt hc
 refine ak (fun r5 w6 hr5 hb5 k6 hs5 => ?_)
 have hO : yP A w w6 r5 ⟨none, 0, 0⟩ [] := ⟨vD.new A hb5, fun k hk => by rw [BK hk]; omega, k6⟩
 have hk3 : 0 <= kindR c /\ kindR c <= 3 := by cases c <;> simp [kindR]
 have hn3 : 0 <= q7 c /\ q7 c <= 2 ^ 31 := by
  cases c with
  | cm a t => obtain ⟨v1, _⟩ := hc; simp only [q7]; omega
  | trim t e => obtain ⟨v1, _⟩ := hc; simp only [q7]; omega
  | shut e => have v1 : e <= 2 ^ 30 := hc; simp only [q7]; omega
 have hl1 := eQ (kindR c) (by omega)
 have hl2 := eQ (q7 c) (by omega)
 refine (yQ hO (by omega) (by simp) hE).mono ?_
 rintro e w8 ⟨rfl, s8, h8, _⟩
 refine ⟨rfl, (yQ h8 (by omega) (by simp; omega) hE).mono ?_⟩
 rintro e w10 ⟨rfl, s10, h10, _⟩
 refine ⟨rfl, fun w2 => ∃ s2, yP A w w2 r5 s2 (encR c), ?_, ?_⟩
 ·cases c with
  | cm a t =>
   obtain ⟨v1, v2, v3⟩ := hc
   refine af (fun _ => ⟨t, aH (hb ⟨a, t, rfl⟩) h10.k, (CS h10 (by omega) (by simp [kindR, q7] at hl1 hl2 ⊢; omega) hE).mono ?_⟩) (fun hh => absurd rfl hh)
   rintro e w14 ⟨rfl, s14, h14, _⟩
   exact ⟨rfl, s14, by simpa [encR, kindR, q7] using h14⟩
  | trim t e0 =>
   obtain ⟨v1, v2⟩ := hc
   have he := hep t e0 rfl
   subst he
   refine af (fun hh => absurd hh (by simp [kindR])) (fun _ => af (fun _ => aa rfl ⟨_, (h.ae h10.k).c.2.2.2.2.1, (yQ h10 (by omega) (by simp [kindR, q7] at hl1 hl2 ⊢; omega) hE).mono ?_⟩) (fun hh => absurd rfl hh))
   rintro e w18 ⟨rfl, s18, h18, _⟩
   exact ⟨rfl, s18, by simpa [encR, kindR, q7] using h18⟩
  | shut e0 =>
   refine af (fun hh => absurd hh (by simp [kindR])) (fun _ => af (fun hh => absurd hh (by simp [kindR])) (fun _ => ⟨s10, by simpa [encR, kindR, q7] using h10⟩))
 ·rintro w19 ⟨s19, h19⟩
  intros
  refine (BP h19 (by omega) hE).mono ?_
  rintro e w36 ⟨t, rfl, ht, htf, k36, _⟩
  have hS36 := hS.ae k36
  refine ⟨t, _, rfl, trivial, ai (fun hh => by cases hh) (fun _ => aa rfl ⟨_, (h.ae k36).c.1, ?_⟩)⟩
  refine Calls.mono (R := fun e w' => ∃ n e', e = .returned (.tuple ⟨[.int .i64 n, errO A e']⟩) /\ mH A w36 n0 st rd u q d L m (encR c) n e' w') (lT _ _ (xi hS36 ((hE.ae k36).g.sub pj) hm ht.bytes (ht.le (by omega)) (by omega) (fun _ k hk hh => ?_) (fun n e' w' hp => ⟨n, e', rfl, hp⟩))) ?_
  ·have := htf k hk
   have := hS.B.lt k hh
   omega
  ·rintro e w42 ⟨n, e', rfl, hp⟩
   exact ⟨n, _, rfl, n, e', w36, rfl, k36, hp⟩
end Go.D
namespace Go.D
open Go
structure UV where
 tr : Int
 ep : Int
 top : Int
 pg : Int -> Option (List UInt8)
 ins : Int -> List Int
def ig (v : UV) (x : Int × Rc) : UV := ⟨BN v.tr x.2, BO v.ep x.2, tellTop v.top x.2, qf v.pg x.2, iS v.ins x.1 x.2⟩
def ln : UV := ⟨0, 0, 0, fun _ => none, fun _ => []⟩
def bo (Q : List (Int × Rc)) : UV := Q.foldl ig ln
theorem fJ (Q : List (Int × Rc)) (x : Int × Rc) : bo (Q ++ [x]) = ig (bo Q) x := by simp [bo]
theorem xy {R : List Rc} {y : Nat × List UInt8} : y ∈ pagesOf R ↔ Rc.cm y.1 y.2 ∈ R := by
 induction R with
 | nil => simp [pagesOf]
 | cons c R ih => cases c <;> simp [pagesOf, ih, Prod.ext_iff]
theorem kj {P : List (Int × Rc) -> Prop} (h0 : P []) (hs : ∀ Q x, P Q -> P (Q ++ [x])) : ∀ Q, P Q := by
 intro Q
 have key : ∀ n, P (Q.take n) := by
  intro n
  induction n with
  | zero => simpa using h0
  | succ n ih =>
   by_cases hn : n < Q.length
   ·rw [List.take_succ_eq_append_getElem hn]; exact hs _ _ ih
   ·rw [List.take_of_length_le (by omega)]
    rwa [List.take_of_length_le (by omega)] at ih
 have := key Q.length
 rwa [List.take_length] at this
theorem BQ (Q : List (Int × Rc)) : ∀ a : Int, (∀ y ∈ pagesOf (Q.map (·.2)), (y.1 : Int) ≠ a) -> (bo Q).pg a = none := by
 refine kj (P := fun Q => ∀ a : Int, (∀ y ∈ pagesOf (Q.map (·.2)), (y.1 : Int) ≠ a) -> (bo Q).pg a = none) (fun a _ => rfl) (fun Q x ih a h => ?_) Q
 rw [fJ]
 rw [List.map_append, ba] at h
 have ih' := ih a (fun y hy => h y (by simp [hy]))
 obtain ⟨seg, c⟩ := x
 cases c with
 | cm b t =>
  have hb := h (b, t) (by simp [pagesOf])
  simp only [ig, qf, fi]
  rw [if_neg (fun e => hb e.symm)]
  exact ih'
 | trim t e => exact ih'
 | shut e => exact ih'
theorem uQ (Q : List (Int × Rc)) (hq : ∀ x ∈ Q, okR x.2) : 0 <= (bo Q).top /\ (bo Q).top <= 4096 := by
 refine kj (P := fun Q => (∀ x ∈ Q, okR x.2) -> 0 <= (bo Q).top /\ (bo Q).top <= 4096) (fun _ => by simp [bo, ln]) (fun Q x ih h => ?_) Q hq
 rw [fJ]
 have ih' := ih (fun y hy => h y (by simp [hy]))
 have hx := h x (by simp)
 obtain ⟨seg, c⟩ := x
 cases c with
 | cm b t =>
  obtain ⟨v1, _⟩ := hx
  simp only [ig, tellTop]
  omega
 | trim t e => exact ih'
 | shut e => exact ih'
end Go.D
namespace Go.D
open Go Go.Proofs
def qs1 (g : aL) : List (Int × Rc) := g.rs.map fun c => ((g.num : Int), c)
def qsU (U : List aL) : List (Int × Rc) := U.flatMap qs1
theorem kK (U : List aL) : (qsU U).map (·.2) = dJ U := by
 induction U with
 | nil => rfl
 | cons g U ih =>
  simp only [qsU, dJ, List.flatMap_cons, List.map_append] at ih ⊢
  rw [ih]
  congr 1
  unfold qs1
  rw [List.map_map]
  exact List.map_id _
theorem BR (U : List aL) (j : Nat) (hj : j < U.length) : qsU (U.take (j + 1)) = qsU (U.take j) ++ qs1 U[j] := by
 unfold qsU
 rw [List.take_succ_eq_append_getElem hj, List.flatMap_append, List.flatMap_cons, List.flatMap_nil, List.append_nil]
theorem AA (U : List aL) (j n : Nat) (hj : j < U.length) (hn : n < U[j].rs.length) : ∃ R, qsU U = (qsU (U.take j) ++ (qs1 U[j]).take n) ++ (((U[j].num : Int), U[j].rs[n]) :: R) := by
 have e : U = U.take j ++ (U[j] :: U.drop (j + 1)) := by
  rw [<- List.drop_eq_getElem_cons hj, List.take_append_drop]
 have hq : n < (qs1 U[j]).length := by simpa [qs1] using hn
 have e2 : qs1 U[j] = (qs1 U[j]).take n ++ ((qs1 U[j])[n] :: (qs1 U[j]).drop (n + 1)) := by
  rw [<- List.drop_eq_getElem_cons hq, List.take_append_drop]
 have e3 : (qs1 U[j])[n] = ((U[j].num : Int), U[j].rs[n]) := by simp [qs1]
 refine ⟨(qs1 U[j]).drop (n + 1) ++ qsU (U.drop (j + 1)), ?_⟩
 have h1 : qsU U = qsU (U.take j) ++ (qs1 U[j] ++ qsU (U.drop (j + 1))) := by
  conv => lhs; rw [e]
  unfold qsU
  rw [List.flatMap_append, List.flatMap_cons]
 rw [h1]
 conv => lhs; rw [e2]
 rw [e3]
 simp
theorem BS {Q R : List (Int × Rc)} {seg : Int} {a : Nat} {t : List UInt8} (hn : ((pagesOf ((Q ++ ((seg, Rc.cm a t) :: R)).map (·.2))).map (·.1)).Nodup) : (bo Q).pg (a : Int) = none := by
 refine BQ Q _ (fun y hy e => ?_)
 rw [List.map_append, ba, List.map_append] at hn
 have h1 := (List.nodup_append.1 hn).2.2 y.1 (List.mem_map.2 ⟨y, hy, rfl⟩) a (by simp [pagesOf])
 omega
end Go.D
namespace Go.D
open Go
def pgM (U : List aL) (tr : Nat) (a : Int) : Option (List UInt8) := if a < (tr : Int) then none else cK (pgU U) a.toNat
def gm (U : List aL) (n : Int) : List Int := (pagesOf (((qsU U).filter fun x => decide (x.1 = n)).map (·.2))).map fun y => (y.1 : Int)
theorem BT (Q : List (Int × Rc)) : (bo Q).tr = ((vC (Q.map (·.2))).1 : Int) /\ (bo Q).ep = ((vC (Q.map (·.2))).2 : Int) := by
 refine kj (P := fun Q => (bo Q).tr = ((vC (Q.map (·.2))).1 : Int) /\ (bo Q).ep = ((vC (Q.map (·.2))).2 : Int)) (by simp [bo, ln, vC]) (fun Q x ih => ?_) Q
 obtain ⟨seg, c⟩ := x
 rw [fJ, List.map_append, List.map_cons, List.map_nil, qe]
 cases c with
 | cm b t => exact ih
 | trim t e => exact ⟨rfl, rfl⟩
 | shut e => exact ⟨ih.1, rfl⟩
theorem xz (Q : List (Int × Rc)) : (bo Q).top = ((cU (pagesOf (Q.map (·.2)))) : Int) := by
 refine kj (P := fun Q => (bo Q).top = ((cU (pagesOf (Q.map (·.2)))) : Int)) (by simp [bo, ln, cU, pagesOf]) (fun Q x ih => ?_) Q
 obtain ⟨seg, c⟩ := x
 rw [fJ, List.map_append, List.map_cons, List.map_nil, ba]
 cases c with
 | cm b t =>
  simp only [ig, tellTop, pagesOf]
  rw [yL, ih]; omega
 | trim t e => simpa [ig, tellTop, pagesOf] using ih
 | shut e => simpa [ig, tellTop, pagesOf] using ih
theorem yR (Q : List (Int × Rc)) (hn : ((pagesOf (Q.map (·.2))).map (·.1)).Nodup) (a : Nat) : (bo Q).pg (a : Int) = cK (pagesOf (Q.map (·.2))) a := by
 revert hn
 refine kj (P := fun Q => ((pagesOf (Q.map (·.2))).map (·.1)).Nodup -> (bo Q).pg (a : Int) = cK (pagesOf (Q.map (·.2))) a) (fun _ => by simp [bo, ln, cK, pagesOf]) (fun Q x ih hn => ?_) Q
 obtain ⟨seg, c⟩ := x
 rw [List.map_append, List.map_cons, List.map_nil, ba] at hn ⊢
 rw [fJ]
 have hq : ((pagesOf (Q.map (·.2))).map (·.1)).Nodup := by rw [List.map_append] at hn; exact (List.nodup_append.1 hn).1
 have ih' := ih hq
 cases c with
 | cm b t =>
  simp only [ig, qf, pagesOf, fi]
  rw [mm]
  by_cases e : (a : Int) = (b : Int)
  ·have e2 : b = a := by omega
   subst e2
   rw [if_pos rfl]
   have : cK (pagesOf (Q.map (·.2))) b = none := qJ.2 (fun y hy e => by
    rw [List.map_append] at hn
    exact (List.nodup_append.1 hn).2.2 y.1 (List.mem_map.2 ⟨y, hy, rfl⟩) b (by simp [pagesOf]) e)
   rw [this]; simp
  ·rw [if_neg e, ih']
   cases cK (pagesOf (Q.map (·.2))) a with
   | some y => rfl
   | none => simp only; rw [if_neg (by omega)]
 | trim t e => simpa [ig, qf, pagesOf] using ih'
 | shut e => simpa [ig, qf, pagesOf] using ih'
theorem qM (Q : List (Int × Rc)) (n : Int) : (bo Q).ins n = (pagesOf ((Q.filter fun x => decide (x.1 = n)).map (·.2))).map fun y => (y.1 : Int) := by
 refine kj (P := fun Q => (bo Q).ins n = (pagesOf ((Q.filter fun x => decide (x.1 = n)).map (·.2))).map fun y => (y.1 : Int)) (by simp [bo, ln, pagesOf]) (fun Q x ih => ?_) Q
 obtain ⟨seg, c⟩ := x
 rw [fJ, List.filter_append, List.map_append, ba, List.map_append, <- ih]
 by_cases e : seg = n
 ·subst e
  cases c with
  | cm b t => simp [ig, iS, fi, pagesOf]
  | trim t e => simp [ig, iS, pagesOf]
  | shut e => simp [ig, iS, pagesOf]
 ·have e' : ¬ n = seg := fun h => e h.symm
  cases c with
  | cm b t => simp [ig, iS, fi, pagesOf, e, e']
  | trim t e1 => simp [ig, iS, pagesOf, e]
  | shut e1 => simp [ig, iS, pagesOf, e]
theorem yS {U : List aL} {tr ep T : Nat} (h : fe U tr ep T) : (bo (qsU U)).tr = (tr : Int) /\ (bo (qsU U)).ep = (ep : Int) /\ max (bo (qsU U)).top (tr : Int) = (T : Int) /\ tw (tr : Int) (bo (qsU U)).pg = pgM U tr /\ (bo (qsU U)).ins = gm U := by
 have h1 := BT (qsU U)
 have h2 := xz (qsU U)
 have hte := h.te
 have htl := h.tl
 rw [kK] at h1 h2
 rw [hte] at h1
 refine ⟨h1.1, h1.2, ?_, ?_, funext fun n => qM _ n⟩
 ·rw [h2]; show max ((cU (pgU U) : Nat) : Int) (tr : Int) = T
  omega
 ·funext a
  unfold tw pgM
  split
  ·rfl
  ·rename_i ha
   obtain ⟨b, rfl⟩ : ∃ b : Nat, a = b := ⟨a.toNat, by omega⟩
   rw [yR _ (by rw [kK]; exact h.nd), kK]; rfl
theorem gG (U V : List aL) : qsU (U ++ V) = qsU U ++ qsU V := by simp [qsU]
theorem mJ (g : aL) : qsU [g] = qs1 g := by simp [qsU]
theorem CU (M : List aL) (g : aL) (x : Rc) : qsU (M ++ [{ g with rs := g.rs ++ [x] }]) = qsU (M ++ [g]) ++ [((g.num : Int), x)] := by
 rw [gG, gG, mJ, mJ, List.append_assoc]
 simp [qs1]
theorem zK {U V : List aL} {n : Int} {x : Rc} (h : qsU V = qsU U ++ [(n, x)]) : gm V = iS (gm U) n x := by
 funext k
 have e0 : gm V k = gm U k ++ (pagesOf (([(n, x)].filter fun x => decide (x.1 = k)).map (·.2))).map fun y => (y.1 : Int) := by
  unfold gm
  rw [h, List.filter_append, List.map_append, ba, List.map_append]
 rw [e0]
 by_cases e : k = n
 ·subst e
  cases x <;> simp [iS, fi, pagesOf]
 ·have e' : ¬ n = k := fun h => e h.symm
  cases x <;> simp [iS, fi, pagesOf, e, e']
theorem filter_none {g : aL} {n : Int} (h : (g.num : Int) ≠ n) : (qs1 g).filter (fun x => decide (x.1 = n)) = [] := by
 rw [List.filter_eq_nil_iff]
 intro x hx
 obtain ⟨c, _, rfl⟩ := List.mem_map.1 hx
 simpa using h
theorem filter_all (g : aL) : (qs1 g).filter (fun x => decide (x.1 = (g.num : Int))) = qs1 g := by
 rw [List.filter_eq_self]
 intro x hx
 obtain ⟨c, _, rfl⟩ := List.mem_map.1 hx
 simp
theorem pE {U : List aL} {n : Int} (h : ∀ g ∈ U, (g.num : Int) ≠ n) : (qsU U).filter (fun x => decide (x.1 = n)) = [] := by
 induction U with
 | nil => rfl
 | cons g U ih =>
  rw [show g :: U = [g] ++ U from rfl, gG, mJ, List.filter_append, filter_none (h g (by simp)), ih (fun g' hg' => h g' (by simp [hg']))]; rfl
theorem AB {g : aL} {U : List aL} (h : ∀ g' ∈ U, g'.num ≠ g.num) : gm (g :: U) (g.num : Int) = (pagesOf g.rs).map fun y => (y.1 : Int) := by
 unfold gm
 rw [show g :: U = [g] ++ U from rfl, gG, mJ, List.filter_append, filter_all, pE (fun g' hg' e => h g' hg' (by omega)), List.append_nil]
 congr 2
 unfold qs1
 rw [List.map_map]
 exact List.map_id _
theorem AD {g : aL} {U : List aL} (h : ∀ g' ∈ U, g'.num ≠ g.num) : gm U = fi (gm (g :: U)) (g.num : Int) [] := by
 funext k
 unfold fi
 by_cases e : k = (g.num : Int)
 ·rw [if_pos e]
  unfold gm
  rw [e, pE (fun g' hg' e => h g' hg' (by omega))]; rfl
 ·rw [if_neg e]
  unfold gm
  rw [show g :: U = [g] ++ U from rfl, gG, mJ, List.filter_append, filter_none (fun h => e h.symm), List.nil_append]
theorem BV (U : List aL) (n : Int) : (gm U n).length <= (pgU U).length := by
 unfold gm pgU
 rw [<- kK, List.length_map]
 have key : ∀ Q : List (Int × Rc), (pagesOf ((Q.filter fun x => decide (x.1 = n)).map (·.2))).length <= (pagesOf (Q.map (·.2))).length := by
  intro Q
  induction Q with
  | nil => simp
  | cons x Q ih =>
   obtain ⟨s, c⟩ := x
   by_cases e : s = n
   ·rw [List.filter_cons_of_pos (by simpa using e)]
    cases c <;> simp only [List.map_cons, pagesOf, List.length_cons] <;> omega
   ·rw [List.filter_cons_of_neg (by simpa using e)]
    cases c <;> simp only [List.map_cons, pagesOf, List.length_cons] <;> omega
 exact key _
def appU (k : Nat) (U : List aL) (x : Rc) : Option (Nat × List aL) :=
 if gr (sU U) (encR x).length then (if h : U ≠ [] then some ((U.getLast h).num, U.dropLast ++ [{ U.getLast h with rs := (U.getLast h).rs ++ [x] }]) else none)
 else match eC k (sU U) with
  | none => none
  | some p => some (fQ (sU U), U ++ [⟨p, fQ (sU U), [x]⟩])
def nj (k : Nat) (U : List aL) (n : Nat) : List aL :=
 if gr (sU U) n then U else match eC k (sU U) with
  | none => U
  | some p => U ++ [⟨p, fQ (sU U), []⟩]
theorem pF {U : List aL} {n : Nat} (h : gr (sU U) n = true) : U ≠ [] := fun e => by subst e; simp [gr] at h
theorem CV {k : Nat} {U : List aL} {x : Rc} (h : okR x) : kJ k (sU U) (encR x) = match appU k U x with | none => (some 12, 0, sU U) | some (n, V) => (none, (n : Int), sU V) := by
 have hl := pt h
 have hap : kJ k (sU U) (encR x) = match ki k (sU U) (encR x).length with | none => (some 12, 0, sU U) | some L0 => (none, lastN L0, addRec L0 (encR x)) := by
  unfold kJ; rw [if_neg (by omega)]; try rfl
 rw [hap]
 unfold appU ki
 by_cases hf : gr (sU U) (encR x).length = true
 ·have hne := pF hf
  rw [if_pos hf, if_pos hf, dif_pos hne]
  have e : U.dropLast ++ [U.getLast hne] = U := List.dropLast_concat_getLast hne
  have e1 : sU U = sU U.dropLast ++ [(U.getLast hne).s] := by rw [show sU U = sU (U.dropLast ++ [U.getLast hne]) by rw [e]]; simp
  have e2 : sU (U.dropLast ++ [{ U.getLast hne with rs := (U.getLast hne).rs ++ [x] }]) = sU U.dropLast ++ [{ (U.getLast hne).s with cc := (U.getLast hne).s.cc ++ [encR x] }] := by simp [aL.s]
  simp only
  rw [e1, oq, jA, e2]; rfl
 ·rw [if_neg hf, if_neg hf]
  cases hp : eC k (sU U) with
  | none => rfl
  | some p =>
   simp only [Option.map_some]
   unfold mj
   rw [oq, jA]
   simp [aL.s]
theorem gk {k : Nat} {U V : List aL} {x : Rc} {n : Nat} (h : appU k U x = some (n, V)) : qsU V = qsU U ++ [((n : Int), x)] /\ (V.getLast?.map (·.num)) = some n /\ (∃ M g, V = M ++ [{ g with rs := g.rs ++ [x] }] /\ (M ++ [g] = U \/ ∃ p, eC k (sU U) = some p /\ M = U /\ g = ⟨p, fQ (sU U), []⟩)) := by
 unfold appU at h
 by_cases hf : gr (sU U) (encR x).length = true
 ·have hne := pF hf
  rw [if_pos hf, dif_pos hne] at h
  cases h
  have e : U.dropLast ++ [U.getLast hne] = U := List.dropLast_concat_getLast hne
  refine ⟨?_, by simp, U.dropLast, U.getLast hne, rfl, .inl e⟩
  rw [CU, e]
 ·rw [if_neg hf] at h
  cases hp : eC k (sU U) with
  | none => rw [hp] at h; cases h
  | some p =>
   rw [hp] at h
   cases h
   refine ⟨?_, by simp, U, ⟨p, fQ (sU U), []⟩, by simp, .inr ⟨p, hp.symm ▸ rfl, rfl, rfl⟩⟩
   rw [gG, mJ]; simp [qs1]
theorem pG {U V : List aL} {n : Int} {x : Rc} (h : qsU V = qsU U ++ [(n, x)]) : dJ V = dJ U ++ [x] := by
 rw [<- kK, h, List.map_append, kK]; rfl
theorem BW {k : Nat} {U V : List aL} {x : Rc} {n : Nat} (h : appU k U x = some (n, V)) (hU : okU U) (hx : okR x) : okU V := by
 obtain ⟨_, _, M, g, rfl, hM⟩ := gk h
 refine zI ?_ hx
 rcases hM with rfl | ⟨p, _, rfl, rfl⟩
 ·exact hU
 ·intro y hy z hz
  rcases List.mem_append.1 hy with hy | hy
  ·exact hU y hy z hz
  ·rw [List.mem_singleton] at hy; subst hy; simp at hz
end Go.D
namespace Go.D
open Go Go.Proofs
structure UnS where
 U : List aL
 tr : Nat
 ep : Nat
 T : Nat
structure UnF where
 st : Nat
 x : UnP
 u : StP
 q : bV
 top : Int
def UB (r rd : Nat) (f : UnF) (k : Nat) : Prop := UnW r f.x k \/ bT f.st f.u rd f.q k
structure UAt (w : World) (n0 r rd : Nat) (f : UnF) (d : aF) (s : UnS) (m : Nat) : Prop where
 S : Sys w n0 f.st rd f.u f.q d (sU s.U) m
 M : UnM w r f.st f.x s.tr s.ep f.top (pgM s.U s.tr) (gm s.U)
 O : fe s.U s.tr s.ep s.T
 t : 0 <= f.top /\ max f.top (s.tr : Int) = s.T
 T : s.T <= 4096 /\ s.ep <= 2 ^ 30
 sep : ∀ k, UnW r f.x k -> ¬ bT f.st f.u rd f.q k
 q8 : ∀ k, UnY f.x k -> ¬ UB r rd f k
 n : ∀ k, UnW r f.x k -> n0 <= k
section
variable {w w' : World} {n0 r rd m : Nat} {f : UnF} {d : aF} {s : UnS}
theorem UAt.ext {M : Nat -> Prop} (h : UAt w n0 r rd f d s m) (he : Ext M w w') (h1 : ∀ k, UB r rd f k -> ¬ M k) (h2 : ∀ k, UnY f.x k -> ¬ M k) : UAt w' n0 r rd f d s m :=
 ⟨h.S.ext he (fun k hk => h1 k (.inr hk)), h.M.ext he (fun k hk => h1 k (.inl hk)) h2, h.O, h.t, h.T, h.sep, h.q8, h.n⟩
theorem UAt.ae (h : UAt w n0 r rd f d s m) (he : aj w w') : UAt w' n0 r rd f d s m := h.ext he (fun _ _ h => h) (fun _ _ h => h)
theorem UAt.lt (h : UAt w n0 r rd f d s m) : (∀ k, UB r rd f k -> k < w.heap.size) /\ ∀ k, UnY f.x k -> k < w.heap.size :=
 ⟨fun k hk => hk.elim (h.M.lt.1 k) (h.S.B.lt k), h.M.lt.2⟩
theorem UAt.ge (h : UAt w n0 r rd f d s m) : ∀ k, UB r rd f k -> n0 <= k := fun k hk => hk.elim (h.n k) (CT h.S k)
theorem UAt.up (h : UAt w n0 r rd f d s m) {m' : Nat} (hm : m <= m') : UAt w n0 r rd f d s m' := ⟨h.S.up hm, h.M, h.O, h.t, h.T, h.sep, h.q8, h.n⟩
end
theorem jC {R : Nat -> Nat -> Prop} {U : List aL} (h : (sU U).Pairwise fun g h => R g.num h.num) : U.Pairwise fun g h => R g.num h.num := by
 rw [List.pairwise_map] at h
 exact h
theorem xA {U : List aL} (h : U.Pairwise fun g h => g.num < h.num) {g : aL} (hg : g ∈ U) : p7 (g.num : Int) (sU U) = g.rs.map encR := by
 unfold p7
 rcases kH (fun x => decide ((x.num : Int) = (g.num : Int))) (sU U) with ⟨_, h2, _⟩ | ⟨i, hi, _, h2, h3, _⟩
 ·have := h2 g.s (List.mem_map.2 ⟨g, hg, rfl⟩)
  simp [aL.s] at this
 ·rw [h3]
  obtain ⟨j, hj, rfl⟩ := List.getElem_of_mem hg
  have hi' : i < U.length := by simpa using hi
  have e1 : (sU U)[i] = U[i].s := List.getElem_map _
  rw [e1] at h2 ⊢
  have h4 : (U[i].num : Int) = (U[j].num : Int) := of_decide_eq_true h2
  have hp := List.pairwise_iff_getElem.1 h
  rcases Nat.lt_trichotomy i j with h5 | h5 | h5
  ·have := hp i j hi' hj h5; omega
  ·subst h5; rfl
  ·have := hp j i hj hi' h5; omega
theorem qN {S : Nat -> List UInt8} {k : Nat} {L : List aE} (h : bO S k L) : ∀ g ∈ L, g.cc.length <= 2 ^ 20 /\ ∀ b ∈ g.cc, b.length <= 2 ^ 20 := by
 intro g hg
 have hon := h.on g hg
 have hf := hon.fin
 have h1 := vA g.cc
 unfold aE.fin at hf
 exact ⟨by omega, fun b hb => by have := (pc hon.2 b hb).2; omega⟩
theorem yT {l : List Nat} (hn : l.Nodup) (hl : ∀ x ∈ l, x < 4096) : l.length <= 4096 := by
 have := tv hn (b := List.range 4096) (fun x hx => List.mem_range.2 (hl x hx))
 rwa [List.length_range] at this
theorem BX {R : List Rc} (h : ∀ x ∈ R, okR x) : ∀ y ∈ pagesOf R, y.1 < 4096 /\ 1 <= y.2.length /\ y.2.length <= 2048 := fun y hy => h _ (xy.1 hy)
theorem fe.Db {U : List aL} {tr ep T : Nat} (h : fe U tr ep T) : ∀ y ∈ pgU U, y.1 < 4096 /\ 1 <= y.2.length /\ y.2.length <= 2048 :=
 BX (fun x hx => by
  obtain ⟨g, hg, hx⟩ := List.mem_flatMap.1 hx
  exact h.ok g hg x hx)
theorem fe.few {U : List aL} {tr ep T : Nat} (h : fe U tr ep T) : (pgU U).length <= 4096 := by
 have := yT h.nd (fun x hx => by
  obtain ⟨y, hy, rfl⟩ := List.mem_map.1 hx
  exact (h.Db y hy).1)
 rwa [List.length_map] at this
theorem fe.vI {U : List aL} {tr ep T : Nat} (h : fe U tr ep T) (n : Int) : (gm U n).length <= 4096 := Nat.le_trans (BV U n) h.few
theorem yU {w1 : World} {n0 rd m : Nat} {q : bV} {d : aF} {U : List aL} {tr ep T : Nat} (A : Nat -> Addr) (hE : cE A n0 w1) (hD : aG w1 rd q d) (hp : d.aC = []) (hI : bO (aN d.img) (d.n / 64) (sU U)) (hO : fe U tr ep T) (hT : T <= 4096 /\ ep <= 2 ^ 30)
  (hk : 1 <= d.n / 64 /\ d.n / 64 < 20) (hN : ∀ g ∈ sU U, g.num < m) (hm : m <= 2 ^ 60) (hdn : ∀ k, aY rd q k -> n0 <= k) (hz : n0 <= w1.heap.size) :
  Calls Tryz.prog ij ⟨[aw rd]⟩ w1 fun e w2 => ∃ (r : Nat) (f : UnF), e = .returned (.tuple ⟨[aw r, .nilIface]⟩) /\ UAt w2 n0 r rd f d ⟨U, tr, ep, T⟩ m /\ f.q = q /\ (∀ k, UB r rd f k -> aY rd q k \/ w1.heap.size <= k) /\ (∀ k, UnY f.x k -> w1.heap.size <= k) /\ aj w1 w2 := by
 refine vp _ ?_
 unfold uF
 refine (Aw A (hE.g.sub pj) hD hp hI hk hN hm hdn hz).mono ?_
 rintro e w3 ⟨st, u, rfl, hS, hfr, k3⟩
 refine ⟨_, _, rfl, trivial, ai (fun h => by cases h) (fun _ => ak (fun r6 w7 hr6 hb6 k7 hs7 => ak (fun r8 w9 hr8 hb8 k9 hs9 => ak (fun r10 w11 hr10 hb10 k11 hs11 => ?_))))⟩
 have p6 : fF KS w11 r6 [] := ((fF.new hb6).ae k9).ae k11
 have p8 : fF KS w11 r8 [] := (fF.new hb8).ae k11
 have k311 : aj w3 w11 := (k7.trans k9).trans k11
 have hUL := hS.len
 have hULe : (sU U).length = U.length := by simp
 have z3 := k3.size
 have U0 : UnM w11 r10 st ⟨r6, r8, [], []⟩ ln.tr ln.ep ln.top ln.pg ln.ins := by
  refine ⟨ao.new hb10 (vj _), p6, p8, by show r6 ≠ r8; omega, fun a => ⟨fun s hs => by simp [lookL] at hs, fun _ => rfl⟩, fun n => by simpa [lookL, ln] using az.nil w11, fun n m s t hs => by simp [lookL] at hs, fun n s hs => by simp [lookL] at hs, fun a s hs => by simp [lookL] at hs⟩
 have hnd := hO.nd
 have hso := jC (R := fun a b => a < b) hI.so
 refine (mf (hS.ae k311).B.S (by omega)).mono ?_
 rintro e w13 ⟨s14, rfl, hI14, hf14, k13⟩
 have W0 : ∀ k, UnW r10 ⟨r6, r8, [], []⟩ k -> w3.heap.size <= k /\ k < w11.heap.size := by
  rintro k (hk | hk | hk | ⟨n, s, hs, _⟩)
  ·omega
  ·have hk' : k = r6 := hk; omega
  ·have hk' : k = r8 := hk; omega
  ·simp [lookL] at hs
 have hl14 : s14.l = U.length := by
  have := Rows.sl hI14
  simpa using this
 have hid : ∀ w2, aj w3 w2 -> cE A n0 w2 := fun w2 hk2 => (hE.ae k3).ae hk2
 have n3 : n0 <= w3.heap.size := by omega
 refine ⟨s14, rfl, fun i w2 => ∃ (j : Nat) (x : UnP), i = j /\ j <= U.length /\ UnM w2 r10 st x (bo (qsU (U.take j))).tr (bo (qsU (U.take j))).ep (bo (qsU (U.take j))).top (bo (qsU (U.take j))).pg (bo (qsU (U.take j))).ins /\
   aj w3 w2 /\ (∀ k, UnW r10 x k -> w3.heap.size <= k /\ ¬ ah s14 k) /\ (∀ k, UnY x k -> w3.heap.size <= k) /\ az w2 s14 ((sU U).map fun g => (g.num : Int)), fun i _ => ((U.length : Int) - i).toNat,
  ⟨0, _, rfl, by omega, by simpa [qsU, bo] using U0.ae k13, k311.trans k13, fun k hk => ⟨(W0 k hk).1, fun hh => by have := hf14 k hh; have := (W0 k hk).2; omega⟩, (by rintro k ⟨a, s, hs, _⟩; simp [lookL] at hs), hI14⟩, ?_⟩
 rintro i w18 ⟨j, x, rfl, hj, hU, hk18, hW, hY, hI18⟩
 intros
 have z18 := hk18.size
 refine af (fun h0 => ?_) (fun h0 => ?_)
 ·have hjl : j < U.length := by omega
  obtain ⟨a44, ha44, hc44⟩ := hI18.get (i := j) (by simpa using hjl)
  have hnum : (((sU U).map fun g => (g.num : Int))[j]'(by simpa using hjl)) = (U[j].num : Int) := by simp [aL.s]
  rw [hnum] at hc44
  refine aa ha44 ⟨by omega, h0, _, by rw [Int.toNat_natCast]; exact hc44, (uc (hS.ae hk18).B.S (U[j].num : Int) (by omega) (qN hI)).mono ?_⟩
  rintro e w47 ⟨s48, css, rfl, hR47, k47, hf48, hfc⟩
  rw [xA hso (List.getElem_mem hjl)] at hR47
  have hl48 : s48.l = U[j].rs.length := by
   have := hR47.sl
   simpa using this
  have ltU := hU.lt
  have hfew : U[j].rs.length <= 2 ^ 20 := by
   have := (qN hI U[j].s (List.mem_map.2 ⟨_, List.getElem_mem hjl, rfl⟩)).1
   simpa [aL.s] using this
  refine ⟨s48, rfl, fun i w2 => ∃ (n : Nat) (x : UnP), i = n /\ n <= U[j].rs.length /\ UnM w2 r10 st x (bo (qsU (U.take j) ++ (qs1 U[j]).take n)).tr (bo (qsU (U.take j) ++ (qs1 U[j]).take n)).ep (bo (qsU (U.take j) ++ (qs1 U[j]).take n)).top (bo (qsU (U.take j) ++ (qs1 U[j]).take n)).pg (bo (qsU (U.take j) ++ (qs1 U[j]).take n)).ins /\
   aj w3 w2 /\ (∀ k, UnW r10 x k -> w3.heap.size <= k /\ ¬ ah s14 k /\ ¬ ah s48 k /\ ¬ eZ css k) /\ (∀ k, UnY x k -> w3.heap.size <= k) /\ az w2 s14 ((sU U).map fun g => (g.num : Int)) /\ Rows sS w2 s48 (U[j].rs.map encR) css, fun i _ => ((U[j].rs.length : Int) - i).toNat,
   ⟨0, x, rfl, by omega, by simpa using hU.ae k47, hk18.trans k47, fun k hk => ⟨(hW k hk).1, (hW k hk).2, fun hh => ?_, fun hh => ?_⟩, hY, hI18.ae k47, hR47⟩, ?_⟩
  ·have := hf48 k hh; have := ltU.1 k hk; omega
  ·have := hfc k hh; have := ltU.1 k hk; omega
  rintro i w52 ⟨n, x, rfl, hn, hU, hk52, hW, hY, hI52, hR52⟩
  intros
  refine af (fun h1 => ?_) (fun h1 => ?_)
  ·have hnl : n < U[j].rs.length := by omega
   have hnc : n < css.length := by rw [hR52.len]; simpa using hnl
   obtain ⟨a68, ha68, _, hrow⟩ := hR52.get (i := n) hnc
   obtain ⟨s69, hcs, hb69⟩ := hR52.row n hnc (by simpa using hnl)
   rw [hcs] at hrow
   have hb69' : aq w52 s69 (encR U[j].rs[n]) := by simpa using hb69
   obtain ⟨R, hsp⟩ := AA U j n hjl hnl
   have hok : okR U[j].rs[n] := hO.ok _ (List.getElem_mem hjl) _ (List.getElem_mem hnl)
   have hndQ := hnd
   have hQok : ∀ y ∈ qsU (U.take j) ++ (qs1 U[j]).take n, okR y.2 := fun y hy => by
    have h9 : y ∈ qsU U := by rw [hsp]; exact List.mem_append_left _ hy
    obtain ⟨g, hg, hy'⟩ := List.mem_flatMap.1 h9
    obtain ⟨c, hc, rfl⟩ := List.mem_map.1 hy'
    exact hO.ok g hg c hc
   have hlenI : ((bo (qsU (U.take j) ++ (qs1 U[j]).take n)).ins (U[j].num : Int)).length < 2 ^ 20 := by
    rw [qM]
    have e1 : ∀ Q Q2 : List (Int × Rc), (pagesOf (((Q.filter fun x => decide (x.1 = (U[j].num : Int)))).map (·.2))).length <= (gm U (U[j].num : Int)).length \/ ¬ (qsU U = Q ++ Q2) := fun Q Q2 => by
     by_cases e : qsU U = Q ++ Q2
     ·left
      unfold gm
      rw [e, List.filter_append, List.map_append, ba, List.map_append, List.length_append, List.length_map]; omega
     ·exact .inr e
    have e2 := (e1 (qsU (U.take j) ++ (qs1 U[j]).take n) _).resolve_right (fun hh => hh hsp)
    have e3 := hO.vI (U[j].num : Int)
    rw [List.length_map]; omega
   have htop := uQ _ hQok
   have z52 := hk52.size
   refine aa ha68 ⟨by omega, h1, s69, by rw [Int.toNat_natCast]; exact CB hrow 0 (by simp), (yO A hU (U[j].num : Int) U[j].rs[n] hok s69 hb69' (hid w52 hk52) (by omega) (fun a t hc => ?_) (by omega) hlenI).mono ?_⟩
   ·refine BS (R := R) (seg := (U[j].num : Int)) (t := t) ?_
    rw [<- hc, <- hsp, kK]; exact hnd
   ·rintro e w71 ⟨rfl, x', hU', hT1, hT2, hT3⟩
    have hnew : aj w3 w71 := hk52.ext hT1 (fun k hk => (hW k hk).1)
    have ltO := hU.lt
    have z71 := hT1.size
    have hr1 := hI52.lt
    have hr2 := hR52.lt
    have hr3 := hR52.flt
    refine ⟨_, rfl, trivial, ai (fun h => by cases h) (fun _ => ⟨ar (by omega), ⟨n + 1, x', rfl, hnl, ?_, hnew, fun k hk => ?_, fun k hk => ?_, hI52.ext hT1 (fun k hk hh => (hW k hh).2.1 hk), hR52.ext hT1 (fun k hk hh => (hW k hh).2.2.1 hk) (fun k hk hh => (hW k hh).2.2.2 hk)⟩, by dsimp only; omega⟩)⟩
    ·have hq : n < (qs1 U[j]).length := by simpa [qs1] using hnl
     have e3 : (qs1 U[j])[n] = ((U[j].num : Int), U[j].rs[n]) := by simp [qs1]
     rw [List.take_succ_eq_append_getElem hq, <- List.append_assoc, e3, fJ]
     exact hU'
    ·rcases hT2 k hk with g | g
     ·exact hW k g
     ·exact ⟨by omega, fun hh => by have := hr1 k hh; omega, fun hh => by have := hr2 k hh; omega, fun hh => by have := hr3 k hh; omega⟩
    ·rcases hT3 k hk with g | g | g
     ·exact hY k g
     ·exact g.elim
     ·omega
  ·have hnn : n = U[j].rs.length := by omega
   subst hnn
   refine ⟨ar (by omega), ⟨j + 1, x, rfl, hjl, ?_, hk52, fun k hk => ⟨(hW k hk).1, (hW k hk).2.1⟩, hY, hI52⟩, by dsimp only; omega⟩
   have e4 : (qs1 U[j]).take U[j].rs.length = qs1 U[j] := List.take_of_length_le (by simp [qs1])
   rw [e4] at hU
   rw [BR U j hjl]
   exact hU
 ·have hjj : j = U.length := by omega
  subst hjj
  rw [List.take_length] at hU
  obtain ⟨v1, v2, v3, v4, v5⟩ := yS hO
  have hQok : ∀ y ∈ qsU U, okR y.2 := fun y hy => by
   obtain ⟨g, hg, hy'⟩ := List.mem_flatMap.1 hy
   obtain ⟨c, hc, rfl⟩ := List.mem_map.1 hy'
   exact hO.ok g hg c hc
  have htop := uQ _ hQok
  refine (py hU).mono ?_
  rintro e w74 ⟨rfl, x', hU', hT1, hT2, hT3⟩
  rw [v1, v2, v4, v5] at hU'
  have ltO := hU.lt
  have hk74 : aj w3 w74 := hk18.ext hT1 (fun k hk => (hW k hk).1)
  have hW' : ∀ k, UnW r10 x' k -> w3.heap.size <= k := fun k hk => by
   rcases hT2 k hk with g | g
   ·exact (hW k g).1
   ·omega
  have hY' : ∀ k, UnY x' k -> w3.heap.size <= k := fun k hk => by
   rcases hT3 k hk with g | g | g
   ·exact hY k g
   ·exact g.elim
   ·omega
  have hSlt := hS.B.lt
  refine ⟨rfl, r10, ⟨st, x', u, q, (bo (qsU U)).top⟩, rfl, ⟨hS.ae hk74, hU', hO, ⟨htop.1, v3⟩, hT, fun k hk hh => ?_, fun k hk hh => ?_, fun k hk => ?_⟩, rfl, fun k hk => ?_, fun k hk => ?_, k3.trans hk74⟩
  ·have := hSlt k hh; have := hW' k hk; omega
  ·rcases hh with hh | hh
   ·obtain ⟨b, s0, hs0, h00, hk0⟩ := hk
    obtain ⟨y1, y2⟩ := hU'.pb b s0 hs0 h00 k hk0
    obtain ⟨t0, _, hb0, _⟩ := (hU'.pv b).1 s0 hs0
    rcases hh with hh | hh | hh | ⟨n, s1, hs1, hk1⟩
    ·exact y1 hh
    ·obtain ⟨_, _, hp1, _⟩ := hU'.p.at'
     exact bW hb0 h00 hk0 (by rw [hh]; exact hp1)
    ·obtain ⟨_, _, hp1, _⟩ := hU'.i.at'
     exact bW hb0 h00 hk0 (by rw [hh]; exact hp1)
    ·exact y2 n s1 hs1 hk1
   ·have := hSlt k hh; have := hY' k hk; omega
  ·have := hW' k hk; omega
  ·rcases hk with hk | hk | hk
   ·have := hW' k hk; exact .inr (by omega)
   ·exact .inr (hfr k hk)
   ·exact .inl hk
  ·have := hY' k hk; omega
end Go.D
namespace Go.D
open Go Go.Proofs
def writeP (k : Nat) (s : UnS) (epoch a : Int) (t : List UInt8) : Option Nat × UnS :=
 match cL s.ep epoch a 4095 with
 | some c => (some c, s)
 | none => if t.length = 0 \/ 2048 < t.length then (some 2, s) else if a < (s.tr : Int) then (some 10, s) else if (pgM s.U s.tr a).isSome then (some 8, s)
  else match appU k s.U (.cm a.toNat t) with
   | none => (some 12, s)
   | some (n, V) => (none, ⟨V, s.tr, s.ep, max s.T (a.toNat + 1)⟩)
def ee (tr : Nat) : List aL -> List aL
 | [] => []
 | [g] => [g]
 | g :: h :: t => if (pagesOf g.rs).all (fun y => decide (y.1 < tr)) then ee tr (h :: t) else g :: h :: t
def gu (k : Nat) (s : UnS) (epoch to : Int) : Option Nat × UnS :=
 match cL s.ep epoch to 4096 with
 | some c => (some c, s)
 | none => if to <= (s.tr : Int) then (none, s)
  else match appU k s.U (.trim to.toNat s.ep) with
   | none => (some 12, s)
   | some (n, V) => (none, ⟨ee to.toNat V, to.toNat, s.ep, max s.T to.toNat⟩)
def tC (U : List aL) (s : UnS) : Prop := fe U s.tr s.ep s.T /\ ∀ a, pgM U s.tr a = pgM s.U s.tr a
def UCr (d : aF) (k m : Nat) (Ss : List UnS) : Prop := d.aC.length <= 100 /\ ∀ kept torn cut : Int, ∃ U, bO (aN (crashL kept torn cut 0 d.aC d.img)) k (sU U) /\ (∀ g ∈ sU U, g.num < m) /\ ∃ s ∈ Ss, tC U s
def gl (r rd : Nat) (f f' : UnF) (w w' : World) : Prop := bj (UB r rd f) (UB r rd f') w w' /\ ∀ k, UnY f'.x k -> UnY f.x k \/ w.heap.size <= k
theorem gl.refl (r rd : Nat) (f : UnF) (w : World) : gl r rd f f w w := ⟨bj.refl _ _, fun k hk => .inl hk⟩
theorem gl.trans {r rd : Nat} {f f1 f2 : UnF} {a b c : World} (h1 : gl r rd f f1 a b) (h2 : gl r rd f1 f2 b c) : gl r rd f f2 a c :=
 ⟨h1.1.trans h2.1, fun k hk => (h2.2 k hk).elim (h1.2 k) (fun h => .inr (Nat.le_trans h1.1.1.size h))⟩
theorem gl.ae {r rd : Nat} {f f' : UnF} {a b c : World} (h1 : gl r rd f f' a b) (h2 : aj b c) : gl r rd f f' a c := ⟨h1.1.ae h2, h1.2⟩
theorem aj.Dc {r rd : Nat} {f f' : UnF} {a b c : World} (h1 : aj a b) (h2 : gl r rd f f' b c) : gl r rd f f' a c :=
 ⟨h1.iU h2.1, fun k hk => (h2.2 k hk).imp (fun h => h) (fun h => Nat.le_trans h1.size h)⟩
def yV (w : World) (n0 r rd : Nat) (f : UnF) (d : aF) (s : UnS) (m : Nat) (p : Option Nat × UnS) (e' : Option Nat) (w' : World) : Prop :=
 (e' = p.1 /\ ∃ f' d', UAt w' n0 r rd f' d' p.2 (m + 1) /\ d'.n = d.n /\ d'.stops = d.stops /\ gl r rd f f' w w') \/
 (e' = some 11 /\ d.stops = true /\ ∃ q' d', aG w' rd q' d' /\ d'.n = d.n /\ d'.stops = d.stops /\ UCr d' (d.n / 64) (m + 1) [s, p.2] /\ bj (UB r rd f) (aY rd q') w w')
theorem BY (k : Nat) (U : List aL) (n : Nat) : (ki k (sU U) n).getD (sU U) = sU (nj k U n) := by
 unfold ki nj
 split
 ·rfl
 ·cases eC k (sU U) with
  | none => rfl
  | some p => simp [mj, aL.s]
theorem uR (k : Nat) (U : List aL) (n : Nat) : dJ (nj k U n) = dJ U := by
 unfold nj
 split
 ·rfl
 ·split
  ·rfl
  ·exact xl _ _ _
theorem BZ (k : Nat) {U : List aL} (n : Nat) (h : okU U) : okU (nj k U n) := by
 unfold nj
 split
 ·exact h
 ·split
  ·exact h
  ·intro y hy z hz
   rcases List.mem_append.1 hy with hy | hy
   ·exact h y hy z hz
   ·rw [List.mem_singleton] at hy; subst hy; simp at hz
theorem fe.DB {U V : List aL} {tr ep T : Nat} (h : fe U tr ep T) (ho : okU V) (ha : dJ V = dJ U) : fe V tr ep T :=
 ⟨ho, by rw [ha]; exact h.te, by unfold pgU; rw [ha]; exact h.nd, by unfold pgU; rw [ha]; exact h.tl⟩
theorem CW {U V : List aL} (ha : dJ V = dJ U) (tr : Nat) : pgM V tr = pgM U tr := by
 unfold pgM pgU
 rw [ha]
theorem AE {k m n : Nat} {U : List aL} (h : ∀ g ∈ sU U, g.num < m) : ∀ g ∈ sU (nj k U n), g.num < m + 1 := by
 intro g hg
 have hnx := pq h
 unfold nj at hg
 split at hg
 ·have := h g hg; omega
 ·split at hg
  ·have := h g hg; omega
  ·obtain ⟨y, hy, rfl⟩ := List.mem_map.1 hg
   rcases List.mem_append.1 hy with hy | hy
   ·have := h _ (List.mem_map.2 ⟨y, hy, rfl⟩); omega
   ·rw [List.mem_singleton] at hy; subst hy
    show fQ (sU U) < m + 1; omega
theorem B0 {k m n : Nat} {U V : List aL} {x : Rc} (h : ∀ g ∈ sU U, g.num < m) (ha : appU k U x = some (n, V)) : ∀ g ∈ sU V, g.num < m + 1 := by
 intro g hg
 have hnx := pq h
 obtain ⟨_, _, M, g0, rfl, hM⟩ := gk ha
 obtain ⟨y, hy, rfl⟩ := List.mem_map.1 hg
 have key : ∀ z ∈ M ++ [g0], z.num < m + 1 := by
  intro z hz
  rcases hM with rfl | ⟨p, _, rfl, rfl⟩
  ·have := h _ (List.mem_map.2 ⟨z, hz, rfl⟩)
   have h2 : z.num < m := this
   omega
  ·rcases List.mem_append.1 hz with hz | hz
   ·have := h _ (List.mem_map.2 ⟨z, hz, rfl⟩)
    have h2 : z.num < m := this
    omega
   ·rw [List.mem_singleton] at hz; subst hz
    show fQ (sU M) < m + 1; omega
 rcases List.mem_append.1 hy with hy | hy
 ·exact key y (by simp [hy])
 ·rw [List.mem_singleton] at hy; subst hy
  exact key g0 (by simp)
theorem mH.unit {A : Nat -> Addr} {w w' : World} {n0 st rd m : Nat} {u : StP} {q : bV} {d : aF} {U : List aL} {c : Rc} (hc : okR c) {n : Int} {e' : Option Nat} (h : mH A w n0 st rd u q d (sU U) m (encR c) n e' w') :
  (appU (d.n / 64) U c = none /\ e' = some 12 /\ aG w' rd q d /\ aj w w') \/
  (∃ n' V, appU (d.n / 64) U c = some (n', V) /\ n = (n' : Int) /\ e' = none /\ ∃ u' q' d', Sys w' n0 st rd u' q' d' (sU V) (m + 1) /\ d'.n = d.n /\ d'.stops = d.stops /\ bj (bT st u rd q) (bT st u' rd q') w w') \/
  (∃ n' V, appU (d.n / 64) U c = some (n', V) /\ e' = some 11 /\ d.stops = true /\ ∃ q' d', aG w' rd q' d' /\ d'.n = d.n /\ d'.stops = d.stops /\ po d' (d.n / 64) [sU U, sU (nj (d.n / 64) U (encR c).length), sU V] /\ bj (bT st u rd q) (aY rd q') w w') := by
 obtain ⟨q', d', hD, hn, hs, hcase⟩ := h
 have hok := CV (k := d.n / 64) (U := U) hc
 cases ha : appU (d.n / 64) U c with
 | none =>
  rw [ha] at hok
  simp only at hok
  rw [hok] at hcase
  rcases hcase with ⟨_, h2, _, rfl, rfl, hk⟩ | ⟨h1, _⟩ | ⟨h1, _⟩
  ·exact .inl ⟨rfl, h2, hD, hk⟩
  ·cases h1
  ·cases h1
 | some p =>
  obtain ⟨n', V⟩ := p
  rw [ha] at hok
  simp only at hok
  rw [hok] at hcase
  rcases hcase with ⟨h1, _⟩ | ⟨_, h2, h3, u', hS, ft⟩ | ⟨_, h2, h3, h4, ft⟩
  ·exact absurd rfl h1
  ·exact .inr (.inl ⟨n', V, rfl, h3, h2, u', q', d', hS, hn, hs, ft⟩)
  ·rw [BY] at h4
   exact .inr (.inr ⟨n', V, rfl, h2, h3, q', d', hD, hn, hs, h4, ft⟩)
theorem po.unit {d' : aF} {k m n n' : Nat} {U V : List aL} {c : Rc} {s s1 : UnS} (h : po d' k [sU U, sU (nj k U n), sU V]) (hN : ∀ g ∈ sU U, g.num < m) (ha : appU k U c = some (n', V)) (h0 : s.U = U) (hO : fe U s.tr s.ep s.T) (h1 : tC V s1) : UCr d' k (m + 1) [s, s1] := by
 refine ⟨h.1, fun a b c => ?_⟩
 obtain ⟨L, hL, hI⟩ := h.2 a b c
 simp only [List.mem_cons, List.not_mem_nil, or_false] at hL
 rcases hL with rfl | rfl | rfl
 ·exact ⟨U, hI, fun g hg => by have := hN g hg; omega, s, by simp, hO, fun a => by rw [h0]⟩
 ·exact ⟨_, hI, AE hN, s, by simp, hO.DB (BZ k n hO.ok) (uR k U n), fun a => by rw [h0, CW (uR k U n)]⟩
 ·exact ⟨V, hI, B0 hN ha, s1, by simp, h1⟩
theorem xB {U V : List aL} {tr a : Nat} {t : List UInt8} (h : dJ V = dJ U ++ [.cm a t]) (ha : tr <= a) (hn : pgM U tr (a : Int) = none) : pgM V tr = fi (pgM U tr) (a : Int) (some t) := by
 funext b
 have hn' : cK (pgU U) a = none := by
  unfold pgM at hn
  rw [if_neg (by omega)] at hn
  exact hn
 unfold fi pgM pgU
 rw [h, ba]
 by_cases e : b = (a : Int)
 ·subst e
  rw [if_neg (by omega), if_pos rfl]
  simp only [pagesOf]
  rw [mm, Int.toNat_natCast]
  unfold pgU at hn'
  rw [hn']; simp
 ·rw [if_neg e]
  by_cases e2 : b < (tr : Int)
  ·rw [if_pos e2, if_pos e2]
  ·rw [if_neg e2, if_neg e2]
   simp only [pagesOf]
   rw [mm]
   cases cK (pagesOf (dJ U)) b.toNat with
   | some y => rfl
   | none => simp only; rw [if_neg (by omega)]
theorem xC {U V : List aL} {x : Rc} (h : dJ V = dJ U ++ [x]) (hx : ∀ a t, x ≠ .cm a t) (tr : Nat) : pgM V tr = pgM U tr := by
 unfold pgM pgU
 rw [h, ba]
 cases x with
 | cm a t => exact absurd rfl (hx a t)
 | trim t e => simp [pagesOf]
 | shut e => simp [pagesOf]
theorem pH {U : List aL} {tr a : Nat} (ha : tr <= a) (hn : pgM U tr (a : Int) = none) : ∀ y ∈ pgU U, y.1 ≠ a := by
 unfold pgM at hn
 rw [if_neg (by omega)] at hn
 exact qJ.1 hn
def tailR (T tt : Nat) : Rc -> Nat
 | .cm a _ => max T (a + 1)
 | .trim t _ => max tt t
 | .shut _ => T
theorem uS {k n : Nat} {U V : List aL} {x : Rc} {tr ep T : Nat} (h : fe U tr ep T) (hx : okR x) (ha : appU k U x = some (n, V)) (hp : ∀ a t, x = .cm a t -> ∀ y ∈ pgU U, y.1 ≠ a) :
  fe V (iR (tr, ep) x).1 (iR (tr, ep) x).2 (tailR T (cU (pgU U)) x) := by
 have hV := BW ha h.ok hx
 obtain ⟨_, _, M, g, rfl, hM⟩ := gk ha
 have hR : dJ (M ++ [g]) = dJ U := by
  rcases hM with rfl | ⟨p, _, rfl, rfl⟩
  ·rfl
  ·exact xl _ _ _
 have hok : okU (M ++ [g]) := by
  intro y hy z hz
  rcases List.mem_append.1 hy with hy | hy
  ·exact hV y (by simp [hy]) z hz
  ·rw [List.mem_singleton] at hy; subst hy
   exact hV _ (List.mem_append_right _ (List.mem_singleton.2 rfl)) z (List.mem_append_left _ hz)
 cases x <;> exact h.add hok hR hx hp
section
variable {w w' : World} {n0 r rd m : Nat} {f : UnF} {d : aF} {s : UnS}
theorem UAt.ins (h : UAt w n0 r rd f d s m) (n : Int) : (gm s.U n).length < 2 ^ 20 := by have := h.O.vI n; omega
theorem UAt.xD (h : UAt w n0 r rd f d s m) {e' : Option Nat} (hk : aj w w') : yV w n0 r rd f d s m (e', s) e' w' :=
 .inl ⟨rfl, f, d, (h.ae hk).up (by omega), rfl, rfl, hk.Dc (gl.refl _ _ _ _)⟩
theorem xE (A : Nat -> Addr) (h : UAt w n0 r rd f d s m) (hE : cE A n0 w) (hm : m <= 2 ^ 60) (epoch a : Int) (sl : Slc) (t : List UInt8) (hb : aq w sl t) (ht : t.length <= 2 ^ 20) (hs : ∀ k, ah sl k -> ¬ UB r rd f k) :
  Calls Tryz.prog fu ⟨[aw r, .int .i64 epoch, .int .i64 a, sl.v]⟩ w fun e w' => ∃ e', e = .returned (errO A e') /\ yV w n0 r rd f d s m (writeP (d.n / 64) s epoch a t) e' w' := by
 refine nL _ _ _ _ ?_
 unfold lf
 have hG : bn BH A n0 w := hE.g.sub px
 have hbl := hb.1
 refine (mn A h.M epoch a 4095 hG).mono ?_
 rintro e w6 ⟨rfl, rfl⟩
 unfold writeP
 cases hc : cL s.ep epoch a 4095 with
 | some c => exact ⟨_, rfl, aB A _, ai (fun _ => ⟨_, rfl, h.xD (Ext.refl _ _)⟩) (fun hh => by cases hh)⟩
 | none =>
  have ha : 0 <= a /\ a <= 4095 := by
   unfold cL at hc
   split at hc
   ·cases hc
   ·split at hc
    ·cases hc
    ·omega
  obtain ⟨es, g1, g2⟩ := h.M.p.get
  refine ⟨_, rfl, aB A _, ai (fun hh => by cases hh) (fun _ => aa rfl ⟨_, h.M.c.2.1, es, g1, lookL f.x.pl a, g2 a, fun w2 => ¬ (t.length = 0 \/ 2048 < t.length) /\ ¬ a < (s.tr : Int) /\ (pgM s.U s.tr a).isSome = false /\ w2 = w6,
   ⟨fun b w2 => b = decide (t.length = 0 \/ 2048 < t.length) /\ w2 = w6, af (fun h0 => ⟨(decide_eq_true (.inl (by omega))).symm, rfl⟩) (fun h0 => ⟨by rw [decide_eq_decide]; omega, rfl⟩), ?_⟩, ?_⟩)⟩
  ·rintro b w15 ⟨rfl, rfl⟩
   intros
   refine af (fun h1 => ?_) (fun h1 => aa rfl ⟨_, h.M.c.2.2.2.1, af (fun h2 => ?_) (fun h2 => ?_)⟩)
   ·rw [if_pos h1]
    exact ⟨_, dx hG 2 gC rfl (by decide), _, rfl, h.xD (Ext.refl _ _)⟩
   ·rw [if_neg h1, if_pos h2]
    exact ⟨_, dx hG 10 db rfl (by decide), _, rfl, h.xD (Ext.refl _ _)⟩
   ·rw [if_neg h1, if_neg h2]
    refine ai (fun h3 => ?_) (fun h3 => ?_)
    ·rw [h.M.has] at h3
     rw [if_pos h3]
     exact ⟨_, dx hG 8 da rfl (by decide), _, rfl, h.xD (Ext.refl _ _)⟩
    ·rw [h.M.has] at h3
     exact ⟨h1, h2, h3, rfl⟩
  ·rintro w29 ⟨h1, h2, h3, rfl⟩
   intros
   rw [if_neg h1, if_neg h2, if_neg (by rw [h3]; decide)]
   obtain ⟨an, rfl⟩ : ∃ an : Nat, a = an := ⟨a.toNat, by omega⟩
   rw [Int.toNat_natCast]
   have hok : okR (.cm an t) := ⟨by omega, by omega, by omega⟩
   have hpn : pgM s.U s.tr (an : Int) = none := by simpa using h3
   refine (pD A h.S h.M hE hm (.cm an t) hok (fun _ _ hh => by cases hh) sl (fun _ => hb)).mono ?_
   rintro e w53 ⟨n, e', w1, rfl, k1, hp⟩
   rcases hp.unit hok with ⟨ha1, rfl, hD, hk⟩ | ⟨n', V, ha1, rfl, rfl, u', q', d', hS', hn', hst', ft⟩ | ⟨n', V, ha1, rfl, hst, q', d', hD', hn', hst', hcr, ft⟩
   ·rw [ha1]
    exact ⟨_, _, rfl, aB A _, ai (fun hh => by cases hh) (fun _ => ⟨_, rfl, h.xD (k1.trans hk)⟩)⟩
   ·rw [ha1]
    have ft' : bj (bT f.st f.u rd f.q) (bT f.st u' rd q') w29 w53 := k1.iU ft
    have hqs := (gk ha1).1
    have hal := pG hqs
    have hM53 := h.M.ext ft'.1 h.sep (fun k hk hh => h.q8 k hk (.inr hh))
    refine ⟨_, _, rfl, aB A _, ai (fun _ => ?_) (fun hh => by cases hh)⟩
    have hb53 : aq w53 sl t := bc hb ft'.1 (fun _ k hk hh => hs k hk (.inr hh))
    refine (dV sl t w53 hb53 (by omega)).mono ?_
    rintro e w57 ⟨s58, rfl, ho58, hf58, k57⟩
    have hM57 := hM53.ae k57
    have ht4 := h.T.1
    have htt := h.t
    have z53 := ft'.1.size
    have z57 := k57.size
    have lt53 := hM53.lt
    refine ⟨s58, rfl, (tu hM57 (n' : Int) (an : Int) s58 t ho58.bytes (by omega) (fun _ k hk hh => ?_) hpn (by omega) (by omega) (h.ins _)).mono ?_⟩
    ·have := hf58 k hk; have := lt53.1 k hh; omega
    ·rintro e w60 ⟨rfl, x', hM60, t1, t2, t3⟩
     have hpg : pgM V s.tr = fi (pgM s.U s.tr) (an : Int) (some t) := xB hal (by omega) hpn
     have hin : gm V = fi (gm s.U) (n' : Int) (gm s.U (n' : Int) ++ [(an : Int)]) := zK hqs
     rw [<- hpg, <- hin] at hM60
     have hSlt := hS'.B.lt
     have sys57 := hS'.ae k57
     have sepW : ∀ k, UnW r f.x k -> ¬ bT f.st u' rd q' k := fun k hk hh => (ft'.2 k hh).elim (h.sep k hk) (fun hh => by have := h.M.lt.1 k hk; omega)
     have sys60 := sys57.ext t1 (fun k hk hh => sepW k hh hk)
     have x60 : Ext (UB r rd f) w29 w60 := (Ext.trans (ft'.1.mono (fun k hk => Or.inr hk)) k57 (fun _ h => h) (fun _ h => h.elim)).trans t1 (fun _ h => h) (fun k hk => .inl (.inl hk))
     have z60 := t1.size
     have hO' := uS h.O hok ha1 (fun a' t' he y hy => by cases he; exact pH (by omega) hpn y hy)
     refine ⟨rfl, none, rfl, .inl ⟨rfl, ⟨f.st, x', u', q', max f.top (an + 1)⟩, d', ⟨sys60, hM60, hO', ⟨by show 0 <= max f.top ((an : Int) + 1); omega, by show max (max f.top ((an : Int) + 1)) (s.tr : Int) = ((max s.T (an + 1) : Nat) : Int); omega⟩, ⟨by show max s.T (an + 1) <= 4096; omega, h.T.2⟩, fun k hk hh => ?_, fun k hk hh => ?_, fun k hk => ?_⟩, hn', hst', ⟨⟨x60, fun k hk => ?_⟩, fun k hk => ?_⟩⟩⟩
     ·rcases t2 k hk with g | g
      ·exact sepW k g hh
      ·have := hSlt k hh; omega
     ·rcases hh with hh | hh
      ·obtain ⟨b, s0, hs0, h00, hk0⟩ := hk
       obtain ⟨y1, y2⟩ := hM60.pb b s0 hs0 h00 k hk0
       obtain ⟨t0, _, hb0, _⟩ := (hM60.pv b).1 s0 hs0
       rcases hh with hh | hh | hh | ⟨n, s1, hs1, hk1⟩
       ·exact y1 hh
       ·obtain ⟨_, _, hp1, _⟩ := hM60.p.at'
        exact bW hb0 h00 hk0 (by rw [hh]; exact hp1)
       ·obtain ⟨_, _, hp1, _⟩ := hM60.i.at'
        exact bW hb0 h00 hk0 (by rw [hh]; exact hp1)
       ·exact y2 n s1 hs1 hk1
      ·have hl := hSlt k hh
       rcases t3 k hk with g | ⟨_, g⟩ | g
       ·rcases ft'.2 k hh with g2 | g2
        ·exact h.q8 k g (.inr g2)
        ·have := h.M.lt.2 k g; omega
       ·have := hf58 k g; omega
       ·omega
     ·rcases t2 k hk with g | g
      ·exact h.n k g
      ·have := h.S.B.z; omega
     ·rcases hk with hk | hk
      ·rcases t2 k hk with g | g
       ·exact .inl (.inl g)
       ·exact .inr (by omega)
      ·exact (ft'.2 k hk).imp .inr (fun g => g)
     ·rcases t3 k hk with g | ⟨_, g⟩ | g
      ·exact .inl g
      ·have := hf58 k g; exact .inr (by omega)
      ·exact .inr (by omega)
   ·rw [ha1]
    have hal := pG (gk ha1).1
    have hO' := uS h.O hok ha1 (fun a' t' he y hy => by cases he; exact pH (by omega) hpn y hy)
    exact ⟨_, _, rfl, aB A _, ai (fun hh => by cases hh) (fun _ => ⟨some 11, rfl, .inr ⟨rfl, hst, q', d', hD', hn', hst', hcr.unit h.S.N ha1 rfl h.O ⟨hO', fun _ => rfl⟩, ⟨(k1.iU ft).1.mono (fun k hk => .inr hk), fun k hk => ((k1.iU ft).2 k hk).imp .inr (fun g => g)⟩⟩⟩)⟩
end
end Go.D
namespace Go.D
open Go Go.Proofs
section
variable {w w' : World} {n0 r rd m : Nat} {f : UnF} {d : aF} {s : UnS}
theorem UAt.DU (h : UAt w n0 r rd f d s m) {V : List aL} {n : Nat} {c : Rc} {u' : StP} {q' : bV} {d' : aF} (hc : okR c) (hnp : ∀ a t, c ≠ .cm a t) (ha : appU (d.n / 64) s.U c = some (n, V)) (hS : Sys w' n0 f.st rd u' q' d' (sU V) (m + 1)) (ft : bj (bT f.st f.u rd f.q) (bT f.st u' rd q') w w') :
  UnM w' r f.st f.x s.tr s.ep f.top (pgM V s.tr) (gm V) /\ (∀ k, UnW r f.x k -> ¬ bT f.st u' rd q' k) /\ (∀ k, UnY f.x k -> ¬ UB r rd ⟨f.st, f.x, u', q', f.top⟩ k) := by
 have hqs := (gk ha).1
 have hal := pG hqs
 have hM := h.M.ext ft.1 h.sep (fun k hk hh => h.q8 k hk (.inr hh))
 have hin : gm V = gm s.U := by
  rw [zK hqs]
  cases c with
  | cm a t => exact absurd rfl (hnp a t)
  | trim t e => rfl
  | shut e => rfl
 rw [xC hal hnp, hin]
 refine ⟨hM, fun k hk hh => (ft.2 k hh).elim (h.sep k hk) (fun hh => by have := h.M.lt.1 k hk; omega), fun k hk hh => ?_⟩
 rcases hh with hh | hh
 ·exact h.q8 k hk (.inl hh)
 ·rcases ft.2 k hh with g | g
  ·exact h.q8 k hk (.inr g)
  ·have := h.M.lt.2 k hk; omega
theorem UnM.D8 {st : Nat} {x : UnP} {tr ep top : Int} {pg : Int -> Option (List UInt8)} {ins : Int -> List Int} (h : UnM w r st x tr ep top pg ins) (n : Int) (hp : fF KS w' x.mi (gS x.il n)) (he : Ext (fun j => j = x.mi) w w') : UnM w' r st { x with il := gS x.il n } tr ep top pg (fi ins n []) := by
 have lk : ∀ b, lookL (gS x.il n) b = if b = n then none else lookL x.il b := fun b => oP n b h.i.nd
 obtain ⟨_, _, hi1, _⟩ := h.i.at'
 have rmi := h.zJ.2
 refine ⟨h.o.ext he (fun hh => rmi hh), h.p.ext he (fun hh => h.ne hh), hp, h.ne, fun a => ⟨fun s hs => ?_, (h.pv a).2⟩, fun b => ?_, fun a b s t ha hb hne => ?_, fun a s ha => ?_, fun a s hs h0 j hj => ?_⟩
 ·obtain ⟨t, g1, g2, g3⟩ := (h.pv a).1 s hs
  exact ⟨t, g1, bc g2 he (fun h0 j hj hh => bW g2 h0 (show ah s x.mi from hh ▸ hj) hi1), g3⟩
 ·dsimp only
  rw [lk]
  unfold fi
  by_cases e : b = n
  ·rw [if_pos e, if_pos e]; exact az.nil _
  ·rw [if_neg e, if_neg e]
   refine (h.iv b).ext he (fun j hj hh => ?_)
   obtain ⟨c, T, f, hc⟩ := Own.ne (h.iv b).own hj
   rw [hh, hi1] at hc; cases hc
 ·dsimp only at ha hb
  rw [lk] at ha hb
  by_cases e : a = n
  ·rw [if_pos e] at ha; cases ha
  ·by_cases e2 : b = n
   ·rw [if_pos e2] at hb; cases hb
   ·rw [if_neg e] at ha; rw [if_neg e2] at hb
    exact h.sep a b s t ha hb hne
 ·dsimp only at ha
  rw [lk] at ha
  by_cases e : a = n
  ·rw [if_pos e] at ha; cases ha
  ·rw [if_neg e] at ha
   exact h.ir a s ha
 ·obtain ⟨y1, y2⟩ := h.pb a s hs h0 j hj
  refine ⟨y1, fun b t hb => ?_⟩
  dsimp only at hb
  rw [lk] at hb
  by_cases e : b = n
  ·rw [if_pos e] at hb; cases hb
  ·rw [if_neg e] at hb
   exact y2 b t hb
theorem tD {x : UnP} {st : Nat} {tr ep top : Int} {pg : Int -> Option (List UInt8)} {ins : Int -> List Int} {r2 : Nat} (h : UnM w r st x tr ep top pg ins) (o2 : ao w r2 [aw r]) (sl : Slc) (l : List Int) (hl : az w sl l) (hlen : l.length <= 2 ^ 40) :
  Calls Tryz.prog aW ⟨[sl.v, .func (.func dR) ⟨[]⟩ ⟨[aw r2]⟩]⟩ w fun e w' => e = .returned (.bool (!l.all fun a => decide (a < tr))) /\ w' = w := by
 refine dc _ _ ?_
 unfold bD
 have hsl := Rows.sl hl
 refine Calls.mono (R := fun e w' => ∃ n : Int, e = .returned (.int .i64 n) /\ (decide ((0 : Int) <= n)) = (!l.all fun a => decide (a < tr)) /\ w' = w) (dI _ _ ?_) ?_
 ·unfold bQ
  refine ⟨fun i w2 => ∃ k : Nat, i = k /\ k <= l.length /\ (l.take k).all (fun a => decide (a < tr)) = true /\ w2 = w, fun i _ => ((l.length : Int) - i).toNat, ⟨0, rfl, by omega, by simp, rfl⟩, ?_⟩
  rintro i w6 ⟨k, rfl, hk, hall, rfl⟩
  intros
  refine af (fun h0 => ?_) (fun h0 => ⟨-1, rfl, ?_, rfl⟩)
  ·have hkl : k < l.length := by omega
   obtain ⟨a, ha, hc⟩ := hl.get hkl
   refine aa ha ⟨by omega, h0, _, by rw [Int.toNat_natCast]; exact hc, ?_⟩
   refine Calls.mono (R := fun e w' => e = .returned (.bool (decide (tr <= l[k]))) /\ w' = w6) (kD _ _ ?_) ?_
   ·unfold ib
    exact aa rfl ⟨_, o2.cell 0 (by simp), aa rfl ⟨_, h.c.2.2.2.1, rfl, rfl⟩⟩
   ·rintro e w22 ⟨rfl, rfl⟩
    refine ⟨_, rfl, af (fun h1 => ⟨_, rfl, ?_, rfl⟩) (fun h1 => ⟨ar (by omega), ⟨k + 1, rfl, hkl, ?_, rfl⟩, by dsimp only; omega⟩)⟩
    ·have : l.all (fun a => decide (a < tr)) = false := by
      rw [Bool.eq_false_iff]
      intro hh
      have := List.all_eq_true.1 hh _ (List.getElem_mem hkl)
      have h3 : l[k] < tr := by simpa using this
      omega
     rw [this]
     exact decide_eq_true (by omega)
    ·rw [gF _ _ hkl, List.all_append, hall]
     simp; omega
  ·have : k = l.length := by omega
   subst this
   rw [List.take_length] at hall
   rw [hall]; rfl
 ·rintro e w' ⟨n, rfl, hn, rfl⟩
  exact ⟨n, rfl, by rw [hn], rfl⟩
end
theorem yW {g h : aL} {t : List aL} : dropR (sU (g :: h :: t)) (g.num : Int) = (none, sU (h :: t)) := by
 unfold dropR
 have : (sU (g :: h :: t)).findIdx? (fun x => decide ((x.num : Int) = (g.num : Int))) = some 0 := by
  simp [List.findIdx?_cons, aL.s]
 rw [this]
 simp
def mq (U : List aL) (tr ep : Nat) : Prop := ∃ M p n rs, U = M ++ [⟨p, n, rs ++ [.trim tr ep]⟩]
theorem mq.tail {g h : aL} {t : List aL} {tr ep : Nat} (hh : mq (g :: h :: t) tr ep) : mq (h :: t) tr ep := by
 obtain ⟨M, p, n, rs, e⟩ := hh
 cases M with
 | nil => simp at e
 | cons x M =>
  simp only [List.cons_append, List.cons.injEq] at e
  exact ⟨M, p, n, rs, e.2⟩
theorem mq.all {U : List aL} {tr ep : Nat} (hh : mq U tr ep) : ∃ R, dJ U = R ++ [.trim tr ep] := by
 obtain ⟨M, p, n, rs, rfl⟩ := hh
 rw [mI]
 exact ⟨dJ M ++ rs, by simp⟩
theorem xF {g : aL} {U : List aL} {tr : Nat} (h : ∀ a, tr <= a -> cK (pgU U) a = cK (pgU (g :: U)) a) : pgM U tr = pgM (g :: U) tr := by
 funext a
 unfold pgM
 split
 ·rfl
 ·rw [h _ (by omega)]
end Go.D
namespace Go.D
open Go Go.Proofs
section
variable {w w' : World} {n0 r rd m : Nat} {f : UnF} {d : aF} {s : UnS}
theorem UnM.DV {st : Nat} {x : UnP} {tr ep top : Int} {pg : Int -> Option (List UInt8)} {ins : Int -> List Int} (h : UnM w r st x tr ep top pg ins) : ∀ k, UnY x k -> ¬ UnW r x k := by
 rintro k ⟨b, s0, hs0, h00, hk0⟩ hh
 obtain ⟨y1, y2⟩ := h.pb b s0 hs0 h00 k hk0
 obtain ⟨t0, _, hb0, _⟩ := (h.pv b).1 s0 hs0
 rcases hh with hh | hh | hh | ⟨n, s1, hs1, hk1⟩
 ·exact y1 hh
 ·obtain ⟨_, _, hp1, _⟩ := h.p.at'
  exact bW hb0 h00 hk0 (by rw [hh]; exact hp1)
 ·obtain ⟨_, _, hp1, _⟩ := h.i.at'
  exact bW hb0 h00 hk0 (by rw [hh]; exact hp1)
 ·exact y2 n s1 hs1 hk1
theorem B1 (P : List (Nat × List UInt8)) (tr : Nat) : (P.map fun y => (y.1 : Int)).all (fun a => decide (a < (tr : Int))) = P.all fun y => decide (y.1 < tr) := by
 rw [List.all_map]
 congr 1
 funext y
 simp [decide_eq_decide]
theorem kL {tr ep T : Nat} : ∀ U : List aL, fe U tr ep T -> mq U tr ep -> pgM (ee tr U) tr = pgM U tr
 | [], _, _ => rfl
 | [g], _, _ => rfl
 | g :: h :: t, hO, hend => by
  show pgM (if _ then _ else _) tr = _
  split
  ·rename_i hall
   obtain ⟨hO3, hpgA⟩ := fe.drop hO hend.tail.all (fun y hy => by
    have := List.all_eq_true.1 hall y hy
    simpa using this)
   rw [kL (h :: t) hO3 hend.tail, xF hpgA]
  ·rfl
theorem uk (A : Nat -> Addr) (h : UAt w n0 r rd f d s (m + 1)) (hE : cE A n0 w) (hm : m + 1 <= 2 ^ 60) (hend : mq s.U s.tr s.ep) :
  Calls Tryz.prog eI ⟨[aw r]⟩ w fun e w' => ∃ e', e = .returned (errO A e') /\ yV w n0 r rd f d s m (none, ⟨ee s.tr s.U, s.tr, s.ep, s.T⟩) e' w' := by
 refine l6 _ ?_
 unfold jl
 have hUL := h.S.len
 have hk19 := h.S.k
 have hULe : (sU s.U).length = s.U.length := by simp
 have hso := jC (R := fun a b => a < b) h.S.I.so
 refine ak (fun r2 w3 hr2 hb2 k2 hs2 => ?_)
 have o2 := ao.eV hb2
 have lt := h.lt
 refine ⟨_, o2.cell 0 (by simp), aa rfl ⟨_, (h.ae k2).M.c.1, (mf (h.ae k2).S.B.S (by omega)).mono ?_⟩⟩
 rintro e w8 ⟨s9, rfl, hI9, hf9, k8⟩
 have z3 := k2.size
 have z8 := k8.size
 have hl9 : s9.l = s.U.length := by
  have := Rows.sl hI9
  simpa using this
 have hne : s.U ≠ [] := by
  obtain ⟨M, p, n, rs, e⟩ := hend
  rw [e]; simp
 have hpos : 0 < s.U.length := List.length_pos_iff.2 hne
 refine ⟨s9, rfl, fun i w2 => ∃ (j : Nat) (f2 : UnF) (d2 : aF) (s2 : UnS), i = j /\ j < s.U.length /\ UAt w2 n0 r rd f2 d2 s2 (m + 1) /\ s2.U = s.U.drop j /\ s2.tr = s.tr /\ s2.ep = s.ep /\ s2.T = s.T /\ pgM s2.U s.tr = pgM s.U s.tr /\ ee s.tr s2.U = ee s.tr s.U /\ mq s2.U s.tr s.ep /\
   d2.n = d.n /\ d2.stops = d.stops /\ gl r rd f f2 w w2 /\ az w2 s9 ((sU s.U).map fun g => (g.num : Int)) /\ (∀ k, UB r rd f2 k -> ¬ ah s9 k /\ k ≠ r2) /\ ao w2 r2 [aw r], fun i _ => ((s.U.length : Int) - i).toNat,
  ⟨0, f, d, s, rfl, hpos, (h.ae k2).ae k8, by simp, rfl, rfl, rfl, rfl, rfl, hend, rfl, rfl, (k2.trans k8).Dc (gl.refl _ _ _ _), hI9, fun k hk => ⟨fun hh => ?_, ?_⟩, o2.ae k8⟩, ?_⟩
 ·have := hf9 k hh; have := lt.1 k hk; omega
 ·have := lt.1 k hk; omega
 rintro i w13 ⟨j, f2, d2, s2, rfl, hj, h2, e1, e2, e3, e4, e5, e6, hend2, hdn, hds, uf, hI13, hap, o13⟩
 intros
 have z13 := uf.1.1.size
 -- what there is
 have hdrop : s.U.drop j = s.U[j] :: s.U.drop (j + 1) := List.drop_eq_getElem_cons hj
 have same : ∀ U, tC U s2 -> tC U s := fun U ⟨t1, t2⟩ => by
  rw [e2, e3, e4] at t1
  refine ⟨t1, fun a => ?_⟩
  have := t2 a
  rw [e2] at this
  rw [this, e5]
 have done : ∀ {w5}, aj w13 w5 -> ee s.tr s2.U = s2.U -> yV w n0 r rd f d s m (none, ⟨ee s.tr s.U, s.tr, s.ep, s.T⟩) none w5 := fun k5 hr => by
  refine .inl ⟨rfl, f2, d2, ?_, hdn, hds, uf.ae k5⟩
  have := h2.ae k5
  rw [hr] at e6
  have e7 : s2 = ⟨ee s.tr s.U, s.tr, s.ep, s.T⟩ := by
   cases s2
   simp only at e2 e3 e4 e6 ⊢
   rw [e2, e3, e4, e6]
  rw [<- e7]; exact this
 refine af (fun h0 => ?_) (fun h0 => absurd h0 (by omega))
 obtain ⟨a52, ha52, hc52⟩ := hI13.get (i := j) (by simpa using hj)
 have hnum : (((sU s.U).map fun g => (g.num : Int))[j]'(by simpa using hj)) = (s.U[j].num : Int) := by simp [aL.s]
 rw [hnum] at hc52
 refine aa ha52 ⟨by omega, h0, _, by rw [Int.toNat_natCast]; exact hc52, ?_⟩
 refine ⟨fun w2 => aj w13 w2 /\ ∃ g' t', s2.U = s.U[j] :: g' :: t' /\ (pagesOf s.U[j].rs).all (fun y => decide (y.1 < s.tr)) = true, ⟨_, o13.cell 0 (by simp), aa rfl ⟨_, h2.M.c.1, (sT h2.S.B.S (by have := h2.S.len; omega)).mono ?_⟩⟩, ?_⟩
 ·rintro e w59 ⟨rfl, k59⟩
  have h59 := h2.ae k59
  have hlen2 : (sU s2.U).length = s.U.length - j := by rw [e1]; simp
  have hlast := mE (L := sU s2.U) (by omega)
  have hso2 := jC (R := fun a b => a < b) h2.S.I.so
  have e0 : s2.U = s.U[j] :: s.U.drop (j + 1) := by rw [e1, hdrop]
  refine ⟨_, rfl, af (fun h3 => ?_) (fun h3 => ?_)⟩
  ·refine ⟨none, rfl, done k59 ?_⟩
   cases ht : s.U.drop (j + 1) with
   | nil => rw [e0, ht]; rfl
   | cons g' t' =>
    exfalso
    rw [hlast] at h3
    have hl : (s2.U).length = t'.length + 2 := by rw [e0, ht]; simp
    have e8 : ((sU s2.U)[(sU s2.U).length - 1]'(by omega)).num = (s2.U[s2.U.length - 1]'(by omega)).num := by simp [aL.s]
    rw [e8] at h3
    have := List.pairwise_iff_getElem.1 hso2 0 (s2.U.length - 1) (by omega) (by omega) (by omega)
    have e9 : s2.U[0]'(by omega) = s.U[j] := by simp [e0]
    rw [e9] at this
    omega
  ·cases ht : s.U.drop (j + 1) with
   | nil =>
    exfalso
    rw [hlast] at h3
    have hl : (s2.U).length = 1 := by rw [e0, ht]; simp
    have e8 : ((sU s2.U)[(sU s2.U).length - 1]'(by omega)).num = (s2.U[s2.U.length - 1]'(by omega)).num := by simp [aL.s]
    rw [e8] at h3
    have e9 : s2.U[s2.U.length - 1]'(by omega) = s.U[j] := by simp [e0, ht]
    rw [e9] at h3
    omega
   | cons g' t' =>
    rw [ht] at e0
    have hdist : ∀ y ∈ g' :: t', y.num ≠ s.U[j].num := fun y hy => by
     rw [e0] at hso2
     have := (List.pairwise_cons.1 hso2).1 y hy; omega
    obtain ⟨es, g1, g2⟩ := h59.M.i.get
    have hiv := h59.M.iv (s.U[j].num : Int)
    have hfew := h2.O.vI (s.U[j].num : Int)
    have hin : gm s2.U (s.U[j].num : Int) = (pagesOf s.U[j].rs).map fun y => (y.1 : Int) := by rw [e0]; exact AB hdist
    refine ⟨_, (o13.ae k59).cell 0 (by simp), aa rfl ⟨_, h59.M.c.2.2.1, es, g1, lookL f2.x.il (s.U[j].num : Int), g2 _, (tD h59.M (o13.ae k59) _ _ hiv (by omega)).mono ?_⟩⟩
    rintro e w67 ⟨rfl, rfl⟩
    rw [hin, e2, B1]
    refine ⟨_, rfl, ai (fun h4 => ⟨none, rfl, done k59 ?_⟩) (fun h4 => ⟨k59, g', t', e0, by simpa using h4⟩)⟩
    have h5 : (pagesOf s.U[j].rs).all (fun y => decide (y.1 < s.tr)) = false := by simpa using h4
    rw [e0]
    show (if _ then _ else _) = _
    rw [h5, if_neg (by simp)]
 ·rintro w69 ⟨k69, g', t', e0, hall⟩
  intros
  have h69 := h2.ae k69
  have z69 := k69.size
  have hG : cE A n0 w69 := ((hE.ext uf.1.1 h.ge).ae k69)
  have hso2 := jC (R := fun a b => a < b) h2.S.I.so
  refine ⟨_, (o13.ae k69).cell 0 (by simp), aa rfl ⟨_, h69.M.c.1, (yK A h69.S (hG.g.sub pj) hm (s.U[j].num : Int)).mono ?_⟩⟩
  rintro e w92 ⟨e', rfl, q', d', hD', hdn', hds', hcase⟩
  rw [e0, yW] at hcase
  have hok2 := h2.O
  rw [e0] at hok2
  have hend3 : mq (g' :: t') s.tr s.ep := by rw [e0] at hend2; exact hend2.tail
  obtain ⟨hO3, hpgA⟩ := fe.drop (tr := s2.tr) (ep := s2.ep) (T := s2.T) hok2 (by rw [e2, e3]; exact hend3.all) (fun y hy => by
   have := List.all_eq_true.1 hall y hy
   rw [e2]; simpa using this)
  have hpgD := xF hpgA
  have hdist : ∀ y ∈ g' :: t', y.num ≠ s.U[j].num := fun y hy => by
   rw [e0] at hso2
   have := (List.pairwise_cons.1 hso2).1 y hy; omega
  rcases hcase with ⟨h5, _⟩ | ⟨_, rfl, u', hS', ft⟩ | ⟨_, rfl, hst, hcr, ft⟩
  ·exact absurd rfl h5
  ·refine ⟨_, rfl, aB A _, ai (fun hh => by cases hh) (fun _ => ?_)⟩
   have hM92 := h69.M.ext ft.1 h69.sep (fun k hk hh => h69.q8 k hk (.inr hh))
   have sepW : ∀ k, UnW r f2.x k -> ¬ bT f2.st u' rd q' k := fun k hk hh => (ft.2 k hh).elim (h2.sep k hk) (fun hh => by have := h69.M.lt.1 k hk; omega)
   have hb92 : ∀ k, bT f2.st u' rd q' k -> ¬ ah s9 k /\ k ≠ r2 := fun k hk => by
    rcases ft.2 k hk with g | g
    ·exact hap k (.inr g)
    ·refine ⟨fun hh => ?_, fun hh => ?_⟩
     ·have := Rows.lt hI13 k hh; omega
     ·have := o13.lt; omega
   have I92 := (hI13.ae k69).ext ft.1 (fun k hk hh => (hap k (.inr hh)).1 hk)
   have o92 := (o13.ae k69).ext ft.1 (fun hh => (hap _ (.inr hh)).2 rfl)
   obtain ⟨es1, ck1, es2, m1, m2, m3⟩ := hM92.i.del (s.U[j].num : Int)
   refine ⟨_, o92.cell 0 (by simp), aa rfl ⟨_, hM92.c.2.2.1, f2.x.mi, es1, ck1, es2, rfl, m1, m2, fun w101 hw101 => ?_⟩⟩
   obtain ⟨i101, e101, z101⟩ := m3 w101 hw101
   have hM101 := hM92.D8 (s.U[j].num : Int) i101 e101
   have hin : gm (g' :: t') = fi (gm s2.U) (s.U[j].num : Int) [] := by rw [e0]; exact AD hdist
   rw [<- hin] at hM101
   have hpg : pgM s2.U s2.tr = pgM (g' :: t') s2.tr := by rw [e0]; exact hpgD.symm
   rw [hpg] at hM101
   have hS101 := hS'.ext e101 (fun k hk hh => sepW f2.x.mi (.inr (.inr (.inl rfl))) (by rw [<- show k = f2.x.mi from hh]; exact hk))
   have jlt : j + 1 < s.U.length := by
    have : (s.U.drop j).length = t'.length + 2 := by rw [<- e1, e0]; simp
    rw [List.length_drop] at this; omega
   have subW : ∀ k, UnW r { f2.x with il := gS f2.x.il (s.U[j].num : Int) } k -> UnW r f2.x k := by
    rintro k (hk | hk | hk | ⟨b, s1, hs1, hk⟩)
    ·exact .inl hk
    ·exact .inr (.inl hk)
    ·exact .inr (.inr (.inl hk))
    ·dsimp only at hs1
     rw [oP _ b h2.M.i.nd] at hs1
     by_cases e : b = (s.U[j].num : Int)
     ·rw [if_pos e] at hs1; cases hs1
     ·rw [if_neg e] at hs1
      exact .inr (.inr (.inr ⟨b, s1, hs1, hk⟩))
   have x101 : Ext (UB r rd f2) w13 w101 := (Ext.trans k69 (ft.1.mono (fun k hk => Or.inr hk)) (fun _ h => h.elim) (fun _ h => .inl h)).trans e101 (fun _ h => h) (fun k hk => .inl (.inl (.inr (.inr (.inl hk)))))
   have uf101 : gl r rd f2 ⟨f2.st, { f2.x with il := gS f2.x.il (s.U[j].num : Int) }, u', q', f2.top⟩ w13 w101 := by
    refine ⟨⟨x101, fun k hk => ?_⟩, fun k hk => .inl hk⟩
    rcases hk with hk | hk
    ·exact .inl (.inl (subW k hk))
    ·exact (ft.2 k hk).elim (fun g => .inl (.inr g)) (fun g => .inr (by omega))
   refine ⟨ar (by omega), ⟨j + 1, ⟨f2.st, { f2.x with il := gS f2.x.il (s.U[j].num : Int) }, u', q', f2.top⟩, d', ⟨g' :: t', s2.tr, s2.ep, s2.T⟩, rfl, jlt, ⟨hS101, hM101, hO3, h2.t, h2.T, fun k hk hh => sepW k (subW k hk) hh, fun k hk hh => ?_, fun k hk => h2.n k (subW k hk)⟩, ?_, e2, e3, e4, ?_, ?_, hend3, by rw [hdn', hdn], by rw [hds', hds], uf.trans uf101, ?_, ?_, ?_⟩, by dsimp only; omega⟩
   ·rcases hh with hh | hh
    ·exact h2.q8 k hk (.inl (subW k hh))
    ·rcases ft.2 k hh with g | g
     ·exact h2.q8 k hk (.inr g)
     ·have := h69.M.lt.2 k hk; omega
   ·show g' :: t' = s.U.drop (j + 1)
    have : (s.U.drop j).tail = (s2.U).tail := by rw [e1]
    rw [hdrop, e0] at this
    exact this.symm
   ·show pgM (g' :: t') s.tr = _
    rw [<- e5, <- e2, hpg]
   ·show ee s.tr (g' :: t') = _
    rw [<- e6, e0]
    show _ = (if _ then _ else _)
    rw [hall, if_pos rfl]
   ·exact I92.ext e101 (fun k hk hh => (hap k (.inl (.inr (.inr (.inl hh))))).1 hk)
   ·rintro k (hk | hk)
    ·exact hap k (.inl (subW k hk))
    ·exact hb92 k hk
   ·exact o92.ext e101 (fun hh => (hap r2 (.inl (.inr (.inr (.inl hh))))).2 rfl)
  ·refine ⟨_, rfl, aB A _, ai (fun _ => ⟨some 11, rfl, .inr ⟨rfl, by rw [<- hds]; exact hst, q', d', hD', by rw [hdn', hdn], by rw [hds', hds], ⟨hcr.1, fun a b c => ?_⟩, ?_⟩⟩) (fun hh => by cases hh)⟩
   ·obtain ⟨L, hL, hI⟩ := hcr.2 a b c
    rw [hdn] at hI
    simp only [List.mem_cons, List.not_mem_nil, or_false] at hL
    rcases hL with rfl | rfl
    ·refine ⟨s.U[j] :: g' :: t', hI, fun g hg => h2.S.N g (by rw [e0]; exact hg), s, by simp, same _ ⟨hok2, fun a => by rw [e0]⟩⟩
    ·refine ⟨g' :: t', hI, fun g hg => h2.S.N g (by rw [e0]; exact List.mem_cons_of_mem _ hg), s, by simp, same _ ⟨hO3, fun a => by rw [hpgD, e0]⟩⟩
   ·have f1 : bj (UB r rd f2) (aY rd q') w13 w92 := ⟨Ext.trans k69 (ft.1.mono (fun k hk => Or.inr hk)) (fun _ h => h.elim) (fun _ h => .inl h), fun k hk => (ft.2 k hk).elim (fun g => .inl (.inr g)) (fun g => .inr (by omega))⟩
    exact uf.1.trans f1
theorem tC.trans {U : List aL} {s1 s2 : UnS} (h : tC U s1) (e1 : s2.tr = s1.tr) (e2 : s2.ep = s1.ep) (e3 : s2.T = s1.T) (e4 : ∀ a, pgM s1.U s1.tr a = pgM s2.U s1.tr a) : tC U s2 := by
 obtain ⟨t1, t2⟩ := h
 refine ⟨by rw [e1, e2, e3]; exact t1, fun a => ?_⟩
 rw [e1, t2 a, e4 a]
theorem yX (A : Nat -> Addr) (h : UAt w n0 r rd f d s m) (hE : cE A n0 w) (hm : m + 1 <= 2 ^ 60) (epoch to : Int) :
  Calls Tryz.prog fT ⟨[aw r, .int .i64 epoch, .int .i64 to]⟩ w fun e w' => ∃ e', e = .returned (errO A e') /\ yV w n0 r rd f d s m (gu (d.n / 64) s epoch to) e' w' := by
 refine oO _ _ _ ?_
 unfold l7
 have hG : bn BH A n0 w := hE.g.sub px
 refine (mn A h.M epoch to 4096 hG).mono ?_
 rintro e w6 ⟨rfl, rfl⟩
 unfold gu
 cases hc : cL s.ep epoch to 4096 with
 | some c => exact ⟨_, rfl, aB A _, ai (fun _ => ⟨_, rfl, h.xD (Ext.refl _ _)⟩) (fun hh => by cases hh)⟩
 | none =>
  have ha : 0 <= to /\ to <= 4096 := by
   unfold cL at hc
   split at hc
   ·cases hc
   ·split at hc
    ·cases hc
    ·omega
  refine ⟨_, rfl, aB A _, ai (fun hh => by cases hh) (fun _ => aa rfl ⟨_, h.M.c.2.2.2.1, af (fun h0 => ?_) (fun h0 => ?_)⟩)⟩
  ·dsimp only
   rw [if_pos h0]
   exact ⟨none, rfl, h.xD (Ext.refl _ _)⟩
  dsimp only
  rw [if_neg h0]
  obtain ⟨tn, rfl⟩ : ∃ tn : Nat, to = tn := ⟨to.toNat, by omega⟩
  rw [Int.toNat_natCast]
  have hok : okR (.trim tn s.ep) := ⟨by omega, h.T.2⟩
  have ht4 := h.T.1
  have htt := h.t
  have htl := h.O.tl
  refine (pD A h.S h.M hE (by omega) (.trim tn s.ep) hok (fun _ _ hh => by cases hh; rfl) ⟨none, 0, 0⟩ (fun ⟨_, _, hh⟩ => by cases hh)).mono ?_
  rintro e w53 ⟨n, e', w1, rfl, k1, hp⟩
  rcases hp.unit hok with ⟨ha1, rfl, hD, hk⟩ | ⟨n', V, ha1, rfl, rfl, u', q', d', hS', hn', hst', ft⟩ | ⟨n', V, ha1, rfl, hst, q', d', hD', hn', hst', hcr, ft⟩
  ·rw [ha1]
   exact ⟨_, _, rfl, aB A _, ai (fun _ => ⟨_, rfl, h.xD (k1.trans hk)⟩) (fun hh => by cases hh)⟩
  ·rw [ha1]
   have hO' := uS h.O hok ha1 (fun a' t' he y hy => by cases he)
   have eT : max (cU (pgU s.U)) tn = max s.T tn := by omega
   have ft' : bj (bT f.st f.u rd f.q) (bT f.st u' rd q') w6 w53 := k1.iU ft
   obtain ⟨hM53, sepW, q8⟩ := h.DU hok (fun _ _ hh => by cases hh) ha1 hS' ft'
   obtain ⟨c1, c2⟩ := hM53.o.bf 3 (by simp) (.int .i64 (tn : Int))
   refine ⟨_, _, rfl, aB A _, ai (fun hh => by cases hh) (fun _ => aa rfl ?_)⟩
   rw [add_lit]
   refine ⟨c1, fun w14 hw14 => ?_⟩
   obtain ⟨o14, e14, _⟩ := c2 w14 hw14
   have hM14 := hM53.CQ e14 o14
   have hS14 := hS'.ext e14 (fun k hk hh => sepW r (.inl rfl) (by rw [<- show k = r from hh]; exact hk))
   have x14 : Ext (UB r rd f) w6 w14 := (ft'.1.mono (fun k hk => Or.inr hk)).trans e14 (fun _ h => h) (fun k hk => .inl (.inl (.inl hk)))
   refine (py hM14).mono ?_
   rintro e w16 ⟨rfl, x', hM16, t1, t2, t3⟩
   have z53 := ft'.1.size
   have z14 := e14.size
   have z16 := t1.size
   have hcut : tw (tn : Int) (pgM V s.tr) = pgM V tn := by
    funext a
    unfold tw pgM
    by_cases e : a < (tn : Int)
    ·rw [if_pos e, if_pos e]
    ·rw [if_neg e, if_neg e, if_neg (by omega)]
   rw [hcut] at hM16
   have hSlt := hS'.B.lt
   have x16 : Ext (UB r rd f) w6 w16 := x14.trans t1 (fun _ h => h) (fun k hk => .inl (.inl hk))
   have hO1 : fe V tn s.ep (max s.T tn) := by
    have := hO'
    simp only [iR, tailR] at this
    rw [eT] at this; exact this
   have h16 : UAt w16 n0 r rd ⟨f.st, x', u', q', f.top⟩ d' ⟨V, tn, s.ep, max s.T tn⟩ (m + 1) := by
    refine ⟨hS14.ext t1 (fun k hk hh => sepW k hh hk), hM16, hO1, ⟨htt.1, by show max f.top (tn : Int) = ((max s.T tn : Nat) : Int); omega⟩, ⟨by show max s.T tn <= 4096; omega, h.T.2⟩, fun k hk hh => ?_, fun k hk hh => ?_, fun k hk => ?_⟩
    ·rcases t2 k hk with g | g
     ·exact sepW k g hh
     ·have := hSlt k hh; omega
    ·rcases hh with hh | hh
     ·exact hM16.DV k hk hh
     ·have hl := hSlt k hh
      rcases t3 k hk with g | g | g
      ·exact q8 k g (.inr hh)
      ·exact g
      ·omega
    ·rcases t2 k hk with g | g
     ·exact h.n k g
     ·have := h.S.B.z; omega
   have uf16 : gl r rd f ⟨f.st, x', u', q', f.top⟩ w6 w16 := by
    refine ⟨⟨x16, fun k hk => ?_⟩, fun k hk => ?_⟩
    ·rcases hk with hk | hk
     ·rcases t2 k hk with g | g
      ·exact .inl (.inl g)
      ·exact .inr (by omega)
     ·exact (ft'.2 k hk).imp .inr (fun g => g)
    ·rcases t3 k hk with g | g | g
     ·exact .inl g
     ·exact g.elim
     ·exact .inr (by omega)
   have hend : mq V tn s.ep := by
    obtain ⟨_, _, M, g, rfl, _⟩ := gk ha1
    exact ⟨M, g.place, g.num, g.rs, rfl⟩
   refine ⟨rfl, (uk A h16 (hE.ext x16 h.ge) hm hend).mono ?_⟩
   rintro e w18 ⟨e', rfl, hcase⟩
   refine ⟨_, rfl, e', rfl, ?_⟩
   rcases hcase with ⟨rfl, f2, d2, h2, hd1, hd2, uf⟩ | ⟨rfl, hst, q2, d2, hD2, hd1, hd2, hcr, ft2⟩
   ·exact .inl ⟨rfl, f2, d2, h2, by rw [hd1, hn'], by rw [hd2, hst'], uf16.trans uf⟩
   ·refine .inr ⟨rfl, by rw [<- hst']; exact hst, q2, d2, hD2, by rw [hd1, hn'], by rw [hd2, hst'], ⟨hcr.1, fun a b c => ?_⟩, uf16.1.trans ft2⟩
    obtain ⟨U2, g1, g2, s2, g3, g4⟩ := hcr.2 a b c
    rw [hn'] at g1
    refine ⟨U2, g1, g2, _, List.mem_cons_of_mem _ (List.mem_singleton.2 rfl), ?_⟩
    simp only [List.mem_cons, List.not_mem_nil, or_false] at g3
    rcases g3 with rfl | rfl
    ·exact g4.trans rfl rfl rfl (fun a => by rw [kL V hO1 hend])
    ·exact g4
  ·rw [ha1]
   have hO' := uS h.O hok ha1 (fun a' t' he y hy => by cases he)
   have eT : max (cU (pgU s.U)) tn = max s.T tn := by omega
   have hO1 : fe V tn s.ep (max s.T tn) := by
    have := hO'
    simp only [iR, tailR] at this
    rw [eT] at this; exact this
   have hend : mq V tn s.ep := by
    obtain ⟨_, _, M, g, rfl, _⟩ := gk ha1
    exact ⟨M, g.place, g.num, g.rs, rfl⟩
   exact ⟨_, _, rfl, aB A _, ai (fun _ => ⟨some 11, rfl, .inr ⟨rfl, hst, q', d', hD', hn', hst', hcr.unit h.S.N ha1 rfl h.O ⟨hO1, fun a => by rw [kL V hO1 hend]⟩, ⟨(k1.iU ft).1.mono (fun k hk => .inr hk), fun k hk => ((k1.iU ft).2 k hk).imp .inr (fun g => g)⟩⟩⟩) (fun hh => by cases hh)⟩
end
end Go.D
namespace Go.D
open Go Go.Proofs
structure Rz where
 g : aE
 n : Int
 s : Slc
 c : List (List Value)
def rzC (z : Rz) : List Value := [.int .i64 (z.g.place : Int), .int .i64 (z.g.num : Int), .int .i64 z.n, z.s.v]
theorem zL {z : Rz} {k : Nat} (h : j0 (rzC z) k) : 0 < z.s.l /\ ah z.s k := by
 obtain ⟨s', hs, h1, h2⟩ := h
 have : s' = z.s := by
  obtain ⟨g, n, ⟨p, l, c⟩, c2⟩ := z
  obtain ⟨p', l', c'⟩ := s'
  simp [rzC, Slc.v] at hs
  obtain ⟨rfl, rfl, rfl⟩ := hs
  rfl
 subst this
 exact ⟨h1, h2⟩
def RzR : vm Rz where
 n := 4
 pos := by omega
 R w z cs := cs = rzC z /\ ∀ k, ah z.s k -> k < w.heap.size
 len h := by rw [h.1]; rfl
 one h := by rw [h.1]; intro v hv; simp [rzC] at hv; rcases hv with rfl | rfl | rfl | rfl <;> rfl
 ext h he _ := ⟨h.1, fun k hk => Nat.lt_of_lt_of_le (h.2 k hk) he.size⟩
 lt h := by rw [h.1]; intro k hk; exact h.2 k (zL hk).2
abbrev gL (zs : List Rz) : List aE := zs.map (·.g)
structure q9 (w : World) (r k : Nat) (sl : Slc) (zs : List Rz) : Prop where
 o : ao w r [.int .i64 (k : Int), sl.v]
 s : Rows RzR w sl zs (zs.map rzC)
 b : ∀ z ∈ zs, Rows sS w z.s z.g.cc z.c
 n : ∀ z ∈ zs, z.n = (sumN z.g.cc : Int)
 sep : zs.Pairwise fun x y => ∀ k, ah x.s k -> ¬ ah y.s k
 nr : ¬ ah sl r
 ds : ∀ z ∈ zs, ∀ k, ah z.s k -> k ≠ r /\ ¬ ah sl k
 bt : ∀ z ∈ zs, ∀ k, eZ z.c k -> k ≠ r /\ ¬ ah sl k /\ ∀ y ∈ zs, ¬ ah y.s k
def RfW (r : Nat) (sl : Slc) (zs : List Rz) (k : Nat) : Prop := k = r \/ ah sl k \/ ∃ z ∈ zs, ah z.s k
def RfY (zs : List Rz) (k : Nat) : Prop := ∃ z ∈ zs, eZ z.c k
section
variable {w w' : World} {r k : Nat} {sl : Slc} {zs : List Rz}
theorem q9.ext {M : Nat -> Prop} (h : q9 w r k sl zs) (he : Ext M w w') (h1 : ∀ j, RfW r sl zs j -> ¬ M j) (h2 : ∀ j, RfY zs j -> ¬ M j) : q9 w' r k sl zs := by
 refine ⟨h.o.ext he (h1 _ (.inl rfl)), h.s.ext he (fun j hj => h1 j (.inr (.inl hj))) (fun j hj => ?_), fun z hz => (h.b z hz).ext he (fun j hj => h1 j (.inr (.inr ⟨z, hz, hj⟩))) (fun j hj => h2 j ⟨z, hz, hj⟩), h.n, h.sep, h.nr, h.ds, h.bt⟩
 obtain ⟨cs, hc, hk⟩ := hj
 obtain ⟨z, hz, rfl⟩ := List.mem_map.1 hc
 exact h1 j (.inr (.inr ⟨z, hz, (zL hk).2⟩))
theorem q9.lt (h : q9 w r k sl zs) : (∀ j, RfW r sl zs j -> j < w.heap.size) /\ ∀ j, RfY zs j -> j < w.heap.size := by
 refine ⟨?_, ?_⟩
 ·rintro j (rfl | hj | ⟨z, hz, hj⟩)
  ·exact h.o.lt
  ·exact h.s.lt j hj
  ·exact (h.b z hz).lt j hj
 ·rintro j ⟨z, hz, hj⟩
  exact (h.b z hz).flt j hj
theorem q9.at (h : q9 w r k sl zs) {i : Nat} (hi : i < zs.length) : ∃ a : Addr, sl.p = some a /\ rowAt w (a.add (i * 4)) 0 (rzC zs[i]) := by
 obtain ⟨a, ha, _, hrow⟩ := h.s.get (i := i) (by simpa using hi)
 rw [List.getElem_map] at hrow
 exact ⟨a, ha, hrow⟩
end
end Go.D
namespace Go.D
open Go Go.Proofs
section
variable {w w' : World} {r k : Nat} {sl : Slc} {M zs : List Rz} {z z' : Rz}
def B2 (r : Nat) (sl sl' : Slc) (zs zs' : List Rz) (w w' : World) : Prop := Ext (RfW r sl zs) w w' /\ (∀ j, RfW r sl' zs' j -> RfW r sl zs j \/ w.heap.size <= j) /\ ∀ j, RfY zs' j -> RfY zs j \/ w.heap.size <= j
theorem B2.trans {sl1 sl2 sl3 : Slc} {z1 z2 z3 : List Rz} {a b c : World} (h1 : B2 r sl1 sl2 z1 z2 a b) (h2 : B2 r sl2 sl3 z2 z3 b c) : B2 r sl1 sl3 z1 z3 a c :=
 ⟨h1.1.trans h2.1 (fun _ h => h) (fun j hj => h1.2.1 j hj), fun j hj => (h2.2.1 j hj).elim (h1.2.1 j) (fun h => .inr (Nat.le_trans h1.1.size h)), fun j hj => (h2.2.2 j hj).elim (h1.2.2 j) (fun h => .inr (Nat.le_trans h1.1.size h))⟩
end
end Go.D
namespace Go.D
open Go Go.Proofs
section
variable {w w' : World} {r k : Nat} {sl sl' : Slc} {zs zs' : List Rz}
theorem q9.sub (h : q9 w r k sl zs) (hsub : zs'.Sublist zs) (he : Ext (fun j => j = r) w w') (ho : ao w' r [.int .i64 (k : Int), sl'.v]) (hs : Rows RzR w' sl' zs' (zs'.map rzC)) (hf : ∀ j, ah sl' j -> w.heap.size <= j) :
  q9 w' r k sl' zs' /\ B2 r sl sl' zs zs' w w' := by
 have lt := h.lt
 have mem : ∀ z ∈ zs', z ∈ zs := fun z hz => hsub.subset hz
 refine ⟨⟨ho, hs, fun z hz => (h.b z (mem z hz)).ext he (fun j hj hh => (h.ds z (mem z hz) j hj).1 hh) (fun j hj hh => (h.bt z (mem z hz) j hj).1 hh), fun z hz => h.n z (mem z hz), h.sep.sublist hsub, fun hh => ?_, fun z hz j hj => ⟨(h.ds z (mem z hz) j hj).1, fun hh => ?_⟩, fun z hz j hj => ?_⟩, he.mono (fun j hj => .inl hj), ?_, ?_⟩
 ·have := hf r hh; have := h.o.lt; omega
 ·have := hf j hh; have := lt.1 j (.inr (.inr ⟨z, mem z hz, hj⟩)); omega
 ·obtain ⟨v1, v2, v3⟩ := h.bt z (mem z hz) j hj
  exact ⟨v1, fun hh => by have := hf j hh; have := lt.2 j ⟨z, mem z hz, hj⟩; omega, fun y hy => v3 y (mem y hy)⟩
 ·rintro j (hj | hj | ⟨z, hz, hj⟩)
  ·exact .inl (.inl hj)
  ·exact .inr (hf j hj)
  ·exact .inl (.inr (.inr ⟨z, mem z hz, hj⟩))
 ·rintro j ⟨z, hz, hj⟩
  exact .inl ⟨z, mem z hz, hj⟩
end
end Go.D
namespace Go.D
open Go Go.Proofs
end Go.D
namespace Go.D
open Go Go.Proofs
end Go.D
namespace Go.D
open Go Go.Proofs
end Go.D
namespace Go.D
open Go Go.Proofs
structure RuE where
 a : Nat
 t : List UInt8
 n : Nat
structure RuF where
 rs : Nat
 sl : Slc
 zs : List Rz
 sa : Slc
 sp : Slc
 si : Slc
 css : List (List Value)
def RuW (r : Nat) (f : RuF) (j : Nat) : Prop := j = r \/ RfW f.rs f.sl f.zs j \/ ah f.sa j \/ ah f.sp j \/ ah f.si j
def RuY (f : RuF) (j : Nat) : Prop := RfY f.zs j \/ eZ f.css j
structure RuC (r : Nat) (f : RuF) (c : Nat -> Nat) : Prop where
 cr : c r = 0
 cf : ∀ j, RfW f.rs f.sl f.zs j -> c j = 1
 ca : ∀ j, ah f.sa j -> c j = 2
 cp : ∀ j, ah f.sp j -> c j = 3
 ci : ∀ j, ah f.si j -> c j = 4
 cy : ∀ j, RuY f j -> c j = 5
structure vJ (w : World) (r k : Nat) (f : RuF) (P : List RuE) (tr ep top : Int) : Prop where
 o : ao w r [aw f.rs, f.sa.v, f.sp.v, f.si.v, .int .i64 tr, .int .i64 ep, .int .i64 top]
 R : q9 w f.rs k f.sl f.zs
 a : az w f.sa (P.map fun e => (e.a : Int))
 p : Rows sS w f.sp (P.map (·.t)) f.css
 i : az w f.si (P.map fun e => (e.n : Int))
 c : ∃ c, RuC r f c
section
variable {w w' : World} {r k : Nat} {f : RuF} {P : List RuE} {tr ep top : Int}
theorem vJ.ext {M : Nat -> Prop} (h : vJ w r k f P tr ep top) (he : Ext M w w') (h1 : ∀ j, RuW r f j -> ¬ M j) (h2 : ∀ j, RuY f j -> ¬ M j) : vJ w' r k f P tr ep top :=
 ⟨h.o.ext he (h1 _ (.inl rfl)), h.R.ext he (fun j hj => h1 j (.inr (.inl hj))) (fun j hj => h2 j (.inl hj)), h.a.ext he (fun j hj => h1 j (.inr (.inr (.inl hj)))), h.p.ext he (fun j hj => h1 j (.inr (.inr (.inr (.inl hj))))) (fun j hj => h2 j (.inr hj)),
  h.i.ext he (fun j hj => h1 j (.inr (.inr (.inr (.inr hj))))), h.c⟩
theorem vJ.ae (h : vJ w r k f P tr ep top) (he : aj w w') : vJ w' r k f P tr ep top := h.ext he (fun _ _ h => h) (fun _ _ h => h)
theorem vJ.lt (h : vJ w r k f P tr ep top) : (∀ j, RuW r f j -> j < w.heap.size) /\ ∀ j, RuY f j -> j < w.heap.size := by
 refine ⟨?_, ?_⟩
 ·rintro j (rfl | hj | hj | hj | hj)
  ·exact h.o.lt
  ·exact h.R.lt.1 j hj
  ·exact Rows.lt h.a j hj
  ·exact h.p.lt j hj
  ·exact Rows.lt h.i j hj
 ·rintro j (hj | hj)
  ·exact h.R.lt.2 j hj
  ·exact h.p.flt j hj
end
end Go.D
namespace Go.D
open Go Go.Proofs
section
variable {w0 w : World} {r k : Nat} {f : RuF} {tr ep top : Int} {b4 : Slc} {t : List UInt8} {sa sp si : Slc} {la li : List Int} {lp : List (List UInt8)} {css : List (List Value)} {X : List (Nat × List Value)} {B : List Slc}
def CX (r : Nat) (f f' : RuF) (w w' : World) : Prop := Ext (RuW r f) w w' /\ (∀ j, RuW r f' j -> RuW r f j \/ w.heap.size <= j) /\ ∀ j, RuY f' j -> RuY f j \/ w.heap.size <= j
theorem CX.trans {r : Nat} {f1 f2 f3 : RuF} {a b c : World} (h1 : CX r f1 f2 a b) (h2 : CX r f2 f3 b c) : CX r f1 f3 a c :=
 ⟨h1.1.trans h2.1 (fun _ h => h) (fun j hj => h1.2.1 j hj), fun j hj => (h2.2.1 j hj).elim (h1.2.1 j) (fun h => .inr (Nat.le_trans h1.1.size h)), fun j hj => (h2.2.2 j hj).elim (h1.2.2 j) (fun h => .inr (Nat.le_trans h1.1.size h))⟩
end
end Go.D
namespace Go.D
open Go
structure zM (P : List RuE) (top : Int) (s : UnS) : Prop where
 ok : ∀ e ∈ P, e.a < 4096 /\ e.t.length <= 2048
 fd : ∀ a : Nat, s.tr <= a -> (P.find? (fun e => decide ((e.a : Int) = (a : Int)))).map (·.t) = cK (pgU s.U) a
 t : 0 <= top /\ max top (s.tr : Int) = s.T
 nn : ∀ e ∈ P, e.n < fQ (sU s.U)
 ins : ∀ g ∈ s.U, ∀ a : Nat, (∃ e ∈ P, e.n = g.num /\ e.a = a) ↔ ∃ y ∈ pagesOf g.rs, y.1 = a
section
variable {P : List RuE} {top : Int} {s : UnS}
theorem zM.nil : zM [] 0 ⟨[], 0, 0, 0⟩ := ⟨by simp, fun a _ => rfl, by simp, by simp, by simp⟩
end
end Go.D

