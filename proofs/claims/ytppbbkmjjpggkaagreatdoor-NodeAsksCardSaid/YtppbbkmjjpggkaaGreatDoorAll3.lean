/-
  WHAT IS PROVED: contracts of functions, and the plain law, for this proof. No further conditions.
-/
import Derived.Test.YtppbbkmjjpggkaaGreatDoorAll2
import Derived.Test.YtppbbkmjjpggkaaGreatDoorVCref04
import Derived.Test.YtppbbkmjjpggkaaGreatDoorAll1
import Derived.Test.YtppbbkmjjpggkaaGreatDoorArgs
import Derived.Test.YtppbbkmjjpggkaaGreatDoorRd
import Derived.Test.YtppbbkmjjpggkaaGreatDoorVCsums
import Derived.Test.YtppbbkmjjpggkaaGreatDoorSub
import Derived.Test.YtppbbkmjjpggkaaGreatDoorVCwire
import Derived.Test.YtppbbkmjjpggkaaGreatDoorVCwire2
import Derived.Test.YtppbbkmjjpggkaaGreatDoorIsNil
import Derived.Test.YtppbbkmjjpggkaaGreatDoorVCnode
set_option linter.unusedVariables false
set_option linter.unusedSimpArgs false
namespace Go.D
open Go Go.Proofs
def kindR : Rc -> Int
 | .dy _ _ => 1
 | .trim _ _ => 2
 | .shut _ => 3
def sK : Rc -> Int
 | .dy a _ => a
 | .trim t _ => t
 | .shut e => e
def EV : Rc -> List UInt8
 | .dy _ t => t
 | _ => []
theorem lW {w : World} {n0 r st rd m : Nat} {u : StP} {q : cD} {d : aP} {L : List aJ} {x : UnP} {tr ep top : Int} {pg : Int -> Option (List UInt8)} {ins : Int -> List Int} (A : Nat -> Addr) (hS : Sys w n0 st rd u q d L m) (h : UnM w r st x tr ep top pg ins) (hE : bh A n0 w) (hm : m <= 2 ^ 60)
  (c : Rc) (hc : okR c) (hep : ∀ t e, c = .trim t e -> ep = (e : Int)) (s : Slc) (hb : (∃ a t, c = .dy a t) -> ag w s (EV c)) :
  Calls Tryz.prog cL ⟨[aw r, .int .i64 (kindR c), .int .i64 (sK c), s.v]⟩ w fun e w' => ∃ (n : Int) (e' : Option Nat) (w1 : World), e = .returned (.tuple ⟨[.int .i64 n, cj A e']⟩) /\ aj w w1 /\ oa A w1 n0 st rd u q d L m (encR c) n e' w' := by
 refine ou _ _ _ _ ?_
 unfold kO
 have hel := uA hc
 refine aq (fun r5 w6 hr5 hb5 k6 hs5 => ?_)
 have hO : zZ A w w6 r5 ⟨none, 0, 0⟩ [] := ⟨sI.new A hb5, fun k hk => by rw [yy hk]; omega, k6⟩
 have hk3 : 0 <= kindR c /\ kindR c <= 3 := by cases c <;> simp [kindR]
 have hn3 : 0 <= sK c /\ sK c <= 2 ^ 31 := by
  cases c with
  | dy a t => obtain ⟨v1, _⟩ := hc; simp only [sK]; omega
  | trim t e => obtain ⟨v1, _⟩ := hc; simp only [sK]; omega
  | shut e => have v1 : e <= 2 ^ 30 := hc; simp only [sK]; omega
 have hl1 := kZ (kindR c) (by omega)
 have hl2 := kZ (sK c) (by omega)
 refine (Aa hO (by omega) (by simp) hE).mono ?_
 rintro e w8 ⟨rfl, s8, h8, _⟩
 refine ⟨rfl, (Aa h8 (by omega) (by simp; omega) hE).mono ?_⟩
 rintro e w10 ⟨rfl, s10, h10, _⟩
 refine ⟨rfl, fun w2 => ∃ s2, zZ A w w2 r5 s2 (encR c), ?_, ?_⟩
 ·cases c with
  | dy a t =>
   obtain ⟨v1, v2, v3⟩ := hc
   refine ae (fun _ => ⟨t, ai (hb ⟨a, t, rfl⟩) h10.k, (DQ h10 (by omega) (by simp [kindR, sK] at hl1 hl2 ⊢; omega) hE).mono ?_⟩) (fun hh => absurd rfl hh)
   rintro e w14 ⟨rfl, s14, h14, _⟩
   exact ⟨rfl, s14, by simpa [encR, kindR, sK] using h14⟩
  | trim t e0 =>
   obtain ⟨v1, v2⟩ := hc
   have he := hep t e0 rfl
   subst he
   refine ae (fun hh => absurd hh (by simp [kindR])) (fun _ => ae (fun _ => aa rfl ⟨_, (h.af h10.k).c.2.2.2.2.1, (Aa h10 (by omega) (by simp [kindR, sK] at hl1 hl2 ⊢; omega) hE).mono ?_⟩) (fun hh => absurd rfl hh))
   rintro e w18 ⟨rfl, s18, h18, _⟩
   exact ⟨rfl, s18, by simpa [encR, kindR, sK] using h18⟩
  | shut e0 =>
   refine ae (fun hh => absurd hh (by simp [kindR])) (fun _ => ae (fun hh => absurd hh (by simp [kindR])) (fun _ => ⟨s10, by simpa [encR, kindR, sK] using h10⟩))
 ·rintro w19 ⟨s19, h19⟩
  intros
  refine (CQ h19 (by omega) hE).mono ?_
  rintro e w36 ⟨t, rfl, ht, htf, k36, _⟩
  have hS36 := hS.af k36
  refine ⟨t, _, rfl, trivial, ao (fun hh => by cases hh) (fun _ => aa rfl ⟨_, (h.af k36).c.1, ?_⟩)⟩
  refine Calls.mono (R := fun e w' => ∃ n e', e = .returned (.tuple ⟨[.int .i64 n, cj A e']⟩) /\ oa A w36 n0 st rd u q d L m (encR c) n e' w') (na _ _ (yq hS36 ((hE.af k36).g.sub qw) hm ht.bytes (ht.le (by omega)) (by omega) (fun _ k hk hh => ?_) (fun n e' w' hp => ⟨n, e', rfl, hp⟩))) ?_
  ·have := htf k hk
   have := hS.B.lt k hh
   omega
  ·rintro e w42 ⟨n, e', rfl, hp⟩
   exact ⟨n, _, rfl, n, e', w36, rfl, k36, hp⟩
end Go.D
namespace Go.D
open Go
structure UV where
 tr : Int
 ep : Int
 top : Int
 pg : Int -> Option (List UInt8)
 ins : Int -> List Int
def iZ (v : UV) (x : Int × Rc) : UV := ⟨CO v.tr x.2, CP v.ep x.2, tellTop v.top x.2, rz v.pg x.2, jG v.ins x.1 x.2⟩
def mu : UV := ⟨0, 0, 0, fun _ => none, fun _ => []⟩
def bI (Q : List (Int × Rc)) : UV := Q.foldl iZ mu
theorem fZ (Q : List (Int × Rc)) (x : Int × Rc) : bI (Q ++ [x]) = iZ (bI Q) x := by simp [bI]
theorem yC {R : List Rc} {y : Nat × List UInt8} : y ∈ pagesOf R ↔ Rc.dy y.1 y.2 ∈ R := by
 induction R with
 | nil => simp [pagesOf]
 | cons c R ih => cases c <;> simp [pagesOf, ih, Prod.ext_iff]
theorem lg {P : List (Int × Rc) -> Prop} (h0 : P []) (hs : ∀ Q x, P Q -> P (Q ++ [x])) : ∀ Q, P Q := by
 intro Q
 have key : ∀ n, P (Q.take n) := by
  intro n
  induction n with
  | zero => simpa using h0
  | succ n ih =>
   by_cases hn : n < Q.length
   ·rw [List.take_succ_eq_append_getElem hn]; exact hs _ _ ih
   ·rw [List.take_of_length_le (by omega)]
    rwa [List.take_of_length_le (by omega)] at ih
 have := key Q.length
 rwa [List.take_length] at this
theorem CR (Q : List (Int × Rc)) : ∀ a : Int, (∀ y ∈ pagesOf (Q.map (·.2)), (y.1 : Int) ≠ a) -> (bI Q).pg a = none := by
 refine lg (P := fun Q => ∀ a : Int, (∀ y ∈ pagesOf (Q.map (·.2)), (y.1 : Int) ≠ a) -> (bI Q).pg a = none) (fun a _ => rfl) (fun Q x ih a h => ?_) Q
 rw [fZ]
 rw [List.map_append, bj] at h
 have ih' := ih a (fun y hy => h y (by simp [hy]))
 obtain ⟨seg, c⟩ := x
 cases c with
 | dy b t =>
  have hb := h (b, t) (by simp [pagesOf])
  simp only [iZ, rz, gS]
  rw [if_neg (fun e => hb e.symm)]
  exact ih'
 | trim t e => exact ih'
 | shut e => exact ih'
theorem vN (Q : List (Int × Rc)) (hq : ∀ x ∈ Q, okR x.2) : 0 <= (bI Q).top /\ (bI Q).top <= 4096 := by
 refine lg (P := fun Q => (∀ x ∈ Q, okR x.2) -> 0 <= (bI Q).top /\ (bI Q).top <= 4096) (fun _ => by simp [bI, mu]) (fun Q x ih h => ?_) Q hq
 rw [fZ]
 have ih' := ih (fun y hy => h y (by simp [hy]))
 have hx := h x (by simp)
 obtain ⟨seg, c⟩ := x
 cases c with
 | dy b t =>
  obtain ⟨v1, _⟩ := hx
  simp only [iZ, tellTop]
  omega
 | trim t e => exact ih'
 | shut e => exact ih'
end Go.D
namespace Go.D
open Go Go.Proofs
def qs1 (g : aT) : List (Int × Rc) := g.rs.map fun c => ((g.num : Int), c)
def qsU (U : List aT) : List (Int × Rc) := U.flatMap qs1
theorem lX (U : List aT) : (qsU U).map (·.2) = eS U := by
 induction U with
 | nil => rfl
 | cons g U ih =>
  simp only [qsU, eS, List.flatMap_cons, List.map_append] at ih ⊢
  rw [ih]
  congr 1
  unfold qs1
  rw [List.map_map]
  exact List.map_id _
theorem CS (U : List aT) (j : Nat) (hj : j < U.length) : qsU (U.take (j + 1)) = qsU (U.take j) ++ qs1 U[j] := by
 unfold qsU
 rw [List.take_succ_eq_append_getElem hj, List.flatMap_append, List.flatMap_cons, List.flatMap_nil, List.append_nil]
theorem BC (U : List aT) (j n : Nat) (hj : j < U.length) (hn : n < U[j].rs.length) : ∃ R, qsU U = (qsU (U.take j) ++ (qs1 U[j]).take n) ++ (((U[j].num : Int), U[j].rs[n]) :: R) := by
 have e : U = U.take j ++ (U[j] :: U.drop (j + 1)) := by
  rw [<- List.drop_eq_getElem_cons hj, List.take_append_drop]
 have hq : n < (qs1 U[j]).length := by simpa [qs1] using hn
 have e2 : qs1 U[j] = (qs1 U[j]).take n ++ ((qs1 U[j])[n] :: (qs1 U[j]).drop (n + 1)) := by
  rw [<- List.drop_eq_getElem_cons hq, List.take_append_drop]
 have e3 : (qs1 U[j])[n] = ((U[j].num : Int), U[j].rs[n]) := by simp [qs1]
 refine ⟨(qs1 U[j]).drop (n + 1) ++ qsU (U.drop (j + 1)), ?_⟩
 have h1 : qsU U = qsU (U.take j) ++ (qs1 U[j] ++ qsU (U.drop (j + 1))) := by
  conv => lhs; rw [e]
  unfold qsU
  rw [List.flatMap_append, List.flatMap_cons]
 rw [h1]
 conv => lhs; rw [e2]
 rw [e3]
 simp
theorem CT {Q R : List (Int × Rc)} {seg : Int} {a : Nat} {t : List UInt8} (hn : ((pagesOf ((Q ++ ((seg, Rc.dy a t) :: R)).map (·.2))).map (·.1)).Nodup) : (bI Q).pg (a : Int) = none := by
 refine CR Q _ (fun y hy e => ?_)
 rw [List.map_append, bj, List.map_append] at hn
 have h1 := (List.nodup_append.1 hn).2.2 y.1 (List.mem_map.2 ⟨y, hy, rfl⟩) a (by simp [pagesOf])
 omega
end Go.D
namespace Go.D
open Go
def pgM (U : List aT) (tr : Nat) (a : Int) : Option (List UInt8) := if a < (tr : Int) then none else dI (pgU U) a.toNat
def gT (U : List aT) (n : Int) : List Int := (pagesOf (((qsU U).filter fun x => decide (x.1 = n)).map (·.2))).map fun y => (y.1 : Int)
theorem CU (Q : List (Int × Rc)) : (bI Q).tr = ((wU (Q.map (·.2))).1 : Int) /\ (bI Q).ep = ((wU (Q.map (·.2))).2 : Int) := by
 refine lg (P := fun Q => (bI Q).tr = ((wU (Q.map (·.2))).1 : Int) /\ (bI Q).ep = ((wU (Q.map (·.2))).2 : Int)) (by simp [bI, mu, wU]) (fun Q x ih => ?_) Q
 obtain ⟨seg, c⟩ := x
 rw [fZ, List.map_append, List.map_cons, List.map_nil, ru]
 cases c with
 | dy b t => exact ih
 | trim t e => exact ⟨rfl, rfl⟩
 | shut e => exact ⟨ih.1, rfl⟩
theorem yD (Q : List (Int × Rc)) : (bI Q).top = ((dK (pagesOf (Q.map (·.2)))) : Int) := by
 refine lg (P := fun Q => (bI Q).top = ((dK (pagesOf (Q.map (·.2)))) : Int)) (by simp [bI, mu, dK, pagesOf]) (fun Q x ih => ?_) Q
 obtain ⟨seg, c⟩ := x
 rw [fZ, List.map_append, List.map_cons, List.map_nil, bj]
 cases c with
 | dy b t =>
  simp only [iZ, tellTop, pagesOf]
  rw [zU, ih]; omega
 | trim t e => simpa [iZ, tellTop, pagesOf] using ih
 | shut e => simpa [iZ, tellTop, pagesOf] using ih
theorem Ab (Q : List (Int × Rc)) (hn : ((pagesOf (Q.map (·.2))).map (·.1)).Nodup) (a : Nat) : (bI Q).pg (a : Int) = dI (pagesOf (Q.map (·.2))) a := by
 revert hn
 refine lg (P := fun Q => ((pagesOf (Q.map (·.2))).map (·.1)).Nodup -> (bI Q).pg (a : Int) = dI (pagesOf (Q.map (·.2))) a) (fun _ => by simp [bI, mu, dI, pagesOf]) (fun Q x ih hn => ?_) Q
 obtain ⟨seg, c⟩ := x
 rw [List.map_append, List.map_cons, List.map_nil, bj] at hn ⊢
 rw [fZ]
 have hq : ((pagesOf (Q.map (·.2))).map (·.1)).Nodup := by rw [List.map_append] at hn; exact (List.nodup_append.1 hn).1
 have ih' := ih hq
 cases c with
 | dy b t =>
  simp only [iZ, rz, pagesOf, gS]
  rw [nG]
  by_cases e : (a : Int) = (b : Int)
  ·have e2 : b = a := by omega
   subst e2
   rw [if_pos rfl]
   have : dI (pagesOf (Q.map (·.2))) b = none := rZ.2 (fun y hy e => by
    rw [List.map_append] at hn
    exact (List.nodup_append.1 hn).2.2 y.1 (List.mem_map.2 ⟨y, hy, rfl⟩) b (by simp [pagesOf]) e)
   rw [this]; simp
  ·rw [if_neg e, ih']
   cases dI (pagesOf (Q.map (·.2))) a with
   | some y => rfl
   | none => simp only; rw [if_neg (by omega)]
 | trim t e => simpa [iZ, rz, pagesOf] using ih'
 | shut e => simpa [iZ, rz, pagesOf] using ih'
theorem sg (Q : List (Int × Rc)) (n : Int) : (bI Q).ins n = (pagesOf ((Q.filter fun x => decide (x.1 = n)).map (·.2))).map fun y => (y.1 : Int) := by
 refine lg (P := fun Q => (bI Q).ins n = (pagesOf ((Q.filter fun x => decide (x.1 = n)).map (·.2))).map fun y => (y.1 : Int)) (by simp [bI, mu, pagesOf]) (fun Q x ih => ?_) Q
 obtain ⟨seg, c⟩ := x
 rw [fZ, List.filter_append, List.map_append, bj, List.map_append, <- ih]
 by_cases e : seg = n
 ·subst e
  cases c with
  | dy b t => simp [iZ, jG, gS, pagesOf]
  | trim t e => simp [iZ, jG, pagesOf]
  | shut e => simp [iZ, jG, pagesOf]
 ·have e' : ¬ n = seg := fun h => e h.symm
  cases c with
  | dy b t => simp [iZ, jG, gS, pagesOf, e, e']
  | trim t e1 => simp [iZ, jG, pagesOf, e]
  | shut e1 => simp [iZ, jG, pagesOf, e]
theorem Ac {U : List aT} {tr ep T : Nat} (h : gp U tr ep T) : (bI (qsU U)).tr = (tr : Int) /\ (bI (qsU U)).ep = (ep : Int) /\ max (bI (qsU U)).top (tr : Int) = (T : Int) /\ uF (tr : Int) (bI (qsU U)).pg = pgM U tr /\ (bI (qsU U)).ins = gT U := by
 have h1 := CU (qsU U)
 have h2 := yD (qsU U)
 have hte := h.te
 have htl := h.tl
 rw [lX] at h1 h2
 rw [hte] at h1
 refine ⟨h1.1, h1.2, ?_, ?_, funext fun n => sg _ n⟩
 ·rw [h2]; show max ((dK (pgU U) : Nat) : Int) (tr : Int) = T
  omega
 ·funext a
  unfold uF pgM
  split
  ·rfl
  ·rename_i ha
   obtain ⟨b, rfl⟩ : ∃ b : Nat, a = b := ⟨a.toNat, by omega⟩
   rw [Ab _ (by rw [lX]; exact h.nd), lX]; rfl
theorem iq (U V : List aT) : qsU (U ++ V) = qsU U ++ qsU V := by simp [qsU]
theorem oe (g : aT) : qsU [g] = qs1 g := by simp [qsU]
theorem DS (M : List aT) (g : aT) (x : Rc) : qsU (M ++ [{ g with rs := g.rs ++ [x] }]) = qsU (M ++ [g]) ++ [((g.num : Int), x)] := by
 rw [iq, iq, oe, oe, List.append_assoc]
 simp [qs1]
theorem AP {U V : List aT} {n : Int} {x : Rc} (h : qsU V = qsU U ++ [(n, x)]) : gT V = jG (gT U) n x := by
 funext k
 have e0 : gT V k = gT U k ++ (pagesOf (([(n, x)].filter fun x => decide (x.1 = k)).map (·.2))).map fun y => (y.1 : Int) := by
  unfold gT
  rw [h, List.filter_append, List.map_append, bj, List.map_append]
 rw [e0]
 by_cases e : k = n
 ·subst e
  cases x <;> simp [jG, gS, pagesOf]
 ·have e' : ¬ n = k := fun h => e h.symm
  cases x <;> simp [jG, gS, pagesOf, e, e']
theorem filter_none {g : aT} {n : Int} (h : (g.num : Int) ≠ n) : (qs1 g).filter (fun x => decide (x.1 = n)) = [] := by
 rw [List.filter_eq_nil_iff]
 intro x hx
 obtain ⟨c, _, rfl⟩ := List.mem_map.1 hx
 simpa using h
theorem filter_all (g : aT) : (qs1 g).filter (fun x => decide (x.1 = (g.num : Int))) = qs1 g := by
 rw [List.filter_eq_self]
 intro x hx
 obtain ⟨c, _, rfl⟩ := List.mem_map.1 hx
 simp
theorem qK {U : List aT} {n : Int} (h : ∀ g ∈ U, (g.num : Int) ≠ n) : (qsU U).filter (fun x => decide (x.1 = n)) = [] := by
 induction U with
 | nil => rfl
 | cons g U ih =>
  rw [show g :: U = [g] ++ U from rfl, iq, oe, List.filter_append, filter_none (h g (by simp)), ih (fun g' hg' => h g' (by simp [hg']))]; rfl
theorem BD {g : aT} {U : List aT} (h : ∀ g' ∈ U, g'.num ≠ g.num) : gT (g :: U) (g.num : Int) = (pagesOf g.rs).map fun y => (y.1 : Int) := by
 unfold gT
 rw [show g :: U = [g] ++ U from rfl, iq, oe, List.filter_append, filter_all, qK (fun g' hg' e => h g' hg' (by omega)), List.append_nil]
 congr 2
 unfold qs1
 rw [List.map_map]
 exact List.map_id _
theorem BE {g : aT} {U : List aT} (h : ∀ g' ∈ U, g'.num ≠ g.num) : gT U = gS (gT (g :: U)) (g.num : Int) [] := by
 funext k
 unfold gS
 by_cases e : k = (g.num : Int)
 ·rw [if_pos e]
  unfold gT
  rw [e, qK (fun g' hg' e => h g' hg' (by omega))]; rfl
 ·rw [if_neg e]
  unfold gT
  rw [show g :: U = [g] ++ U from rfl, iq, oe, List.filter_append, filter_none (fun h => e h.symm), List.nil_append]
theorem CV (U : List aT) (n : Int) : (gT U n).length <= (pgU U).length := by
 unfold gT pgU
 rw [<- lX, List.length_map]
 have key : ∀ Q : List (Int × Rc), (pagesOf ((Q.filter fun x => decide (x.1 = n)).map (·.2))).length <= (pagesOf (Q.map (·.2))).length := by
  intro Q
  induction Q with
  | nil => simp
  | cons x Q ih =>
   obtain ⟨s, c⟩ := x
   by_cases e : s = n
   ·rw [List.filter_cons_of_pos (by simpa using e)]
    cases c <;> simp only [List.map_cons, pagesOf, List.length_cons] <;> omega
   ·rw [List.filter_cons_of_neg (by simpa using e)]
    cases c <;> simp only [List.map_cons, pagesOf, List.length_cons] <;> omega
 exact key _
def appU (k : Nat) (U : List aT) (x : Rc) : Option (Nat × List aT) :=
 if nF (sU U) (encR x).length then (if h : U ≠ [] then some ((U.getLast h).num, U.dropLast ++ [{ U.getLast h with rs := (U.getLast h).rs ++ [x] }]) else none)
 else match gO k (sU U) with
  | none => none
  | some p => some (g9 (sU U), U ++ [⟨p, g9 (sU U), [x]⟩])
def oL (k : Nat) (U : List aT) (n : Nat) : List aT :=
 if nF (sU U) n then U else match gO k (sU U) with
  | none => U
  | some p => U ++ [⟨p, g9 (sU U), []⟩]
theorem AQ {U : List aT} {n : Nat} (h : nF (sU U) n = true) : U ≠ [] := fun e => by subst e; simp [nF] at h
theorem DT {k : Nat} {U : List aT} {x : Rc} (h : okR x) : lU k (sU U) (encR x) = match appU k U x with | none => (some 12, 0, sU U) | some (n, V) => (none, (n : Int), sU V) := by
 have hl := uA h
 have hap : lU k (sU U) (encR x) = match kY k (sU U) (encR x).length with | none => (some 12, 0, sU U) | some L0 => (none, lastN L0, addRec L0 (encR x)) := by
  unfold lU; rw [if_neg (by omega)]; try rfl
 rw [hap]
 unfold appU kY
 by_cases hf : nF (sU U) (encR x).length = true
 ·have hne := AQ hf
  rw [if_pos hf, if_pos hf, dif_pos hne]
  have e : U.dropLast ++ [U.getLast hne] = U := List.dropLast_concat_getLast hne
  have e1 : sU U = sU U.dropLast ++ [(U.getLast hne).s] := by rw [show sU U = sU (U.dropLast ++ [U.getLast hne]) by rw [e]]; simp
  have e2 : sU (U.dropLast ++ [{ U.getLast hne with rs := (U.getLast hne).rs ++ [x] }]) = sU U.dropLast ++ [{ (U.getLast hne).s with cR := (U.getLast hne).s.cR ++ [encR x] }] := by simp [aT.s]
  simp only
  rw [e1, pC, j7, e2]; rfl
 ·rw [if_neg hf, if_neg hf]
  cases hp : gO k (sU U) with
  | none => rfl
  | some p =>
   simp only [Option.map_some]
   unfold nC
   rw [pC, j7]
   simp [aT.s]
theorem jg {k : Nat} {U V : List aT} {x : Rc} {n : Nat} (h : appU k U x = some (n, V)) : qsU V = qsU U ++ [((n : Int), x)] /\ (V.getLast?.map (·.num)) = some n /\ (∃ M g, V = M ++ [{ g with rs := g.rs ++ [x] }] /\ (M ++ [g] = U \/ ∃ p, gO k (sU U) = some p /\ M = U /\ g = ⟨p, g9 (sU U), []⟩)) := by
 unfold appU at h
 by_cases hf : nF (sU U) (encR x).length = true
 ·have hne := AQ hf
  rw [if_pos hf, dif_pos hne] at h
  cases h
  have e : U.dropLast ++ [U.getLast hne] = U := List.dropLast_concat_getLast hne
  refine ⟨?_, by simp, U.dropLast, U.getLast hne, rfl, .inl e⟩
  rw [DS, e]
 ·rw [if_neg hf] at h
  cases hp : gO k (sU U) with
  | none => rw [hp] at h; cases h
  | some p =>
   rw [hp] at h
   cases h
   refine ⟨?_, by simp, U, ⟨p, g9 (sU U), []⟩, by simp, .inr ⟨p, hp.symm ▸ rfl, rfl, rfl⟩⟩
   rw [iq, oe]; simp [qs1]
theorem sT {U V : List aT} {n : Int} {x : Rc} (h : qsU V = qsU U ++ [(n, x)]) : eS V = eS U ++ [x] := by
 rw [<- lX, h, List.map_append, lX]; rfl
theorem CW {k : Nat} {U V : List aT} {x : Rc} {n : Nat} (h : appU k U x = some (n, V)) (hU : okU U) (hx : okR x) : okU V := by
 obtain ⟨_, _, M, g, rfl, hM⟩ := jg h
 refine AM ?_ hx
 rcases hM with rfl | ⟨p, _, rfl, rfl⟩
 ·exact hU
 ·intro y hy z hz
  rcases List.mem_append.1 hy with hy | hy
  ·exact hU y hy z hz
  ·rw [List.mem_singleton] at hy; subst hy; simp at hz
end Go.D
namespace Go.D
open Go Go.Proofs
structure UnS where
 U : List aT
 tr : Nat
 ep : Nat
 T : Nat
structure UnF where
 st : Nat
 x : UnP
 u : StP
 q : cD
 top : Int
def UB (r rd : Nat) (f : UnF) (k : Nat) : Prop := UnW r f.x k \/ ct f.st f.u rd f.q k
structure UAt (w : World) (n0 r rd : Nat) (f : UnF) (d : aP) (s : UnS) (m : Nat) : Prop where
 S : Sys w n0 f.st rd f.u f.q d (sU s.U) m
 M : UnM w r f.st f.x s.tr s.ep f.top (pgM s.U s.tr) (gT s.U)
 O : gp s.U s.tr s.ep s.T
 t : 0 <= f.top /\ max f.top (s.tr : Int) = s.T
 T : s.T <= 4096 /\ s.ep <= 2 ^ 30
 sep : ∀ k, UnW r f.x k -> ¬ ct f.st f.u rd f.q k
 qL : ∀ k, UnY f.x k -> ¬ UB r rd f k
 n : ∀ k, UnW r f.x k -> n0 <= k
section
variable {w w' : World} {n0 r rd m : Nat} {f : UnF} {d : aP} {s : UnS}
theorem UAt.ext {M : Nat -> Prop} (h : UAt w n0 r rd f d s m) (he : Ext M w w') (h1 : ∀ k, UB r rd f k -> ¬ M k) (h2 : ∀ k, UnY f.x k -> ¬ M k) : UAt w' n0 r rd f d s m :=
 ⟨h.S.ext he (fun k hk => h1 k (.inr hk)), h.M.ext he (fun k hk => h1 k (.inl hk)) h2, h.O, h.t, h.T, h.sep, h.qL, h.n⟩
theorem UAt.af (h : UAt w n0 r rd f d s m) (he : aj w w') : UAt w' n0 r rd f d s m := h.ext he (fun _ _ h => h) (fun _ _ h => h)
theorem UAt.lt (h : UAt w n0 r rd f d s m) : (∀ k, UB r rd f k -> k < w.heap.size) /\ ∀ k, UnY f.x k -> k < w.heap.size :=
 ⟨fun k hk => hk.elim (h.M.lt.1 k) (h.S.B.lt k), h.M.lt.2⟩
theorem UAt.ge (h : UAt w n0 r rd f d s m) : ∀ k, UB r rd f k -> n0 <= k := fun k hk => hk.elim (h.n k) (DR h.S k)
theorem UAt.up (h : UAt w n0 r rd f d s m) {m' : Nat} (hm : m <= m') : UAt w n0 r rd f d s m' := ⟨h.S.up hm, h.M, h.O, h.t, h.T, h.sep, h.qL, h.n⟩
end
theorem j9 {R : Nat -> Nat -> Prop} {U : List aT} (h : (sU U).Pairwise fun g h => R g.num h.num) : U.Pairwise fun g h => R g.num h.num := by
 rw [List.pairwise_map] at h
 exact h
theorem yE {U : List aT} (h : U.Pairwise fun g h => g.num < h.num) {g : aT} (hg : g ∈ U) : rj (g.num : Int) (sU U) = g.rs.map encR := by
 unfold rj
 rcases lS (fun x => decide ((x.num : Int) = (g.num : Int))) (sU U) with ⟨_, h2, _⟩ | ⟨i, hi, _, h2, h3, _⟩
 ·have := h2 g.s (List.mem_map.2 ⟨g, hg, rfl⟩)
  simp [aT.s] at this
 ·rw [h3]
  obtain ⟨j, hj, rfl⟩ := List.getElem_of_mem hg
  have hi' : i < U.length := by simpa using hi
  have e1 : (sU U)[i] = U[i].s := List.getElem_map _
  rw [e1] at h2 ⊢
  have h4 : (U[i].num : Int) = (U[j].num : Int) := of_decide_eq_true h2
  have hp := List.pairwise_iff_getElem.1 h
  rcases Nat.lt_trichotomy i j with h5 | h5 | h5
  ·have := hp i j hi' hj h5; omega
  ·subst h5; rfl
  ·have := hp j i hj hi' h5; omega
theorem sh {S : Nat -> List UInt8} {k : Nat} {L : List aJ} (h : cq S k L) : ∀ g ∈ L, g.cR.length <= 2 ^ 20 /\ ∀ b ∈ g.cR, b.length <= 2 ^ 20 := by
 intro g hg
 have hon := h.on g hg
 have hf := hon.fin
 have h1 := wQ g.cR
 unfold aJ.fin at hf
 exact ⟨by omega, fun b hb => by have := (qq hon.2 b hb).2; omega⟩
theorem Ad {l : List Nat} (hn : l.Nodup) (hl : ∀ x ∈ l, x < 4096) : l.length <= 4096 := by
 have := uD hn (b := List.range 4096) (fun x hx => List.mem_range.2 (hl x hx))
 rwa [List.length_range] at this
theorem CX {R : List Rc} (h : ∀ x ∈ R, okR x) : ∀ y ∈ pagesOf R, y.1 < 4096 /\ 1 <= y.2.length /\ y.2.length <= 2048 := fun y hy => h _ (yC.1 hy)
theorem gp.EW {U : List aT} {tr ep T : Nat} (h : gp U tr ep T) : ∀ y ∈ pgU U, y.1 < 4096 /\ 1 <= y.2.length /\ y.2.length <= 2048 :=
 CX (fun x hx => by
  obtain ⟨g, hg, hx⟩ := List.mem_flatMap.1 hx
  exact h.ok g hg x hx)
theorem gp.few {U : List aT} {tr ep T : Nat} (h : gp U tr ep T) : (pgU U).length <= 4096 := by
 have := Ad h.nd (fun x hx => by
  obtain ⟨y, hy, rfl⟩ := List.mem_map.1 hx
  exact (h.EW y hy).1)
 rwa [List.length_map] at this
theorem gp.wV {U : List aT} {tr ep T : Nat} (h : gp U tr ep T) (n : Int) : (gT U n).length <= 4096 := Nat.le_trans (CV U n) h.few
theorem Ae {w1 : World} {n0 rd m : Nat} {q : cD} {d : aP} {U : List aT} {tr ep T : Nat} (A : Nat -> Addr) (hE : bh A n0 w1) (hD : aL w1 rd q d) (hp : d.aG = []) (hI : cq (aR d.img) (d.n / 64) (sU U)) (hO : gp U tr ep T) (hT : T <= 4096 /\ ep <= 2 ^ 30)
  (hk : 1 <= d.n / 64 /\ d.n / 64 < 20) (hN : ∀ g ∈ sU U, g.num < m) (hm : m <= 2 ^ 60) (hdn : ∀ k, bg rd q k -> n0 <= k) (hz : n0 <= w1.heap.size) :
  Calls Tryz.prog ja ⟨[aw rd]⟩ w1 fun e w2 => ∃ (r : Nat) (f : UnF), e = .returned (.tuple ⟨[aw r, .nilIface]⟩) /\ UAt w2 n0 r rd f d ⟨U, tr, ep, T⟩ m /\ f.q = q /\ (∀ k, UB r rd f k -> bg rd q k \/ w1.heap.size <= k) /\ (∀ k, UnY f.x k -> w1.heap.size <= k) /\ aj w1 w2 := by
 refine wG _ ?_
 unfold vA
 refine (By A (hE.g.sub qw) hD hp hI hk hN hm hdn hz).mono ?_
 rintro e w3 ⟨st, u, rfl, hS, hfr, k3⟩
 refine ⟨_, _, rfl, trivial, ao (fun h => by cases h) (fun _ => aq (fun r6 w7 hr6 hb6 k7 hs7 => aq (fun r8 w9 hr8 hb8 k9 hs9 => aq (fun r10 w11 hr10 hb10 k11 hs11 => ?_))))⟩
 have p6 : fW KS w11 r6 [] := ((fW.new hb6).af k9).af k11
 have p8 : fW KS w11 r8 [] := (fW.new hb8).af k11
 have k311 : aj w3 w11 := (k7.trans k9).trans k11
 have hUL := hS.len
 have hULe : (sU U).length = U.length := by simp
 have z3 := k3.size
 have U0 : UnM w11 r10 st ⟨r6, r8, [], []⟩ mu.tr mu.ep mu.top mu.pg mu.ins := by
  refine ⟨ak.new hb10 (zj _), p6, p8, by show r6 ≠ r8; omega, fun a => ⟨fun s hs => by simp [lookL] at hs, fun _ => rfl⟩, fun n => by simpa [lookL, mu] using bB.nil w11, fun n m s t hs => by simp [lookL] at hs, fun n s hs => by simp [lookL] at hs, fun a s hs => by simp [lookL] at hs⟩
 have hnd := hO.nd
 have hso := j9 (R := fun a b => a < b) hI.so
 refine (nz (hS.af k311).B.S (by omega)).mono ?_
 rintro e w13 ⟨s14, rfl, hI14, hf14, k13⟩
 have W0 : ∀ k, UnW r10 ⟨r6, r8, [], []⟩ k -> w3.heap.size <= k /\ k < w11.heap.size := by
  rintro k (hk | hk | hk | ⟨n, s, hs, _⟩)
  ·omega
  ·have hk' : k = r6 := hk; omega
  ·have hk' : k = r8 := hk; omega
  ·simp [lookL] at hs
 have hl14 : s14.l = U.length := by
  have := Rows.sl hI14
  simpa using this
 have hid : ∀ w2, aj w3 w2 -> bh A n0 w2 := fun w2 hk2 => (hE.af k3).af hk2
 have n3 : n0 <= w3.heap.size := by omega
 refine ⟨s14, rfl, fun i w2 => ∃ (j : Nat) (x : UnP), i = j /\ j <= U.length /\ UnM w2 r10 st x (bI (qsU (U.take j))).tr (bI (qsU (U.take j))).ep (bI (qsU (U.take j))).top (bI (qsU (U.take j))).pg (bI (qsU (U.take j))).ins /\
   aj w3 w2 /\ (∀ k, UnW r10 x k -> w3.heap.size <= k /\ ¬ au s14 k) /\ (∀ k, UnY x k -> w3.heap.size <= k) /\ bB w2 s14 ((sU U).map fun g => (g.num : Int)), fun i _ => ((U.length : Int) - i).toNat,
  ⟨0, _, rfl, by omega, by simpa [qsU, bI] using U0.af k13, k311.trans k13, fun k hk => ⟨(W0 k hk).1, fun hh => by have := hf14 k hh; have := (W0 k hk).2; omega⟩, (by rintro k ⟨a, s, hs, _⟩; simp [lookL] at hs), hI14⟩, ?_⟩
 rintro i w18 ⟨j, x, rfl, hj, hU, hk18, hW, hY, hI18⟩
 intros
 have z18 := hk18.size
 refine ae (fun h0 => ?_) (fun h0 => ?_)
 ·have hjl : j < U.length := by omega
  obtain ⟨a44, ha44, hc44⟩ := hI18.get (i := j) (by simpa using hjl)
  have hnum : (((sU U).map fun g => (g.num : Int))[j]'(by simpa using hjl)) = (U[j].num : Int) := by simp [aT.s]
  rw [hnum] at hc44
  refine aa ha44 ⟨by omega, h0, _, by rw [Int.toNat_natCast]; exact hc44, (u9 (hS.af hk18).B.S (U[j].num : Int) (by omega) (sh hI)).mono ?_⟩
  rintro e w47 ⟨s48, css, rfl, hR47, k47, hf48, hfc⟩
  rw [yE hso (List.getElem_mem hjl)] at hR47
  have hl48 : s48.l = U[j].rs.length := by
   have := hR47.sl
   simpa using this
  have ltU := hU.lt
  have hfew : U[j].rs.length <= 2 ^ 20 := by
   have := (sh hI U[j].s (List.mem_map.2 ⟨_, List.getElem_mem hjl, rfl⟩)).1
   simpa [aT.s] using this
  refine ⟨s48, rfl, fun i w2 => ∃ (n : Nat) (x : UnP), i = n /\ n <= U[j].rs.length /\ UnM w2 r10 st x (bI (qsU (U.take j) ++ (qs1 U[j]).take n)).tr (bI (qsU (U.take j) ++ (qs1 U[j]).take n)).ep (bI (qsU (U.take j) ++ (qs1 U[j]).take n)).top (bI (qsU (U.take j) ++ (qs1 U[j]).take n)).pg (bI (qsU (U.take j) ++ (qs1 U[j]).take n)).ins /\
   aj w3 w2 /\ (∀ k, UnW r10 x k -> w3.heap.size <= k /\ ¬ au s14 k /\ ¬ au s48 k /\ ¬ cM css k) /\ (∀ k, UnY x k -> w3.heap.size <= k) /\ bB w2 s14 ((sU U).map fun g => (g.num : Int)) /\ Rows uh w2 s48 (U[j].rs.map encR) css, fun i _ => ((U[j].rs.length : Int) - i).toNat,
   ⟨0, x, rfl, by omega, by simpa using hU.af k47, hk18.trans k47, fun k hk => ⟨(hW k hk).1, (hW k hk).2, fun hh => ?_, fun hh => ?_⟩, hY, hI18.af k47, hR47⟩, ?_⟩
  ·have := hf48 k hh; have := ltU.1 k hk; omega
  ·have := hfc k hh; have := ltU.1 k hk; omega
  rintro i w52 ⟨n, x, rfl, hn, hU, hk52, hW, hY, hI52, hR52⟩
  intros
  refine ae (fun h1 => ?_) (fun h1 => ?_)
  ·have hnl : n < U[j].rs.length := by omega
   have hnc : n < css.length := by rw [hR52.len]; simpa using hnl
   obtain ⟨a68, ha68, _, hrow⟩ := hR52.get (i := n) hnc
   obtain ⟨s69, hcs, hb69⟩ := hR52.row n hnc (by simpa using hnl)
   rw [hcs] at hrow
   have hb69' : ag w52 s69 (encR U[j].rs[n]) := by simpa using hb69
   obtain ⟨R, hsp⟩ := BC U j n hjl hnl
   have hok : okR U[j].rs[n] := hO.ok _ (List.getElem_mem hjl) _ (List.getElem_mem hnl)
   have hndQ := hnd
   have hQok : ∀ y ∈ qsU (U.take j) ++ (qs1 U[j]).take n, okR y.2 := fun y hy => by
    have h9 : y ∈ qsU U := by rw [hsp]; exact List.mem_append_left _ hy
    obtain ⟨g, hg, hy'⟩ := List.mem_flatMap.1 h9
    obtain ⟨c, hc, rfl⟩ := List.mem_map.1 hy'
    exact hO.ok g hg c hc
   have hlenI : ((bI (qsU (U.take j) ++ (qs1 U[j]).take n)).ins (U[j].num : Int)).length < 2 ^ 20 := by
    rw [sg]
    have e1 : ∀ Q Q2 : List (Int × Rc), (pagesOf (((Q.filter fun x => decide (x.1 = (U[j].num : Int)))).map (·.2))).length <= (gT U (U[j].num : Int)).length \/ ¬ (qsU U = Q ++ Q2) := fun Q Q2 => by
     by_cases e : qsU U = Q ++ Q2
     ·left
      unfold gT
      rw [e, List.filter_append, List.map_append, bj, List.map_append, List.length_append, List.length_map]; omega
     ·exact .inr e
    have e2 := (e1 (qsU (U.take j) ++ (qs1 U[j]).take n) _).resolve_right (fun hh => hh hsp)
    have e3 := hO.wV (U[j].num : Int)
    rw [List.length_map]; omega
   have htop := vN _ hQok
   have z52 := hk52.size
   refine aa ha68 ⟨by omega, h1, s69, by rw [Int.toNat_natCast]; exact AG hrow 0 (by simp), (zY A hU (U[j].num : Int) U[j].rs[n] hok s69 hb69' (hid w52 hk52) (by omega) (fun a t hc => ?_) (by omega) hlenI).mono ?_⟩
   ·refine CT (R := R) (seg := (U[j].num : Int)) (t := t) ?_
    rw [<- hc, <- hsp, lX]; exact hnd
   ·rintro e w71 ⟨rfl, x', hU', hT1, hT2, hT3⟩
    have hnew : aj w3 w71 := hk52.ext hT1 (fun k hk => (hW k hk).1)
    have ltO := hU.lt
    have z71 := hT1.size
    have hr1 := hI52.lt
    have hr2 := hR52.lt
    have hr3 := hR52.flt
    refine ⟨_, rfl, trivial, ao (fun h => by cases h) (fun _ => ⟨aA (by omega), ⟨n + 1, x', rfl, hnl, ?_, hnew, fun k hk => ?_, fun k hk => ?_, hI52.ext hT1 (fun k hk hh => (hW k hh).2.1 hk), hR52.ext hT1 (fun k hk hh => (hW k hh).2.2.1 hk) (fun k hk hh => (hW k hh).2.2.2 hk)⟩, by dsimp only; omega⟩)⟩
    ·have hq : n < (qs1 U[j]).length := by simpa [qs1] using hnl
     have e3 : (qs1 U[j])[n] = ((U[j].num : Int), U[j].rs[n]) := by simp [qs1]
     rw [List.take_succ_eq_append_getElem hq, <- List.append_assoc, e3, fZ]
     exact hU'
    ·rcases hT2 k hk with g | g
     ·exact hW k g
     ·exact ⟨by omega, fun hh => by have := hr1 k hh; omega, fun hh => by have := hr2 k hh; omega, fun hh => by have := hr3 k hh; omega⟩
    ·rcases hT3 k hk with g | g | g
     ·exact hY k g
     ·exact g.elim
     ·omega
  ·have hnn : n = U[j].rs.length := by omega
   subst hnn
   refine ⟨aA (by omega), ⟨j + 1, x, rfl, hjl, ?_, hk52, fun k hk => ⟨(hW k hk).1, (hW k hk).2.1⟩, hY, hI52⟩, by dsimp only; omega⟩
   have e4 : (qs1 U[j]).take U[j].rs.length = qs1 U[j] := List.take_of_length_le (by simp [qs1])
   rw [e4] at hU
   rw [CS U j hjl]
   exact hU
 ·have hjj : j = U.length := by omega
  subst hjj
  rw [List.take_length] at hU
  obtain ⟨v1, v2, v3, v4, v5⟩ := Ac hO
  have hQok : ∀ y ∈ qsU U, okR y.2 := fun y hy => by
   obtain ⟨g, hg, hy'⟩ := List.mem_flatMap.1 hy
   obtain ⟨c, hc, rfl⟩ := List.mem_map.1 hy'
   exact hO.ok g hg c hc
  have htop := vN _ hQok
  refine (qD hU).mono ?_
  rintro e w74 ⟨rfl, x', hU', hT1, hT2, hT3⟩
  rw [v1, v2, v4, v5] at hU'
  have ltO := hU.lt
  have hk74 : aj w3 w74 := hk18.ext hT1 (fun k hk => (hW k hk).1)
  have hW' : ∀ k, UnW r10 x' k -> w3.heap.size <= k := fun k hk => by
   rcases hT2 k hk with g | g
   ·exact (hW k g).1
   ·omega
  have hY' : ∀ k, UnY x' k -> w3.heap.size <= k := fun k hk => by
   rcases hT3 k hk with g | g | g
   ·exact hY k g
   ·exact g.elim
   ·omega
  have hSlt := hS.B.lt
  refine ⟨rfl, r10, ⟨st, x', u, q, (bI (qsU U)).top⟩, rfl, ⟨hS.af hk74, hU', hO, ⟨htop.1, v3⟩, hT, fun k hk hh => ?_, fun k hk hh => ?_, fun k hk => ?_⟩, rfl, fun k hk => ?_, fun k hk => ?_, k3.trans hk74⟩
  ·have := hSlt k hh; have := hW' k hk; omega
  ·rcases hh with hh | hh
   ·obtain ⟨b, s0, hs0, h00, hk0⟩ := hk
    obtain ⟨y1, y2⟩ := hU'.pb b s0 hs0 h00 k hk0
    obtain ⟨t0, _, hb0, _⟩ := (hU'.pv b).1 s0 hs0
    rcases hh with hh | hh | hh | ⟨n, s1, hs1, hk1⟩
    ·exact y1 hh
    ·obtain ⟨_, _, hp1, _⟩ := hU'.p.at'
     exact cE hb0 h00 hk0 (by rw [hh]; exact hp1)
    ·obtain ⟨_, _, hp1, _⟩ := hU'.i.at'
     exact cE hb0 h00 hk0 (by rw [hh]; exact hp1)
    ·exact y2 n s1 hs1 hk1
   ·have := hSlt k hh; have := hY' k hk; omega
  ·have := hW' k hk; omega
  ·rcases hk with hk | hk | hk
   ·have := hW' k hk; exact .inr (by omega)
   ·exact .inr (hfr k hk)
   ·exact .inl hk
  ·have := hY' k hk; omega
end Go.D
namespace Go.D
open Go Go.Proofs
def writeP (k : Nat) (s : UnS) (epoch a : Int) (t : List UInt8) : Option Nat × UnS :=
 match iO s.ep epoch a 4095 with
 | some c => (some c, s)
 | none => if t.length = 0 \/ 2048 < t.length then (some 2, s) else if a < (s.tr : Int) then (some 10, s) else if (pgM s.U s.tr a).isSome then (some 8, s)
  else match appU k s.U (.dy a.toNat t) with
   | none => (some 12, s)
   | some (n, V) => (none, ⟨V, s.tr, s.ep, max s.T (a.toNat + 1)⟩)
def lh (k : Nat) (s : UnS) (epoch : Int) : Option Nat × UnS :=
 if epoch < 0 \/ 1073741824 < epoch then (some 13, s) else if epoch < (s.ep : Int) then (some 7, s) else if epoch = (s.ep : Int) then (none, s)
 else match appU k s.U (.shut epoch.toNat) with
  | none => (some 12, s)
  | some (n, V) => (none, ⟨V, s.tr, epoch.toNat, s.T⟩)
def fJ (tr : Nat) : List aT -> List aT
 | [] => []
 | [g] => [g]
 | g :: h :: t => if (pagesOf g.rs).all (fun y => decide (y.1 < tr)) then fJ tr (h :: t) else g :: h :: t
def vO (k : Nat) (s : UnS) (epoch to : Int) : Option Nat × UnS :=
 match iO s.ep epoch to 4096 with
 | some c => (some c, s)
 | none => if to <= (s.tr : Int) then (none, s)
  else match appU k s.U (.trim to.toNat s.ep) with
   | none => (some 12, s)
   | some (n, V) => (none, ⟨fJ to.toNat V, to.toNat, s.ep, max s.T to.toNat⟩)
def uJ (U : List aT) (s : UnS) : Prop := gp U s.tr s.ep s.T /\ ∀ a, pgM U s.tr a = pgM s.U s.tr a
def UCr (d : aP) (k m : Nat) (Ss : List UnS) : Prop := d.aG.length <= 100 /\ ∀ kept torn cut : Int, ∃ U, cq (aR (crashL kept torn cut 0 d.aG d.img)) k (sU U) /\ (∀ g ∈ sU U, g.num < m) /\ ∃ s ∈ Ss, uJ U s
def eY (r rd : Nat) (f f' : UnF) (w w' : World) : Prop := bp (UB r rd f) (UB r rd f') w w' /\ ∀ k, UnY f'.x k -> UnY f.x k \/ w.heap.size <= k
theorem eY.refl (r rd : Nat) (f : UnF) (w : World) : eY r rd f f w w := ⟨bp.refl _ _, fun k hk => .inl hk⟩
theorem eY.trans {r rd : Nat} {f f1 f2 : UnF} {a b c : World} (h1 : eY r rd f f1 a b) (h2 : eY r rd f1 f2 b c) : eY r rd f f2 a c :=
 ⟨h1.1.trans h2.1, fun k hk => (h2.2 k hk).elim (h1.2 k) (fun h => .inr (Nat.le_trans h1.1.1.size h))⟩
theorem eY.af {r rd : Nat} {f f' : UnF} {a b c : World} (h1 : eY r rd f f' a b) (h2 : aj b c) : eY r rd f f' a c := ⟨h1.1.af h2, h1.2⟩
theorem aj.sj {r rd : Nat} {f f' : UnF} {a b c : World} (h1 : aj a b) (h2 : eY r rd f f' b c) : eY r rd f f' a c :=
 ⟨h1.iK h2.1, fun k hk => (h2.2 k hk).imp (fun h => h) (fun h => Nat.le_trans h1.size h)⟩
def wW (w : World) (n0 r rd : Nat) (f : UnF) (d : aP) (s : UnS) (m : Nat) (p : Option Nat × UnS) (e' : Option Nat) (w' : World) : Prop :=
 (e' = p.1 /\ ∃ f' d', UAt w' n0 r rd f' d' p.2 (m + 1) /\ d'.n = d.n /\ d'.stops = d.stops /\ eY r rd f f' w w') \/
 (e' = some 11 /\ d.stops = true /\ ∃ q' d', aL w' rd q' d' /\ d'.n = d.n /\ d'.stops = d.stops /\ UCr d' (d.n / 64) (m + 1) [s, p.2] /\ bp (UB r rd f) (bg rd q') w w')
theorem CY (k : Nat) (U : List aT) (n : Nat) : (kY k (sU U) n).getD (sU U) = sU (oL k U n) := by
 unfold kY oL
 split
 ·rfl
 ·cases gO k (sU U) with
  | none => rfl
  | some p => simp [nC, aT.s]
theorem vP (k : Nat) (U : List aT) (n : Nat) : eS (oL k U n) = eS U := by
 unfold oL
 split
 ·rfl
 ·split
  ·rfl
  ·exact yu _ _ _
theorem CZ (k : Nat) {U : List aT} (n : Nat) (h : okU U) : okU (oL k U n) := by
 unfold oL
 split
 ·exact h
 ·split
  ·exact h
  ·intro y hy z hz
   rcases List.mem_append.1 hy with hy | hy
   ·exact h y hy z hz
   ·rw [List.mem_singleton] at hy; subst hy; simp at hz
theorem gp.Ev {U V : List aT} {tr ep T : Nat} (h : gp U tr ep T) (ho : okU V) (ha : eS V = eS U) : gp V tr ep T :=
 ⟨ho, by rw [ha]; exact h.te, by unfold pgU; rw [ha]; exact h.nd, by unfold pgU; rw [ha]; exact h.tl⟩
theorem DU {U V : List aT} (ha : eS V = eS U) (tr : Nat) : pgM V tr = pgM U tr := by
 unfold pgM pgU
 rw [ha]
theorem BF {k m n : Nat} {U : List aT} (h : ∀ g ∈ sU U, g.num < m) : ∀ g ∈ sU (oL k U n), g.num < m + 1 := by
 intro g hg
 have hnx := uw h
 unfold oL at hg
 split at hg
 ·have := h g hg; omega
 ·split at hg
  ·have := h g hg; omega
  ·obtain ⟨y, hy, rfl⟩ := List.mem_map.1 hg
   rcases List.mem_append.1 hy with hy | hy
   ·have := h _ (List.mem_map.2 ⟨y, hy, rfl⟩); omega
   ·rw [List.mem_singleton] at hy; subst hy
    show g9 (sU U) < m + 1; omega
theorem C0 {k m n : Nat} {U V : List aT} {x : Rc} (h : ∀ g ∈ sU U, g.num < m) (ha : appU k U x = some (n, V)) : ∀ g ∈ sU V, g.num < m + 1 := by
 intro g hg
 have hnx := uw h
 obtain ⟨_, _, M, g0, rfl, hM⟩ := jg ha
 obtain ⟨y, hy, rfl⟩ := List.mem_map.1 hg
 have key : ∀ z ∈ M ++ [g0], z.num < m + 1 := by
  intro z hz
  rcases hM with rfl | ⟨p, _, rfl, rfl⟩
  ·have := h _ (List.mem_map.2 ⟨z, hz, rfl⟩)
   have h2 : z.num < m := this
   omega
  ·rcases List.mem_append.1 hz with hz | hz
   ·have := h _ (List.mem_map.2 ⟨z, hz, rfl⟩)
    have h2 : z.num < m := this
    omega
   ·rw [List.mem_singleton] at hz; subst hz
    show g9 (sU M) < m + 1; omega
 rcases List.mem_append.1 hy with hy | hy
 ·exact key y (by simp [hy])
 ·rw [List.mem_singleton] at hy; subst hy
  exact key g0 (by simp)
theorem oa.unit {A : Nat -> Addr} {w w' : World} {n0 st rd m : Nat} {u : StP} {q : cD} {d : aP} {U : List aT} {c : Rc} (hc : okR c) {n : Int} {e' : Option Nat} (h : oa A w n0 st rd u q d (sU U) m (encR c) n e' w') :
  (appU (d.n / 64) U c = none /\ e' = some 12 /\ aL w' rd q d /\ aj w w') \/
  (∃ n' V, appU (d.n / 64) U c = some (n', V) /\ n = (n' : Int) /\ e' = none /\ ∃ u' q' d', Sys w' n0 st rd u' q' d' (sU V) (m + 1) /\ d'.n = d.n /\ d'.stops = d.stops /\ bp (ct st u rd q) (ct st u' rd q') w w') \/
  (∃ n' V, appU (d.n / 64) U c = some (n', V) /\ e' = some 11 /\ d.stops = true /\ ∃ q' d', aL w' rd q' d' /\ d'.n = d.n /\ d'.stops = d.stops /\ qz d' (d.n / 64) [sU U, sU (oL (d.n / 64) U (encR c).length), sU V] /\ bp (ct st u rd q) (bg rd q') w w') := by
 obtain ⟨q', d', hD, hn, hs, hcase⟩ := h
 have hok := DT (k := d.n / 64) (U := U) hc
 cases ha : appU (d.n / 64) U c with
 | none =>
  rw [ha] at hok
  simp only at hok
  rw [hok] at hcase
  rcases hcase with ⟨_, h2, _, rfl, rfl, hk⟩ | ⟨h1, _⟩ | ⟨h1, _⟩
  ·exact .inl ⟨rfl, h2, hD, hk⟩
  ·cases h1
  ·cases h1
 | some p =>
  obtain ⟨n', V⟩ := p
  rw [ha] at hok
  simp only at hok
  rw [hok] at hcase
  rcases hcase with ⟨h1, _⟩ | ⟨_, h2, h3, u', hS, ft⟩ | ⟨_, h2, h3, h4, ft⟩
  ·exact absurd rfl h1
  ·exact .inr (.inl ⟨n', V, rfl, h3, h2, u', q', d', hS, hn, hs, ft⟩)
  ·rw [CY] at h4
   exact .inr (.inr ⟨n', V, rfl, h2, h3, q', d', hD, hn, hs, h4, ft⟩)
theorem qz.unit {d' : aP} {k m n n' : Nat} {U V : List aT} {c : Rc} {s s1 : UnS} (h : qz d' k [sU U, sU (oL k U n), sU V]) (hN : ∀ g ∈ sU U, g.num < m) (ha : appU k U c = some (n', V)) (h0 : s.U = U) (hO : gp U s.tr s.ep s.T) (h1 : uJ V s1) : UCr d' k (m + 1) [s, s1] := by
 refine ⟨h.1, fun a b c => ?_⟩
 obtain ⟨L, hL, hI⟩ := h.2 a b c
 simp only [List.mem_cons, List.not_mem_nil, or_false] at hL
 rcases hL with rfl | rfl | rfl
 ·exact ⟨U, hI, fun g hg => by have := hN g hg; omega, s, by simp, hO, fun a => by rw [h0]⟩
 ·exact ⟨_, hI, BF hN, s, by simp, hO.Ev (CZ k n hO.ok) (vP k U n), fun a => by rw [h0, DU (vP k U n)]⟩
 ·exact ⟨V, hI, C0 hN ha, s1, by simp, h1⟩
theorem C1 {U V : List aT} {tr a : Nat} {t : List UInt8} (h : eS V = eS U ++ [.dy a t]) (ha : tr <= a) (hn : pgM U tr (a : Int) = none) : pgM V tr = gS (pgM U tr) (a : Int) (some t) := by
 funext b
 have hn' : dI (pgU U) a = none := by
  unfold pgM at hn
  rw [if_neg (by omega)] at hn
  exact hn
 unfold gS pgM pgU
 rw [h, bj]
 by_cases e : b = (a : Int)
 ·subst e
  rw [if_neg (by omega), if_pos rfl]
  simp only [pagesOf]
  rw [nG, Int.toNat_natCast]
  unfold pgU at hn'
  rw [hn']; simp
 ·rw [if_neg e]
  by_cases e2 : b < (tr : Int)
  ·rw [if_pos e2, if_pos e2]
  ·rw [if_neg e2, if_neg e2]
   simp only [pagesOf]
   rw [nG]
   cases dI (pagesOf (eS U)) b.toNat with
   | some y => rfl
   | none => simp only; rw [if_neg (by omega)]
theorem C2 {U V : List aT} {x : Rc} (h : eS V = eS U ++ [x]) (hx : ∀ a t, x ≠ .dy a t) (tr : Nat) : pgM V tr = pgM U tr := by
 unfold pgM pgU
 rw [h, bj]
 cases x with
 | dy a t => exact absurd rfl (hx a t)
 | trim t e => simp [pagesOf]
 | shut e => simp [pagesOf]
theorem yF {U : List aT} {tr a : Nat} (ha : tr <= a) (hn : pgM U tr (a : Int) = none) : ∀ y ∈ pgU U, y.1 ≠ a := by
 unfold pgM at hn
 rw [if_neg (by omega)] at hn
 exact rZ.1 hn
def tailR (T tt : Nat) : Rc -> Nat
 | .dy a _ => max T (a + 1)
 | .trim t _ => max tt t
 | .shut _ => T
theorem vQ {k n : Nat} {U V : List aT} {x : Rc} {tr ep T : Nat} (h : gp U tr ep T) (hx : okR x) (ha : appU k U x = some (n, V)) (hp : ∀ a t, x = .dy a t -> ∀ y ∈ pgU U, y.1 ≠ a) :
  gp V (jF (tr, ep) x).1 (jF (tr, ep) x).2 (tailR T (dK (pgU U)) x) := by
 have hV := CW ha h.ok hx
 obtain ⟨_, _, M, g, rfl, hM⟩ := jg ha
 have hR : eS (M ++ [g]) = eS U := by
  rcases hM with rfl | ⟨p, _, rfl, rfl⟩
  ·rfl
  ·exact yu _ _ _
 have hok : okU (M ++ [g]) := by
  intro y hy z hz
  rcases List.mem_append.1 hy with hy | hy
  ·exact hV y (by simp [hy]) z hz
  ·rw [List.mem_singleton] at hy; subst hy
   exact hV _ (List.mem_append_right _ (List.mem_singleton.2 rfl)) z (List.mem_append_left _ hz)
 cases x <;> exact h.add hok hR hx hp
section
variable {w w' : World} {n0 r rd m : Nat} {f : UnF} {d : aP} {s : UnS}
theorem UAt.ins (h : UAt w n0 r rd f d s m) (n : Int) : (gT s.U n).length < 2 ^ 20 := by have := h.O.wV n; omega
theorem UAt.sL (h : UAt w n0 r rd f d s m) {e' : Option Nat} (hk : aj w w') : wW w n0 r rd f d s m (e', s) e' w' :=
 .inl ⟨rfl, f, d, (h.af hk).up (by omega), rfl, rfl, hk.sj (eY.refl _ _ _ _)⟩
theorem yG (A : Nat -> Addr) (h : UAt w n0 r rd f d s m) (hE : bh A n0 w) (hm : m <= 2 ^ 60) (epoch a : Int) (sl : Slc) (t : List UInt8) (hb : ag w sl t) (ht : t.length <= 2 ^ 20) (hs : ∀ k, au sl k -> ¬ UB r rd f k) :
  Calls Tryz.prog fP ⟨[aw r, .int .i64 epoch, .int .i64 a, sl.v]⟩ w fun e w' => ∃ e', e = .returned (cj A e') /\ wW w n0 r rd f d s m (writeP (d.n / 64) s epoch a t) e' w' := by
 refine ph _ _ _ _ ?_
 unfold mj
 have hG : bF Bz A n0 w := hE.g.sub qC
 have hbl := hb.1
 refine (nH A h.M epoch a 4095 hG).mono ?_
 rintro e w6 ⟨rfl, rfl⟩
 unfold writeP
 cases hc : iO s.ep epoch a 4095 with
 | some c => exact ⟨_, rfl, aM A _, ao (fun _ => ⟨_, rfl, h.sL (Ext.refl _ _)⟩) (fun hh => by cases hh)⟩
 | none =>
  have ha : 0 <= a /\ a <= 4095 := by
   unfold iO at hc
   split at hc
   ·cases hc
   ·split at hc
    ·cases hc
    ·omega
  obtain ⟨es, g1, g2⟩ := h.M.p.get
  refine ⟨_, rfl, aM A _, ao (fun hh => by cases hh) (fun _ => aa rfl ⟨_, h.M.c.2.1, es, g1, lookL f.x.pl a, g2 a, fun w2 => ¬ (t.length = 0 \/ 2048 < t.length) /\ ¬ a < (s.tr : Int) /\ (pgM s.U s.tr a).isSome = false /\ w2 = w6,
   ⟨fun b w2 => b = decide (t.length = 0 \/ 2048 < t.length) /\ w2 = w6, ae (fun h0 => ⟨(decide_eq_true (.inl (by omega))).symm, rfl⟩) (fun h0 => ⟨by rw [decide_eq_decide]; omega, rfl⟩), ?_⟩, ?_⟩)⟩
  ·rintro b w15 ⟨rfl, rfl⟩
   intros
   refine ae (fun h1 => ?_) (fun h1 => aa rfl ⟨_, h.M.c.2.2.2.1, ae (fun h2 => ?_) (fun h2 => ?_)⟩)
   ·rw [if_pos h1]
    exact ⟨_, eW hG 2 bw rfl (by decide), _, rfl, h.sL (Ext.refl _ _)⟩
   ·rw [if_neg h1, if_pos h2]
    exact ⟨_, eW hG 10 cS rfl (by decide), _, rfl, h.sL (Ext.refl _ _)⟩
   ·rw [if_neg h1, if_neg h2]
    refine ao (fun h3 => ?_) (fun h3 => ?_)
    ·rw [h.M.has] at h3
     rw [if_pos h3]
     exact ⟨_, eW hG 8 eJ rfl (by decide), _, rfl, h.sL (Ext.refl _ _)⟩
    ·rw [h.M.has] at h3
     exact ⟨h1, h2, h3, rfl⟩
  ·rintro w29 ⟨h1, h2, h3, rfl⟩
   intros
   rw [if_neg h1, if_neg h2, if_neg (by rw [h3]; decide)]
   obtain ⟨an, rfl⟩ : ∃ an : Nat, a = an := ⟨a.toNat, by omega⟩
   rw [Int.toNat_natCast]
   have hok : okR (.dy an t) := ⟨by omega, by omega, by omega⟩
   have hpn : pgM s.U s.tr (an : Int) = none := by simpa using h3
   refine (lW A h.S h.M hE hm (.dy an t) hok (fun _ _ hh => by cases hh) sl (fun _ => hb)).mono ?_
   rintro e w53 ⟨n, e', w1, rfl, k1, hp⟩
   rcases hp.unit hok with ⟨ha1, rfl, hD, hk⟩ | ⟨n', V, ha1, rfl, rfl, u', q', d', hS', hn', hst', ft⟩ | ⟨n', V, ha1, rfl, hst, q', d', hD', hn', hst', hcr, ft⟩
   ·rw [ha1]
    exact ⟨_, _, rfl, aM A _, ao (fun hh => by cases hh) (fun _ => ⟨_, rfl, h.sL (k1.trans hk)⟩)⟩
   ·rw [ha1]
    have ft' : bp (ct f.st f.u rd f.q) (ct f.st u' rd q') w29 w53 := k1.iK ft
    have hqs := (jg ha1).1
    have hal := sT hqs
    have hM53 := h.M.ext ft'.1 h.sep (fun k hk hh => h.qL k hk (.inr hh))
    refine ⟨_, _, rfl, aM A _, ao (fun _ => ?_) (fun hh => by cases hh)⟩
    have hb53 : ag w53 sl t := aY hb ft'.1 (fun _ k hk hh => hs k hk (.inr hh))
    refine (bD sl t w53 hb53 (by omega)).mono ?_
    rintro e w57 ⟨s58, rfl, ho58, hf58, k57⟩
    have hM57 := hM53.af k57
    have ht4 := h.T.1
    have htt := h.t
    have z53 := ft'.1.size
    have z57 := k57.size
    have lt53 := hM53.lt
    refine ⟨s58, rfl, (uC hM57 (n' : Int) (an : Int) s58 t ho58.bytes (by omega) (fun _ k hk hh => ?_) hpn (by omega) (by omega) (h.ins _)).mono ?_⟩
    ·have := hf58 k hk; have := lt53.1 k hh; omega
    ·rintro e w60 ⟨rfl, x', hM60, t1, t2, t3⟩
     have hpg : pgM V s.tr = gS (pgM s.U s.tr) (an : Int) (some t) := C1 hal (by omega) hpn
     have hin : gT V = gS (gT s.U) (n' : Int) (gT s.U (n' : Int) ++ [(an : Int)]) := AP hqs
     rw [<- hpg, <- hin] at hM60
     have hSlt := hS'.B.lt
     have sys57 := hS'.af k57
     have sepW : ∀ k, UnW r f.x k -> ¬ ct f.st u' rd q' k := fun k hk hh => (ft'.2 k hh).elim (h.sep k hk) (fun hh => by have := h.M.lt.1 k hk; omega)
     have sys60 := sys57.ext t1 (fun k hk hh => sepW k hh hk)
     have x60 : Ext (UB r rd f) w29 w60 := (Ext.trans (ft'.1.mono (fun k hk => Or.inr hk)) k57 (fun _ h => h) (fun _ h => h.elim)).trans t1 (fun _ h => h) (fun k hk => .inl (.inl hk))
     have z60 := t1.size
     have hO' := vQ h.O hok ha1 (fun a' t' he y hy => by cases he; exact yF (by omega) hpn y hy)
     refine ⟨rfl, none, rfl, .inl ⟨rfl, ⟨f.st, x', u', q', max f.top (an + 1)⟩, d', ⟨sys60, hM60, hO', ⟨by show 0 <= max f.top ((an : Int) + 1); omega, by show max (max f.top ((an : Int) + 1)) (s.tr : Int) = ((max s.T (an + 1) : Nat) : Int); omega⟩, ⟨by show max s.T (an + 1) <= 4096; omega, h.T.2⟩, fun k hk hh => ?_, fun k hk hh => ?_, fun k hk => ?_⟩, hn', hst', ⟨⟨x60, fun k hk => ?_⟩, fun k hk => ?_⟩⟩⟩
     ·rcases t2 k hk with g | g
      ·exact sepW k g hh
      ·have := hSlt k hh; omega
     ·rcases hh with hh | hh
      ·obtain ⟨b, s0, hs0, h00, hk0⟩ := hk
       obtain ⟨y1, y2⟩ := hM60.pb b s0 hs0 h00 k hk0
       obtain ⟨t0, _, hb0, _⟩ := (hM60.pv b).1 s0 hs0
       rcases hh with hh | hh | hh | ⟨n, s1, hs1, hk1⟩
       ·exact y1 hh
       ·obtain ⟨_, _, hp1, _⟩ := hM60.p.at'
        exact cE hb0 h00 hk0 (by rw [hh]; exact hp1)
       ·obtain ⟨_, _, hp1, _⟩ := hM60.i.at'
        exact cE hb0 h00 hk0 (by rw [hh]; exact hp1)
       ·exact y2 n s1 hs1 hk1
      ·have hl := hSlt k hh
       rcases t3 k hk with g | ⟨_, g⟩ | g
       ·rcases ft'.2 k hh with g2 | g2
        ·exact h.qL k g (.inr g2)
        ·have := h.M.lt.2 k g; omega
       ·have := hf58 k g; omega
       ·omega
     ·rcases t2 k hk with g | g
      ·exact h.n k g
      ·have := h.S.B.z; omega
     ·rcases hk with hk | hk
      ·rcases t2 k hk with g | g
       ·exact .inl (.inl g)
       ·exact .inr (by omega)
      ·exact (ft'.2 k hk).imp .inr (fun g => g)
     ·rcases t3 k hk with g | ⟨_, g⟩ | g
      ·exact .inl g
      ·have := hf58 k g; exact .inr (by omega)
      ·exact .inr (by omega)
   ·rw [ha1]
    have hal := sT (jg ha1).1
    have hO' := vQ h.O hok ha1 (fun a' t' he y hy => by cases he; exact yF (by omega) hpn y hy)
    exact ⟨_, _, rfl, aM A _, ao (fun hh => by cases hh) (fun _ => ⟨some 11, rfl, .inr ⟨rfl, hst, q', d', hD', hn', hst', hcr.unit h.S.N ha1 rfl h.O ⟨hO', fun _ => rfl⟩, ⟨(k1.iK ft).1.mono (fun k hk => .inr hk), fun k hk => ((k1.iK ft).2 k hk).imp .inr (fun g => g)⟩⟩⟩)⟩
end
end Go.D
namespace Go.D
open Go Go.Proofs
section
variable {w w' : World} {n0 r rd m : Nat} {f : UnF} {d : aP} {s : UnS}
theorem UAt.D4 (h : UAt w n0 r rd f d s m) {V : List aT} {n : Nat} {c : Rc} {u' : StP} {q' : cD} {d' : aP} (hc : okR c) (hnp : ∀ a t, c ≠ .dy a t) (ha : appU (d.n / 64) s.U c = some (n, V)) (hS : Sys w' n0 f.st rd u' q' d' (sU V) (m + 1)) (ft : bp (ct f.st f.u rd f.q) (ct f.st u' rd q') w w') :
  UnM w' r f.st f.x s.tr s.ep f.top (pgM V s.tr) (gT V) /\ (∀ k, UnW r f.x k -> ¬ ct f.st u' rd q' k) /\ (∀ k, UnY f.x k -> ¬ UB r rd ⟨f.st, f.x, u', q', f.top⟩ k) := by
 have hqs := (jg ha).1
 have hal := sT hqs
 have hM := h.M.ext ft.1 h.sep (fun k hk hh => h.qL k hk (.inr hh))
 have hin : gT V = gT s.U := by
  rw [AP hqs]
  cases c with
  | dy a t => exact absurd rfl (hnp a t)
  | trim t e => rfl
  | shut e => rfl
 rw [C2 hal hnp, hin]
 refine ⟨hM, fun k hk hh => (ft.2 k hh).elim (h.sep k hk) (fun hh => by have := h.M.lt.1 k hk; omega), fun k hk hh => ?_⟩
 rcases hh with hh | hh
 ·exact h.qL k hk (.inl hh)
 ·rcases ft.2 k hh with g | g
  ·exact h.qL k hk (.inr g)
  ·have := h.M.lt.2 k hk; omega
theorem Af (A : Nat -> Addr) (h : UAt w n0 r rd f d s m) (hE : bh A n0 w) (hm : m <= 2 ^ 60) (epoch : Int) :
  Calls Tryz.prog gx ⟨[aw r, .int .i64 epoch]⟩ w fun e w' => ∃ (n : Int) (e' : Option Nat), e = .returned (.tuple ⟨[.int .i64 n, cj A e']⟩) /\ wW w n0 r rd f d s m (lh (d.n / 64) s epoch) e' w' /\ (e' = (lh (d.n / 64) s epoch).1 -> n = if e' = none then ((lh (d.n / 64) s epoch).2.T : Int) else 0) := by
 refine pY _ _ ?_
 unfold nq
 have hG : bF Bz A n0 w := hE.g.sub qC
 have hep := h.T.2
 have kd : aj w (World.drew w) := Ext.drew _ _
 unfold lh
 refine ⟨fun b w2 => b = decide (epoch < 0 \/ 1073741824 < epoch) /\ w2 = w, ae (fun h0 => ⟨(decide_eq_true (.inl h0)).symm, rfl⟩) (fun h0 => ⟨by rw [decide_eq_decide]; omega, rfl⟩), ?_⟩
 rintro b w5 ⟨rfl, rfl⟩
 intros
 refine ae (fun h1 => ?_) (fun h1 => aa rfl ⟨_, h.M.c.2.2.2.2.1, ae (fun h2 => ?_) (fun h2 => aa rfl ⟨_, h.M.c.2.2.2.2.1, ?_⟩)⟩)
 ·rw [if_pos h1]
  exact ⟨_, eW (hG.af kd) 13 gi rfl (by decide), 0, _, rfl, h.sL kd, fun _ => rfl⟩
 ·rw [if_neg h1, if_pos h2]
  exact ⟨_, eW (hG.af kd) 7 cQ rfl (by decide), 0, _, rfl, h.sL kd, fun _ => rfl⟩
 rw [if_neg h1, if_neg h2]
 refine ae (fun h3 => ?_) (fun h3 => ?_)
 ·rw [if_neg (by omega)]
  obtain ⟨en, rfl⟩ : ∃ en : Nat, epoch = en := ⟨epoch.toNat, by omega⟩
  rw [Int.toNat_natCast]
  have hok : okR (.shut en) := show en <= 2 ^ 30 by omega
  refine (lW A h.S h.M hE hm (.shut en) hok (fun _ _ hh => by cases hh) ⟨none, 0, 0⟩ (fun ⟨_, _, hh⟩ => by cases hh)).mono ?_
  rintro e w53 ⟨n, e', w1, rfl, k1, hp⟩
  rcases hp.unit hok with ⟨ha1, rfl, hD, hk⟩ | ⟨n', V, ha1, rfl, rfl, u', q', d', hS', hn', hst', ft⟩ | ⟨n', V, ha1, rfl, hst, q', d', hD', hn', hst', hcr, ft⟩
  ·rw [ha1]
   exact ⟨_, _, rfl, aM A _, ao (fun _ => ⟨_, _, rfl, h.sL (k1.trans hk), fun _ => rfl⟩) (fun hh => by cases hh)⟩
  ·rw [ha1]
   have ft' : bp (ct f.st f.u rd f.q) (ct f.st u' rd q') w5 w53 := k1.iK ft
   obtain ⟨hM53, sepW, qL⟩ := h.D4 hok (fun _ _ hh => by cases hh) ha1 hS' ft'
   obtain ⟨c1, c2⟩ := hM53.o.aN 4 (by simp) (.int .i64 (en : Int))
   refine ⟨_, _, rfl, aM A _, ao (fun hh => by cases hh) (fun _ => aa rfl ?_)⟩
   rw [add_lit]
   refine ⟨c1, fun w23 hw23 => ?_⟩
   obtain ⟨o23, e23, _⟩ := c2 w23 hw23
   have hM23 := hM53.CN e23 o23
   have hO' := vQ h.O hok ha1 (fun a' t' he y hy => by cases he)
   have x23 : Ext (UB r rd f) w5 w23 := (ft'.1.mono (fun k hk => Or.inr hk)).trans e23 (fun _ h => h) (fun k hk => .inl (.inl (.inl hk)))
   have hS23 := hS'.ext e23 (fun k hk hh => sepW r (.inl rfl) (by rw [<- show k = r from hh]; exact hk))
   have fin : ∀ {w25}, aj w23 w25 -> wW w5 n0 r rd f d s m (none, ⟨V, s.tr, en, s.T⟩) none w25 := fun k25 =>
    .inl ⟨rfl, ⟨f.st, f.x, u', q', f.top⟩, d', ⟨hS23.af k25, hM23.af k25, hO', h.t, ⟨h.T.1, by show en <= 2 ^ 30; omega⟩, sepW, qL, h.n⟩, hn', hst', ⟨⟨x23.trans k25 (fun _ h => h) (fun _ h => h.elim), fun k hk => hk.elim (fun h => .inl (.inl h)) (fun h => (ft'.2 k h).imp .inr (fun h => h))⟩, fun k hk => .inl hk⟩⟩
   refine (pD hM23).mono ?_
   rintro e w25 ⟨rfl, k25⟩
   exact ⟨_, rfl, _, none, rfl, fin k25, fun _ => h.t.2⟩
  ·rw [ha1]
   have hO' := vQ h.O hok ha1 (fun a' t' he y hy => by cases he)
   have hal := sT (jg ha1).1
   exact ⟨_, _, rfl, aM A _, ao (fun _ => ⟨_, some 11, rfl, .inr ⟨rfl, hst, q', d', hD', hn', hst', hcr.unit h.S.N ha1 rfl h.O ⟨hO', fun _ => rfl⟩, ⟨(k1.iK ft).1.mono (fun k hk => .inr hk), fun k hk => ((k1.iK ft).2 k hk).imp .inr (fun g => g)⟩⟩, fun hh => by cases hh⟩) (fun hh => by cases hh)⟩
 ·rw [if_pos (by omega)]
  refine (pD h.M).mono ?_
  rintro e w28 ⟨rfl, k28⟩
  exact ⟨_, rfl, _, none, rfl, h.sL k28, fun _ => h.t.2⟩
theorem UnM.Fc {st : Nat} {x : UnP} {tr ep top : Int} {pg : Int -> Option (List UInt8)} {ins : Int -> List Int} (h : UnM w r st x tr ep top pg ins) (n : Int) (hp : fW KS w' x.mi (iE x.il n)) (he : Ext (fun j => j = x.mi) w w') : UnM w' r st { x with il := iE x.il n } tr ep top pg (gS ins n []) := by
 have lk : ∀ b, lookL (iE x.il n) b = if b = n then none else lookL x.il b := fun b => qa n b h.i.nd
 obtain ⟨_, _, hi1, _⟩ := h.i.at'
 have rmi := h.AO.2
 refine ⟨h.o.ext he (fun hh => rmi hh), h.p.ext he (fun hh => h.ne hh), hp, h.ne, fun a => ⟨fun s hs => ?_, (h.pv a).2⟩, fun b => ?_, fun a b s t ha hb hne => ?_, fun a s ha => ?_, fun a s hs h0 j hj => ?_⟩
 ·obtain ⟨t, g1, g2, g3⟩ := (h.pv a).1 s hs
  exact ⟨t, g1, aY g2 he (fun h0 j hj hh => cE g2 h0 (show au s x.mi from hh ▸ hj) hi1), g3⟩
 ·dsimp only
  rw [lk]
  unfold gS
  by_cases e : b = n
  ·rw [if_pos e, if_pos e]; exact bB.nil _
  ·rw [if_neg e, if_neg e]
   refine (h.iv b).ext he (fun j hj hh => ?_)
   obtain ⟨c, T, f, hc⟩ := Own.ne (h.iv b).own hj
   rw [hh, hi1] at hc; cases hc
 ·dsimp only at ha hb
  rw [lk] at ha hb
  by_cases e : a = n
  ·rw [if_pos e] at ha; cases ha
  ·by_cases e2 : b = n
   ·rw [if_pos e2] at hb; cases hb
   ·rw [if_neg e] at ha; rw [if_neg e2] at hb
    exact h.sep a b s t ha hb hne
 ·dsimp only at ha
  rw [lk] at ha
  by_cases e : a = n
  ·rw [if_pos e] at ha; cases ha
  ·rw [if_neg e] at ha
   exact h.ir a s ha
 ·obtain ⟨y1, y2⟩ := h.pb a s hs h0 j hj
  refine ⟨y1, fun b t hb => ?_⟩
  dsimp only at hb
  rw [lk] at hb
  by_cases e : b = n
  ·rw [if_pos e] at hb; cases hb
  ·rw [if_neg e] at hb
   exact y2 b t hb
theorem uK {x : UnP} {st : Nat} {tr ep top : Int} {pg : Int -> Option (List UInt8)} {ins : Int -> List Int} {r2 : Nat} (h : UnM w r st x tr ep top pg ins) (o2 : ak w r2 [aw r]) (sl : Slc) (l : List Int) (hl : bB w sl l) (hlen : l.length <= 2 ^ 40) :
  Calls Tryz.prog cZ ⟨[sl.v, .func (.func eE) ⟨[]⟩ ⟨[aw r2]⟩]⟩ w fun e w' => e = .returned (.bool (!l.all fun a => decide (a < tr))) /\ w' = w := by
 refine dF _ _ ?_
 unfold bR
 have hsl := Rows.sl hl
 refine Calls.mono (R := fun e w' => ∃ n : Int, e = .returned (.int .i64 n) /\ (decide ((0 : Int) <= n)) = (!l.all fun a => decide (a < tr)) /\ w' = w) (dZ _ _ ?_) ?_
 ·unfold cw
  refine ⟨fun i w2 => ∃ k : Nat, i = k /\ k <= l.length /\ (l.take k).all (fun a => decide (a < tr)) = true /\ w2 = w, fun i _ => ((l.length : Int) - i).toNat, ⟨0, rfl, by omega, by simp, rfl⟩, ?_⟩
  rintro i w6 ⟨k, rfl, hk, hall, rfl⟩
  intros
  refine ae (fun h0 => ?_) (fun h0 => ⟨-1, rfl, ?_, rfl⟩)
  ·have hkl : k < l.length := by omega
   obtain ⟨a, ha, hc⟩ := hl.get hkl
   refine aa ha ⟨by omega, h0, _, by rw [Int.toNat_natCast]; exact hc, ?_⟩
   refine Calls.mono (R := fun e w' => e = .returned (.bool (decide (tr <= l[k]))) /\ w' = w6) (lJ _ _ ?_) ?_
   ·unfold iT
    exact aa rfl ⟨_, o2.cell 0 (by simp), aa rfl ⟨_, h.c.2.2.2.1, rfl, rfl⟩⟩
   ·rintro e w22 ⟨rfl, rfl⟩
    refine ⟨_, rfl, ae (fun h1 => ⟨_, rfl, ?_, rfl⟩) (fun h1 => ⟨aA (by omega), ⟨k + 1, rfl, hkl, ?_, rfl⟩, by dsimp only; omega⟩)⟩
    ·have : l.all (fun a => decide (a < tr)) = false := by
      rw [Bool.eq_false_iff]
      intro hh
      have := List.all_eq_true.1 hh _ (List.getElem_mem hkl)
      have h3 : l[k] < tr := by simpa using this
      omega
     rw [this]
     exact decide_eq_true (by omega)
    ·rw [ik _ _ hkl, List.all_append, hall]
     simp; omega
  ·have : k = l.length := by omega
   subst this
   rw [List.take_length] at hall
   rw [hall]; rfl
 ·rintro e w' ⟨n, rfl, hn, rfl⟩
  exact ⟨n, rfl, by rw [hn], rfl⟩
end
theorem Ag {g h : aT} {t : List aT} : dropR (sU (g :: h :: t)) (g.num : Int) = (none, sU (h :: t)) := by
 unfold dropR
 have : (sU (g :: h :: t)).findIdx? (fun x => decide ((x.num : Int) = (g.num : Int))) = some 0 := by
  simp [List.findIdx?_cons, aT.s]
 rw [this]
 simp
def nK (U : List aT) (tr ep : Nat) : Prop := ∃ M p n rs, U = M ++ [⟨p, n, rs ++ [.trim tr ep]⟩]
theorem nK.tail {g h : aT} {t : List aT} {tr ep : Nat} (hh : nK (g :: h :: t) tr ep) : nK (h :: t) tr ep := by
 obtain ⟨M, p, n, rs, e⟩ := hh
 cases M with
 | nil => simp at e
 | cons x M =>
  simp only [List.cons_append, List.cons.injEq] at e
  exact ⟨M, p, n, rs, e.2⟩
theorem nK.all {U : List aT} {tr ep : Nat} (hh : nK U tr ep) : ∃ R, eS U = R ++ [.trim tr ep] := by
 obtain ⟨M, p, n, rs, rfl⟩ := hh
 rw [oc]
 exact ⟨eS M ++ rs, by simp⟩
theorem yH {g : aT} {U : List aT} {tr : Nat} (h : ∀ a, tr <= a -> dI (pgU U) a = dI (pgU (g :: U)) a) : pgM U tr = pgM (g :: U) tr := by
 funext a
 unfold pgM
 split
 ·rfl
 ·rw [h _ (by omega)]
end Go.D
namespace Go.D
open Go Go.Proofs
section
variable {w w' : World} {n0 r rd m : Nat} {f : UnF} {d : aP} {s : UnS}
theorem UnM.EX {st : Nat} {x : UnP} {tr ep top : Int} {pg : Int -> Option (List UInt8)} {ins : Int -> List Int} (h : UnM w r st x tr ep top pg ins) : ∀ k, UnY x k -> ¬ UnW r x k := by
 rintro k ⟨b, s0, hs0, h00, hk0⟩ hh
 obtain ⟨y1, y2⟩ := h.pb b s0 hs0 h00 k hk0
 obtain ⟨t0, _, hb0, _⟩ := (h.pv b).1 s0 hs0
 rcases hh with hh | hh | hh | ⟨n, s1, hs1, hk1⟩
 ·exact y1 hh
 ·obtain ⟨_, _, hp1, _⟩ := h.p.at'
  exact cE hb0 h00 hk0 (by rw [hh]; exact hp1)
 ·obtain ⟨_, _, hp1, _⟩ := h.i.at'
  exact cE hb0 h00 hk0 (by rw [hh]; exact hp1)
 ·exact y2 n s1 hs1 hk1
theorem C3 (P : List (Nat × List UInt8)) (tr : Nat) : (P.map fun y => (y.1 : Int)).all (fun a => decide (a < (tr : Int))) = P.all fun y => decide (y.1 < tr) := by
 rw [List.all_map]
 congr 1
 funext y
 simp [decide_eq_decide]
theorem pF {tr ep T : Nat} : ∀ U : List aT, gp U tr ep T -> nK U tr ep -> pgM (fJ tr U) tr = pgM U tr
 | [], _, _ => rfl
 | [g], _, _ => rfl
 | g :: h :: t, hO, hend => by
  show pgM (if _ then _ else _) tr = _
  split
  ·rename_i hall
   obtain ⟨hO3, hpgA⟩ := gp.drop hO hend.tail.all (fun y hy => by
    have := List.all_eq_true.1 hall y hy
    simpa using this)
   rw [pF (h :: t) hO3 hend.tail, yH hpgA]
  ·rfl
theorem vh (A : Nat -> Addr) (h : UAt w n0 r rd f d s (m + 1)) (hE : bh A n0 w) (hm : m + 1 <= 2 ^ 60) (hend : nK s.U s.tr s.ep) :
  Calls Tryz.prog ff ⟨[aw r]⟩ w fun e w' => ∃ e', e = .returned (cj A e') /\ wW w n0 r rd f d s m (none, ⟨fJ s.tr s.U, s.tr, s.ep, s.T⟩) e' w' := by
 refine nk _ ?_
 unfold jX
 have hUL := h.S.len
 have hk19 := h.S.k
 have hULe : (sU s.U).length = s.U.length := by simp
 have hso := j9 (R := fun a b => a < b) h.S.I.so
 refine aq (fun r2 w3 hr2 hb2 k2 hs2 => ?_)
 have o2 := ak.cF hb2
 have lt := h.lt
 refine ⟨_, o2.cell 0 (by simp), aa rfl ⟨_, (h.af k2).M.c.1, (nz (h.af k2).S.B.S (by omega)).mono ?_⟩⟩
 rintro e w8 ⟨s9, rfl, hI9, hf9, k8⟩
 have z3 := k2.size
 have z8 := k8.size
 have hl9 : s9.l = s.U.length := by
  have := Rows.sl hI9
  simpa using this
 have hne : s.U ≠ [] := by
  obtain ⟨M, p, n, rs, e⟩ := hend
  rw [e]; simp
 have hpos : 0 < s.U.length := List.length_pos_iff.2 hne
 refine ⟨s9, rfl, fun i w2 => ∃ (j : Nat) (f2 : UnF) (d2 : aP) (s2 : UnS), i = j /\ j < s.U.length /\ UAt w2 n0 r rd f2 d2 s2 (m + 1) /\ s2.U = s.U.drop j /\ s2.tr = s.tr /\ s2.ep = s.ep /\ s2.T = s.T /\ pgM s2.U s.tr = pgM s.U s.tr /\ fJ s.tr s2.U = fJ s.tr s.U /\ nK s2.U s.tr s.ep /\
   d2.n = d.n /\ d2.stops = d.stops /\ eY r rd f f2 w w2 /\ bB w2 s9 ((sU s.U).map fun g => (g.num : Int)) /\ (∀ k, UB r rd f2 k -> ¬ au s9 k /\ k ≠ r2) /\ ak w2 r2 [aw r], fun i _ => ((s.U.length : Int) - i).toNat,
  ⟨0, f, d, s, rfl, hpos, (h.af k2).af k8, by simp, rfl, rfl, rfl, rfl, rfl, hend, rfl, rfl, (k2.trans k8).sj (eY.refl _ _ _ _), hI9, fun k hk => ⟨fun hh => ?_, ?_⟩, o2.af k8⟩, ?_⟩
 ·have := hf9 k hh; have := lt.1 k hk; omega
 ·have := lt.1 k hk; omega
 rintro i w13 ⟨j, f2, d2, s2, rfl, hj, h2, e1, e2, e3, e4, e5, e6, hend2, hdn, hds, uf, hI13, hap, o13⟩
 intros
 have z13 := uf.1.1.size
 -- what there is
 have hdrop : s.U.drop j = s.U[j] :: s.U.drop (j + 1) := List.drop_eq_getElem_cons hj
 have same : ∀ U, uJ U s2 -> uJ U s := fun U ⟨t1, t2⟩ => by
  rw [e2, e3, e4] at t1
  refine ⟨t1, fun a => ?_⟩
  have := t2 a
  rw [e2] at this
  rw [this, e5]
 have done : ∀ {w5}, aj w13 w5 -> fJ s.tr s2.U = s2.U -> wW w n0 r rd f d s m (none, ⟨fJ s.tr s.U, s.tr, s.ep, s.T⟩) none w5 := fun k5 hr => by
  refine .inl ⟨rfl, f2, d2, ?_, hdn, hds, uf.af k5⟩
  have := h2.af k5
  rw [hr] at e6
  have e7 : s2 = ⟨fJ s.tr s.U, s.tr, s.ep, s.T⟩ := by
   cases s2
   simp only at e2 e3 e4 e6 ⊢
   rw [e2, e3, e4, e6]
  rw [<- e7]; exact this
 refine ae (fun h0 => ?_) (fun h0 => absurd h0 (by omega))
 obtain ⟨a52, ha52, hc52⟩ := hI13.get (i := j) (by simpa using hj)
 have hnum : (((sU s.U).map fun g => (g.num : Int))[j]'(by simpa using hj)) = (s.U[j].num : Int) := by simp [aT.s]
 rw [hnum] at hc52
 refine aa ha52 ⟨by omega, h0, _, by rw [Int.toNat_natCast]; exact hc52, ?_⟩
 refine ⟨fun w2 => aj w13 w2 /\ ∃ g' t', s2.U = s.U[j] :: g' :: t' /\ (pagesOf s.U[j].rs).all (fun y => decide (y.1 < s.tr)) = true, ⟨_, o13.cell 0 (by simp), aa rfl ⟨_, h2.M.c.1, (ui h2.S.B.S (by have := h2.S.len; omega)).mono ?_⟩⟩, ?_⟩
 ·rintro e w59 ⟨rfl, k59⟩
  have h59 := h2.af k59
  have hlen2 : (sU s2.U).length = s.U.length - j := by rw [e1]; simp
  have hlast := nY (L := sU s2.U) (by omega)
  have hso2 := j9 (R := fun a b => a < b) h2.S.I.so
  have e0 : s2.U = s.U[j] :: s.U.drop (j + 1) := by rw [e1, hdrop]
  refine ⟨_, rfl, ae (fun h3 => ?_) (fun h3 => ?_)⟩
  ·refine ⟨none, rfl, done k59 ?_⟩
   cases ht : s.U.drop (j + 1) with
   | nil => rw [e0, ht]; rfl
   | cons g' t' =>
    exfalso
    rw [hlast] at h3
    have hl : (s2.U).length = t'.length + 2 := by rw [e0, ht]; simp
    have e8 : ((sU s2.U)[(sU s2.U).length - 1]'(by omega)).num = (s2.U[s2.U.length - 1]'(by omega)).num := by simp [aT.s]
    rw [e8] at h3
    have := List.pairwise_iff_getElem.1 hso2 0 (s2.U.length - 1) (by omega) (by omega) (by omega)
    have e9 : s2.U[0]'(by omega) = s.U[j] := by simp [e0]
    rw [e9] at this
    omega
  ·cases ht : s.U.drop (j + 1) with
   | nil =>
    exfalso
    rw [hlast] at h3
    have hl : (s2.U).length = 1 := by rw [e0, ht]; simp
    have e8 : ((sU s2.U)[(sU s2.U).length - 1]'(by omega)).num = (s2.U[s2.U.length - 1]'(by omega)).num := by simp [aT.s]
    rw [e8] at h3
    have e9 : s2.U[s2.U.length - 1]'(by omega) = s.U[j] := by simp [e0, ht]
    rw [e9] at h3
    omega
   | cons g' t' =>
    rw [ht] at e0
    have hdist : ∀ y ∈ g' :: t', y.num ≠ s.U[j].num := fun y hy => by
     rw [e0] at hso2
     have := (List.pairwise_cons.1 hso2).1 y hy; omega
    obtain ⟨es, g1, g2⟩ := h59.M.i.get
    have hiv := h59.M.iv (s.U[j].num : Int)
    have hfew := h2.O.wV (s.U[j].num : Int)
    have hin : gT s2.U (s.U[j].num : Int) = (pagesOf s.U[j].rs).map fun y => (y.1 : Int) := by rw [e0]; exact BD hdist
    refine ⟨_, (o13.af k59).cell 0 (by simp), aa rfl ⟨_, h59.M.c.2.2.1, es, g1, lookL f2.x.il (s.U[j].num : Int), g2 _, (uK h59.M (o13.af k59) _ _ hiv (by omega)).mono ?_⟩⟩
    rintro e w67 ⟨rfl, rfl⟩
    rw [hin, e2, C3]
    refine ⟨_, rfl, ao (fun h4 => ⟨none, rfl, done k59 ?_⟩) (fun h4 => ⟨k59, g', t', e0, by simpa using h4⟩)⟩
    have h5 : (pagesOf s.U[j].rs).all (fun y => decide (y.1 < s.tr)) = false := by simpa using h4
    rw [e0]
    show (if _ then _ else _) = _
    rw [h5, if_neg (by simp)]
 ·rintro w69 ⟨k69, g', t', e0, hall⟩
  intros
  have h69 := h2.af k69
  have z69 := k69.size
  have hG : bh A n0 w69 := ((hE.ext uf.1.1 h.ge).af k69)
  have hso2 := j9 (R := fun a b => a < b) h2.S.I.so
  refine ⟨_, (o13.af k69).cell 0 (by simp), aa rfl ⟨_, h69.M.c.1, (zT A h69.S (hG.g.sub qw) hm (s.U[j].num : Int)).mono ?_⟩⟩
  rintro e w92 ⟨e', rfl, q', d', hD', hdn', hds', hcase⟩
  rw [e0, Ag] at hcase
  have hok2 := h2.O
  rw [e0] at hok2
  have hend3 : nK (g' :: t') s.tr s.ep := by rw [e0] at hend2; exact hend2.tail
  obtain ⟨hO3, hpgA⟩ := gp.drop (tr := s2.tr) (ep := s2.ep) (T := s2.T) hok2 (by rw [e2, e3]; exact hend3.all) (fun y hy => by
   have := List.all_eq_true.1 hall y hy
   rw [e2]; simpa using this)
  have hpgD := yH hpgA
  have hdist : ∀ y ∈ g' :: t', y.num ≠ s.U[j].num := fun y hy => by
   rw [e0] at hso2
   have := (List.pairwise_cons.1 hso2).1 y hy; omega
  rcases hcase with ⟨h5, _⟩ | ⟨_, rfl, u', hS', ft⟩ | ⟨_, rfl, hst, hcr, ft⟩
  ·exact absurd rfl h5
  ·refine ⟨_, rfl, aM A _, ao (fun hh => by cases hh) (fun _ => ?_)⟩
   have hM92 := h69.M.ext ft.1 h69.sep (fun k hk hh => h69.qL k hk (.inr hh))
   have sepW : ∀ k, UnW r f2.x k -> ¬ ct f2.st u' rd q' k := fun k hk hh => (ft.2 k hh).elim (h2.sep k hk) (fun hh => by have := h69.M.lt.1 k hk; omega)
   have hb92 : ∀ k, ct f2.st u' rd q' k -> ¬ au s9 k /\ k ≠ r2 := fun k hk => by
    rcases ft.2 k hk with g | g
    ·exact hap k (.inr g)
    ·refine ⟨fun hh => ?_, fun hh => ?_⟩
     ·have := Rows.lt hI13 k hh; omega
     ·have := o13.lt; omega
   have I92 := (hI13.af k69).ext ft.1 (fun k hk hh => (hap k (.inr hh)).1 hk)
   have o92 := (o13.af k69).ext ft.1 (fun hh => (hap _ (.inr hh)).2 rfl)
   obtain ⟨es1, ck1, es2, m1, m2, m3⟩ := hM92.i.del (s.U[j].num : Int)
   refine ⟨_, o92.cell 0 (by simp), aa rfl ⟨_, hM92.c.2.2.1, f2.x.mi, es1, ck1, es2, rfl, m1, m2, fun w101 hw101 => ?_⟩⟩
   obtain ⟨i101, e101, z101⟩ := m3 w101 hw101
   have hM101 := hM92.Fc (s.U[j].num : Int) i101 e101
   have hin : gT (g' :: t') = gS (gT s2.U) (s.U[j].num : Int) [] := by rw [e0]; exact BE hdist
   rw [<- hin] at hM101
   have hpg : pgM s2.U s2.tr = pgM (g' :: t') s2.tr := by rw [e0]; exact hpgD.symm
   rw [hpg] at hM101
   have hS101 := hS'.ext e101 (fun k hk hh => sepW f2.x.mi (.inr (.inr (.inl rfl))) (by rw [<- show k = f2.x.mi from hh]; exact hk))
   have jlt : j + 1 < s.U.length := by
    have : (s.U.drop j).length = t'.length + 2 := by rw [<- e1, e0]; simp
    rw [List.length_drop] at this; omega
   have subW : ∀ k, UnW r { f2.x with il := iE f2.x.il (s.U[j].num : Int) } k -> UnW r f2.x k := by
    rintro k (hk | hk | hk | ⟨b, s1, hs1, hk⟩)
    ·exact .inl hk
    ·exact .inr (.inl hk)
    ·exact .inr (.inr (.inl hk))
    ·dsimp only at hs1
     rw [qa _ b h2.M.i.nd] at hs1
     by_cases e : b = (s.U[j].num : Int)
     ·rw [if_pos e] at hs1; cases hs1
     ·rw [if_neg e] at hs1
      exact .inr (.inr (.inr ⟨b, s1, hs1, hk⟩))
   have x101 : Ext (UB r rd f2) w13 w101 := (Ext.trans k69 (ft.1.mono (fun k hk => Or.inr hk)) (fun _ h => h.elim) (fun _ h => .inl h)).trans e101 (fun _ h => h) (fun k hk => .inl (.inl (.inr (.inr (.inl hk)))))
   have uf101 : eY r rd f2 ⟨f2.st, { f2.x with il := iE f2.x.il (s.U[j].num : Int) }, u', q', f2.top⟩ w13 w101 := by
    refine ⟨⟨x101, fun k hk => ?_⟩, fun k hk => .inl hk⟩
    rcases hk with hk | hk
    ·exact .inl (.inl (subW k hk))
    ·exact (ft.2 k hk).elim (fun g => .inl (.inr g)) (fun g => .inr (by omega))
   refine ⟨aA (by omega), ⟨j + 1, ⟨f2.st, { f2.x with il := iE f2.x.il (s.U[j].num : Int) }, u', q', f2.top⟩, d', ⟨g' :: t', s2.tr, s2.ep, s2.T⟩, rfl, jlt, ⟨hS101, hM101, hO3, h2.t, h2.T, fun k hk hh => sepW k (subW k hk) hh, fun k hk hh => ?_, fun k hk => h2.n k (subW k hk)⟩, ?_, e2, e3, e4, ?_, ?_, hend3, by rw [hdn', hdn], by rw [hds', hds], uf.trans uf101, ?_, ?_, ?_⟩, by dsimp only; omega⟩
   ·rcases hh with hh | hh
    ·exact h2.qL k hk (.inl (subW k hh))
    ·rcases ft.2 k hh with g | g
     ·exact h2.qL k hk (.inr g)
     ·have := h69.M.lt.2 k hk; omega
   ·show g' :: t' = s.U.drop (j + 1)
    have : (s.U.drop j).tail = (s2.U).tail := by rw [e1]
    rw [hdrop, e0] at this
    exact this.symm
   ·show pgM (g' :: t') s.tr = _
    rw [<- e5, <- e2, hpg]
   ·show fJ s.tr (g' :: t') = _
    rw [<- e6, e0]
    show _ = (if _ then _ else _)
    rw [hall, if_pos rfl]
   ·exact I92.ext e101 (fun k hk hh => (hap k (.inl (.inr (.inr (.inl hh))))).1 hk)
   ·rintro k (hk | hk)
    ·exact hap k (.inl (subW k hk))
    ·exact hb92 k hk
   ·exact o92.ext e101 (fun hh => (hap r2 (.inl (.inr (.inr (.inl hh))))).2 rfl)
  ·refine ⟨_, rfl, aM A _, ao (fun _ => ⟨some 11, rfl, .inr ⟨rfl, by rw [<- hds]; exact hst, q', d', hD', by rw [hdn', hdn], by rw [hds', hds], ⟨hcr.1, fun a b c => ?_⟩, ?_⟩⟩) (fun hh => by cases hh)⟩
   ·obtain ⟨L, hL, hI⟩ := hcr.2 a b c
    rw [hdn] at hI
    simp only [List.mem_cons, List.not_mem_nil, or_false] at hL
    rcases hL with rfl | rfl
    ·refine ⟨s.U[j] :: g' :: t', hI, fun g hg => h2.S.N g (by rw [e0]; exact hg), s, by simp, same _ ⟨hok2, fun a => by rw [e0]⟩⟩
    ·refine ⟨g' :: t', hI, fun g hg => h2.S.N g (by rw [e0]; exact List.mem_cons_of_mem _ hg), s, by simp, same _ ⟨hO3, fun a => by rw [hpgD, e0]⟩⟩
   ·have f1 : bp (UB r rd f2) (bg rd q') w13 w92 := ⟨Ext.trans k69 (ft.1.mono (fun k hk => Or.inr hk)) (fun _ h => h.elim) (fun _ h => .inl h), fun k hk => (ft.2 k hk).elim (fun g => .inl (.inr g)) (fun g => .inr (by omega))⟩
    exact uf.1.trans f1
theorem uJ.trans {U : List aT} {s1 s2 : UnS} (h : uJ U s1) (e1 : s2.tr = s1.tr) (e2 : s2.ep = s1.ep) (e3 : s2.T = s1.T) (e4 : ∀ a, pgM s1.U s1.tr a = pgM s2.U s1.tr a) : uJ U s2 := by
 obtain ⟨t1, t2⟩ := h
 refine ⟨by rw [e1, e2, e3]; exact t1, fun a => ?_⟩
 rw [e1, t2 a, e4 a]
theorem Ah (A : Nat -> Addr) (h : UAt w n0 r rd f d s m) (hE : bh A n0 w) (hm : m + 1 <= 2 ^ 60) (epoch to : Int) :
  Calls Tryz.prog gw ⟨[aw r, .int .i64 epoch, .int .i64 to]⟩ w fun e w' => ∃ e', e = .returned (cj A e') /\ wW w n0 r rd f d s m (vO (d.n / 64) s epoch to) e' w' := by
 refine pX _ _ _ ?_
 unfold np
 have hG : bF Bz A n0 w := hE.g.sub qC
 refine (nH A h.M epoch to 4096 hG).mono ?_
 rintro e w6 ⟨rfl, rfl⟩
 unfold vO
 cases hc : iO s.ep epoch to 4096 with
 | some c => exact ⟨_, rfl, aM A _, ao (fun _ => ⟨_, rfl, h.sL (Ext.refl _ _)⟩) (fun hh => by cases hh)⟩
 | none =>
  have ha : 0 <= to /\ to <= 4096 := by
   unfold iO at hc
   split at hc
   ·cases hc
   ·split at hc
    ·cases hc
    ·omega
  refine ⟨_, rfl, aM A _, ao (fun hh => by cases hh) (fun _ => aa rfl ⟨_, h.M.c.2.2.2.1, ae (fun h0 => ?_) (fun h0 => ?_)⟩)⟩
  ·dsimp only
   rw [if_pos h0]
   exact ⟨none, rfl, h.sL (Ext.refl _ _)⟩
  dsimp only
  rw [if_neg h0]
  obtain ⟨tn, rfl⟩ : ∃ tn : Nat, to = tn := ⟨to.toNat, by omega⟩
  rw [Int.toNat_natCast]
  have hok : okR (.trim tn s.ep) := ⟨by omega, h.T.2⟩
  have ht4 := h.T.1
  have htt := h.t
  have htl := h.O.tl
  refine (lW A h.S h.M hE (by omega) (.trim tn s.ep) hok (fun _ _ hh => by cases hh; rfl) ⟨none, 0, 0⟩ (fun ⟨_, _, hh⟩ => by cases hh)).mono ?_
  rintro e w53 ⟨n, e', w1, rfl, k1, hp⟩
  rcases hp.unit hok with ⟨ha1, rfl, hD, hk⟩ | ⟨n', V, ha1, rfl, rfl, u', q', d', hS', hn', hst', ft⟩ | ⟨n', V, ha1, rfl, hst, q', d', hD', hn', hst', hcr, ft⟩
  ·rw [ha1]
   exact ⟨_, _, rfl, aM A _, ao (fun _ => ⟨_, rfl, h.sL (k1.trans hk)⟩) (fun hh => by cases hh)⟩
  ·rw [ha1]
   have hO' := vQ h.O hok ha1 (fun a' t' he y hy => by cases he)
   have eT : max (dK (pgU s.U)) tn = max s.T tn := by omega
   have ft' : bp (ct f.st f.u rd f.q) (ct f.st u' rd q') w6 w53 := k1.iK ft
   obtain ⟨hM53, sepW, qL⟩ := h.D4 hok (fun _ _ hh => by cases hh) ha1 hS' ft'
   obtain ⟨c1, c2⟩ := hM53.o.aN 3 (by simp) (.int .i64 (tn : Int))
   refine ⟨_, _, rfl, aM A _, ao (fun hh => by cases hh) (fun _ => aa rfl ?_)⟩
   rw [add_lit]
   refine ⟨c1, fun w14 hw14 => ?_⟩
   obtain ⟨o14, e14, _⟩ := c2 w14 hw14
   have hM14 := hM53.CN e14 o14
   have hS14 := hS'.ext e14 (fun k hk hh => sepW r (.inl rfl) (by rw [<- show k = r from hh]; exact hk))
   have x14 : Ext (UB r rd f) w6 w14 := (ft'.1.mono (fun k hk => Or.inr hk)).trans e14 (fun _ h => h) (fun k hk => .inl (.inl (.inl hk)))
   refine (qD hM14).mono ?_
   rintro e w16 ⟨rfl, x', hM16, t1, t2, t3⟩
   have z53 := ft'.1.size
   have z14 := e14.size
   have z16 := t1.size
   have hcut : uF (tn : Int) (pgM V s.tr) = pgM V tn := by
    funext a
    unfold uF pgM
    by_cases e : a < (tn : Int)
    ·rw [if_pos e, if_pos e]
    ·rw [if_neg e, if_neg e, if_neg (by omega)]
   rw [hcut] at hM16
   have hSlt := hS'.B.lt
   have x16 : Ext (UB r rd f) w6 w16 := x14.trans t1 (fun _ h => h) (fun k hk => .inl (.inl hk))
   have hO1 : gp V tn s.ep (max s.T tn) := by
    have := hO'
    simp only [jF, tailR] at this
    rw [eT] at this; exact this
   have h16 : UAt w16 n0 r rd ⟨f.st, x', u', q', f.top⟩ d' ⟨V, tn, s.ep, max s.T tn⟩ (m + 1) := by
    refine ⟨hS14.ext t1 (fun k hk hh => sepW k hh hk), hM16, hO1, ⟨htt.1, by show max f.top (tn : Int) = ((max s.T tn : Nat) : Int); omega⟩, ⟨by show max s.T tn <= 4096; omega, h.T.2⟩, fun k hk hh => ?_, fun k hk hh => ?_, fun k hk => ?_⟩
    ·rcases t2 k hk with g | g
     ·exact sepW k g hh
     ·have := hSlt k hh; omega
    ·rcases hh with hh | hh
     ·exact hM16.EX k hk hh
     ·have hl := hSlt k hh
      rcases t3 k hk with g | g | g
      ·exact qL k g (.inr hh)
      ·exact g
      ·omega
    ·rcases t2 k hk with g | g
     ·exact h.n k g
     ·have := h.S.B.z; omega
   have uf16 : eY r rd f ⟨f.st, x', u', q', f.top⟩ w6 w16 := by
    refine ⟨⟨x16, fun k hk => ?_⟩, fun k hk => ?_⟩
    ·rcases hk with hk | hk
     ·rcases t2 k hk with g | g
      ·exact .inl (.inl g)
      ·exact .inr (by omega)
     ·exact (ft'.2 k hk).imp .inr (fun g => g)
    ·rcases t3 k hk with g | g | g
     ·exact .inl g
     ·exact g.elim
     ·exact .inr (by omega)
   have hend : nK V tn s.ep := by
    obtain ⟨_, _, M, g, rfl, _⟩ := jg ha1
    exact ⟨M, g.place, g.num, g.rs, rfl⟩
   refine ⟨rfl, (vh A h16 (hE.ext x16 h.ge) hm hend).mono ?_⟩
   rintro e w18 ⟨e', rfl, hcase⟩
   refine ⟨_, rfl, e', rfl, ?_⟩
   rcases hcase with ⟨rfl, f2, d2, h2, hd1, hd2, uf⟩ | ⟨rfl, hst, q2, d2, hD2, hd1, hd2, hcr, ft2⟩
   ·exact .inl ⟨rfl, f2, d2, h2, by rw [hd1, hn'], by rw [hd2, hst'], uf16.trans uf⟩
   ·refine .inr ⟨rfl, by rw [<- hst']; exact hst, q2, d2, hD2, by rw [hd1, hn'], by rw [hd2, hst'], ⟨hcr.1, fun a b c => ?_⟩, uf16.1.trans ft2⟩
    obtain ⟨U2, g1, g2, s2, g3, g4⟩ := hcr.2 a b c
    rw [hn'] at g1
    refine ⟨U2, g1, g2, _, List.mem_cons_of_mem _ (List.mem_singleton.2 rfl), ?_⟩
    simp only [List.mem_cons, List.not_mem_nil, or_false] at g3
    rcases g3 with rfl | rfl
    ·exact g4.trans rfl rfl rfl (fun a => by rw [pF V hO1 hend])
    ·exact g4
  ·rw [ha1]
   have hO' := vQ h.O hok ha1 (fun a' t' he y hy => by cases he)
   have eT : max (dK (pgU s.U)) tn = max s.T tn := by omega
   have hO1 : gp V tn s.ep (max s.T tn) := by
    have := hO'
    simp only [jF, tailR] at this
    rw [eT] at this; exact this
   have hend : nK V tn s.ep := by
    obtain ⟨_, _, M, g, rfl, _⟩ := jg ha1
    exact ⟨M, g.place, g.num, g.rs, rfl⟩
   exact ⟨_, _, rfl, aM A _, ao (fun _ => ⟨some 11, rfl, .inr ⟨rfl, hst, q', d', hD', hn', hst', hcr.unit h.S.N ha1 rfl h.O ⟨hO1, fun a => by rw [pF V hO1 hend]⟩, ⟨(k1.iK ft).1.mono (fun k hk => .inr hk), fun k hk => ((k1.iK ft).2 k hk).imp .inr (fun g => g)⟩⟩⟩) (fun hh => by cases hh)⟩
end
end Go.D
namespace Go.D
open Go Go.Proofs
theorem wW.live {w w' : World} {n0 r rd m : Nat} {f : UnF} {d : aP} {s : UnS} {p : Option Nat × UnS} {e' : Option Nat} (h : wW w n0 r rd f d s m p e' w') (hst : d.stops = false) :
  e' = p.1 /\ ∃ f' d', UAt w' n0 r rd f' d' p.2 (m + 1) /\ d'.n = d.n /\ d'.stops = false /\ eY r rd f f' w w' := by
 rcases h with ⟨h1, f', d', h2, h3, h4, h5⟩ | ⟨_, h2, _⟩
 ·exact ⟨h1, f', d', h2, h3, by rw [h4]; exact hst, h5⟩
 ·rw [hst] at h2; cases h2
theorem yI (A : Nat -> Addr) (n : Nat) (hn : 1 <= n /\ n < 20) (w0 w : World) (hE : ba A w0) (hk : aj w0 w) :
  Calls Tryz.prog jP ⟨[.int .i64 ((64 * n : Nat) : Int)]⟩ w fun e w' => ∃ rd q d, e = .returned (.tuple ⟨[aw rd, .nilIface]⟩) /\ aj w w' /\ d.n / 64 = n /\ d.stops = false /\
   ∀ w2, aj w' w2 -> Calls Tryz.prog ja ⟨[aw rd]⟩ w2 fun e w3 => ∃ r f, e = .returned (.tuple ⟨[aw r, .nilIface]⟩) /\ UAt w3 w0.heap.size r rd f d ⟨[], 0, 0, 0⟩ 0 /\ f.q = q /\ aj w2 w3 /\ (∀ j, UB r rd f j -> w.heap.size <= j) /\ (∀ j, UnY f.x j -> w.heap.size <= j) := by
 have hB : bh A w0.heap.size w0 := hE.b
 refine (Br A _ w ((hB.g.af hk).sub (fun g hg => qw g (fo g hg)))).mono ?_
 rintro e w3 ⟨k3, hc⟩
 rw [if_neg (by omega)] at hc
 obtain ⟨rd, q, rfl, hD, hDf⟩ := hc
 have hn' : (Cr (Int.toNat ((64 * n : Nat) : Int))).n = 64 * n := by rw [Es]; omega
 refine ⟨rd, q, _, rfl, k3, by rw [hn']; omega, rfl, fun w2 k2 => ?_⟩
 have z0 := hk.size
 have z3 := k3.size
 have z2 := k2.size
 refine (Ae A (hB.af ((hk.trans k3).trans k2)) (hD.af k2) rfl (U := []) (tr := 0) (ep := 0) (T := 0) (CJ _ _) gp.nil (by omega) (by rw [hn']; omega) (m := 0) (by simp) (by omega) (fun j hj => by have := hDf j hj; omega) (by omega)).mono ?_
 rintro e w4 ⟨r, f, rfl, hU, hq, hUB, hUY, k4⟩
 exact ⟨r, f, rfl, hU, hq, k4, fun j hj => (hUB j hj).elim (hDf j) (fun g => by omega), fun j hj => by have := hUY j hj; omega⟩
end Go.D
namespace Go.D
theorem yJ : ∀ (l : List Int), (∀ n ∈ l, n <= 4611686018427387903) -> ((l.map fun n => bx n.toNat).flatten).length <= 9 * l.length
 | [], _ => by simp
 | n :: l, h => by
  have h1 := yJ l (fun n hn => h n (by simp [hn]))
  have h2 := h n (by simp)
  have h3 := bH n.toNat 8 (by omega)
  simp at h1 ⊢; omega
end Go.D
namespace Go.D
open Go Go.Proofs
theorem sM : ∀ (n : Nat) (z : Int) (w : World), z = n -> n <= 9223372036854775807 ->
  Calls Tryz.prog bG ⟨[.int .i64 z]⟩ w fun e w' => ∃ s : Slc, e = .returned s.v /\ Own w' s 1 ((bx n).map aH) /\ aD w s /\ aj w w' := by
 intro n
 induction n using Nat.strongRecOn with
 | ind n ih =>
  intro z w hz hn
  refine mz _ ?_
  unfold jo
  refine ae (fun h => ?_) (fun h => ?_)
  ·refine aq (fun r w3 hr hb hk hs => ?_)
   rw [hz, qj] at hb
   refine ⟨_, rfl, ?_, aD.at (by omega), hk⟩
   rw [wS (by omega)]
   exact Own.new (sz := 1) hb (.inl (by simp)) rfl
  ·refine ⟨by omega, by omega, aA (by omega), aq (fun r w5 hr hb hk hs => ?_)⟩
   rw [show (z % 128 + 128) = ((n % 128 + 128 : Nat) : Int) by omega, qj] at hb
   refine ⟨by omega, by omega, aA (by omega), ?_⟩
   refine (ih (n / 128) (by omega) (z / 128) w5 (by omega) (by omega)).mono ?_
   rintro e w7 ⟨s8, rfl, h8, f8, k8⟩
   have ho : Own w7 ⟨some ⟨r, 0, none⟩, 1, 1⟩ 1 ([UInt8.ofNat (n % 128 + 128)].map aH) := Own.af (Own.new (sz := 1) hb (.inl (by simp)) rfl) k8
   have hle := bH (n / 128) 9 (by omega)
   have h81 := h8.bytes.1
   refine ⟨s8, rfl, aZ (w0 := w) ho rfl (aD.at (by omega)) (hk.trans k8) (aU h8.bytes) (by simp only [Src.n]; omega) (fun s9 w10 g1 g2 g3 g4 => ?_)⟩
   refine ⟨s9, rfl, ?_, g3, g2⟩
   rw [wT (by omega)]
   exact g1
theorem nL (n : Nat) (w : World) (h : n <= 9223372036854775807) :
  Calls Tryz.prog bG ⟨[.int .i64 (n : Int)]⟩ w fun e w' => ∃ s : Slc, e = .returned s.v /\ Own w' s 1 ((bx n).map aH) /\ aD w s /\ aj w w' := sM n n w rfl h
end Go.D
namespace Go.D
open Go Go.Proofs
theorem sN (t : List UInt8) (w : World) (hl : t.length <= 2 ^ 20) :
  Calls Tryz.prog eA ⟨[eZ t]⟩ w fun e w' => ∃ s : Slc, e = .returned s.v /\ Own w' s 1 ((bx t.length ++ t).map aH) /\ aD w s /\ aj w w' := by
 refine lK _ ?_
 unfold iU
 refine (nL t.length w (by omega)).mono ?_
 rintro e w3 ⟨s4, rfl, h4, f4, k4⟩
 have hle := bH t.length 9 (by omega)
 have h41 := h4.bytes.1
 refine ⟨s4, rfl, aZ (w0 := w) h4 rfl f4 k4 ⟨rfl, rfl⟩ (by simp only [Src.n]; omega) (fun s9 w10 g1 g2 g3 g4 => ?_)⟩
 exact ⟨s9, rfl, g1, g3, g2⟩
end Go.D
namespace Go.D
def ka (s : Nat) : Nat := if s &&& 1 = 1 then (s / 2) ^^^ 3988292384 else s / 2
def iterB : Nat -> Nat -> Nat
 | 0, s => s
 | n + 1, s => ka (iterB n s)
def yK (s : Nat) (c : UInt8) : Nat := iterB 8 (s ^^^ c.toNat)
def pG (s : Nat) (b : List UInt8) : Nat := b.foldl yK s
def crc (b : List UInt8) : Nat := 4294967295 ^^^ pG 4294967295 b
theorem Ai {s : Nat} (h : s < 4294967296) : ka s < 4294967296 := by
 unfold ka
 split
 ·exact Nat.xor_lt_two_pow (n := 32) (by omega) (by decide)
 ·omega
theorem uL {s : Nat} (h : s < 4294967296) : ∀ n, iterB n s < 4294967296
 | 0 => h
 | n + 1 => Ai (uL h n)
theorem yL {s : Nat} (h : s < 4294967296) (c : UInt8) : yK s c < 4294967296 :=
 uL (Nat.xor_lt_two_pow (n := 32) h (by have := c.toNat_lt; omega)) 8
theorem AR : ∀ (b : List UInt8) {s : Nat}, s < 4294967296 -> pG s b < 4294967296
 | [], _, h => h
 | c :: b, s, h => AR b (yL h c)
theorem Ew (b : List UInt8) : crc b < 4294967296 := Nat.xor_lt_two_pow (n := 32) (by decide) (AR b (by decide))
theorem yM (s : Nat) (a b : List UInt8) : pG s (a ++ b) = pG (pG s a) b := by simp [pG]
def lY (r bit : Nat) : Nat := if r &&& 1 = bit then r / 2 else (r / 2) ^^^ 3988292384
def refRest (r c : Nat) : Nat -> Nat
 | 0 => r
 | i + 1 => lY (refRest r c i) ((c / 2 ^ i) &&& 1)
theorem Ey (n : Nat) : n &&& 1 = n % 2 := Nat.and_one_is_mod n
theorem C4 (a b : Nat) : (a ^^^ b) % 2 = (a % 2 + b % 2) % 2 := by
 have h := Nat.xor_mod_two_pow (a := a) (b := b) (n := 1)
 rw [Nat.pow_one] at h
 rw [h]
 rcases Nat.mod_two_eq_zero_or_one a with h1 | h1 <;> rcases Nat.mod_two_eq_zero_or_one b with h2 | h2 <;> simp [h1, h2]
theorem C5 (a b : Nat) : (a ^^^ b) / 2 = a / 2 ^^^ b / 2 := by
 have := Nat.shiftRight_xor_distrib (a := a) (b := b) (i := 1)
 simpa [Nat.shiftRight_eq_div_pow] using this
theorem Ez (a b c : Nat) : a ^^^ (b ^^^ c) = b ^^^ (a ^^^ c) := by
 rw [<- Nat.xor_assoc, Nat.xor_comm a b, Nat.xor_assoc]
theorem DV (r c : Nat) : ka (r ^^^ c) = lY r (c &&& 1) ^^^ (c / 2) := by
 unfold ka lY
 rw [Ey, Ey, Ey, C4, C5]
 rcases Nat.mod_two_eq_zero_or_one r with h1 | h1 <;> rcases Nat.mod_two_eq_zero_or_one c with h2 | h2 <;> simp [h1, h2, Nat.xor_assoc, Nat.xor_comm, Ez]
theorem yN (r c : Nat) : ∀ i, iterB i (r ^^^ c) = refRest r c i ^^^ (c / 2 ^ i)
 | 0 => by simp [iterB, refRest]
 | i + 1 => by
  rw [iterB, yN r c i, DV, refRest, Nat.div_div_eq_div_mul, <- Nat.pow_succ]
theorem C6 (r : Nat) (c : UInt8) : refRest r c.toNat 8 = yK r c := by
 unfold yK
 rw [yN]
 have : c.toNat / 2 ^ 8 = 0 := by have := c.toNat_lt; omega
 rw [this, Nat.xor_zero]
theorem uM {r c : Nat} (h : r < 4294967296) : ∀ i, refRest r c i < 4294967296
 | 0 => h
 | i + 1 => by
  have := uM (c := c) h i
  unfold refRest lY
  split
  ·omega
  ·exact Nat.xor_lt_two_pow (n := 32) (by omega) (by decide)
end Go.D
namespace Go.D
open Go Go.Proofs
theorem og (a : Nat) : bitsI .and (a : Int) 1 = ((a &&& 1 : Nat) : Int) := rfl
theorem BG (s : Nat) (c : UInt8) (hs : s < 4294967296) (w : World) :
  Calls Tryz.prog lE ⟨[.int .u32 (s : Int), .int .u8 (c.toNat : Int)]⟩ w fun e w' => e = .returned (.int .u32 (yK s c : Int)) /\ w' = w := by
 have hc := c.toNat_lt
 refine wC _ _ ?_
 unfold vu
 refine ⟨dS (by omega), by omega, by omega, dS (by omega), dS (by omega), ?_⟩
 refine ⟨fun s' i w' => w' = w /\ ∃ k : Nat, i = k /\ k <= 8 /\ s' = (iterB k (s ^^^ c.toNat) : Nat), fun _ i _ => (8 - i).toNat, ⟨rfl, 0, rfl, by omega, rfl⟩, ?_⟩
 rintro s' i w' ⟨rfl, k, rfl, hk, rfl⟩
 intros
 have hx : s ^^^ c.toNat < 4294967296 := Nat.xor_lt_two_pow (n := 32) hs (by omega)
 have hb := uL hx k
 refine ae (fun h => ?_) (fun h => ?_)
 ·refine ⟨by omega, by omega, dS (by omega), dS (by omega), by omega, by omega, ?_⟩
  have e : ka (iterB k (s ^^^ c.toNat)) = iterB (k + 1) (s ^^^ c.toNat) := rfl
  refine ae (fun h1 => ?_) (fun h1 => ?_)
  ·refine ⟨by omega, by omega, dS (by omega), dS (by omega), aA (by omega), ⟨rfl, k + 1, rfl, by omega, ?_⟩, by dsimp only; omega⟩
   have h2 : iterB k (s ^^^ c.toNat) &&& 1 = 1 := by have := og (iterB k (s ^^^ c.toNat)); omega
   rw [<- e, ka, if_pos h2]
   rfl
  ·refine ⟨aA (by omega), ⟨rfl, k + 1, rfl, by omega, ?_⟩, by dsimp only; omega⟩
   have h2 : ¬ iterB k (s ^^^ c.toNat) &&& 1 = 1 := by have := og (iterB k (s ^^^ c.toNat)); omega
   rw [<- e, ka, if_neg h2]
   rfl
 ·obtain rfl : k = 8 := by omega
  exact ⟨rfl, rfl⟩
theorem yO (parts : Slc) (ps : List Slc) (bs : List (List UInt8)) (w : World) (h : Cf w parts ps bs) (hl : parts.l <= 2 ^ 40) (hll : ∀ i (h : i < ps.length), ps[i].l <= 2 ^ 40) :
  Calls Tryz.prog jQ ⟨[parts.v]⟩ w fun e w' => e = .returned (.int .u32 (crc bs.flatten : Int)) /\ w' = w := by
 obtain ⟨h1, h2, h3, h4⟩ := h
 refine xU _ ?_
 unfold xS
 refine ⟨fun s i w' => w' = w /\ ∃ k t : Nat, i = k /\ k <= ps.length /\ s = t /\ t < 4294967296 /\ pG t (bs.drop k).flatten = pG 4294967295 bs.flatten, fun _ i _ => (ps.length - i).toNat,
  ⟨rfl, 0, 4294967295, rfl, by omega, rfl, by omega, rfl⟩, ?_⟩
 rintro s i w' ⟨rfl, k, t, rfl, hk, rfl, ht, hsum⟩
 intros
 refine ae (fun h => ?_) (fun h => ?_)
 ·have hk' : k < ps.length := by omega
  refine kj h2 (i := k) (by simpa using hk') (fun a ha hc => ⟨by omega, h, ps[k], ?_, ?_⟩)
  ·simpa using hc
  ·have hb := h4 k hk' (by omega)
   have hlk := hll k hk'
   rw [jA (show k < bs.length by omega), List.flatten_cons, yM] at hsum
   refine ⟨fun s2 j w2 => w2 = w' /\ ∃ m u : Nat, j = m /\ m <= bs[k].length /\ s2 = u /\ u < 4294967296 /\ pG u (bs[k].drop m) = pG t bs[k], fun _ j _ => (bs[k].length - j).toNat,
    ⟨rfl, 0, t, rfl, by omega, rfl, ht, rfl⟩, ?_⟩
   rintro s2 j w2 ⟨rfl, m, u, rfl, hm, rfl, hu, hsum2⟩
   intros
   have hbl := hb.1
   refine ae (fun h5 => ?_) (fun h5 => ?_)
   ·have hm' : m < bs[k].length := by omega
    refine kj hb.2 (i := m) (by simpa using hm') (fun a2 ha2 hc2 => ⟨by omega, h5, (bs[k][m].toNat : Int), ?_, ?_⟩)
    ·simpa [aH] using hc2
    ·refine (BG u bs[k][m] hu w2).mono ?_
     rintro e w3 ⟨rfl, rfl⟩
     refine ⟨_, rfl, aA (by omega), ⟨rfl, m + 1, _, rfl, by omega, rfl, yL hu _, ?_⟩, by dsimp only; omega⟩
     rw [jA hm'] at hsum2
     exact hsum2
   ·have hme : m = bs[k].length := by omega
    rw [hme, List.drop_length] at hsum2
    refine ⟨aA (by omega), ⟨rfl, k + 1, u, rfl, by omega, rfl, hu, ?_⟩, by dsimp only; omega⟩
    have hsum2' : u = pG t bs[k] := hsum2
    rw [hsum2']
    exact hsum
 ·obtain rfl : k = ps.length := by omega
  rw [h3] at hsum
  simp only [List.drop_length, List.flatten_nil] at hsum
  refine ⟨by omega, dS (by omega), ?_, rfl⟩
  have hsum' : t = pG 4294967295 bs.flatten := hsum
  rw [hsum']
  rfl
theorem wX (n : Nat) (h : n <= 100) : IntKind.wrap .u64 (n : Int) = n := fH (Eo (by omega))
theorem yP (b : Slc) (bs : List UInt8) (w : World) (h : ag w b bs) (hl : b.l <= 2 ^ 40) :
  Calls Tryz.prog eQ ⟨[b.v]⟩ w fun e w' => e = .returned (.int .u32 (crc bs : Int)) /\ w' = w := by
 obtain ⟨h1, h2⟩ := h
 refine mw _ ?_
 unfold jk
 refine ⟨fun s i w' => w' = w /\ ∃ k t : Nat, i = k /\ k <= bs.length /\ s = t /\ t < 4294967296 /\ pG t (bs.drop k) = pG 4294967295 bs, fun _ i _ => (bs.length - i).toNat,
  ⟨rfl, 0, 4294967295, rfl, by omega, rfl, by omega, rfl⟩, ?_⟩
 rintro s i w' ⟨rfl, k, t, rfl, hk, rfl, ht, hsum⟩
 intros
 refine ae (fun h => ?_) (fun h => ?_)
 ·have hk' : k < bs.length := by omega
  have hc8 := bs[k].toNat_lt
  refine kj h2 (i := k) (by simpa using hk') (fun a ha hc => ⟨by omega, h, (bs[k].toNat : Int), ?_, ?_⟩)
  ·simpa [aH] using hc
  ·refine ⟨fun s2 j w2 => w2 = w' /\ ∃ m : Nat, j = m /\ m <= 8 /\ s2 = (refRest t bs[k].toNat m : Nat), fun _ j _ => (8 - j).toNat, ⟨rfl, 0, rfl, by omega, rfl⟩, ?_⟩
   rintro s2 j w2 ⟨rfl, m, rfl, hm, rfl⟩
   intros
   have hr := uM (c := bs[k].toNat) ht m
   refine ae (fun h5 => ?_) (fun h5 => ?_)
   ·rw [wX m (by omega)]
    have e1 : min (Int.toNat (m : Int)) 32 = m := by omega
    rw [e1]
    have e2 : ((bs[k].toNat : Int) / ((2 ^ m : Nat) : Int)) = ((bs[k].toNat / 2 ^ m : Nat) : Int) := by simp
    rw [e2]
    have hd : bs[k].toNat / 2 ^ m <= bs[k].toNat := Nat.div_le_self _ _
    have e3 : refRest t bs[k].toNat (m + 1) = lY (refRest t bs[k].toNat m) ((bs[k].toNat / 2 ^ m) &&& 1) := rfl
    have e4 := og (refRest t bs[k].toNat m)
    have e5 := og (bs[k].toNat / 2 ^ m)
    clear e2
    generalize bs[k].toNat / 2 ^ m = q at e3 e5 hd ⊢
    refine ⟨dS (by omega), by omega, by omega, by omega, by omega, dS (by omega), dS (by omega), by omega, by omega, dS (by omega), dS (by omega), ?_⟩
    refine aQ (fun h6 => ?_) (fun h6 => ?_)
    ·refine ⟨by omega, by omega, by omega, by omega, dS (by omega), dS (by omega), aA (by omega), ⟨rfl, m + 1, rfl, by omega, ?_⟩, by dsimp only; omega⟩
     have h7 : ¬ (refRest t bs[k].toNat m &&& 1 = q &&& 1) := fun h8 => h6 (by omega)
     rw [e3, lY, if_neg h7]
     rfl
    ·refine ⟨by omega, by omega, aA (by omega), ⟨rfl, m + 1, rfl, by omega, ?_⟩, by dsimp only; omega⟩
     have h7 : refRest t bs[k].toNat m &&& 1 = q &&& 1 := by omega
     rw [e3, lY, if_pos h7]
     rfl
   ·obtain rfl : m = 8 := by omega
    refine ⟨aA (by omega), ⟨rfl, k + 1, _, rfl, by omega, rfl, hr, ?_⟩, by dsimp only; omega⟩
    rw [C6]
    rw [jA hk'] at hsum
    exact hsum
 ·obtain rfl : k = bs.length := by omega
  simp only [List.drop_length] at hsum
  refine ⟨by omega, by omega, dS (by omega), dS (by omega), ?_, rfl⟩
  have hsum' : t = pG 4294967295 bs := hsum
  have : (bitsI .xor (t : Int) (4294967295 : Int)) = (crc bs : Int) := by
   rw [hsum', crc, Nat.xor_comm]; rfl
  rw [this]
end Go.D
namespace Go.D
open Go Go.Proofs
end Go.D
namespace Go.D
open Go Go.Proofs
def bz (b : List UInt8) : List UInt8 := le2 b.length ++ le4 (crc (le2 b.length ++ b)) ++ b
theorem uN {w : World} {r : Nat} {T : TypeId} {f : Nat × Nat} {s1 s2 : Slc} {b1 b2 : List UInt8} (h : w.heap[r]? = some (.cells ⟨[s1.v, s2.v]⟩ T f)) (h1 : ag w s1 b1) (h2 : ag w s2 b2) :
  Cf w ⟨some ⟨r, 0, none⟩, 2, 2⟩ [s1, s2] [b1, b2] := by
 refine ⟨rfl, .inr ⟨_, rfl, fun i hi => ?_⟩, rfl, fun i hi _ => ?_⟩
 ·have hi : i < 2 := by simpa using hi
  rw [add_lit, cell_of h, Nat.zero_add]
  match i, hi with
  | 0, _ => rfl
  | 1, _ => rfl
 ·have hi : i < 2 := by simpa using hi
  match i, hi with
  | 0, _ => exact h1
  | 1, _ => exact h2
theorem Aj (s : Slc) (b : List UInt8) (w : World) (hb : ag w s b) (hl : b.length <= 2048) :
  Calls Tryz.prog km ⟨[s.v]⟩ w fun e w' => ∃ f : Slc, e = .returned (.tuple ⟨[f.v, .nilIface]⟩) /\ Own w' f 1 ((bz b).map aH) /\ aD w f /\ aj w w' := by
 have hsl := hb.1
 refine uX _ ?_
 unfold tI
 refine ae (fun h => by omega) (fun h => ?_)
 refine ⟨by omega, by omega, aq (fun r3 w4 hr3 hb3 hk3 hs3 => aq (fun r5 w6 hr5 hb5 hk5 hs5 => ?_))⟩
 rw [hsl, qj, show (256 : Int) = ((256 : Nat) : Int) from rfl, lQ] at hb3
 have ho3 : Own w4 ⟨some ⟨r3, 0, none⟩, 2, 2⟩ 1 ((le2 b.length).map aH) := Own.new (sz := 1) hb3 (Or.inl (by simp)) rfl
 have hk6 := hk3.trans hk5
 refine (yO _ _ _ _ (uN hb5 (ho3.af hk5).bytes (ai hb hk6)) (by simp) (fun i h => by
  have h : i < 2 := by simpa using h
  match i, h with
  | 0, _ => simp
  | 1, _ => show s.l <= _; omega)).mono ?_
 rintro e w7 ⟨rfl, rfl⟩
 have hcrc : ([le2 b.length, b] : List (List UInt8)).flatten = le2 b.length ++ b := by simp
 rw [hcrc]
 refine ⟨_, rfl, by omega, by omega, by omega, by omega, by omega, by omega, aq (fun r10 w11 hr10 hb10 hk10 hs10 => ?_)⟩
 rw [qj, show (256 : Int) = ((256 : Nat) : Int) from rfl, lQ, show (65536 : Int) = ((65536 : Nat) : Int) from rfl, lQ, show (16777216 : Int) = ((16777216 : Nat) : Int) from rfl, lQ] at hb10
 have ho10 : Own w11 ⟨some ⟨r10, 0, none⟩, 4, 4⟩ 1 ((le4 (crc (le2 b.length ++ b))).map aH) := Own.new (sz := 1) hb10 (Or.inl (by simp)) rfl
 have hk11 := hk6.trans hk10
 have hf3 : aD w ⟨some ⟨r3, 0, none⟩, 2, 2⟩ := aD.at (by omega)
 refine aZ ((ho3.af hk5).af hk10) rfl hf3 hk11 (aU ho10.bytes) (by simp [Src.n]) (fun s12 w13 h1 h2 h3 h4 => ?_)
 have e1 := h1.1
 refine aZ h1 rfl h3 h2 (aU (ai hb h2)) (by simp [Src.n, le2, le4] at e1 ⊢; omega) (fun s14 w15 h5 h6 h7 h8 => ?_)
 exact ⟨s14, rfl, h5, h7, h6⟩
theorem bU (b : List UInt8) : (bz b).length = b.length + 6 := by
 simp [bz, le2, le4]
end Go.D
namespace Go.D
open Go Go.Proofs
theorem or2 (a b : Nat) (ha : a < 256) : bitsI .or (a : Int) ((b : Int) * 256) = ((a + 256 * b : Nat) : Int) := by
 have h := ql a b 8 ha
 have : ((b : Int) * 256) = ((b * 2 ^ 8 : Nat) : Int) := by omega
 rw [this, qk, h]; omega
theorem wrap32 (n : Int) (h : 0 <= n /\ n < 4294967296) : IntKind.wrap .u32 n = n := by
 simp [IntKind.wrap, IntKind.signed, IntKind.bits]
 omega
theorem Fe (a b : Nat) (ha : a < 256) (hb : b < 256) : bitsI .or (a : Int) (IntKind.wrap .u32 ((b : Int) * 256)) = ((a + 256 * b : Nat) : Int) := by
 rw [wrap32 _ (by omega)]; exact or2 a b ha
theorem Ff (a b : Nat) (ha : a < 65536) (hb : b < 256) : bitsI .or (a : Int) (IntKind.wrap .u32 ((b : Int) * 65536)) = ((a + 65536 * b : Nat) : Int) := by
 rw [wrap32 _ (by omega)]
 have h := ql a b 16 ha
 have : ((b : Int) * 65536) = ((b * 2 ^ 16 : Nat) : Int) := by omega
 rw [this, qk, h]; omega
theorem Fg (a b : Nat) (ha : a < 16777216) (hb : b < 256) : bitsI .or (a : Int) (IntKind.wrap .u32 ((b : Int) * 16777216)) = ((a + 16777216 * b : Nat) : Int) := by
 rw [wrap32 _ (by omega)]
 have h := ql a b 24 ha
 have : ((b : Int) * 16777216) = ((b * 2 ^ 24 : Nat) : Int) := by omega
 rw [this, qk, h]; omega
def at8 (b : List UInt8) (i : Nat) : Nat := (b.getD i 0).toNat
theorem C7 (b : List UInt8) (i : Nat) : at8 b i < 256 := (b.getD i 0).toNat_lt
theorem yQ {w : World} {s : Slc} {b : List UInt8} (h : ag w s b) {i : Nat} (hi : i < b.length) {a : Addr} (ha : s.p = some a) : w.cell? (a.add i) = some (.int .u8 (at8 b i : Int)) := by
 obtain ⟨a', ha', hc⟩ := cB h hi
 rw [ha] at ha'
 obtain rfl := Option.some.inj ha'
 rw [hc, aH, at8]
 simp [List.getD, hi]
def lenOf (b : List UInt8) : Nat := at8 b 0 + 256 * at8 b 1
def toldOf (b : List UInt8) : Nat := at8 b 2 + 256 * at8 b 3 + 65536 * at8 b 4 + 16777216 * at8 b 5
def gQ (b : List UInt8) : List UInt8 := (b.take (6 + lenOf b)).drop 6
def ei (b : List UInt8) : Except Nat (List UInt8 × List UInt8) :=
 if b.length < 6 then .error 1 else if 2048 < lenOf b then .error 2 else if b.length < 6 + lenOf b then .error 1 else
  if crc (b.take 2 ++ gQ b) = toldOf b then .ok (gQ b, b.drop (6 + lenOf b)) else .error 4
theorem BH (s : Slc) (b : List UInt8) (w : World) (hb : ag w s b) (hl : s.l <= 2 ^ 30) :
  Calls Tryz.prog ar ⟨[s.v]⟩ w fun e w' => ∃ t : Slc, e = .returned t.v /\ Own w' t 1 (b.map aH) /\ aD w t /\ aj w w' := by
 refine iB _ ?_
 unfold gG
 refine ao (fun h => ?_) (fun h => ?_)
 ·have hp : s.p = none := by simpa using h
  have hb0 : b = [] := by
   rcases hb.2 with h0 | ⟨a, ha, _⟩
   ·simpa using h0
   ·rw [hp] at ha; cases ha
  subst hb0
  exact ⟨_, rfl, Own.nil _ _, aD.nil _ _ _, Ext.refl _ _⟩
 ·refine aq (fun r w1 hr hb1 hk hs => ?_)
  refine aZ (vs := []) (w0 := w) (Own.new (sz := 1) (n := 0) hb1 (.inl (by simp)) rfl) rfl (aD.at (by omega)) hk (aU (ai hb hk)) (by simp only [Src.n]; omega) (fun s' w' h1 h2 h3 h4 => ?_)
  exact ⟨s', rfl, by simpa using h1, h3, h2⟩
theorem uO (s : Slc) (b : List UInt8) (w : World) (hb : ag w s b) (hl : s.l <= 2 ^ 30) :
  Calls Tryz.prog ar ⟨[s.v]⟩ w fun e w' => ∃ t : Slc, e = .returned t.v /\ ag w' t b /\ aD w t /\ aj w w' := by
 refine (BH s b w hb hl).mono ?_
 rintro e w' ⟨t, rfl, h1, h2, h3⟩
 exact ⟨t, rfl, h1.bytes, h2, h3⟩
def DW (A : Nat -> Addr) (w w' : World) (s t : Slc) (ev : Value) : Except Nat (List UInt8 × List UInt8) -> Prop
 | .error k => s = ⟨none, 0, 0⟩ /\ t = ⟨none, 0, 0⟩ /\ ev = fX A (dG.getD k 0)
 | .ok (x, y) => ag w' s x /\ ag w' t y /\ aD w s /\ aD w t /\ ev = .nilIface
theorem BI (A : Nat -> Addr) (s : Slc) (b : List UInt8) (w : World) (hb : ag w s b) (hl : s.l <= 2 ^ 30) (hc : s.l <= s.c) (hE : iJ rM [bP, bw, ie] A w) :
  Calls Tryz.prog lD ⟨[s.v]⟩ w fun e w' => ∃ (x y : Slc) (ev : Value), e = .returned (.tuple ⟨[x.v, y.v, ev]⟩) /\ DW A w w' x y ev (ei b) /\ aj w w' := by
 have hsl := hb.1
 refine wD _ ?_
 unfold vw
 refine ae (fun h => ?_) (fun h => ?_)
 ·refine ⟨_, (hE.1 bP (by simp)).1, _, _, _, rfl, ?_, Ext.drew _ _⟩
  rw [ei, if_pos (by omega)]
  exact ⟨rfl, rfl, rfl⟩
 obtain ⟨a, ha, _⟩ := cB hb (i := 0) (by omega)
 have cell : ∀ i, i < b.length -> w.cell? (a.add i) = some (.int .u8 (at8 b i : Int)) := fun i hi => yQ hb hi ha
 have lt := C7 b
 have l0 := lt 0; have l1 := lt 1; have l2 := lt 2; have l3 := lt 3; have l4 := lt 4; have l5 := lt 5
 refine aa ha ⟨by omega, by omega, _, cell 0 (by omega), aA (by omega), aa ha ⟨by omega, by omega, _, cell 1 (by omega), aA (by omega), by omega, aA (by omega), by omega, by omega, aA (by omega), aA (by omega), ?_⟩⟩
 rw [or2 _ _ l0]
 have hlen : at8 b 0 + 256 * at8 b 1 = lenOf b := rfl
 rw [hlen]
 have hll : lenOf b < 65536 := by omega
 refine ae (fun h2 => ?_) (fun h2 => ?_)
 ·refine ⟨_, (hE.1 bw (by simp)).1, _, _, _, rfl, ?_, aj.drew (Ext.drew _ _)⟩
  rw [ei, if_neg (by omega), if_pos (by omega)]
  exact ⟨rfl, rfl, rfl⟩
 refine ⟨aA (by omega), ae (fun h3 => ?_) (fun h3 => ?_)⟩
 ·refine ⟨_, (hE.1 bP (by simp)).1, _, _, _, rfl, ?_, aj.drew (Ext.drew _ _)⟩
  rw [ei, if_neg (by omega), if_neg (by omega), if_pos (by omega)]
  exact ⟨rfl, rfl, rfl⟩
 have hw32 : ∀ x : Nat, x < 256 -> ∀ k : Int, k <= 16777216 -> 0 <= k -> IntKind.wrap .u32 ((x : Int) * k) = (x : Int) * k := fun x hx k hk hk0 => by
  have h1 : (x : Int) * k <= 255 * 16777216 := Int.le_trans (Int.mul_le_mul_of_nonneg_right (by omega : (x : Int) <= 255) hk0) (by omega)
  have h0 : 0 <= (x : Int) * k := Int.mul_nonneg (by omega) hk0
  exact wrap32 _ (by omega)
 refine aa ha ⟨by omega, by omega, _, cell 2 (by omega), dS (by omega), aa ha ⟨by omega, by omega, _, cell 3 (by omega), dS (by omega), by omega, by omega, by rw [hw32 _ l3 _ (by omega) (by omega)]; omega, dS (by omega), by rw [hw32 _ l3 _ (by omega) (by omega)]; exact dS (by omega), ?_⟩⟩
 rw [Fe _ _ l2 l3]
 refine aa ha ⟨by omega, by omega, _, cell 4 (by omega), dS (by omega), by omega, by omega, by rw [hw32 _ l4 _ (by omega) (by omega)]; omega, dS (by omega), by rw [hw32 _ l4 _ (by omega) (by omega)]; exact dS (by omega), ?_⟩
 rw [Ff _ _ (by omega) l4]
 refine aa ha ⟨by omega, by omega, _, cell 5 (by omega), dS (by omega), by omega, by omega, by rw [hw32 _ l5 _ (by omega) (by omega)]; omega, dS (by omega), by rw [hw32 _ l5 _ (by omega) (by omega)]; exact dS (by omega), ?_⟩
 rw [Fg _ _ (by omega) l5]
 have htold : at8 b 2 + 256 * at8 b 3 + 65536 * at8 b 4 + 16777216 * at8 b 5 = toldOf b := rfl
 rw [htold]
 have e6 : Int.toNat ((6 : Int) + (lenOf b : Int)) = 6 + lenOf b := by omega
 rw [e6]
 refine ⟨aA (by omega), by omega, by omega, by omega, by omega, by omega, by omega, by omega, by omega, aq (fun r w1 hr hb1 hk hs => ?_)⟩
 have hk1 : aj w w1 := aj.trans (aj.drew (Ext.drew _ _)) hk
 have hbt : ag w (Slc.sub s 1 6 (6 + lenOf b) s.c) (gQ b) := bo hb (by omega) (by omega) (by omega)
 have hbh : ag w (Slc.sub s 1 0 2 s.c) (b.take 2) := by
  have := bo hb (lo := 0) (hi := 2) (c := s.c) (by omega) (by omega) (by omega)
  simpa using this
 refine (yO _ _ _ _ (uN hb1 (ai hbh hk1) (ai hbt hk1)) (by simp) (fun i h => by
  have h : i < 2 := by simpa using h
  match i, h with
  | 0, _ => simp [Slc.sub]
  | 1, _ => simp [Slc.sub]; omega)).mono ?_
 rintro e w2 ⟨rfl, rfl⟩
 have hcrc : ([b.take 2, gQ b] : List (List UInt8)).flatten = b.take 2 ++ gQ b := by simp
 rw [hcrc]
 refine ⟨_, rfl, aQ (fun h4 => ?_) (fun h4 => ?_)⟩
 ·refine ⟨_, ((hE.af (hk1.drew)).1 ie (by simp)).1, _, _, _, rfl, ?_, hk1.drew⟩
  rw [ei, if_neg (by omega), if_neg (by omega), if_neg (by omega), if_neg (by omega)]
  exact ⟨rfl, rfl, rfl⟩
 ·refine ⟨aA (by omega), by omega, by omega, by omega, by omega, ?_⟩
  refine (uO _ _ _ (ai hbt hk1.drew) (by simp [Slc.sub]; omega)).mono ?_
  rintro e w3 ⟨x, rfl, hx, hfx, hk3⟩
  refine ⟨x, rfl, ?_⟩
  have hbr : ag w (Slc.sub s 1 (6 + lenOf b) s.l s.c) (b.drop (6 + lenOf b)) := by
   have := bo hb (lo := 6 + lenOf b) (hi := s.l) (c := s.c) (by omega) (by omega) (by omega)
   rw [hsl, List.take_length] at this
   rw [hsl]; exact this
  have hk13 := hk1.drew.trans hk3
  refine (uO _ _ _ (ai hbr hk13) (by simp [Slc.sub]; omega)).mono ?_
  rintro e w4 ⟨y, rfl, hy, hfy, hk4⟩
  refine ⟨y, rfl, x, y, _, rfl, ?_, hk13.trans hk4⟩
  rw [ei, if_neg (by omega), if_neg (by omega), if_neg (by omega), if_pos (by omega)]
  exact ⟨ai hx hk4, hy, hfx.mono hk1.drew.size, hfy.mono hk13.size, rfl⟩
end Go.D
namespace Go.D
open Go Go.Proofs
theorem ofNat_mod (n : Nat) : UInt8.ofNat (n % 256) = UInt8.ofNat n := by
 apply UInt8.toNat_inj.1
 rw [UInt8.toNat_ofNat', UInt8.toNat_ofNat']
 simp
theorem ofNat_eq {n : Nat} {x : UInt8} (h : n % 256 = x.toNat) : UInt8.ofNat n = x := by
 apply UInt8.toNat_inj.1
 rw [UInt8.toNat_ofNat']
 exact h
theorem oM (s : Slc) (b : List UInt8) (w : World) (hb : ag w s b) (hl : s.l <= 2 ^ 20) :
  Calls Tryz.prog cH ⟨[s.v]⟩ w fun e w' => ∃ f : Slc, e = .returned f.v /\ Own w' f 1 ((bz b).map aH) /\ aD w f /\ aj w w' := by
 have hsl := hb.1
 refine kK _ ?_
 unfold iC
 refine ⟨by omega, by omega, by omega, by omega, aA (by omega), aq (fun r2 w3 hr2 hb2 hk2 hs2 => aq (fun r4 w5 hr4 hb4 hk4 hs4 => ?_))⟩
 have em : ((s.l : Nat) : Int) % (256 : Int) = ((b.length % 256 : Nat) : Int) := by rw [hsl]; omega
 rw [em, qj, ofNat_mod, hsl, show (256 : Int) = ((256 : Nat) : Int) from rfl, lQ] at hb2
 have ho2 : Own w3 ⟨some ⟨r2, 0, none⟩, 2, 2⟩ 1 ((le2 b.length).map aH) := Own.new (sz := 1) hb2 (Or.inl (by simp)) rfl
 refine aZ (vs := []) (w0 := w3) (Own.new (sz := 1) (n := 0) hb4 (.inl (by simp)) rfl) rfl (aD.at (by omega)) hk4 (aU (ho2.af hk4).bytes) (by simp [Src.n]) (fun s6 w7 h1 h2 h3 h4 => ?_)
 have e1 := h1.1
 have l1 : s6.l = 2 := by simpa [le2] using e1
 refine aZ h1 rfl h3 h2 (aU (ai hb (hk2.trans h2))) (by simp only [Src.n]; omega) (fun s8 w9 h5 h6 h7 h8 => ?_)
 have e2 := h5.1
 have l2 : s8.l = 2 + b.length := by simp [le2] at e2; omega
 refine (yP s8 _ w9 h5.bytes (by omega)).mono ?_
 rintro e w10 ⟨rfl, rfl⟩
 have ecrc : [] ++ le2 b.length ++ b = le2 b.length ++ b := rfl
 rw [ecrc]
 refine ⟨_, rfl, by omega, by omega, by omega, by omega, by omega, by omega, aq (fun r13 w14 hr13 hb13 hk13 hs13 => ?_)⟩
 rw [qj, show (256 : Int) = ((256 : Nat) : Int) from rfl, lQ, show (65536 : Int) = ((65536 : Nat) : Int) from rfl, lQ, show (16777216 : Int) = ((16777216 : Nat) : Int) from rfl, lQ] at hb13
 have ho13 : Own w14 ⟨some ⟨r13, 0, none⟩, 4, 4⟩ 1 ((le4 (crc (le2 b.length ++ b))).map aH) := Own.new (sz := 1) hb13 (Or.inl (by simp)) rfl
 have hk14 := h6.trans hk13
 refine aZ (w0 := w) (ho2.af hk14) rfl (aD.at (by omega)) (hk2.trans hk14) (aU ho13.bytes) (by simp [Src.n]) (fun s15 w16 g1 g2 g3 g4 => ?_)
 have e3 := g1.1
 have l3 : s15.l = 6 := by simpa [le2, le4] using e3
 refine aZ g1 rfl g3 g2 (aU (ai hb g2)) (by simp only [Src.n]; omega) (fun s17 w18 g5 g6 g7 g8 => ?_)
 exact ⟨s17, rfl, g5, g7, g6⟩
theorem vR (b : List UInt8) (h6 : 6 + lenOf b <= b.length) : bz (gQ b) = b.take (6 + lenOf b) ↔ crc (b.take 2 ++ gQ b) = toldOf b := by
 obtain ⟨b0, b1, b2, b3, b4, b5, r, rfl⟩ : ∃ b0 b1 b2 b3 b4 b5 r, b = b0 :: b1 :: b2 :: b3 :: b4 :: b5 :: r := by
  match b, h6 with
  | b0 :: b1 :: b2 :: b3 :: b4 :: b5 :: r, _ => exact ⟨b0, b1, b2, b3, b4, b5, r, rfl⟩
  | [], h => simp at h
  | [_], h => simp at h; omega
  | [_, _], h => simp at h; omega
  | [_, _, _], h => simp at h; omega
  | [_, _, _, _], h => simp at h; omega
  | [_, _, _, _, _], h => simp at h; omega
 have hn : lenOf (b0 :: b1 :: b2 :: b3 :: b4 :: b5 :: r) = b0.toNat + 256 * b1.toNat := rfl
 have ht : toldOf (b0 :: b1 :: b2 :: b3 :: b4 :: b5 :: r) = b2.toNat + 256 * b3.toNat + 65536 * b4.toNat + 16777216 * b5.toNat := rfl
 have htx : gQ (b0 :: b1 :: b2 :: b3 :: b4 :: b5 :: r) = r.take (b0.toNat + 256 * b1.toNat) := by
  rw [gQ, hn, Nat.add_comm 6]; rfl
 have h2 : (b0 :: b1 :: b2 :: b3 :: b4 :: b5 :: r).take 2 = [b0, b1] := rfl
 have h6' : (b0 :: b1 :: b2 :: b3 :: b4 :: b5 :: r).take (6 + (b0.toNat + 256 * b1.toNat)) = [b0, b1] ++ [b2, b3, b4, b5] ++ r.take (b0.toNat + 256 * b1.toNat) := by
  rw [Nat.add_comm 6]; rfl
 rw [hn] at h6 ⊢
 rw [ht, htx, h2, h6', bz]
 have hl : (r.take (b0.toNat + 256 * b1.toNat)).length = b0.toNat + 256 * b1.toNat := by
  rw [List.length_take]
  simp only [List.length_cons] at h6
  omega
 have l0 := b0.toNat_lt; have l1 := b1.toNat_lt; have l2 := b2.toNat_lt; have l3 := b3.toNat_lt; have l4 := b4.toNat_lt; have l5 := b5.toNat_lt
 have hle : le2 (r.take (b0.toNat + 256 * b1.toNat)).length = [b0, b1] := by
  rw [hl, le2, ofNat_eq (x := b0) (by omega), ofNat_eq (x := b1) (by omega)]
 rw [hle, List.append_left_inj, List.append_right_inj]
 have hc := Ew ([b0, b1] ++ r.take (b0.toNat + 256 * b1.toNat))
 generalize crc ([b0, b1] ++ r.take (b0.toNat + 256 * b1.toNat)) = c at hc ⊢
 constructor
 ·intro h
  simp only [le4, List.cons.injEq, and_true] at h
  obtain ⟨e2, e3, e4, e5⟩ := h
  have e2 := congrArg UInt8.toNat e2
  have e3 := congrArg UInt8.toNat e3
  have e4 := congrArg UInt8.toNat e4
  have e5 := congrArg UInt8.toNat e5
  rw [UInt8.toNat_ofNat'] at e2 e3 e4 e5
  omega
 ·intro h
  rw [le4, ofNat_eq (x := b2) (by omega), ofNat_eq (x := b3) (by omega), ofNat_eq (x := b4) (by omega), ofNat_eq (x := b5) (by omega)]
def AS : Except Nat (List UInt8 × List UInt8) -> Int
 | .error k => ((k + 1 : Nat) : Int)
 | .ok _ => 0
def Fh (w w' : World) (s t : Slc) : Except Nat (List UInt8 × List UInt8) -> Prop
 | .error k => s = ⟨none, 0, 0⟩ /\ t = ⟨none, 0, 0⟩
 | .ok (x, y) => ag w' s x /\ ag w' t y /\ aD w s /\ aD w t
def DX (w w' : World) (s t : Slc) : Except Nat (List UInt8 × List UInt8) -> Prop
 | .error k => s = ⟨none, 0, 0⟩ /\ t = ⟨none, 0, 0⟩
 | .ok (x, y) => ag w' s x /\ ag w' t y /\ aD w s /\ aD w t /\ s.l <= s.c /\ ∀ k, au s k -> k < w'.heap.size
theorem vi (s : Slc) (b : List UInt8) (w : World) (hb : ag w s b) (hl : s.l <= 2 ^ 20) (hc : s.l <= s.c) :
  Calls Tryz.prog ez ⟨[s.v]⟩ w fun e w' => ∃ (x y : Slc), e = .returned (.tuple ⟨[x.v, y.v, .int .i64 (AS (ei b))]⟩) /\ DX w w' x y (ei b) /\ aj w w' := by
 have hsl := hb.1
 refine lG _ ?_
 unfold iP
 refine ae (fun h => ?_) (fun h => ?_)
 ·rw [ei, if_pos (by omega)]
  exact ⟨_, _, rfl, ⟨rfl, rfl⟩, Ext.refl _ _⟩
 obtain ⟨a, ha, _⟩ := cB hb (i := 0) (by omega)
 have cell : ∀ i, i < b.length -> w.cell? (a.add i) = some (.int .u8 (at8 b i : Int)) := fun i hi => yQ hb hi ha
 have lt := C7 b
 have l0 := lt 0; have l1 := lt 1
 refine aa ha ⟨by omega, by omega, _, cell 0 (by omega), aA (by omega), aa ha ⟨by omega, by omega, _, cell 1 (by omega), aA (by omega), aA (by omega), aA (by omega), ?_⟩⟩
 have hlen : (at8 b 0 : Int) + 256 * (at8 b 1 : Int) = (lenOf b : Int) := by rw [lenOf]; omega
 rw [hlen]
 have hll : lenOf b < 65536 := by rw [lenOf]; omega
 refine ae (fun h2 => ?_) (fun h2 => ⟨aA (by omega), ae (fun h3 => ?_) (fun h3 => ?_)⟩)
 ·rw [ei, if_neg (by omega), if_pos (by omega)]
  exact ⟨_, _, rfl, ⟨rfl, rfl⟩, Ext.drew _ _⟩
 ·rw [ei, if_neg (by omega), if_neg (by omega), if_pos (by omega)]
  exact ⟨_, _, rfl, ⟨rfl, rfl⟩, Ext.drew _ _⟩
 have e6 : Int.toNat ((6 : Int) + (lenOf b : Int)) = 6 + lenOf b := by omega
 rw [e6]
 have hd2 : aj w w.drew.drew := aj.drew (Ext.drew _ _)
 have hbt : ag w (Slc.sub s 1 6 (6 + lenOf b) s.c) (gQ b) := bo hb (by omega) (by omega) (by omega)
 have hbf : ag w (Slc.sub s 1 0 (6 + lenOf b) s.c) (b.take (6 + lenOf b)) := by
  have := bo hb (lo := 0) (hi := 6 + lenOf b) (c := s.c) (by omega) (by omega) (by omega)
  simpa using this
 have hbr : ag w (Slc.sub s 1 (6 + lenOf b) s.l s.c) (b.drop (6 + lenOf b)) := by
  have := bo hb (lo := 6 + lenOf b) (hi := s.l) (c := s.c) (by omega) (by omega) (by omega)
  rw [hsl, List.take_length] at this
  rw [hsl]; exact this
 refine ⟨aA (by omega), by omega, by omega, by omega, by omega, aA (by omega), by omega, by omega, by omega, by omega, _, ai hbf hd2, ?_⟩
 refine (oM _ _ _ (ai hbt hd2) (by simp [Slc.sub]; omega)).mono ?_
 rintro e w3 ⟨f, rfl, hf, hff, hk3⟩
 have hk := hd2.trans hk3
 refine ⟨f, rfl, ⟨_, ai hbf hk, rfl⟩, _, hf.bytes, ?_⟩
 have hiff := vR b (by omega)
 refine aQ (fun h4 => ?_) (fun h4 => ?_)
 ·rw [ei, if_neg (by omega), if_neg (by omega), if_neg (by omega), if_neg (fun h => h4 (hiff.2 h))]
  exact ⟨_, _, rfl, ⟨rfl, rfl⟩, hk⟩
 ·rw [ei, if_neg (by omega), if_neg (by omega), if_neg (by omega), if_pos (hiff.1 h4)]
  have hkd : aj w w3.drew := hk.drew
  have ltx : (Slc.sub s 1 6 (6 + lenOf b) s.c).l <= 2 ^ 20 := by simp [Slc.sub]; omega
  have lrx : (Slc.sub s 1 (6 + lenOf b) s.l s.c).l <= 2 ^ 20 := by simp [Slc.sub]; omega
  refine ⟨aA (by omega), by omega, by omega, by omega, by omega, aA (by omega), by omega, by omega, by omega, by omega, ⟨?_, ?_⟩⟩
  ·refine aq (fun r16 w17 hr16 hb16 hk16 hs16 => ⟨?_, ?_⟩)
   ·refine aZ (vs := []) (w0 := w) (Own.new (sz := 1) (n := 0) hb16 (.inl (by simp)) rfl) rfl (aD.at (by have := hkd.size; omega)) (hkd.trans hk16) (aU (ai hbt (hkd.trans hk16))) (by simp only [Src.n]; omega) (fun s18 w19 h1 h2 h3 h4 => ?_)
    refine aq (fun r20 w21 hr20 hb20 hk20 hs20 => ?_)
    refine aZ (vs := []) (w0 := w19) (Own.new (sz := 1) (n := 0) hb20 (.inl (by simp)) rfl) rfl (aD.at (by omega)) hk20 (aU (ai hbr (h2.trans hk20))) (by simp only [Src.n]; omega) (fun s22 w23 h5 h6 h7 h8 => ?_)
    exact ⟨_, _, rfl, ⟨(h1.af h6).bytes, h5.bytes, h3, h7.mono h2.size, h1.le (by omega), kF (h1.af h6)⟩, h2.trans h6⟩
   ·refine aq (fun r24 w25 hr24 hb24 hk24 hs24 => ?_)
    have ho16 : Own w17 ⟨some ⟨r16, 0, none⟩, 0, 0⟩ 1 (([] : List UInt8).map aH) := Own.new (sz := 1) (n := 0) hb16 (.inl (by simp)) rfl
    have ho24 : Own w25 ⟨some ⟨r24, 0, none⟩, 0, 0⟩ 1 (([] : List UInt8).map aH) := Own.new (sz := 1) (n := 0) hb24 (.inl (by simp)) rfl
    have hk25 := (hkd.trans hk16).trans hk24
    have hs0 := hkd.size
    have hs1 := hk16.size
    refine kl (vs := []) (w0 := w) (ho16.af hk24) rfl (aD.at (by omega)) hk25 (aU (ai hbt hk25)) (by simp only [Src.n]; omega) (fun s26 w27 h1 h2 h3 h4 h4' => ?_)
    have ho24' := ho24.ext h4 (by
     rintro k ⟨x, hx, rfl⟩ ⟨y, hy, hxy⟩
     cases hx; cases hy
     simp only at hxy
     omega)
    refine kl (vs := []) (w0 := w) ho24' rfl (aD.at (by omega)) h2 (aU (ai hbr h2)) (by simp only [Src.n]; omega) (fun s28 w29 h5 h6 h7 h8 h8' => ?_)
    refine ⟨_, _, rfl, ⟨(h1.ext h8 ?_).bytes, h5.bytes, h3, h7, h1.le (by omega), fun k hk => Nat.lt_of_lt_of_le (kF h1 k hk) h8.size⟩, h6⟩
    rintro k hk1 ⟨y, hy, rfl⟩
    cases hy
    have h9 := h4' _ hk1
    rcases h9 with ⟨z, hz, hzz⟩ | h9
    ·cases hz; simp only at hzz; omega
    ·have := (Array.getElem?_eq_some_iff.1 hb24).1
     simp only at h9
     omega
  ·refine aq (fun r30 w31 hr30 hb30 hk30 hs30 => aq (fun r32 w33 hr32 hb32 hk32 hs32 => ?_))
   have ho30 : Own w31 ⟨some ⟨r30, 0, none⟩, 0, 0⟩ 1 (([] : List UInt8).map aH) := Own.new (sz := 1) (n := 0) hb30 (.inl (by simp)) rfl
   refine aZ (vs := []) (w0 := w31) (Own.new (sz := 1) (n := 0) hb32 (.inl (by simp)) rfl) rfl (aD.at (by omega)) hk32 (aU (ai hbt ((hkd.trans hk30).trans hk32))) (by simp only [Src.n]; omega) (fun s34 w35 h1 h2 h3 h4 => ?_)
   have hs0 := hkd.size
   refine kl (vs := []) (w0 := w) (ho30.af h2) rfl (aD.at (by omega)) ((hkd.trans hk30).trans h2) (aU (ai hbr ((hkd.trans hk30).trans h2))) (by simp only [Src.n]; omega) (fun s36 w37 h5 h6 h7 h8 h8' => ?_)
   refine ⟨_, _, rfl, ⟨(h1.ext h8 ?_).bytes, h5.bytes, h3.mono (by omega), h7, h1.le (by omega), fun k hk => Nat.lt_of_lt_of_le (kF h1 k hk) h8.size⟩, h6⟩
   rintro k hk1 ⟨y, hy, rfl⟩
   cases hy
   have := h3 _ hk1
   simp only at this
   omega
end Go.D
namespace Go.D
open Go Go.Proofs
theorem EY {A : Nat -> Addr} {w : World} (h : ba A w) : iJ rM [bP, bw, ie] A w := h.sub (by decide)
theorem yR (b r : List UInt8) (hl : b.length <= 2048) : ei (bz b ++ r) = .ok (b, r) := by
 obtain ⟨b0, b1, h01⟩ : ∃ b0 b1, le2 b.length = [b0, b1] := ⟨_, _, rfl⟩
 obtain ⟨c0, c1, c2, c3, hc⟩ : ∃ c0 c1 c2 c3, le4 (crc (le2 b.length ++ b)) = [c0, c1, c2, c3] := ⟨_, _, _, _, rfl⟩
 have e : bz b ++ r = b0 :: b1 :: c0 :: c1 :: c2 :: c3 :: (b ++ r) := by
  rw [bz, hc, h01]; simp
 have hlen : lenOf (bz b ++ r) = b.length := by
  rw [e]
  have h0 := congrArg (fun l => l.map UInt8.toNat) h01
  simp only [le2, List.map_cons, List.map_nil, UInt8.toNat_ofNat', List.cons.injEq, and_true] at h0
  show b0.toNat + 256 * b1.toNat = b.length
  omega
 have htext : gQ (bz b ++ r) = b := by
  rw [gQ, hlen, e, Nat.add_comm 6]
  show (b ++ r).take b.length = b
  simp
 have htake : (bz b ++ r).take (6 + b.length) = bz b := by
  rw [Nat.add_comm, <- bU]; simp
 have hiff := vR (bz b ++ r) (by rw [hlen]; simp [bU]; omega)
 rw [hlen, htext, htake] at hiff
 have hcrc := hiff.1 rfl
 rw [ei, hlen, htext, if_neg (by simp [bU]; omega), if_neg (by omega), if_neg (by simp [bU]; omega), if_pos hcrc]
 congr 2
 rw [Nat.add_comm, <- bU]; simp
end Go.D
namespace Go.D
open Go Go.Proofs
def yS (A : Nat -> Addr) : List Value := (List.range 19).map fun k => fX A (dG.getD k 0)
theorem pH (A : Nat -> Addr) (w : World) (h : ba A w) :
  Calls Tryz.prog fI ⟨[]⟩ w fun e w' => ∃ t : Slc, e = .returned t.v /\ t.l = 19 /\ Own w' t 1 (yS A) /\ aj w w' := by
 refine u4 ?_
 unfold tS
 refine ⟨_, ba.at h 0 (by omega), _, ba.at h 1 (by omega), _, ba.at h 2 (by omega), _, ba.at h 3 (by omega), _, ba.at h 4 (by omega), _, ba.at h 5 (by omega), _, ba.at h 6 (by omega), _, ba.at h 7 (by omega), _, ba.at h 8 (by omega), _, ba.at h 9 (by omega), _, ba.at h 10 (by omega), _, ba.at h 11 (by omega), _, ba.at h 12 (by omega), _, ba.at h 13 (by omega), _, ba.at h 14 (by omega), _, ba.at h 15 (by omega), _, ba.at h 16 (by omega), _, ba.at h 17 (by omega), _, ba.at h 18 (by omega), ?_⟩
 refine aq (fun r w1 hr hb hk hs => ?_)
 exact ⟨⟨some ⟨r, 0, none⟩, 19, 19⟩, rfl, rfl, Own.new (sz := 1) (n := 19) hb (.inl (by simp)) rfl, hk⟩
theorem ba.row {A : Nat -> Addr} {w : World} {t : Slc} (h : Own w t 1 (yS A)) {n : Nat} (hn : n < 19) : ∃ a, t.p = some a /\ w.cell? (a.add n) = some (fX A (dG.getD n 0)) := by
 obtain ⟨a, ha, hc⟩ := bn h.cells (i := n) (by simp [yS]; exact hn)
 refine ⟨a, ha, ?_⟩
 rw [hc]
 simp [yS]
theorem uP (A : Nat -> Addr) (k : Nat) (hk : k < 19) (c : Addr) (t : Slc) (w : World) (hE : ba A w) (htl : t.l = 19) (ht : Own w t 1 (yS A)) (hc : w.cell? c = some (fX A (dG.getD k 0))) :
  Calls Tryz.prog dm ⟨[t.v, (Value.func (.func fw) ⟨[]⟩ ⟨[(Value.pointer (some c))]⟩)]⟩ w fun e w' => e = .returned (.int .i64 (k : Int)) /\ w' = w := by
 refine fa _ _ ?_
 unfold cN
 refine ⟨fun i w2 => w2 = w /\ ∃ n : Nat, i = n /\ n <= k, fun i _ => (19 - i).toNat, ⟨rfl, 0, rfl, by omega⟩, ?_⟩
 rintro i w2 ⟨rfl, n, rfl, hn⟩
 intros
 refine ae (fun h1 => ?_) (fun h1 => by omega)
 obtain ⟨a, ha, hcell⟩ := ba.row ht (n := n) (by omega)
 refine aa ha ⟨by omega, h1, _, (by rw [show (Int.toNat (n : Int)) * 1 = n by omega]; exact hcell), ?_⟩
 have hclos : Calls Tryz.prog fw ⟨[fX A (dG.getD n 0), (Value.pointer (some c))]⟩ w2 fun e w' => e = .returned (.bool (decide (k = n))) /\ w' = w2 := by
  refine qZ _ _ ?_
  refine aa rfl ⟨_, hc, ?_⟩
  refine (ba.is hE hk (by omega)).mono ?_
  rintro e w3 ⟨rfl, rfl⟩
  exact ⟨_, rfl, rfl, rfl⟩
 refine hclos.mono ?_
 rintro e w3 ⟨rfl, rfl⟩
 refine ⟨_, rfl, ao (fun h2 => ?_) (fun h2 => ?_)⟩
 ·have : k = n := by simpa using h2
  subst this
  exact ⟨rfl, rfl⟩
 ·have : k ≠ n := by simpa using h2
  exact ⟨aA (by omega), ⟨rfl, n + 1, rfl, by omega⟩, by dsimp only; omega⟩
theorem Ak (w : World) : Calls Tryz.prog dV ⟨[.nilIface]⟩ w fun e w' => e = .returned (.int .i64 0) /\ aj w w' := by
 refine nu _ ?_
 refine aq (fun r w1 hr hb hk hs => ?_)
 exact ⟨_, cell_of hb 0, trivial, ao (fun _ => ⟨rfl, hk⟩) (fun h => by cases h)⟩
theorem yT (A : Nat -> Addr) (k : Nat) (hk : k < 19) (w : World) (h : ba A w) :
  Calls Tryz.prog dV ⟨[fX A (dG.getD k 0)]⟩ w fun e w' => e = .returned (.int .i64 ((k + 1 : Nat) : Int)) /\ aj w w' := by
 refine nu _ ?_
 refine aq (fun r w1 hr hb hk1 hs => ?_)
 refine ⟨_, cell_of hb 0, trivial, ao (fun h => by cases h) (fun _ => ?_)⟩
 refine (pH A w1 (h.af hk1)).mono ?_
 rintro e w2 ⟨t, rfl, htl, ht, hk2⟩
 refine ⟨t, rfl, ?_⟩
 refine (uP A k hk ⟨r, 0, none⟩ t w2 (h.af (hk1.trans hk2)) htl ht (hk2.cell (cell_of hb 0))).mono ?_
 rintro e w3 ⟨rfl, rfl⟩
 exact ⟨_, rfl, ae (fun h => by omega) (fun _ => ⟨aA (by omega), by simp, hk1.trans hk2⟩)⟩
end Go.D
namespace Go.D
open Go Go.Proofs
theorem gn (n m : Int) (w : World) : Calls Tryz.prog cG ⟨[.int .i64 n, .int .i64 m]⟩ w fun e w' => e = .returned (.bool (decide (0 <= n /\ n <= m))) /\ w' = w := by
 refine tU _ _ ?_
 unfold rS
 refine ae (fun h => ⟨?_, rfl⟩) (fun h => ⟨?_, rfl⟩)
 ·rw [decide_eq_decide.2]; exact ⟨fun h2 => ⟨h, h2⟩, fun h2 => h2.2⟩
 ·rw [decide_eq_false]; omega
theorem rA (n m : Int) (w : World) : Calls Tryz.prog bW ⟨[.int .i64 n, .int .i64 m]⟩ w fun e w' => e = .returned (.bool (decide (0 <= n /\ n <= m))) /\ w' = w := by
 refine lL _ _ ?_
 unfold iV
 refine ae (fun h => ⟨?_, rfl⟩) (fun h => ⟨?_, rfl⟩)
 ·rw [decide_eq_decide.2]; exact ⟨fun h2 => ⟨h, h2⟩, fun h2 => h2.2⟩
 ·rw [decide_eq_false]; omega
abbrev cJ (t k e a : Int) (l : Nat) : Prop := (0 <= t /\ t <= 1073741824) /\ (1 <= k /\ k <= 5) /\ (0 <= e /\ e <= 1073741824) /\ (0 <= a /\ a <= 4096) /\ l <= 2000 /\ (l = 0 \/ k = 1)
abbrev gR (t e n : Int) (l : Nat) : Prop := (0 <= t /\ t <= 1073741824) /\ (0 <= e /\ e <= 19) /\ (0 <= n /\ n <= 4096) /\ l <= 2000
abbrev lj (t k e a : Int) (s : Slc) : List Value := [.int .i64 t, .int .i64 k, .int .i64 e, .int .i64 a, s.v]
abbrev dN (t e n : Int) (s : Slc) : List Value := [.int .i64 t, .int .i64 e, .int .i64 n, s.v]
theorem jH (t k e a : Int) (s : Slc) (w : World) :
  Calls Tryz.prog dj ⟨[.agg ⟨lj t k e a s⟩]⟩ w fun x w' => x = .returned (.bool (decide (cJ t k e a s.l))) /\ aj w w' := by
 refine mA _ _ _ _ _ ?_
 unfold jq
 refine aq (fun r w7 hr hb hk hs => ?_)
 have ho := ak.cF hb
 have no : ∀ {X : Prop}, ¬ cJ t k e a s.l -> (Ending.returned (Value.bool false) = .returned (.bool (decide (cJ t k e a s.l))) /\ aj w w7) := fun h => ⟨by rw [decide_eq_false h], hk⟩
 refine ⟨t, ho.cell 0 (by simp), (gn _ _ w7).mono ?_⟩
 rintro x w8 ⟨rfl, rfl⟩
 refine ⟨_, rfl, ae (fun h1 => ⟨k, ho.cell 1 (by simp), ae (fun h2 => ⟨k, ho.cell 1 (by simp), ae (fun h3 => ⟨e, ho.cell 2 (by simp), (gn _ _ w8).mono ?_⟩) (fun h3 => no (X := True) (fun h => h3 h.2.1.2))⟩) (fun h2 => no (X := True) (fun h => h2 h.2.1.1))⟩) (fun h1 => no (X := True) (fun h => h1 h.1))⟩
 rintro x w9 ⟨rfl, rfl⟩
 refine ⟨_, rfl, ae (fun h4 => ⟨a, ho.cell 3 (by simp), (gn _ _ w9).mono ?_⟩) (fun h4 => no (X := True) (fun h => h4 h.2.2.1))⟩
 rintro x w10 ⟨rfl, rfl⟩
 refine ⟨_, rfl, ae (fun h5 => ⟨s, ho.cell 4 (by simp), ae (fun h6 => ⟨s, ho.cell 4 (by simp), ae (fun h7 => ?_) (fun h7 => ⟨k, ho.cell 1 (by simp), ?_, hk⟩)⟩) (fun h6 => no (X := True) (fun h => by have := h.2.2.2.2.1; omega))⟩) (fun h5 => no (X := True) (fun h => h5 h.2.2.2.1))⟩
 ·rw [decide_eq_true (show cJ t k e a s.l from ⟨h1, ⟨h2, h3⟩, h4, h5, by omega, .inl (by omega)⟩)]
  exact ⟨rfl, hk⟩
 ·rw [decide_eq_decide.2]
  exact ⟨fun h8 => ⟨h1, ⟨h2, h3⟩, h4, h5, by omega, .inr h8⟩, fun h => h.2.2.2.2.2.elim (fun h => by omega) (fun h => h)⟩
theorem oN (t k e a : Int) (s : Slc) (w : World) :
  Calls Tryz.prog bV ⟨[.agg ⟨lj t k e a s⟩]⟩ w fun x w' => x = .returned (.bool (decide (cJ t k e a s.l))) /\ aj w w' := by
 refine jr _ _ _ _ _ ?_
 unfold gk
 refine aq (fun r w7 hr hb hk hs => ?_)
 have ho := ak.cF hb
 have no : ∀ {X : Prop}, ¬ cJ t k e a s.l -> (Ending.returned (Value.bool false) = .returned (.bool (decide (cJ t k e a s.l))) /\ aj w w7) := fun h => ⟨by rw [decide_eq_false h], hk⟩
 refine ⟨t, ho.cell 0 (by simp), (rA _ _ w7).mono ?_⟩
 rintro x w8 ⟨rfl, rfl⟩
 refine ⟨_, rfl, ae (fun h1 => ⟨k, ho.cell 1 (by simp), ae (fun h2 => ⟨k, ho.cell 1 (by simp), ae (fun h3 => ⟨e, ho.cell 2 (by simp), (rA _ _ w8).mono ?_⟩) (fun h3 => no (X := True) (fun h => h3 h.2.1.2))⟩) (fun h2 => no (X := True) (fun h => h2 h.2.1.1))⟩) (fun h1 => no (X := True) (fun h => h1 h.1))⟩
 rintro x w9 ⟨rfl, rfl⟩
 refine ⟨_, rfl, ae (fun h4 => ⟨a, ho.cell 3 (by simp), (rA _ _ w9).mono ?_⟩) (fun h4 => no (X := True) (fun h => h4 h.2.2.1))⟩
 rintro x w10 ⟨rfl, rfl⟩
 refine ⟨_, rfl, ae (fun h5 => ⟨s, ho.cell 4 (by simp), ae (fun h6 => ⟨k, ho.cell 1 (by simp), ae (fun h7 => ?_) (fun h7 => ⟨s, ho.cell 4 (by simp), ?_, hk⟩)⟩) (fun h6 => no (X := True) (fun h => by have := h.2.2.2.2.1; omega))⟩) (fun h5 => no (X := True) (fun h => h5 h.2.2.2.1))⟩
 ·rw [decide_eq_true (show cJ t k e a s.l from ⟨h1, ⟨h2, h3⟩, h4, h5, by omega, .inr h7⟩)]
  exact ⟨rfl, hk⟩
 ·rw [decide_eq_decide.2]
  exact ⟨fun h8 => ⟨h1, ⟨h2, h3⟩, h4, h5, by omega, .inl (by omega)⟩, fun h => h.2.2.2.2.2.elim (fun h => by omega) (fun h => absurd h h7)⟩
theorem rB (A : Nat -> Addr) (t e n : Int) (s : Slc) (w : World) (hE : ba A w) :
  Calls Tryz.prog fE ⟨[.agg ⟨dN t e n s⟩]⟩ w fun x w' => x = .returned (.bool (decide (gR t e n s.l))) /\ aj w w' := by
 refine ov _ _ _ _ ?_
 unfold kQ
 refine aq (fun r w6 hr hb hk hs => ?_)
 have ho := ak.af (ak.cF hb) (Ext.drew _ _)
 refine ⟨t, ho.cell 0 (by simp), (gn _ _ _).mono ?_⟩
 rintro x w8 ⟨rfl, rfl⟩
 refine ⟨_, rfl, ae (fun h1 => ⟨e, ho.cell 1 (by simp), ?_⟩) (fun h1 => ⟨by rw [decide_eq_false (fun h => h1 h.1)], hk.drew⟩)⟩
 refine (pH A _ (hE.af hk.drew)).mono ?_
 rintro x w13 ⟨tb, rfl, htl, _, k13⟩
 have ho13 := ho.af k13
 have kk := hk.drew.trans k13
 refine ⟨tb, rfl, ⟨e, ho13.cell 1 (by simp), rfl⟩, (gn _ _ _).mono ?_⟩
 rintro x w17 ⟨rfl, rfl⟩
 rw [htl]
 refine ⟨_, rfl, ae (fun h2 => ⟨n, ho13.cell 2 (by simp), (gn _ _ _).mono ?_⟩) (fun h2 => ⟨by rw [decide_eq_false (fun h => h2 h.2.1)], kk⟩)⟩
 rintro x w21 ⟨rfl, rfl⟩
 refine ⟨_, rfl, ae (fun h3 => ⟨s, ho13.cell 3 (by simp), ?_, kk⟩) (fun h3 => ⟨by rw [decide_eq_false (fun h => h3 h.2.2.1)], kk⟩)⟩
 rw [decide_eq_decide.2]
 exact ⟨fun h => ⟨h1, h2, h3, by omega⟩, fun h => by have := h.2.2.2; omega⟩
def ll (l : List Int) : List UInt8 := (l.map fun n => bx n.toNat).flatten
def aV (l : List Int) (d : List UInt8) : List UInt8 := ll l ++ bx d.length ++ d
theorem rC (n : Int) (l : List Int) : ll (n :: l) = bx n.toNat ++ ll l := by simp [ll]
theorem yU (l : List Int) (b : List UInt8) (h : ∀ n ∈ l, 0 <= n /\ n <= 4611686018427387903) : l.foldl (fun st n => sJ n st) (b, none) = (b ++ ll l, none) := by
 induction l generalizing b with
 | nil => simp [ll]
 | cons n l ih =>
  rw [List.foldl_cons, sJ, if_neg (by have := h n (by simp); omega), ih _ (fun m hm => h m (by simp [hm])), rC]; simp
theorem sk (A : Nat -> Addr) (d nl : Slc) (db : List UInt8) (l : List Int) (w : World) (hd : ag w d db) (hn : iL w nl l) (hl : l.length <= 10) (hr : ∀ n ∈ l, 0 <= n /\ n <= 4611686018427387903) (hp : (aV l db).length <= 2048) (hE : bh A w.heap.size w) :
  Calls Tryz.prog gz ⟨[d.v, nl.v]⟩ w fun x w' => ∃ f : Slc, x = .returned (.tuple ⟨[f.v, .nilIface]⟩) /\ Own w' f 1 ((bz (aV l db)).map aH) /\ aD w f /\ aj w w' := by
 have hnl := hn.1
 have hpl : (ll l).length + (bx db.length).length + db.length <= 2048 := by simpa [aV, Nat.add_assoc] using hp
 refine tV _ _ ?_
 unfold rT
 refine aq (fun r w4 hr4 hb hk hs => ?_)
 refine ⟨fun i w8 => ∃ (k : Nat) (s : Slc), i = k /\ k <= l.length /\ sI A w8 r s ((l.take k).foldl (fun st n => sJ n st) ([], none)) /\ bp (ic r ⟨none, 0, 0⟩) (ic r s) w4 w8, fun i _ => ((l.length : Int) - i).toNat, ⟨0, _, rfl, by omega, sI.new A hb, bp.refl _ _⟩, ?_⟩
 rintro i w8 ⟨k, s, rfl, hkl, ho, hf⟩
 intros
 have m0 : ∀ k, ic r ⟨none, 0, 0⟩ k -> w.heap.size <= k := fun k hk => by rw [yy hk]; omega
 obtain ⟨k8, hold⟩ := hf.new hk m0
 refine ae (fun hlt => ?_) (fun hlt => ?_)
 ·have hk2 : k < l.length := by omega
  obtain ⟨a, ha, hc⟩ := rJ (rK hn k8) hk2
  have hmem := hr _ (List.getElem_mem hk2)
  refine aa ha ⟨by omega, hlt, l[k], by rw [show Int.toNat (k : Int) * 1 = k by omega]; exact hc, ?_⟩
  have hst : ((l.take k).foldl (fun st n => sJ n st) ([], none)).1.length <= 9 * 10 := by
   have := vK (l.take k) ([], none)
   have h2 : (l.take k).length <= l.length := by simp; omega
   simp only [List.length_nil] at this; omega
  refine (yx A _ r s _ _ w8 ho (by omega) (by omega) (hE.af k8)).mono ?_
  rintro x w20 ⟨rfl, s20, h20, f20⟩
  refine ⟨rfl, aA (by omega), ⟨k + 1, s20, rfl, hk2, ?_, hf.trans f20⟩, by dsimp only; omega⟩
  rw [List.take_succ_eq_append_getElem hk2, List.foldl_append]
  exact h20
 ·have : k = l.length := by omega
  subst this
  rw [List.take_length, yU l [] hr, List.nil_append] at ho
  refine ⟨db, ai hd k8, (vM A _ r s _ db w8 ho (by dsimp only; omega) (by omega) (hE.af k8)).mono ?_⟩
  rintro x w23 ⟨rfl, s23, h23, f23⟩
  have e1 : AN db (ll l, none) = (aV l db, none) := rfl
  rw [e1] at h23
  have f23' := hf.trans f23
  obtain ⟨k23, _⟩ := f23'.new hk m0
  refine ⟨rfl, (BA A _ r s23 _ w23 h23 (by dsimp only; omega) (hE.af k23)).mono ?_⟩
  rintro x w25 ⟨t, e2, rfl, g1, g2, g3, g5, g6⟩
  dsimp only at g3 g6
  rw [if_neg (by omega)] at g3
  subst g3
  refine ⟨t, _, rfl, trivial, ao (fun h => by cases h) (fun _ => ?_)⟩
  refine (Aj t _ w25 (g6 rfl) hp).mono ?_
  rintro x w29 ⟨f, rfl, q1, q2, q3⟩
  exact ⟨f, _, rfl, f, rfl, q1, q2.mono (k23.trans g1).size, (k23.trans g1).trans q3⟩
theorem ln (d nl : Slc) (db : List UInt8) (l : List Int) (w : World) (hd : ag w d db) (hn : iL w nl l) (hl : l.length <= 10) (hr : ∀ n ∈ l, 0 <= n /\ n <= 4611686018427387903) (hp : (aV l db).length <= 2048) :
  Calls Tryz.prog cC ⟨[d.v, nl.v]⟩ w fun x w' => ∃ f : Slc, x = .returned f.v /\ ag w' f (bz (aV l db)) /\ aD w f /\ aj w w' /\ f.l <= f.c := by
 have hnl := hn.1
 have hpl : (ll l).length + (bx db.length).length + db.length <= 2048 := by simpa [aV, Nat.add_assoc] using hp
 refine ku _ _ ?_
 unfold gX
 refine aq (fun r w4 hr4 hb hk hs => ?_)
 refine ⟨fun out i w9 => ∃ k : Nat, i = k /\ k <= l.length /\ Own w9 out 1 ((ll (l.take k)).map aH) /\ aD w out /\ aj w w9, fun _ i _ => ((l.length : Int) - i).toNat, ⟨0, rfl, by omega, Own.new (sz := 1) (n := 0) hb (.inl (by simp)) rfl, aD.at (by omega), hk⟩, ?_⟩
 rintro out i w9 ⟨k, rfl, hkl, ho, hf, hkp⟩
 intros
 have hol := ho.bytes.1
 refine ae (fun hlt => ?_) (fun hlt => ?_)
 ·have hk2 : k < l.length := by omega
  obtain ⟨a, ha, hc⟩ := rJ (rK hn hkp) hk2
  obtain ⟨m, hm⟩ : ∃ m : Nat, l[k] = (m : Int) := ⟨l[k].toNat, by have := hr _ (List.getElem_mem hk2); omega⟩
  have hmr := hr _ (List.getElem_mem hk2)
  refine aa ha ⟨by omega, hlt, l[k], by rw [show Int.toNat (k : Int) * 1 = k by omega]; exact hc, ?_⟩
  rw [hm]
  refine (nL m w9 (by omega)).mono ?_
  rintro e w22 ⟨s23, rfl, h23, f23, k23⟩
  have hle2 := bH m 8 (by omega)
  have h231 := h23.bytes.1
  have hfl := yJ (l.take k) (fun n hn => (hr n (List.mem_of_mem_take hn)).2)
  have htk : (l.take k).length <= 10 := by simp; omega
  have hel : (ll (l.take k)).length <= 90 := by rw [ll]; omega
  refine ⟨s23, rfl, aZ (w0 := w) (ho.af k23) rfl hf (hkp.trans k23) (aU h23.bytes) (by simp only [Src.n]; omega) (fun s24 w25 g1 g2 g3 g4 => ?_)⟩
  refine ⟨aA (by omega), ⟨k + 1, rfl, hk2, ?_, g3, g2⟩, by dsimp only; omega⟩
  rw [List.take_succ_eq_append_getElem hk2]
  simpa [ll, hm] using g1
 ·have : k = l.length := by omega
  subst this
  rw [List.take_length] at ho hol
  refine ⟨db, ai hd hkp, (sN db w9 (by omega)).mono ?_⟩
  rintro x w28 ⟨s29, rfl, h29, f29, k29⟩
  have h291 := h29.bytes.1
  simp only [List.length_append] at h291
  refine ⟨s29, rfl, aZ (w0 := w) (ho.af k29) rfl hf (hkp.trans k29) (aU h29.bytes) (by simp only [Src.n]; omega) (fun s30 w31 g1 g2 g3 g4 => ?_)⟩
  have e1 : ll l ++ (bx db.length ++ db) = aV l db := by simp [aV]
  rw [e1] at g1
  have g11 := g1.bytes.1
  refine (oM s30 _ w31 g1.bytes (by omega)).mono ?_
  rintro x w33 ⟨f, rfl, q1, q2, q3⟩
  exact ⟨f, rfl, f, rfl, q1.bytes, q2.mono g2.size, g2.trans q3, q1.le (by omega)⟩
end Go.D
namespace Go.D
open Go Go.Proofs
theorem BJ {t k e a : Int} {l : Nat} (h : cJ t k e a l) : (ll [1, t, k, e, a]).length <= 14 := by
 obtain ⟨h1, h2, h3, h4, _⟩ := h
 have g0 := bH (1 : Int).toNat 0 (by omega)
 have g1 := bH t.toNat 4 (by omega)
 have g2 := bH k.toNat 0 (by omega)
 have g3 := bH e.toNat 4 (by omega)
 have g4 := bH a.toNat 1 (by omega)
 simp only [rC, List.length_append]
 simp only [ll, List.map_nil, List.flatten_nil, List.length_nil]
 omega
theorem BK {t e n : Int} {l : Nat} (h : gR t e n l) : (ll [2, t, e, n]).length <= 9 := by
 obtain ⟨h1, h2, h3, _⟩ := h
 have g0 := bH (2 : Int).toNat 0 (by omega)
 have g1 := bH t.toNat 4 (by omega)
 have g2 := bH e.toNat 0 (by omega)
 have g4 := bH n.toNat 1 (by omega)
 simp only [rC, List.length_append]
 simp only [ll, List.map_nil, List.flatten_nil, List.length_nil]
 omega
theorem nM {t k e a : Int} {d : List UInt8} (h : cJ t k e a d.length) : (aV [1, t, k, e, a] d).length <= 2048 := by
 have h1 := BJ h
 have h2 := h.2.2.2.2.1
 have h3 := bH d.length 1 (by omega)
 rw [aV, List.length_append, List.length_append]; omega
theorem nN {t e n : Int} {d : List UInt8} (h : gR t e n d.length) : (aV [2, t, e, n] d).length <= 2048 := by
 have h1 := BK h
 have h2 := h.2.2.2
 have h3 := bH d.length 1 (by omega)
 rw [aV, List.length_append, List.length_append]; omega
theorem D5 {t k e a : Int} {l : Nat} (h : cJ t k e a l) : ∀ n ∈ [1, t, k, e, a], 0 <= n /\ n <= 4611686018427387903 := by
 intro n hn
 simp only [List.mem_cons, List.not_mem_nil, or_false] at hn
 rcases hn with rfl | rfl | rfl | rfl | rfl <;> omega
theorem D6 {t e n : Int} {l : Nat} (h : gR t e n l) : ∀ m ∈ [2, t, e, n], 0 <= m /\ m <= 4611686018427387903 := by
 intro m hm
 simp only [List.mem_cons, List.not_mem_nil, or_false] at hm
 rcases hm with rfl | rfl | rfl | rfl <;> omega
theorem C8 (A : Nat -> Addr) (t k e a : Int) (s : Slc) (d : List UInt8) (w : World) (hd : ag w s d) (hE : bh A w.heap.size w) :
  Calls Tryz.prog mQ ⟨[.agg ⟨lj t k e a s⟩]⟩ w fun x w' => ∃ (f : Slc) (ev : Value), x = .returned (.tuple ⟨[f.v, ev]⟩) /\ aj w w' /\
   ((cJ t k e a d.length /\ ev = .nilIface /\ Own w' f 1 ((bz (aV [1, t, k, e, a] d)).map aH) /\ aD w f) \/ (¬ cJ t k e a d.length /\ f = ⟨none, 0, 0⟩ /\ ev = fX A (dG.getD 3 0))) := by
 have hsl := hd.1
 refine yd _ _ _ _ _ ?_
 unfold yc
 refine aq (fun r6 w7 hr hb hk hs => ?_)
 have ho := ak.cF hb
 refine ⟨_, _, _, _, _, ho.row, (jH t k e a s w7).mono ?_⟩
 rintro x w14 ⟨rfl, k14⟩
 have kk := hk.trans k14
 rw [hsl]
 refine ⟨_, rfl, aQ (fun hb => ?_) (fun hb => ?_)⟩
 ·exact ⟨_, ba.at (hE.af kk.drew).1 3 (by omega), _, _, rfl, kk.drew, .inr ⟨hb, rfl, rfl⟩⟩
 ·have ho14 := ho.af k14
  refine ⟨_, ho14.cell 4 (by simp), _, ho14.cell 0 (by simp), _, ho14.cell 1 (by simp), _, ho14.cell 2 (by simp), _, ho14.cell 3 (by simp), aq (fun r22 w23 hr22 hb22 k22 hs22 => ?_)⟩
  have k23 := kk.trans k22
  have hi : iL w23 ⟨some ⟨r22, 0, none⟩, 5, 5⟩ [1, t, k, e, a] := Own.ints (Own.new (sz := 1) hb22 (.inl (by simp)) rfl)
  have hE23 : bh A w23.heap.size w23 := (hE.af k23).1.b
  refine (sk A s _ d _ w23 (ai hd k23) hi (by simp) (D5 hb) (nM hb) hE23).mono ?_
  rintro x w25 ⟨f, rfl, g1, g2, g3⟩
  exact ⟨f, _, rfl, f, _, rfl, k23.trans g3, .inl ⟨hb, rfl, g1, g2.mono k23.size⟩⟩
theorem BL (A : Nat -> Addr) (t e n : Int) (s : Slc) (d : List UInt8) (w : World) (hd : ag w s d) (hE : bh A w.heap.size w) :
  Calls Tryz.prog gr ⟨[.agg ⟨dN t e n s⟩]⟩ w fun x w' => ∃ (f : Slc) (ev : Value), x = .returned (.tuple ⟨[f.v, ev]⟩) /\ aj w w' /\
   ((gR t e n d.length /\ ev = .nilIface /\ Own w' f 1 ((bz (aV [2, t, e, n] d)).map aH) /\ aD w f) \/ (¬ gR t e n d.length /\ f = ⟨none, 0, 0⟩ /\ ev = fX A (dG.getD 3 0))) := by
 have hsl := hd.1
 refine wK _ _ _ _ ?_
 unfold vG
 refine aq (fun r6 w7 hr hb hk hs => ?_)
 have ho := ak.cF hb
 refine ⟨_, _, _, _, ho.row, (rB A t e n s w7 (hE.af hk).1).mono ?_⟩
 rintro x w14 ⟨rfl, k14⟩
 have kk := hk.trans k14
 rw [hsl]
 refine ⟨_, rfl, aQ (fun hb => ?_) (fun hb => ?_)⟩
 ·exact ⟨_, ba.at (hE.af kk.drew).1 3 (by omega), _, _, rfl, kk.drew, .inr ⟨hb, rfl, rfl⟩⟩
 ·have ho14 := ho.af k14
  refine ⟨_, ho14.cell 3 (by simp), _, ho14.cell 0 (by simp), _, ho14.cell 1 (by simp), _, ho14.cell 2 (by simp), aq (fun r22 w23 hr22 hb22 k22 hs22 => ?_)⟩
  have k23 := kk.trans k22
  have hi : iL w23 ⟨some ⟨r22, 0, none⟩, 4, 4⟩ [2, t, e, n] := Own.ints (Own.new (sz := 1) hb22 (.inl (by simp)) rfl)
  have hE23 : bh A w23.heap.size w23 := (hE.af k23).1.b
  refine (sk A s _ d _ w23 (ai hd k23) hi (by simp) (D6 hb) (nN hb) hE23).mono ?_
  rintro x w25 ⟨f, rfl, g1, g2, g3⟩
  exact ⟨f, _, rfl, f, _, rfl, k23.trans g3, .inl ⟨hb, rfl, g1, g2.mono k23.size⟩⟩
inductive Msg where
 | ask (t k e a : Int) (d : List UInt8)
 | tell (t e n : Int) (d : List UInt8)
structure Fi where
 (t k e a : Int) (d : List UInt8) (st : InS)
def bA (st : InS) : Fi :=
 let t := rNum 1073741824 st; let k := rNum 5 t.2; let e := rNum 1073741824 k.2; let a := rNum 4096 e.2; let d := gm 2000 a.2
 ⟨t.1, k.1, e.1, a.1, d.1, d.2⟩
structure EZ where
 (t e n : Int) (d : List UInt8) (st : InS)
def bS (st : InS) : EZ :=
 let t := rNum 1073741824 st; let e := rNum 19 t.2; let n := rNum 4096 e.2; let d := gm 2000 n.2
 ⟨t.1, e.1, n.1, d.1, d.2⟩
def readR (b : List UInt8) : Except Nat Msg :=
 match ei b with
 | .error k => .error k
 | .ok (x, y) => if 0 < y.length then .error 3 else
  let st := rNum 2 (x, none)
  if st.1 = 2 then match kB (bS st.2).st with
   | some j => .error j
   | none => .ok (.tell (bS st.2).t (bS st.2).e (bS st.2).n (bS st.2).d)
  else match kB (bA st.2).st with
   | some j => .error j
   | none => if st.1 = 1 /\ cJ (bA st.2).t (bA st.2).k (bA st.2).e (bA st.2).a (bA st.2).d.length then .ok (.ask (bA st.2).t (bA st.2).k (bA st.2).e (bA st.2).a (bA st.2).d) else .error 3
abbrev Z5 : List Value := lj 0 0 0 0 ⟨none, 0, 0⟩
abbrev Z4 : List Value := dN 0 0 0 ⟨none, 0, 0⟩
def sV (A : Nat -> Addr) (w w' : World) (q p : List Value) (is : Bool) (ev : Value) : Except Nat Msg -> Prop
 | .error k => q = Z5 /\ p = Z4 /\ is = false /\ ev = fX A (dG.getD k 0)
 | .ok (.ask t k e a d) => ∃ s, q = lj t k e a s /\ ag w' s d /\ s.l <= s.c /\ aD w s /\ p = Z4 /\ is = true /\ ev = .nilIface
 | .ok (.tell t e n d) => ∃ s, p = dN t e n s /\ ag w' s d /\ s.l <= s.c /\ aD w s /\ q = Z5 /\ is = false /\ ev = .nilIface
theorem wY {w : World} {r2 r4 n2 n4 : Nat} {z2 z4 c2 c4 : List Value} {K : World -> Prop} (h2 : ak w r2 z2) (h4 : ak w r4 z4) (hne : r2 ≠ r4) (l2 : z2.length = n2) (m2 : c2.length = n2) (l4 : z4.length = n4) (m4 : c4.length = n4)
  (hK : ∀ w12, ak w12 r2 c2 -> ak w12 r4 c4 -> Ext (fun k => k = r2 \/ k = r4) w w12 -> K w12) :
  az w (⟨r2, 0, none⟩ : Addr) n2 /\ ∀ w11 : World, w11 = setCells w (⟨r2, 0, none⟩ : Addr) 0 c2 -> az w11 (⟨r4, 0, none⟩ : Addr) n4 /\ ∀ w12 : World, w12 = setCells w11 (⟨r4, 0, none⟩ : Addr) 0 c4 -> K w12 := by
 obtain ⟨a1, a2⟩ := h2.cO l2 m2
 refine ⟨a1, fun w11 hw => ?_⟩
 obtain ⟨b1, b2, b3⟩ := a2 w11 hw
 obtain ⟨c1, c2⟩ := (h4.ext b2 (fun h => hne h.symm)).cO l4 m4
 refine ⟨c1, fun w12 hw2 => ?_⟩
 obtain ⟨d1, d2, d3⟩ := c2 w12 hw2
 exact hK w12 (b1.ext d2 hne) d1 (b2.trans d2 (fun k h => .inl h) (fun k h => .inl (.inr h)))
theorem wZ {w : World} {r2 r4 n2 n4 : Nat} {z2 z4 c2 c4 : List Value} {K : World -> Prop} {g : Addr} {v : Value} (h2 : ak w r2 z2) (h4 : ak w r4 z4) (hne : r2 ≠ r4) (l2 : z2.length = n2) (m2 : c2.length = n2) (l4 : z4.length = n4) (m4 : c4.length = n4)
  (hg : w.cell? g = some v) (g2 : g.block ≠ r2) (g4 : g.block ≠ r4) (hK : ∀ w12, ak w12 r2 c2 -> ak w12 r4 c4 -> Ext (fun k => k = r2 \/ k = r4) w w12 -> K w12) :
  az w (⟨r2, 0, none⟩ : Addr) n2 /\ ∀ w11 : World, w11 = setCells w (⟨r2, 0, none⟩ : Addr) 0 c2 -> (∃ v1 : Value, w11.cell? g = some v1 /\ v1 = v) /\ az w11 (⟨r4, 0, none⟩ : Addr) n4 /\
   ∀ w12 : World, w12 = setCells w11 (⟨r4, 0, none⟩ : Addr) 0 c4 -> (∃ v1 : Value, w12.cell? g = some v1 /\ v1 = v) /\ K w12 := by
 obtain ⟨a1, a2⟩ := h2.cO l2 m2
 refine ⟨a1, fun w11 hw => ?_⟩
 obtain ⟨b1, b2, b3⟩ := a2 w11 hw
 obtain ⟨c1, c2⟩ := (h4.ext b2 (fun h => hne h.symm)).cO l4 m4
 have hg1 := b2.cell hg g2
 refine ⟨⟨v, hg1, rfl⟩, c1, fun w12 hw2 => ?_⟩
 obtain ⟨d1, d2, d3⟩ := c2 w12 hw2
 exact ⟨⟨v, d2.cell hg1 g4, rfl⟩, hK w12 (b1.ext d2 hne) d1 (b2.trans d2 (fun k h => .inl h) (fun k h => .inl (.inr h)))⟩
structure RS (A : Nat -> Addr) (w0 w : World) (r : Nat) (F : Nat -> Prop) (r2 r4 r39 r41 : Nat) (st : InS) (c39 c41 : List Value) : Prop where
 inr : InR A w r F st
 o2 : ak w r2 Z5
 o4 : ak w r4 Z4
 o39 : ak w r39 c39
 o41 : ak w r41 c41
 kp : aj w0 w
 len : st.1.length <= 2 ^ 30
structure RD (w0 : World) (r : Nat) (F : Nat -> Prop) (r2 r4 r39 r41 : Nat) : Prop where
 b : w0.heap.size <= r2 /\ r2 < r4 /\ r4 < r /\ r < r39 /\ r39 < r41
 f : ∀ k, F k -> r4 < k /\ k < r39
theorem RS.step {A : Nat -> Addr} {w0 w w' : World} {r : Nat} {F : Nat -> Prop} {r2 r4 r39 r41 : Nat} {st st' : InS} {c39 c41 : List Value} (h : RS A w0 w r F r2 r4 r39 r41 st c39 c41) (d : RD w0 r F r2 r4 r39 r41)
  (he : Ext (eqB r) w w') (hi : InR A w' r F st') (hl : st'.1.length <= 2 ^ 30) : RS A w0 w' r F r2 r4 r39 r41 st' c39 c41 := by
 obtain ⟨d1, d2, d3, d4, d5⟩ := d.b
 have ne : ∀ x, x ≠ r -> ¬ eqB r x := fun x hx hh => hx hh
 exact ⟨hi, h.o2.ext he (ne _ (by omega)), h.o4.ext he (ne _ (by omega)), h.o39.ext he (ne _ (by omega)), h.o41.ext he (ne _ (by omega)), h.kp.ext he (fun k hk => by rw [show k = r from hk]; omega), hl⟩
theorem RS.af {A : Nat -> Addr} {w0 w w' : World} {r : Nat} {F : Nat -> Prop} {r2 r4 r39 r41 : Nat} {st : InS} {c39 c41 : List Value} (h : RS A w0 w r F r2 r4 r39 r41 st c39 c41) (k : aj w w') : RS A w0 w' r F r2 r4 r39 r41 st c39 c41 :=
 ⟨h.inr.af k, h.o2.af k, h.o4.af k, h.o39.af k, h.o41.af k, h.kp.trans k, h.len⟩
theorem RS.D7 {A : Nat -> Addr} {w0 w w' : World} {r : Nat} {F : Nat -> Prop} {r2 r4 r39 r41 : Nat} {st : InS} {c39 c41 c' : List Value} (h : RS A w0 w r F r2 r4 r39 r41 st c39 c41) (d : RD w0 r F r2 r4 r39 r41)
  (ho : ak w' r39 c') (he : Ext (fun x => x = r39) w w') : RS A w0 w' r F r2 r4 r39 r41 st c' c41 := by
 obtain ⟨d1, d2, d3, d4, d5⟩ := d.b
 exact ⟨h.inr.ext he (by omega) (fun k hk hh => by have := d.f k hk; omega), h.o2.ext he (by omega), h.o4.ext he (by omega), ho, h.o41.ext he (by omega), h.kp.ext he (fun k hk => by omega), h.len⟩
theorem RS.D8 {A : Nat -> Addr} {w0 w w' : World} {r : Nat} {F : Nat -> Prop} {r2 r4 r39 r41 : Nat} {st : InS} {c39 c41 c' : List Value} (h : RS A w0 w r F r2 r4 r39 r41 st c39 c41) (d : RD w0 r F r2 r4 r39 r41)
  (ho : ak w' r41 c') (he : Ext (fun x => x = r41) w w') : RS A w0 w' r F r2 r4 r39 r41 st c39 c' := by
 obtain ⟨d1, d2, d3, d4, d5⟩ := d.b
 exact ⟨h.inr.ext he (by omega) (fun k hk hh => by have := d.f k hk; omega), h.o2.ext he (by omega), h.o4.ext he (by omega), h.o39.ext he (by omega), ho, h.kp.ext he (fun k hk => by omega), h.len⟩
theorem RS.Num {A : Nat -> Addr} {w0 w : World} {r : Nat} {F : Nat -> Prop} {r2 r4 r39 r41 : Nat} {st : InS} {c39 c41 : List Value} (h : RS A w0 w r F r2 r4 r39 r41 st c39 c41) (d : RD w0 r F r2 r4 r39 r41) (hE : bh A w0.heap.size w0) (most : Int) :
  Calls Tryz.prog aO ⟨[.pointer (some ⟨r, 0, none⟩), .int .i64 most]⟩ w fun e w' => e = .returned (.int .i64 (rNum most st).1) /\ RS A w0 w' r F r2 r4 r39 r41 (rNum most st).2 c39 c41 := by
 obtain ⟨d1, d2, d3, d4, d5⟩ := d.b
 refine (nI A w0.heap.size r F st most w h.inr h.len (hE.af h.kp) (by omega)).mono ?_
 rintro e w' ⟨rfl, h1, h2⟩
 exact ⟨rfl, h.step d h2 h1 (Nat.le_trans (ld most st) h.len)⟩
theorem BM (most : Int) (st : InS) : (gm most st).2.1.length <= st.1.length := by
 have := ld most st
 rw [gm]
 generalize rNum most st = x at this ⊢
 obtain ⟨n, bs, er⟩ := x
 cases er with
 | some k => exact this
 | none =>
  rw [pE]
  split
  ·exact this
  ·dsimp only at this ⊢
   simp; omega
theorem RS.Text {A : Nat -> Addr} {w0 w : World} {r : Nat} {F : Nat -> Prop} {r2 r4 r39 r41 : Nat} {st : InS} {c39 c41 : List Value} (h : RS A w0 w r F r2 r4 r39 r41 st c39 c41) (d : RD w0 r F r2 r4 r39 r41) (hE : bh A w0.heap.size w0) (most : Int) :
  Calls Tryz.prog cI ⟨[.pointer (some ⟨r, 0, none⟩), .int .i64 most]⟩ w fun e w' => e = .returned (eZ (gm most st).1) /\ RS A w0 w' r F r2 r4 r39 r41 (gm most st).2 c39 c41 := by
 obtain ⟨d1, d2, d3, d4, d5⟩ := d.b
 refine (qJ A w0.heap.size r F st most w h.inr h.len (hE.af h.kp) (by omega)).mono ?_
 rintro e w' ⟨rfl, h1, h2⟩
 exact ⟨rfl, h.step d h2 h1 (Nat.le_trans (BM most st) h.len)⟩
end Go.D
namespace Go.D
open Go Go.Proofs
def Fj (A : Nat -> Addr) (w0 w : World) (r : Nat) (F : Nat -> Prop) (r2 r4 r39 r41 : Nat) (st : Int × InS) : Prop :=
 (st.1 = 2 /\ ∃ s, RS A w0 w r F r2 r4 r39 r41 (bS st.2).st Z5 (dN (bS st.2).t (bS st.2).e (bS st.2).n s) /\ ag w s (bS st.2).d /\ s.l <= s.c /\ ∀ k, au s k -> r4 < k) \/
 (st.1 ≠ 2 /\ ∃ s, RS A w0 w r F r2 r4 r39 r41 (bA st.2).st (lj (bA st.2).t (bA st.2).k (bA st.2).e (bA st.2).a s) Z4 /\ ag w s (bA st.2).d /\ s.l <= s.c /\ ∀ k, au s k -> r4 < k)
theorem ss (A : Nat -> Addr) (s : Slc) (b : List UInt8) (w : World) (hb : ag w s b) (hl : s.l <= 2 ^ 20) (hc : s.l <= s.c) (hE : bh A w.heap.size w) :
  Calls Tryz.prog jb ⟨[s.v]⟩ w fun x w' => ∃ (q p : List Value) (is : Bool) (ev : Value), x = .returned (.tuple ⟨[.agg ⟨q⟩, .agg ⟨p⟩, .bool is, ev]⟩) /\ sV A w w' q p is ev (readR b) /\ aj w w' := by
 refine wL _ ?_
 unfold vH
 refine aq (fun r2 w3 hr2 hb2 k2 hs2 => aq (fun r4 w5 hr4 hb4 k4 hs4 => ?_))
 have k5 := k2.trans k4
 have o2 : ak w5 r2 Z5 := ak.af (ak.cF hb2) k4
 have o4 : ak w5 r4 Z4 := ak.cF hb4
 have hg : ∀ {w' : World}, bh A w.heap.size w' -> w'.cell? ⟨av, 0, none⟩ = some (fX A (dG.getD 3 0)) := fun h => ba.at h.1 3 (by omega)
 have hglt : av < w.heap.size := (hE.2 av (gM (k := 3) (by omega))).1
 refine (BI A s b w5 (ai hb k5) (by omega) hc (EY (hE.af k5).1)).mono ?_
 rintro x w7 ⟨s8, s9, ev, rfl, hres, k7'⟩
 have k7 := k5.trans k7'
 have o27 := o2.af k7'
 have o47 := o4.af k7'
 have hne : r2 ≠ r4 := by omega
 -- an error
 have bad : ∀ (j : Nat) (w12 : World), ak w12 r2 Z5 -> ak w12 r4 Z4 -> aj w w12 -> readR b = .error j -> ∃ (q p : List Value) (is : Bool) (ev : Value), Ending.returned (Value.tuple ⟨[.agg ⟨Z5⟩, .agg ⟨Z4⟩, .bool false, fX A (dG.getD j 0)]⟩) = .returned (.tuple ⟨[.agg ⟨q⟩, .agg ⟨p⟩, .bool is, ev]⟩) /\ sV A w w12 q p is ev (readR b) /\ aj w w12 := by
  intro j w12 _ _ kk hj
  rw [hj]
  exact ⟨_, _, _, _, rfl, ⟨rfl, rfl, rfl, rfl⟩, kk⟩
 have kext : ∀ {wa wb : World}, aj w wa -> Ext (fun k => k = r2 \/ k = r4) wa wb -> aj w wb := fun h he => h.ext he (fun k hk => by omega)
 cases hop : ei b with
 | error j =>
  rw [hop] at hres
  obtain ⟨rfl, rfl, rfl⟩ := hres
  refine ⟨_, _, _, rfl, trivial, ao (fun _ => ?_) (fun h => by cases h)⟩
  refine wY o27 o47 hne rfl rfl rfl rfl (fun w12 a2 a4 he => ⟨_, _, _, _, _, a2.row, _, _, _, _, a4.row, ?_⟩)
  exact bad j w12 a2 a4 (kext k7 he) (by rw [readR, hop])
 | ok xy =>
  obtain ⟨x, y⟩ := xy
  rw [hop] at hres
  obtain ⟨hx, hy, hfx, hfy, rfl⟩ := hres
  have hyl := hy.1
  refine ⟨_, _, _, rfl, trivial, ao (fun h => by cases h) (fun _ => ae (fun h0 => ?_) (fun h0 => ?_))⟩
  ·have kd := k7.drew
   refine ⟨_, hg (hE.af kd), wZ (o27.af (Ext.drew _ _)) (o47.af (Ext.drew _ _)) hne rfl rfl rfl rfl (hg (hE.af kd)) (by show av ≠ r2; omega) (by show av ≠ r4; omega) (fun w12 a2 a4 he => ⟨_, _, _, _, _, a2.row, _, _, _, _, a4.row, ?_⟩)⟩
   refine bad 3 w12 a2 a4 (kext kd he) ?_
   rw [readR, hop]; dsimp only; rw [if_pos (by omega)]
  ·have hxl := hx.1
   have hxb : x.length <= b.length := by
    have : ei b = .ok (x, y) := hop
    rw [ei] at this
    split at this; ·cases this
    split at this; ·cases this
    split at this; ·cases this
    split at this
    ·cases this; simp [gQ]; omega
    ·cases this
   have hbl := hb.1
   refine (vL A s8 x w7 hx (by omega)).mono ?_
   rintro e w37 ⟨r, F, rfl, hR, k37, hr, hF⟩
   refine ⟨_, rfl, aq (fun r39 w40 hr39 hb39 k39 hs39 => aq (fun r41 w42 hr41 hb41 k41 hs41 => ?_))⟩
   have hrlt : r < w37.heap.size := by obtain ⟨_, h1, _⟩ := hR; exact h1.1.lt
   have h57 := k7'.size
   have d : RD w r F r2 r4 r39 r41 := ⟨by omega, fun k hk => by have := hF k hk; omega⟩
   have k37' := k37.trans (k39.trans k41)
   have hS : RS A w w42 r F r2 r4 r39 r41 (x, none) Z5 Z4 := ⟨hR.af (k39.trans k41), o27.af k37', o47.af k37', ak.af (ak.cF hb39) k41, ak.cF hb41, k7.trans k37', by dsimp only; omega⟩
   refine (hS.Num d hE 2).mono ?_
   rintro e w44 ⟨rfl, hS44⟩
   have hrr : readR b = (if (rNum 2 (x, none)).1 = 2 then match kB (bS (rNum 2 (x, none)).2).st with
     | some j => .error j
     | none => .ok (.tell (bS (rNum 2 (x, none)).2).t (bS (rNum 2 (x, none)).2).e (bS (rNum 2 (x, none)).2).n (bS (rNum 2 (x, none)).2).d)
    else match kB (bA (rNum 2 (x, none)).2).st with
     | some j => .error j
     | none => if (rNum 2 (x, none)).1 = 1 /\ cJ (bA (rNum 2 (x, none)).2).t (bA (rNum 2 (x, none)).2).k (bA (rNum 2 (x, none)).2).e (bA (rNum 2 (x, none)).2).a (bA (rNum 2 (x, none)).2).d.length then .ok (.ask (bA (rNum 2 (x, none)).2).t (bA (rNum 2 (x, none)).2).k (bA (rNum 2 (x, none)).2).e (bA (rNum 2 (x, none)).2).a (bA (rNum 2 (x, none)).2).d) else .error 3) := by
    rw [readR, hop]; dsimp only; first | (rw [if_neg (by omega)]; done) | (rw [if_neg (by omega)]; rfl)
   generalize rNum 2 (x, none) = st at hS44 hrr ⊢
   refine ⟨_, rfl, fun w85 => Fj A w w85 r F r2 r4 r39 r41 st, ae (fun h2 => ?_) (fun h2 => ?_), ?_⟩
   ·refine (hS44.Num d hE 1073741824).mono ?_
    rintro e w48 ⟨rfl, hS48⟩
    refine ⟨_, rfl, (pH A w48 (hE.af hS48.kp).1).mono ?_⟩
    rintro e w51 ⟨tb, rfl, htl, _, k51⟩
    refine ⟨tb, rfl, ?_⟩
    rw [htl]
    refine ((hS48.af k51).Num d hE 19).mono ?_
    rintro e w54 ⟨rfl, hS54⟩
    refine ⟨_, rfl, (hS54.Num d hE 4096).mono ?_⟩
    rintro e w57 ⟨rfl, hS57⟩
    obtain ⟨a1, a2⟩ := hS57.o41.cO (n := 4) (cs := dN (rNum 1073741824 st.2).1 (rNum 19 (rNum 1073741824 st.2).2).1 (rNum 4096 (rNum 19 (rNum 1073741824 st.2).2).2).1 ⟨none, 0, 0⟩) rfl rfl
    refine ⟨_, rfl, a1, fun w59 hw59 => ?_⟩
    obtain ⟨b1, b2, _⟩ := a2 w59 hw59
    have hS59 := hS57.D8 d b1 b2
    refine (hS59.Text d hE 2000).mono ?_
    rintro e w61 ⟨rfl, hS61⟩
    refine ⟨_, rfl, kH (fun s63 w64 hsb hsc hfr k64 => ?_)⟩
    have hS64 := hS61.af k64
    obtain ⟨c1, c2⟩ := hS64.o41.aN 3 (by simp) s63.v
    refine ⟨c1, fun w65 hw65 => ?_⟩
    obtain ⟨d1, d2, _⟩ := c2 w65 hw65
    have h41 : r41 < w61.heap.size := hS61.o41.lt
    refine .inl ⟨h2, s63, hS64.D8 d d1 d2, aC hsb d2 (fun k hk hh => by have := hfr k hk; omega), hsc, fun k hk => by have := hfr k hk; have := d.b; omega⟩
   ·refine (hS44.Num d hE 1073741824).mono ?_
    rintro e w48 ⟨rfl, hS48⟩
    refine ⟨_, rfl, (hS48.Num d hE 5).mono ?_⟩
    rintro e w54 ⟨rfl, hS54⟩
    refine ⟨_, rfl, (hS54.Num d hE 1073741824).mono ?_⟩
    rintro e w55 ⟨rfl, hS55⟩
    refine ⟨_, rfl, (hS55.Num d hE 4096).mono ?_⟩
    rintro e w57 ⟨rfl, hS57⟩
    obtain ⟨a1, a2⟩ := hS57.o39.cO (n := 5) (cs := lj (rNum 1073741824 st.2).1 (rNum 5 (rNum 1073741824 st.2).2).1 (rNum 1073741824 (rNum 5 (rNum 1073741824 st.2).2).2).1 (rNum 4096 (rNum 1073741824 (rNum 5 (rNum 1073741824 st.2).2).2).2).1 ⟨none, 0, 0⟩) rfl rfl
    refine ⟨_, rfl, a1, fun w59 hw59 => ?_⟩
    obtain ⟨b1, b2, _⟩ := a2 w59 hw59
    have hS59 := hS57.D7 d b1 b2
    refine (hS59.Text d hE 2000).mono ?_
    rintro e w61 ⟨rfl, hS61⟩
    refine ⟨_, rfl, kH (fun s63 w64 hsb hsc hfr k64 => ?_)⟩
    have hS64 := hS61.af k64
    obtain ⟨c1, c2⟩ := hS64.o39.aN 4 (by simp) s63.v
    refine ⟨c1, fun w65 hw65 => ?_⟩
    obtain ⟨d1, d2, _⟩ := c2 w65 hw65
    have h39 : r39 < w61.heap.size := hS61.o39.lt
    refine .inr ⟨h2, s63, hS64.D7 d d1 d2, aC hsb d2 (fun k hk hh => by have := hfr k hk; omega), hsc, fun k hk => by have := hfr k hk; have := d.b; omega⟩
   ·rintro w85 hmeet
    intros
    rcases hmeet with ⟨h2, sd, hS85, hsd, hsdc, hsdb⟩ | ⟨h2, sd, hS85, hsd, hsdc, hsdb⟩
    ·rw [if_pos h2] at hrr
     refine (nJ A _ r F _ w85 hS85.inr (hE.af hS85.kp)).mono ?_
     rintro e w115 ⟨rfl, rfl⟩
     refine ⟨_, rfl, aM _ _, ?_⟩
     cases hen : kB (bS st.2).st with
     | some j =>
      rw [hen] at hrr
      refine ao (fun _ => ?_) (fun h => by cases h)
      refine wY hS85.o2 hS85.o4 hne rfl rfl rfl rfl (fun w12 a2 a4 he => ⟨_, _, _, _, _, a2.row, _, _, _, _, a4.row, ?_⟩)
      exact bad j w12 a2 a4 (kext hS85.kp he) hrr
     | none =>
      rw [hen] at hrr
      have hSd := hS85.af (Ext.drew _ w115)
      refine ao (fun h => by cases h) (fun _ => ae (fun _ => ?_) (fun h => absurd h2 h))
      refine ⟨_, _, _, _, hSd.o41.row, ?_⟩
      obtain ⟨a1, a2⟩ := hSd.o2.cO (n := 5) (cs := Z5) rfl rfl
      refine ⟨a1, fun w132 hw => ?_⟩
      obtain ⟨b1, b2, _⟩ := a2 w132 hw
      have dd := d.b
      refine ⟨⟨_, _, _, _, (hSd.o41.ext b2 (by omega)).row, rfl⟩, ?_⟩
      obtain ⟨c1, c2⟩ := (hSd.o4.ext b2 (by omega)).cO (n := 4) (cs := dN (bS st.2).t (bS st.2).e (bS st.2).n sd) rfl rfl
      refine ⟨c1, fun w137 hw => ?_⟩
      obtain ⟨d1, d2, _⟩ := c2 w137 hw
      refine ⟨_, _, _, _, _, (b1.ext d2 (by omega)).row, _, _, _, _, d1.row, _, _, _, _, rfl, ?_, ?_⟩
      ·rw [hrr]
       refine ⟨sd, rfl, aC (aC (wB hsd) b2 (fun k hk hh => by have := hsdb k hk; omega)) d2 (fun k hk hh => by have := hsdb k hk; omega), hsdc, fun k hk => by have := hsdb k hk; omega, rfl, rfl, rfl⟩
      ·exact (hSd.kp.ext b2 (fun k hk => by omega)).ext d2 (fun k hk => by omega)
    ·rw [if_neg h2] at hrr
     refine (nJ A _ r F _ w85 hS85.inr (hE.af hS85.kp)).mono ?_
     rintro e w115 ⟨rfl, rfl⟩
     refine ⟨_, rfl, aM _ _, ?_⟩
     have dd := d.b
     cases hen : kB (bA st.2).st with
     | some j =>
      rw [hen] at hrr
      refine ao (fun _ => ?_) (fun h => by cases h)
      refine wY hS85.o2 hS85.o4 hne rfl rfl rfl rfl (fun w12 a2 a4 he => ⟨_, _, _, _, _, a2.row, _, _, _, _, a4.row, ?_⟩)
      exact bad j w12 a2 a4 (kext hS85.kp he) hrr
     | none =>
      rw [hen] at hrr
      dsimp only at hrr
      refine ao (fun h => by cases h) (fun _ => ae (fun h => absurd h h2) (fun _ => aQ (fun h1 => ?_) (fun h1 => ?_)))
      ·have kd := hS85.kp.drew
       rw [if_neg (fun h => h1 h.1)] at hrr
       refine ⟨_, hg (hE.af kd), wZ (hS85.o2.af (Ext.drew _ _)) (hS85.o4.af (Ext.drew _ _)) hne rfl rfl rfl rfl (hg (hE.af kd)) (by show av ≠ r2; omega) (by show av ≠ r4; omega) (fun w12 a2 a4 he => ⟨_, _, _, _, _, a2.row, _, _, _, _, a4.row, ?_⟩)⟩
       exact bad 3 w12 a2 a4 (kext kd he) hrr
      ·refine ⟨_, _, _, _, _, hS85.o39.row, (jH _ _ _ _ _ w115).mono ?_⟩
       rintro e w167 ⟨rfl, k167⟩
       have hS167 := hS85.af k167
       rw [hsd.1]
       refine ⟨_, rfl, aQ (fun hq => ?_) (fun hq => ?_)⟩
       ·have kd := hS167.kp.drew
        rw [if_neg (fun h => hq h.2)] at hrr
        refine ⟨_, hg (hE.af kd), wZ (hS167.o2.af (Ext.drew _ _)) (hS167.o4.af (Ext.drew _ _)) hne rfl rfl rfl rfl (hg (hE.af kd)) (by show av ≠ r2; omega) (by show av ≠ r4; omega) (fun w12 a2 a4 he => ⟨_, _, _, _, _, a2.row, _, _, _, _, a4.row, ?_⟩)⟩
        exact bad 3 w12 a2 a4 (kext kd he) hrr
       ·rw [if_pos ⟨h1, hq⟩] at hrr
        refine ⟨_, _, _, _, _, hS167.o39.row, wY hS167.o2 hS167.o4 hne rfl rfl rfl rfl (fun w12 a2 a4 he => ⟨_, _, _, _, _, a2.row, _, _, _, _, a4.row, _, _, _, _, rfl, ?_, kext hS167.kp he⟩)⟩
        rw [hrr]
        exact ⟨sd, rfl, aC (ai hsd k167) he (fun k hk hh => by have := hsdb k hk; omega), hsdc, fun k hk => by have := hsdb k hk; omega, rfl, rfl, rfl⟩
end Go.D
namespace Go.D
open Go Go.Proofs
structure NdE where
 f : Int
 t : Int
 e : Option Nat
 n : Int
 d : List UInt8
def NdE.msg (x : NdE) : List UInt8 := bz (aV [2, x.t, eN x.e, x.n] x.d)
abbrev NdA := Option Nat × Int × List UInt8
def vS (s : UnS) (ep a : Int) : List UInt8 := if (readE s.tr s.ep (pgM s.U s.tr) ep a).isNone then (pgM s.U s.tr a).getD [] else []
def dz (k : Nat) (s : UnS) (kd ep a : Int) (d : List UInt8) : NdA × UnS :=
 if kd = 1 then (((writeP k s ep a d).1, 0, []), (writeP k s ep a d).2)
 else if kd = 2 then (if 2000 < (vS s ep a).length then (some 2, 0, []) else (readE s.tr s.ep (pgM s.U s.tr) ep a, 0, vS s ep a), s)
 else if kd = 3 then (((vO k s ep a).1, 0, []), (vO k s ep a).2)
 else if kd = 4 then (((lh k s ep).1, if (lh k s ep).1 = none then ((lh k s ep).2.T : Int) else 0, []), (lh k s ep).2)
 else (if ep < (s.ep : Int) then (some 7, 0, []) else (none, (s.T : Int), []), s)
theorem rD {ep epoch a most : Int} : ∀ j, iO ep epoch a most = some j -> j < 19 /\ j ≠ 11 := by
 intro j hj
 unfold iO at hj
 split at hj
 ·cases hj; omega
 ·split at hj
  ·cases hj; omega
  ·cases hj
theorem BN {k : Nat} {s : UnS} {epoch a : Int} {t : List UInt8} : ∀ j, (writeP k s epoch a t).1 = some j -> j < 19 /\ j ≠ 11 := by
 intro j hj
 unfold writeP at hj
 split at hj
 ·rename_i c hc; cases hj; exact rD _ hc
 ·split at hj
  ·cases hj; omega
  ·split at hj
   ·cases hj; omega
   ·split at hj
    ·cases hj; omega
    ·split at hj
     ·cases hj; omega
     ·cases hj
theorem C9 {k : Nat} {s : UnS} {epoch : Int} : ∀ j, (lh k s epoch).1 = some j -> j < 19 /\ j ≠ 11 := by
 intro j hj
 unfold lh at hj
 split at hj
 ·cases hj; omega
 ·split at hj
  ·cases hj; omega
  ·split at hj
   ·cases hj
   ·split at hj
    ·cases hj; omega
    ·cases hj
theorem Da {k : Nat} {s : UnS} {epoch a : Int} : ∀ j, (vO k s epoch a).1 = some j -> j < 19 /\ j ≠ 11 := by
 intro j hj
 unfold vO at hj
 split at hj
 ·rename_i c hc; cases hj; exact rD _ hc
 ·split at hj
  ·cases hj
  ·split at hj
   ·cases hj; omega
   ·cases hj
theorem Db {tr ep : Int} {pg : Int -> Option (List UInt8)} {epoch a : Int} : ∀ j, readE tr ep pg epoch a = some j -> j < 19 /\ j ≠ 11 := by
 intro j hj
 unfold readE at hj
 split at hj
 ·rename_i c hc; cases hj; exact rD _ hc
 ·split at hj
  ·cases hj; omega
  ·split at hj
   ·cases hj
   ·cases hj; omega
def E0 (c : NdA) : Prop := (∀ j, c.1 = some j -> j < 19 /\ j ≠ 11) /\ 0 <= c.2.1 /\ c.2.1 <= 4096 /\ c.2.2.length <= 2000
theorem Dc {k : Nat} {s : UnS} {kd ep a : Int} {d : List UInt8} (h1 : s.T <= 4096) (h2 : (dz k s kd ep a d).2.T <= 4096) : E0 (dz k s kd ep a d).1 := by
 unfold dz at h2 ⊢
 split at h2
 ·rename_i e; rw [if_pos e]; exact ⟨BN, by simp, by simp, by simp⟩
 rename_i e1; rw [if_neg e1]
 split at h2
 ·rename_i e; rw [if_pos e]
  split
  ·exact ⟨fun j hj => by cases hj; omega, by simp, by simp, by simp⟩
  ·exact ⟨Db, by simp, by simp, by dsimp only; omega⟩
 rename_i e2; rw [if_neg e2]
 split at h2
 ·rename_i e; rw [if_pos e]; exact ⟨Da, by simp, by simp, by simp⟩
 rename_i e3; rw [if_neg e3]
 split at h2
 ·rename_i e; rw [if_pos e]
  refine ⟨C9, ?_, ?_, by simp⟩
  ·dsimp only; split <;> omega
  ·dsimp only at h2 ⊢; split <;> omega
 rename_i e4; rw [if_neg e4]
 split
 ·exact ⟨fun j hj => by cases hj; omega, by simp, by simp, by simp⟩
 ·exact ⟨(fun j hj => by cases hj), by dsimp only; omega, by dsimp only; omega, by simp⟩
theorem E1 {e : Option Nat} (h : ∀ j, e = some j -> j < 19) : 0 <= eN e /\ eN e <= 19 := by
 cases e with
 | none => exact ⟨by decide, by decide⟩
 | some j => have := h j rfl; exact ⟨by show (0 : Int) <= ((j + 1 : Nat) : Int); omega, by show ((j + 1 : Nat) : Int) <= 19; omega⟩
def NdE.ok (x : NdE) : Prop := gR x.t (eN x.e) x.n x.d.length /\ ∀ j, x.e = some j -> j < 19
def iI (T : List NdE) : List NdE := T.drop (T.length - 32)
def vT (f t : Int) (T : List NdE) : Option NdE := (iI T).find? (fun x => decide (x.f = f /\ x.t = t))
def ndStep (k : Nat) (s : UnS) (T : List NdE) (f : Int) (b : List UInt8) : Option NdE × UnS × List NdE :=
 match readR b with
 | .ok (.ask t kd ep a d) => match vT f t T with
  | some x => (some x, s, T)
  | none => (some ⟨f, t, (dz k s kd ep a d).1.1, (dz k s kd ep a d).1.2.1, (dz k s kd ep a d).1.2.2⟩, (dz k s kd ep a d).2, T ++ [⟨f, t, (dz k s kd ep a d).1.1, (dz k s kd ep a d).1.2.1, (dz k s kd ep a d).1.2.2⟩])
 | _ => (none, s, T)
theorem yV (T : List NdE) : (iI T).length = min 32 T.length := by unfold iI; rw [List.length_drop]; omega
theorem Al {f t : Int} {T : List NdE} {k : Nat} (hk : k < (iI T).length) (h : (iI T)[k].f = f /\ (iI T)[k].t = t) (hno : ∀ j (hj : j < (iI T).length), j < k -> ¬ ((iI T)[j].f = f /\ (iI T)[j].t = t)) : vT f t T = some (iI T)[k] := by
 unfold vT
 rw [List.find?_eq_some_iff_getElem]
 exact ⟨decide_eq_true h, k, hk, rfl, fun j hj => by rw [decide_eq_false (hno j (by omega) hj)]; rfl⟩
theorem Am {f t : Int} {T : List NdE} (hno : ∀ j (hj : j < (iI T).length), ¬ ((iI T)[j].f = f /\ (iI T)[j].t = t)) : vT f t T = none := by
 unfold vT
 rw [List.find?_eq_none]
 intro x hx
 obtain ⟨j, hj, rfl⟩ := List.getElem_of_mem hx
 simpa using hno j hj
theorem vU (T : List NdE) (x : NdE) : iI (T ++ [x]) = if 32 < (iI T ++ [x]).length then (iI T ++ [x]).eraseIdx 0 else iI T ++ [x] := by
 have hl := yV T
 unfold iI at hl ⊢
 rw [List.length_append, List.length_append, List.length_singleton, List.length_drop]
 by_cases h : 32 <= T.length
 ·rw [if_pos (by omega)]
  have h2 : T.length - 32 < T.length := by omega
  rw [List.drop_eq_getElem_cons h2, show T.length + 1 - 32 = T.length - 32 + 1 by omega, List.drop_append_of_le_length (by omega)]
  rfl
 ·rw [if_neg (by omega), show T.length + 1 - 32 = 0 by omega, show T.length - 32 = 0 by omega]
  rfl
end Go.D
namespace Go.D
open Go Go.Proofs
theorem Dd (A : Nat -> Addr) (e' : Option Nat) (h : ∀ j, e' = some j -> j < 19) (k : Nat) (hk : k < 19) (w : World) (hE : ba A w) :
  Calls Tryz.prog gq ⟨[cj A e', fX A (dG.getD k 0)]⟩ w fun e w' => e = .returned (.bool (decide (e' = some k))) /\ w' = w := by
 cases e' with
 | none => exact Er _ _
 | some j =>
  refine (ba.is hE (h j rfl) hk).mono ?_
  rintro e w' ⟨rfl, rfl⟩
  refine ⟨?_, rfl⟩
  by_cases hj : j = k
  ·rw [decide_eq_true hj, decide_eq_true (by rw [hj])]
  ·rw [decide_eq_false hj, decide_eq_false (fun hh => hj (Option.some.inj hh))]
theorem vV (A : Nat -> Addr) (e' : Option Nat) (h : ∀ k, e' = some k -> k < 19) (w : World) (hE : ba A w) : Calls Tryz.prog dV ⟨[cj A e']⟩ w fun e w' => e = .returned (.int .i64 (eN e')) /\ aj w w' := by
 cases e' with
 | none => exact Ak w
 | some k => exact yT A k (h k rfl) w hE
section
variable {w w' : World} {n0 r rd m rn : Nat} {f : UnF} {d : aP} {s : UnS} {ts : Slc}
theorem vj (A : Nat -> Addr) (h : UAt w n0 r rd f d s m) (hE : bh A n0 w) (o : ak w rn [aw r, ts.v, .bool false]) (ep : Int) :
  Calls Tryz.prog gy ⟨[aw rn, .int .i64 ep]⟩ w fun e w' => e = .returned (.tuple ⟨[.int .i64 (if ep < (s.ep : Int) then 0 else (s.T : Int)), cj A (if ep < (s.ep : Int) then some 7 else none)]⟩) /\ aj w w' := by
 refine qe _ _ ?_
 unfold nv
 refine aa rfl ⟨_, o.cell 0 (by simp), (yv h.M).mono ?_⟩
 rintro e w6 ⟨rfl, k6⟩
 refine ⟨_, rfl, ae (fun h1 => ?_) (fun h1 => aa rfl ⟨_, (o.af k6).cell 0 (by simp), (pD (h.af k6).M).mono ?_⟩)⟩
 ·rw [if_pos h1, if_pos h1]
  have kd := k6.trans (Ext.drew gb w6)
  exact ⟨_, ba.at (hE.af kd).1 7 (by omega), rfl, kd⟩
 ·rintro e w12 ⟨rfl, k12⟩
  rw [if_neg h1, if_neg h1, <- h.t.2]
  exact ⟨_, rfl, rfl, k6.trans k12⟩
theorem yW (A : Nat -> Addr) (h : UAt w n0 r rd f d s m) (hE : bh A n0 w) (hn0 : n0 <= w.heap.size) (hm : m <= 2 ^ 58) (hst : d.stops = false) (o : ak w rn [aw r, ts.v, .bool false]) (t kd ep a : Int) (sl : Slc) (b : List UInt8) (hb : ag w sl b) (hbl : b.length <= 2 ^ 20) (hs : ∀ k, au sl k -> ¬ UB r rd f k) (hk : 1 <= kd /\ kd <= 5) :
  Calls Tryz.prog iM ⟨[aw rn, .agg ⟨lj t kd ep a sl⟩]⟩ w fun e w' => ∃ (n : Int) (u : Slc), e = .returned (.tuple ⟨[.int .i64 n, u.v, cj A (dz (d.n / 64) s kd ep a b).1.1]⟩) /\ ((dz (d.n / 64) s kd ep a b).1.1 = none -> n = (dz (d.n / 64) s kd ep a b).1.2.1 /\ ag w' u (dz (d.n / 64) s kd ep a b).1.2.2) /\
   ((dz (d.n / 64) s kd ep a b).1.1 ≠ none -> (dz (d.n / 64) s kd ep a b).1.2 = (0, [])) /\ ∃ f' d', UAt w' n0 r rd f' d' (dz (d.n / 64) s kd ep a b).2 (m + 1) /\ d'.n = d.n /\ d'.stops = false /\ eY r rd f f' w w' := by
 refine sG _ _ _ _ _ _ ?_
 unfold qf
 refine aq (fun r7 w8 hr7 hb7 k7 hs7 => ?_)
 have o7 := ak.cF hb7
 have kd8 : aj w8 (World.drew w8) := Ext.drew _ _
 have h8 := h.af k7
 have hd8 := h8.af kd8
 have od8 := o7.af kd8
 have on := (o.af k7).af kd8
 have kk := k7.trans kd8
 have nilB : ∀ w2, ag w2 (⟨none, 0, 0⟩ : Slc) [] := fun w2 => ⟨rfl, .inl rfl⟩
 refine ⟨_, o7.cell 1 (by simp), ae (fun h1 => ?_) (fun h1 => ae (fun h2 => ?_) (fun h2 => ae (fun h3 => ?_) (fun h3 => ae (fun h4 => ?_) (fun h4 => ?_))))⟩
 ·subst h1
  refine aa rfl ⟨_, on.cell 0 (by simp), _, od8.cell 2 (by simp), _, od8.cell 3 (by simp), sl, od8.cell 4 (by simp), (yG A hd8 (hE.af kk) (by omega) ep a sl b (ai hb kk) hbl hs).mono ?_⟩
  rintro e w16 ⟨e', rfl, hout⟩
  obtain ⟨rfl, f', d', hU', hn', hs', uf⟩ := hout.live hst
  refine ⟨_, rfl, 0, ⟨none, 0, 0⟩, rfl, fun _ => ⟨rfl, nilB _⟩, fun _ => rfl, f', d', hU', hn', hs', aj.sj kk uf⟩
 ·subst h2
  refine aa rfl ⟨_, on.cell 0 (by simp), _, od8.cell 2 (by simp), _, od8.cell 3 (by simp), (zV A hd8.M ep a ((hE.af kk).g.sub qC)).mono ?_⟩
  rintro e w23 ⟨t23, rfl, ho, hf, k23⟩
  have hlen : t23.l = (vS s ep a).length := ho.bytes.1
  have eP : dz (d.n / 64) s 2 ep a b = (if 2000 < (vS s ep a).length then (some 2, 0, []) else (readE s.tr s.ep (pgM s.U s.tr) ep a, 0, vS s ep a), s) := rfl
  rw [eP]
  refine ⟨t23, _, rfl, ae (fun h5 => ?_) (fun h5 => ?_)⟩
  ·rw [if_pos (by omega)]
   have kd := (kk.trans k23).trans (Ext.drew gb w23)
   exact ⟨_, ba.at (hE.af kd).1 2 (by omega), 0, ⟨none, 0, 0⟩, rfl, (fun hh => by cases hh), fun _ => rfl, f, d, ((hd8.af k23).af (Ext.drew gb w23)).up (by omega), rfl, hst, aj.sj kd (eY.refl _ _ _ _)⟩
  ·rw [if_neg (by omega)]
   refine ⟨0, t23, rfl, fun _ => ⟨rfl, ho.bytes⟩, fun hne => ?_, f, d, (hd8.af k23).up (by omega), rfl, hst, aj.sj (kk.trans k23) (eY.refl _ _ _ _)⟩
   dsimp only at hne ⊢
   unfold vS
   rw [if_neg (by simpa [Option.isNone_iff_eq_none] using hne)]
 ·subst h3
  refine aa rfl ⟨_, on.cell 0 (by simp), _, od8.cell 2 (by simp), _, od8.cell 3 (by simp), (Ah A hd8 (hE.af kk) (by omega) ep a).mono ?_⟩
  rintro e w16 ⟨e', rfl, hout⟩
  obtain ⟨rfl, f', d', hU', hn', hs', uf⟩ := hout.live hst
  refine ⟨_, rfl, 0, ⟨none, 0, 0⟩, rfl, fun _ => ⟨rfl, nilB _⟩, fun _ => rfl, f', d', hU', hn', hs', aj.sj kk uf⟩
 ·subst h4
  refine aa rfl ⟨_, on.cell 0 (by simp), _, od8.cell 2 (by simp), (Af A hd8 (hE.af kk) (by omega) ep).mono ?_⟩
  rintro e w16 ⟨n, e', rfl, hout, hnum⟩
  obtain ⟨rfl, f', d', hU', hn', hs', uf⟩ := hout.live hst
  have hnn := hnum rfl
  refine ⟨_, _, rfl, n, ⟨none, 0, 0⟩, rfl, fun _ => ⟨hnn, nilB _⟩, fun hne => ?_, f', d', hU', hn', hs', aj.sj kk uf⟩
  have hne' : (lh (d.n / 64) s ep).1 ≠ none := hne
  show ((if (lh (d.n / 64) s ep).1 = none then ((lh (d.n / 64) s ep).2.T : Int) else 0), ([] : List UInt8)) = (0, [])
  rw [if_neg hne']
 ·have h5 : kd = 5 := by omega
  subst h5
  refine ⟨_, o7.cell 2 (by simp), (vj A h8 (hE.af k7) (o.af k7) ep).mono ?_⟩
  rintro e w43 ⟨rfl, k43⟩
  have eP : dz (d.n / 64) s 5 ep a b = (if ep < (s.ep : Int) then (some 7, 0, []) else (none, (s.T : Int), []), s) := rfl
  rw [eP]
  refine ⟨_, _, rfl, (if ep < (s.ep : Int) then 0 else (s.T : Int)), ⟨none, 0, 0⟩, ?_, ?_, ?_, f, d, (h8.af k43).up (by omega), rfl, hst, aj.sj (k7.trans k43) (eY.refl _ _ _ _)⟩
  ·by_cases hc : ep < (s.ep : Int)
   ·rw [if_pos hc, if_pos hc, if_pos hc]
   ·rw [if_neg hc, if_neg hc, if_neg hc]
  ·by_cases hc : ep < (s.ep : Int)
   ·rw [if_pos hc]; intro hh; cases hh
   ·rw [if_neg hc, if_neg hc]; exact fun _ => ⟨rfl, nilB _⟩
  ·by_cases hc : ep < (s.ep : Int)
   ·rw [if_pos hc]; exact fun _ => rfl
   ·rw [if_neg hc]; exact fun hh => absurd rfl hh
end
end Go.D

