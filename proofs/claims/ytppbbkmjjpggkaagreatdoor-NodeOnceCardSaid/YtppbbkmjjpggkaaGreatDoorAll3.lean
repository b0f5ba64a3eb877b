/-
  WHAT IS PROVED: contracts of functions, and the plain law, for this proof. No further conditions.
-/
import Derived.Test.YtppbbkmjjpggkaaGreatDoorAll2
import Derived.Test.YtppbbkmjjpggkaaGreatDoorVCref04
import Derived.Test.YtppbbkmjjpggkaaGreatDoorAll1
import Derived.Test.YtppbbkmjjpggkaaGreatDoorArgs
import Derived.Test.YtppbbkmjjpggkaaGreatDoorRd
import Derived.Test.YtppbbkmjjpggkaaGreatDoorVCsums
import Derived.Test.YtppbbkmjjpggkaaGreatDoorSub
import Derived.Test.YtppbbkmjjpggkaaGreatDoorVCwire
import Derived.Test.YtppbbkmjjpggkaaGreatDoorVCwire2
import Derived.Test.YtppbbkmjjpggkaaGreatDoorIsNil
import Derived.Test.YtppbbkmjjpggkaaGreatDoorVCnode
set_option linter.unusedVariables false
set_option linter.unusedSimpArgs false
namespace Go.D
open Go Go.Proofs
def kindR : Rc -> Int
 | .cW _ _ => 1
 | .trim _ _ => 2
 | .shut _ => 3
def u6 : Rc -> Int
 | .cW a _ => a
 | .trim t _ => t
 | .shut e => e
def Hr : Rc -> List UInt8
 | .cW _ t => t
 | _ => []
theorem mX {w : World} {n0 r st rd m : Nat} {u : StP} {q : cJ} {d : aP} {L : List aL} {x : UnP} {tr ep top : Int} {pg : Int -> Option (List UInt8)} {ins : Int -> List Int} (A : Nat -> Addr) (hS : Sys w n0 st rd u q d L m) (h : UnM w r st x tr ep top pg ins) (hE : aY A n0 w) (hm : m <= 2 ^ 60)
  (c : Rc) (hc : okR c) (hep : ∀ t e, c = .trim t e -> ep = (e : Int)) (s : Slc) (hb : (∃ a t, c = .cW a t) -> ag w s (Hr c)) :
  Calls Tryz.prog cQ ⟨[aA r, .int .i64 (kindR c), .int .i64 (u6 c), s.v]⟩ w fun e w' => ∃ (n : Int) (e' : Option Nat) (w1 : World), e = .returned (.tuple ⟨[.int .i64 n, cF A e']⟩) /\ ai w w1 /\ pC A w1 n0 st rd u q d L m (encR c) n e' w' := by
 refine pL _ _ _ _ ?_
 unfold lX
 have hel := wM hc
 refine aq (fun r5 w6 hr5 hb5 k6 hs5 => ?_)
 have hO : B9 A w w6 r5 ⟨none, 0, 0⟩ [] := ⟨u4.new A hb5, fun k hk => by rw [AO hk]; omega, k6⟩
 have hk3 : 0 <= kindR c /\ kindR c <= 3 := by cases c <;> simp [kindR]
 have hn3 : 0 <= u6 c /\ u6 c <= 2 ^ 31 := by
  cases c with
  | cW a t => obtain ⟨v1, _⟩ := hc; simp only [u6]; omega
  | trim t e => obtain ⟨v1, _⟩ := hc; simp only [u6]; omega
  | shut e => have v1 : e <= 2 ^ 30 := hc; simp only [u6]; omega
 have hl1 := mg (kindR c) (by omega)
 have hl2 := mg (u6 c) (by omega)
 refine (Ca hO (by omega) (by simp) hE).mono ?_
 rintro e w8 ⟨rfl, s8, h8, _⟩
 refine ⟨rfl, (Ca h8 (by omega) (by simp; omega) hE).mono ?_⟩
 rintro e w10 ⟨rfl, s10, h10, _⟩
 refine ⟨rfl, fun w2 => ∃ s2, B9 A w w2 r5 s2 (encR c), ?_, ?_⟩
 ·cases c with
  | cW a t =>
   obtain ⟨v1, v2, v3⟩ := hc
   refine ae (fun _ => ⟨t, aj (hb ⟨a, t, rfl⟩) h10.k, (Gb h10 (by omega) (by simp [kindR, u6] at hl1 hl2 ⊢; omega) hE).mono ?_⟩) (fun hh => absurd rfl hh)
   rintro e w14 ⟨rfl, s14, h14, _⟩
   exact ⟨rfl, s14, by simpa [encR, kindR, u6] using h14⟩
  | trim t e0 =>
   obtain ⟨v1, v2⟩ := hc
   have he := hep t e0 rfl
   subst he
   refine ae (fun hh => absurd hh (by simp [kindR])) (fun _ => ae (fun _ => aa rfl ⟨_, (h.af h10.k).c.2.2.2.2.1, (Ca h10 (by omega) (by simp [kindR, u6] at hl1 hl2 ⊢; omega) hE).mono ?_⟩) (fun hh => absurd rfl hh))
   rintro e w18 ⟨rfl, s18, h18, _⟩
   exact ⟨rfl, s18, by simpa [encR, kindR, u6] using h18⟩
  | shut e0 =>
   refine ae (fun hh => absurd hh (by simp [kindR])) (fun _ => ae (fun hh => absurd hh (by simp [kindR])) (fun _ => ⟨s10, by simpa [encR, kindR, u6] using h10⟩))
 ·rintro w19 ⟨s19, h19⟩
  intros
  refine (EU h19 (by omega) hE).mono ?_
  rintro e w36 ⟨t, rfl, ht, htf, k36, _⟩
  have hS36 := hS.af k36
  refine ⟨t, _, rfl, trivial, ao (fun hh => by cases hh) (fun _ => aa rfl ⟨_, (h.af k36).c.1, ?_⟩)⟩
  refine Calls.mono (R := fun e w' => ∃ n e', e = .returned (.tuple ⟨[.int .i64 n, cF A e']⟩) /\ pC A w36 n0 st rd u q d L m (encR c) n e' w') (oI _ _ (AH hS36 ((hE.af k36).g.sub sj) hm ht.bytes (ht.le (by omega)) (by omega) (fun _ k hk hh => ?_) (fun n e' w' hp => ⟨n, e', rfl, hp⟩))) ?_
  ·have := htf k hk
   have := hS.B.lt k hh
   omega
  ·rintro e w42 ⟨n, e', rfl, hp⟩
   exact ⟨n, _, rfl, n, e', w36, rfl, k36, hp⟩
end Go.D
namespace Go.D
open Go
structure UV where
 tr : Int
 ep : Int
 top : Int
 pg : Int -> Option (List UInt8)
 ins : Int -> List Int
def jL (v : UV) (x : Int × Rc) : UV := ⟨ES v.tr x.2, ET v.ep x.2, tellTop v.top x.2, tN v.pg x.2, ku v.ins x.1 x.2⟩
def nN : UV := ⟨0, 0, 0, fun _ => none, fun _ => []⟩
def bJ (Q : List (Int × Rc)) : UV := Q.foldl jL nN
theorem gM (Q : List (Int × Rc)) (x : Int × Rc) : bJ (Q ++ [x]) = jL (bJ Q) x := by simp [bJ]
theorem AS {R : List Rc} {y : Nat × List UInt8} : y ∈ pagesOf R ↔ Rc.cW y.1 y.2 ∈ R := by
 induction R with
 | nil => simp [pagesOf]
 | cons c R ih => cases c <;> simp [pagesOf, ih, Prod.ext_iff]
theorem mn {P : List (Int × Rc) -> Prop} (h0 : P []) (hs : ∀ Q x, P Q -> P (Q ++ [x])) : ∀ Q, P Q := by
 intro Q
 have key : ∀ n, P (Q.take n) := by
  intro n
  induction n with
  | zero => simpa using h0
  | succ n ih =>
   by_cases hn : n < Q.length
   ·rw [List.take_succ_eq_append_getElem hn]; exact hs _ _ ih
   ·rw [List.take_of_length_le (by omega)]
    rwa [List.take_of_length_le (by omega)] at ih
 have := key Q.length
 rwa [List.take_length] at this
theorem EV (Q : List (Int × Rc)) : ∀ a : Int, (∀ y ∈ pagesOf (Q.map (·.2)), (y.1 : Int) ≠ a) -> (bJ Q).pg a = none := by
 refine mn (P := fun Q => ∀ a : Int, (∀ y ∈ pagesOf (Q.map (·.2)), (y.1 : Int) ≠ a) -> (bJ Q).pg a = none) (fun a _ => rfl) (fun Q x ih a h => ?_) Q
 rw [gM]
 rw [List.map_append, bk] at h
 have ih' := ih a (fun y hy => h y (by simp [hy]))
 obtain ⟨seg, c⟩ := x
 cases c with
 | cW b t =>
  have hb := h (b, t) (by simp [pagesOf])
  simp only [jL, tN, iI]
  rw [if_neg (fun e => hb e.symm)]
  exact ih'
 | trim t e => exact ih'
 | shut e => exact ih'
theorem yl (Q : List (Int × Rc)) (hq : ∀ x ∈ Q, okR x.2) : 0 <= (bJ Q).top /\ (bJ Q).top <= 4096 := by
 refine mn (P := fun Q => (∀ x ∈ Q, okR x.2) -> 0 <= (bJ Q).top /\ (bJ Q).top <= 4096) (fun _ => by simp [bJ, nN]) (fun Q x ih h => ?_) Q hq
 rw [gM]
 have ih' := ih (fun y hy => h y (by simp [hy]))
 have hx := h x (by simp)
 obtain ⟨seg, c⟩ := x
 cases c with
 | cW b t =>
  obtain ⟨v1, _⟩ := hx
  simp only [jL, tellTop]
  omega
 | trim t e => exact ih'
 | shut e => exact ih'
end Go.D
namespace Go.D
open Go Go.Proofs
def qs1 (g : aV) : List (Int × Rc) := g.rs.map fun c => ((g.num : Int), c)
def qsU (U : List aV) : List (Int × Rc) := U.flatMap qs1
theorem mY (U : List aV) : (qsU U).map (·.2) = eE U := by
 induction U with
 | nil => rfl
 | cons g U ih =>
  simp only [qsU, eE, List.flatMap_cons, List.map_append] at ih ⊢
  rw [ih]
  congr 1
  unfold qs1
  rw [List.map_map]
  exact List.map_id _
theorem EW (U : List aV) (j : Nat) (hj : j < U.length) : qsU (U.take (j + 1)) = qsU (U.take j) ++ qs1 U[j] := by
 unfold qsU
 rw [List.take_succ_eq_append_getElem hj, List.flatMap_append, List.flatMap_cons, List.flatMap_nil, List.append_nil]
theorem DE (U : List aV) (j n : Nat) (hj : j < U.length) (hn : n < U[j].rs.length) : ∃ R, qsU U = (qsU (U.take j) ++ (qs1 U[j]).take n) ++ (((U[j].num : Int), U[j].rs[n]) :: R) := by
 have e : U = U.take j ++ (U[j] :: U.drop (j + 1)) := by
  rw [<- List.drop_eq_getElem_cons hj, List.take_append_drop]
 have hq : n < (qs1 U[j]).length := by simpa [qs1] using hn
 have e2 : qs1 U[j] = (qs1 U[j]).take n ++ ((qs1 U[j])[n] :: (qs1 U[j]).drop (n + 1)) := by
  rw [<- List.drop_eq_getElem_cons hq, List.take_append_drop]
 have e3 : (qs1 U[j])[n] = ((U[j].num : Int), U[j].rs[n]) := by simp [qs1]
 refine ⟨(qs1 U[j]).drop (n + 1) ++ qsU (U.drop (j + 1)), ?_⟩
 have h1 : qsU U = qsU (U.take j) ++ (qs1 U[j] ++ qsU (U.drop (j + 1))) := by
  conv => lhs; rw [e]
  unfold qsU
  rw [List.flatMap_append, List.flatMap_cons]
 rw [h1]
 conv => lhs; rw [e2]
 rw [e3]
 simp
theorem EX {Q R : List (Int × Rc)} {seg : Int} {a : Nat} {t : List UInt8} (hn : ((pagesOf ((Q ++ ((seg, Rc.cW a t) :: R)).map (·.2))).map (·.1)).Nodup) : (bJ Q).pg (a : Int) = none := by
 refine EV Q _ (fun y hy e => ?_)
 rw [List.map_append, bk, List.map_append] at hn
 have h1 := (List.nodup_append.1 hn).2.2 y.1 (List.mem_map.2 ⟨y, hy, rfl⟩) a (by simp [pagesOf])
 omega
end Go.D
namespace Go.D
open Go
def pgM (U : List aV) (tr : Nat) (a : Int) : Option (List UInt8) := if a < (tr : Int) then none else dD (pgU U) a.toNat
def iJ (U : List aV) (n : Int) : List Int := (pagesOf (((qsU U).filter fun x => decide (x.1 = n)).map (·.2))).map fun y => (y.1 : Int)
theorem EY (Q : List (Int × Rc)) : (bJ Q).tr = ((zj (Q.map (·.2))).1 : Int) /\ (bJ Q).ep = ((zj (Q.map (·.2))).2 : Int) := by
 refine mn (P := fun Q => (bJ Q).tr = ((zj (Q.map (·.2))).1 : Int) /\ (bJ Q).ep = ((zj (Q.map (·.2))).2 : Int)) (by simp [bJ, nN, zj]) (fun Q x ih => ?_) Q
 obtain ⟨seg, c⟩ := x
 rw [gM, List.map_append, List.map_cons, List.map_nil, tL]
 cases c with
 | cW b t => exact ih
 | trim t e => exact ⟨rfl, rfl⟩
 | shut e => exact ⟨ih.1, rfl⟩
theorem AT (Q : List (Int × Rc)) : (bJ Q).top = ((dV (pagesOf (Q.map (·.2)))) : Int) := by
 refine mn (P := fun Q => (bJ Q).top = ((dV (pagesOf (Q.map (·.2)))) : Int)) (by simp [bJ, nN, dV, pagesOf]) (fun Q x ih => ?_) Q
 obtain ⟨seg, c⟩ := x
 rw [gM, List.map_append, List.map_cons, List.map_nil, bk]
 cases c with
 | cW b t =>
  simp only [jL, tellTop, pagesOf]
  rw [B4, ih]; omega
 | trim t e => simpa [jL, tellTop, pagesOf] using ih
 | shut e => simpa [jL, tellTop, pagesOf] using ih
theorem Cb (Q : List (Int × Rc)) (hn : ((pagesOf (Q.map (·.2))).map (·.1)).Nodup) (a : Nat) : (bJ Q).pg (a : Int) = dD (pagesOf (Q.map (·.2))) a := by
 revert hn
 refine mn (P := fun Q => ((pagesOf (Q.map (·.2))).map (·.1)).Nodup -> (bJ Q).pg (a : Int) = dD (pagesOf (Q.map (·.2))) a) (fun _ => by simp [bJ, nN, dD, pagesOf]) (fun Q x ih hn => ?_) Q
 obtain ⟨seg, c⟩ := x
 rw [List.map_append, List.map_cons, List.map_nil, bk] at hn ⊢
 rw [gM]
 have hq : ((pagesOf (Q.map (·.2))).map (·.1)).Nodup := by rw [List.map_append] at hn; exact (List.nodup_append.1 hn).1
 have ih' := ih hq
 cases c with
 | cW b t =>
  simp only [jL, tN, pagesOf, iI]
  rw [pc]
  by_cases e : (a : Int) = (b : Int)
  ·have e2 : b = a := by omega
   subst e2
   rw [if_pos rfl]
   have : dD (pagesOf (Q.map (·.2))) b = none := uB.2 (fun y hy e => by
    rw [List.map_append] at hn
    exact (List.nodup_append.1 hn).2.2 y.1 (List.mem_map.2 ⟨y, hy, rfl⟩) b (by simp [pagesOf]) e)
   rw [this]; simp
  ·rw [if_neg e, ih']
   cases dD (pagesOf (Q.map (·.2))) a with
   | some y => rfl
   | none => simp only; rw [if_neg (by omega)]
 | trim t e => simpa [jL, tN, pagesOf] using ih'
 | shut e => simpa [jL, tN, pagesOf] using ih'
theorem uF (Q : List (Int × Rc)) (n : Int) : (bJ Q).ins n = (pagesOf ((Q.filter fun x => decide (x.1 = n)).map (·.2))).map fun y => (y.1 : Int) := by
 refine mn (P := fun Q => (bJ Q).ins n = (pagesOf ((Q.filter fun x => decide (x.1 = n)).map (·.2))).map fun y => (y.1 : Int)) (by simp [bJ, nN, pagesOf]) (fun Q x ih => ?_) Q
 obtain ⟨seg, c⟩ := x
 rw [gM, List.filter_append, List.map_append, bk, List.map_append, <- ih]
 by_cases e : seg = n
 ·subst e
  cases c with
  | cW b t => simp [jL, ku, iI, pagesOf]
  | trim t e => simp [jL, ku, pagesOf]
  | shut e => simp [jL, ku, pagesOf]
 ·have e' : ¬ n = seg := fun h => e h.symm
  cases c with
  | cW b t => simp [jL, ku, iI, pagesOf, e, e']
  | trim t e1 => simp [jL, ku, pagesOf, e]
  | shut e1 => simp [jL, ku, pagesOf, e]
theorem Cc {U : List aV} {tr ep T : Nat} (h : gY U tr ep T) : (bJ (qsU U)).tr = (tr : Int) /\ (bJ (qsU U)).ep = (ep : Int) /\ max (bJ (qsU U)).top (tr : Int) = (T : Int) /\ wO (tr : Int) (bJ (qsU U)).pg = pgM U tr /\ (bJ (qsU U)).ins = iJ U := by
 have h1 := EY (qsU U)
 have h2 := AT (qsU U)
 have hte := h.te
 have htl := h.tl
 rw [mY] at h1 h2
 rw [hte] at h1
 refine ⟨h1.1, h1.2, ?_, ?_, funext fun n => uF _ n⟩
 ·rw [h2]; show max ((dV (pgU U) : Nat) : Int) (tr : Int) = T
  omega
 ·funext a
  unfold wO pgM
  split
  ·rfl
  ·rename_i ha
   obtain ⟨b, rfl⟩ : ∃ b : Nat, a = b := ⟨a.toNat, by omega⟩
   rw [Cb _ (by rw [mY]; exact h.nd), mY]; rfl
theorem jb (U V : List aV) : qsU (U ++ V) = qsU U ++ qsU V := by simp [qsU]
theorem pE (g : aV) : qsU [g] = qs1 g := by simp [qsU]
theorem Gd (M : List aV) (g : aV) (x : Rc) : qsU (M ++ [{ g with rs := g.rs ++ [x] }]) = qsU (M ++ [g]) ++ [((g.num : Int), x)] := by
 rw [jb, jb, pE, pE, List.append_assoc]
 simp [qs1]
theorem CP {U V : List aV} {n : Int} {x : Rc} (h : qsU V = qsU U ++ [(n, x)]) : iJ V = ku (iJ U) n x := by
 funext k
 have e0 : iJ V k = iJ U k ++ (pagesOf (([(n, x)].filter fun x => decide (x.1 = k)).map (·.2))).map fun y => (y.1 : Int) := by
  unfold iJ
  rw [h, List.filter_append, List.map_append, bk, List.map_append]
 rw [e0]
 by_cases e : k = n
 ·subst e
  cases x <;> simp [ku, iI, pagesOf]
 ·have e' : ¬ n = k := fun h => e h.symm
  cases x <;> simp [ku, iI, pagesOf, e, e']
theorem filter_none {g : aV} {n : Int} (h : (g.num : Int) ≠ n) : (qs1 g).filter (fun x => decide (x.1 = n)) = [] := by
 rw [List.filter_eq_nil_iff]
 intro x hx
 obtain ⟨c, _, rfl⟩ := List.mem_map.1 hx
 simpa using h
theorem filter_all (g : aV) : (qs1 g).filter (fun x => decide (x.1 = (g.num : Int))) = qs1 g := by
 rw [List.filter_eq_self]
 intro x hx
 obtain ⟨c, _, rfl⟩ := List.mem_map.1 hx
 simp
theorem sJ {U : List aV} {n : Int} (h : ∀ g ∈ U, (g.num : Int) ≠ n) : (qsU U).filter (fun x => decide (x.1 = n)) = [] := by
 induction U with
 | nil => rfl
 | cons g U ih =>
  rw [show g :: U = [g] ++ U from rfl, jb, pE, List.filter_append, filter_none (h g (by simp)), ih (fun g' hg' => h g' (by simp [hg']))]; rfl
theorem DF {g : aV} {U : List aV} (h : ∀ g' ∈ U, g'.num ≠ g.num) : iJ (g :: U) (g.num : Int) = (pagesOf g.rs).map fun y => (y.1 : Int) := by
 unfold iJ
 rw [show g :: U = [g] ++ U from rfl, jb, pE, List.filter_append, filter_all, sJ (fun g' hg' e => h g' hg' (by omega)), List.append_nil]
 congr 2
 unfold qs1
 rw [List.map_map]
 exact List.map_id _
theorem DG {g : aV} {U : List aV} (h : ∀ g' ∈ U, g'.num ≠ g.num) : iJ U = iI (iJ (g :: U)) (g.num : Int) [] := by
 funext k
 unfold iI
 by_cases e : k = (g.num : Int)
 ·rw [if_pos e]
  unfold iJ
  rw [e, sJ (fun g' hg' e => h g' hg' (by omega))]; rfl
 ·rw [if_neg e]
  unfold iJ
  rw [show g :: U = [g] ++ U from rfl, jb, pE, List.filter_append, filter_none (fun h => e h.symm), List.nil_append]
theorem EZ (U : List aV) (n : Int) : (iJ U n).length <= (pgU U).length := by
 unfold iJ pgU
 rw [<- mY, List.length_map]
 have key : ∀ Q : List (Int × Rc), (pagesOf ((Q.filter fun x => decide (x.1 = n)).map (·.2))).length <= (pagesOf (Q.map (·.2))).length := by
  intro Q
  induction Q with
  | nil => simp
  | cons x Q ih =>
   obtain ⟨s, c⟩ := x
   by_cases e : s = n
   ·rw [List.filter_cons_of_pos (by simpa using e)]
    cases c <;> simp only [List.map_cons, pagesOf, List.length_cons] <;> omega
   ·rw [List.filter_cons_of_neg (by simpa using e)]
    cases c <;> simp only [List.map_cons, pagesOf, List.length_cons] <;> omega
 exact key _
def appU (k : Nat) (U : List aV) (x : Rc) : Option (Nat × List aV) :=
 if nM (sU U) (encR x).length then (if h : U ≠ [] then some ((U.getLast h).num, U.dropLast ++ [{ U.getLast h with rs := (U.getLast h).rs ++ [x] }]) else none)
 else match iF k (sU U) with
  | none => none
  | some p => some (iR (sU U), U ++ [⟨p, iR (sU U), [x]⟩])
def qf (k : Nat) (U : List aV) (n : Nat) : List aV :=
 if nM (sU U) n then U else match iF k (sU U) with
  | none => U
  | some p => U ++ [⟨p, iR (sU U), []⟩]
theorem CQ {U : List aV} {n : Nat} (h : nM (sU U) n = true) : U ≠ [] := fun e => by subst e; simp [nM] at h
theorem Ge {k : Nat} {U : List aV} {x : Rc} (h : okR x) : mU k (sU U) (encR x) = match appU k U x with | none => (some 12, 0, sU U) | some (n, V) => (none, (n : Int), sU V) := by
 have hl := wM h
 have hap : mU k (sU U) (encR x) = match me k (sU U) (encR x).length with | none => (some 12, 0, sU U) | some L0 => (none, lastN L0, addRec L0 (encR x)) := by
  unfold mU; rw [if_neg (by omega)]; try rfl
 rw [hap]
 unfold appU me
 by_cases hf : nM (sU U) (encR x).length = true
 ·have hne := CQ hf
  rw [if_pos hf, if_pos hf, dif_pos hne]
  have e : U.dropLast ++ [U.getLast hne] = U := List.dropLast_concat_getLast hne
  have e1 : sU U = sU U.dropLast ++ [(U.getLast hne).s] := by rw [show sU U = sU (U.dropLast ++ [U.getLast hne]) by rw [e]]; simp
  have e2 : sU (U.dropLast ++ [{ U.getLast hne with rs := (U.getLast hne).rs ++ [x] }]) = sU U.dropLast ++ [{ (U.getLast hne).s with cV := (U.getLast hne).s.cV ++ [encR x] }] := by simp [aV.s]
  simp only
  rw [e1, qT, kY, e2]; rfl
 ·rw [if_neg hf, if_neg hf]
  cases hp : iF k (sU U) with
  | none => rfl
  | some p =>
   simp only [Option.map_some]
   unfold o0
   rw [qT, kY]
   simp [aV.s]
theorem jT {k : Nat} {U V : List aV} {x : Rc} {n : Nat} (h : appU k U x = some (n, V)) : qsU V = qsU U ++ [((n : Int), x)] /\ (V.getLast?.map (·.num)) = some n /\ (∃ M g, V = M ++ [{ g with rs := g.rs ++ [x] }] /\ (M ++ [g] = U \/ ∃ p, iF k (sU U) = some p /\ M = U /\ g = ⟨p, iR (sU U), []⟩)) := by
 unfold appU at h
 by_cases hf : nM (sU U) (encR x).length = true
 ·have hne := CQ hf
  rw [if_pos hf, dif_pos hne] at h
  cases h
  have e : U.dropLast ++ [U.getLast hne] = U := List.dropLast_concat_getLast hne
  refine ⟨?_, by simp, U.dropLast, U.getLast hne, rfl, .inl e⟩
  rw [Gd, e]
 ·rw [if_neg hf] at h
  cases hp : iF k (sU U) with
  | none => rw [hp] at h; cases h
  | some p =>
   rw [hp] at h
   cases h
   refine ⟨?_, by simp, U, ⟨p, iR (sU U), []⟩, by simp, .inr ⟨p, hp.symm ▸ rfl, rfl, rfl⟩⟩
   rw [jb, pE]; simp [qs1]
theorem vh {U V : List aV} {n : Int} {x : Rc} (h : qsU V = qsU U ++ [(n, x)]) : eE V = eE U ++ [x] := by
 rw [<- mY, h, List.map_append, mY]; rfl
theorem E0 {k : Nat} {U V : List aV} {x : Rc} {n : Nat} (h : appU k U x = some (n, V)) (hU : okU U) (hx : okR x) : okU V := by
 obtain ⟨_, _, M, g, rfl, hM⟩ := jT h
 refine CM ?_ hx
 rcases hM with rfl | ⟨p, _, rfl, rfl⟩
 ·exact hU
 ·intro y hy z hz
  rcases List.mem_append.1 hy with hy | hy
  ·exact hU y hy z hz
  ·rw [List.mem_singleton] at hy; subst hy; simp at hz
end Go.D
namespace Go.D
open Go Go.Proofs
structure UnS where
 U : List aV
 tr : Nat
 ep : Nat
 T : Nat
structure UnF where
 st : Nat
 x : UnP
 u : StP
 q : cJ
 top : Int
def UB (r rd : Nat) (f : UnF) (k : Nat) : Prop := UnW r f.x k \/ cz f.st f.u rd f.q k
structure UAt (w : World) (n0 r rd : Nat) (f : UnF) (d : aP) (s : UnS) (m : Nat) : Prop where
 S : Sys w n0 f.st rd f.u f.q d (sU s.U) m
 M : UnM w r f.st f.x s.tr s.ep f.top (pgM s.U s.tr) (iJ s.U)
 O : gY s.U s.tr s.ep s.T
 t : 0 <= f.top /\ max f.top (s.tr : Int) = s.T
 T : s.T <= 4096 /\ s.ep <= 2 ^ 30
 sep : ∀ k, UnW r f.x k -> ¬ cz f.st f.u rd f.q k
 qW : ∀ k, UnY f.x k -> ¬ UB r rd f k
 n : ∀ k, UnW r f.x k -> n0 <= k
section
variable {w w' : World} {n0 r rd m : Nat} {f : UnF} {d : aP} {s : UnS}
theorem UAt.ext {M : Nat -> Prop} (h : UAt w n0 r rd f d s m) (he : Ext M w w') (h1 : ∀ k, UB r rd f k -> ¬ M k) (h2 : ∀ k, UnY f.x k -> ¬ M k) : UAt w' n0 r rd f d s m :=
 ⟨h.S.ext he (fun k hk => h1 k (.inr hk)), h.M.ext he (fun k hk => h1 k (.inl hk)) h2, h.O, h.t, h.T, h.sep, h.qW, h.n⟩
theorem UAt.af (h : UAt w n0 r rd f d s m) (he : ai w w') : UAt w' n0 r rd f d s m := h.ext he (fun _ _ h => h) (fun _ _ h => h)
theorem UAt.lt (h : UAt w n0 r rd f d s m) : (∀ k, UB r rd f k -> k < w.heap.size) /\ ∀ k, UnY f.x k -> k < w.heap.size :=
 ⟨fun k hk => hk.elim (h.M.lt.1 k) (h.S.B.lt k), h.M.lt.2⟩
theorem UAt.ge (h : UAt w n0 r rd f d s m) : ∀ k, UB r rd f k -> n0 <= k := fun k hk => hk.elim (h.n k) (Gc h.S k)
theorem UAt.up (h : UAt w n0 r rd f d s m) {m' : Nat} (hm : m <= m') : UAt w n0 r rd f d s m' := ⟨h.S.up hm, h.M, h.O, h.t, h.T, h.sep, h.qW, h.n⟩
end
theorem lb {R : Nat -> Nat -> Prop} {U : List aV} (h : (sU U).Pairwise fun g h => R g.num h.num) : U.Pairwise fun g h => R g.num h.num := by
 rw [List.pairwise_map] at h
 exact h
theorem AU {U : List aV} (h : U.Pairwise fun g h => g.num < h.num) {g : aV} (hg : g ∈ U) : tF (g.num : Int) (sU U) = g.rs.map encR := by
 unfold tF
 rcases mS (fun x => decide ((x.num : Int) = (g.num : Int))) (sU U) with ⟨_, h2, _⟩ | ⟨i, hi, _, h2, h3, _⟩
 ·have := h2 g.s (List.mem_map.2 ⟨g, hg, rfl⟩)
  simp [aV.s] at this
 ·rw [h3]
  obtain ⟨j, hj, rfl⟩ := List.getElem_of_mem hg
  have hi' : i < U.length := by simpa using hi
  have e1 : (sU U)[i] = U[i].s := List.getElem_map _
  rw [e1] at h2 ⊢
  have h4 : (U[i].num : Int) = (U[j].num : Int) := of_decide_eq_true h2
  have hp := List.pairwise_iff_getElem.1 h
  rcases Nat.lt_trichotomy i j with h5 | h5 | h5
  ·have := hp i j hi' hj h5; omega
  ·subst h5; rfl
  ·have := hp j i hj hi' h5; omega
theorem uG {S : Nat -> List UInt8} {k : Nat} {L : List aL} (h : cv S k L) : ∀ g ∈ L, g.cV.length <= 2 ^ 20 /\ ∀ b ∈ g.cV, b.length <= 2 ^ 20 := by
 intro g hg
 have hon := h.on g hg
 have hf := hon.fin
 have h1 := zf g.cV
 unfold aL.fin at hf
 exact ⟨by omega, fun b hb => by have := (sb hon.2 b hb).2; omega⟩
theorem Cd {l : List Nat} (hn : l.Nodup) (hl : ∀ x ∈ l, x < 4096) : l.length <= 4096 := by
 have := mV hn (b := List.range 4096) (fun x hx => List.mem_range.2 (hl x hx))
 rwa [List.length_range] at this
theorem E3 {R : List Rc} (h : ∀ x ∈ R, okR x) : ∀ y ∈ pagesOf R, y.1 < 4096 /\ 1 <= y.2.length /\ y.2.length <= 2048 := fun y hy => h _ (AS.1 hy)
theorem gY.E4 {U : List aV} {tr ep T : Nat} (h : gY U tr ep T) : ∀ y ∈ pgU U, y.1 < 4096 /\ 1 <= y.2.length /\ y.2.length <= 2048 :=
 E3 (fun x hx => by
  obtain ⟨g, hg, hx⟩ := List.mem_flatMap.1 hx
  exact h.ok g hg x hx)
theorem gY.few {U : List aV} {tr ep T : Nat} (h : gY U tr ep T) : (pgU U).length <= 4096 := by
 have := Cd h.nd (fun x hx => by
  obtain ⟨y, hy, rfl⟩ := List.mem_map.1 hx
  exact (h.E4 y hy).1)
 rwa [List.length_map] at this
theorem gY.zk {U : List aV} {tr ep T : Nat} (h : gY U tr ep T) (n : Int) : (iJ U n).length <= 4096 := Nat.le_trans (EZ U n) h.few
theorem Ce {w1 : World} {n0 rd m : Nat} {q : cJ} {d : aP} {U : List aV} {tr ep T : Nat} (A : Nat -> Addr) (hE : aY A n0 w1) (hD : aN w1 rd q d) (hp : d.aI = []) (hI : cv (aS d.img) (d.n / 64) (sU U)) (hO : gY U tr ep T) (hT : T <= 4096 /\ ep <= 2 ^ 30)
  (hk : 1 <= d.n / 64 /\ d.n / 64 < 20) (hN : ∀ g ∈ sU U, g.num < m) (hm : m <= 2 ^ 60) (hdn : ∀ k, bj rd q k -> n0 <= k) (hz : n0 <= w1.heap.size) :
  Calls Tryz.prog jM ⟨[aA rd]⟩ w1 fun e w2 => ∃ (r : Nat) (f : UnF), e = .returned (.tuple ⟨[aA r, .nilIface]⟩) /\ UAt w2 n0 r rd f d ⟨U, tr, ep, T⟩ m /\ f.q = q /\ (∀ k, UB r rd f k -> bj rd q k \/ w1.heap.size <= k) /\ (∀ k, UnY f.x k -> w1.heap.size <= k) /\ ai w1 w2 := by
 refine yW _ ?_
 unfold xY
 refine (DA A (hE.g.sub sj) hD hp hI hk hN hm hdn hz).mono ?_
 rintro e w3 ⟨st, u, rfl, hS, hfr, k3⟩
 refine ⟨_, _, rfl, trivial, ao (fun h => by cases h) (fun _ => aq (fun r6 w7 hr6 hb6 k7 hs7 => aq (fun r8 w9 hr8 hb8 k9 hs9 => aq (fun r10 w11 hr10 hb10 k11 hs11 => ?_))))⟩
 have p6 : gJ KS w11 r6 [] := ((gJ.new hb6).af k9).af k11
 have p8 : gJ KS w11 r8 [] := (gJ.new hb8).af k11
 have k311 : ai w3 w11 := (k7.trans k9).trans k11
 have hUL := hS.len
 have hULe : (sU U).length = U.length := by simp
 have z3 := k3.size
 have U0 : UnM w11 r10 st ⟨r6, r8, [], []⟩ nN.tr nN.ep nN.top nN.pg nN.ins := by
  refine ⟨ak.new hb10 (yO _), p6, p8, by show r6 ≠ r8; omega, fun a => ⟨fun s hs => by simp [lookL] at hs, fun _ => rfl⟩, fun n => by simpa [lookL, nN] using bC.nil w11, fun n m s t hs => by simp [lookL] at hs, fun n s hs => by simp [lookL] at hs, fun a s hs => by simp [lookL] at hs⟩
 have hnd := hO.nd
 have hso := lb (R := fun a b => a < b) hI.so
 refine (oY (hS.af k311).B.S (by omega)).mono ?_
 rintro e w13 ⟨s14, rfl, hI14, hf14, k13⟩
 have W0 : ∀ k, UnW r10 ⟨r6, r8, [], []⟩ k -> w3.heap.size <= k /\ k < w11.heap.size := by
  rintro k (hk | hk | hk | ⟨n, s, hs, _⟩)
  ·omega
  ·have hk' : k = r6 := hk; omega
  ·have hk' : k = r8 := hk; omega
  ·simp [lookL] at hs
 have hl14 : s14.l = U.length := by
  have := Rows.sl hI14
  simpa using this
 have hid : ∀ w2, ai w3 w2 -> aY A n0 w2 := fun w2 hk2 => (hE.af k3).af hk2
 have n3 : n0 <= w3.heap.size := by omega
 refine ⟨s14, rfl, fun i w2 => ∃ (j : Nat) (x : UnP), i = j /\ j <= U.length /\ UnM w2 r10 st x (bJ (qsU (U.take j))).tr (bJ (qsU (U.take j))).ep (bJ (qsU (U.take j))).top (bJ (qsU (U.take j))).pg (bJ (qsU (U.take j))).ins /\
   ai w3 w2 /\ (∀ k, UnW r10 x k -> w3.heap.size <= k /\ ¬ au s14 k) /\ (∀ k, UnY x k -> w3.heap.size <= k) /\ bC w2 s14 ((sU U).map fun g => (g.num : Int)), fun i _ => ((U.length : Int) - i).toNat,
  ⟨0, _, rfl, by omega, by simpa [qsU, bJ] using U0.af k13, k311.trans k13, fun k hk => ⟨(W0 k hk).1, fun hh => by have := hf14 k hh; have := (W0 k hk).2; omega⟩, (by rintro k ⟨a, s, hs, _⟩; simp [lookL] at hs), hI14⟩, ?_⟩
 rintro i w18 ⟨j, x, rfl, hj, hU, hk18, hW, hY, hI18⟩
 intros
 have z18 := hk18.size
 refine ae (fun h0 => ?_) (fun h0 => ?_)
 ·have hjl : j < U.length := by omega
  obtain ⟨a44, ha44, hc44⟩ := hI18.get (i := j) (by simpa using hjl)
  have hnum : (((sU U).map fun g => (g.num : Int))[j]'(by simpa using hjl)) = (U[j].num : Int) := by simp [aV.s]
  rw [hnum] at hc44
  refine aa ha44 ⟨by omega, h0, _, by rw [Int.toNat_natCast]; exact hc44, (xx (hS.af hk18).B.S (U[j].num : Int) (by omega) (uG hI)).mono ?_⟩
  rintro e w47 ⟨s48, css, rfl, hR47, k47, hf48, hfc⟩
  rw [AU hso (List.getElem_mem hjl)] at hR47
  have hl48 : s48.l = U[j].rs.length := by
   have := hR47.sl
   simpa using this
  have ltU := hU.lt
  have hfew : U[j].rs.length <= 2 ^ 20 := by
   have := (uG hI U[j].s (List.mem_map.2 ⟨_, List.getElem_mem hjl, rfl⟩)).1
   simpa [aV.s] using this
  refine ⟨s48, rfl, fun i w2 => ∃ (n : Nat) (x : UnP), i = n /\ n <= U[j].rs.length /\ UnM w2 r10 st x (bJ (qsU (U.take j) ++ (qs1 U[j]).take n)).tr (bJ (qsU (U.take j) ++ (qs1 U[j]).take n)).ep (bJ (qsU (U.take j) ++ (qs1 U[j]).take n)).top (bJ (qsU (U.take j) ++ (qs1 U[j]).take n)).pg (bJ (qsU (U.take j) ++ (qs1 U[j]).take n)).ins /\
   ai w3 w2 /\ (∀ k, UnW r10 x k -> w3.heap.size <= k /\ ¬ au s14 k /\ ¬ au s48 k /\ ¬ cc css k) /\ (∀ k, UnY x k -> w3.heap.size <= k) /\ bC w2 s14 ((sU U).map fun g => (g.num : Int)) /\ Rows wy w2 s48 (U[j].rs.map encR) css, fun i _ => ((U[j].rs.length : Int) - i).toNat,
   ⟨0, x, rfl, by omega, by simpa using hU.af k47, hk18.trans k47, fun k hk => ⟨(hW k hk).1, (hW k hk).2, fun hh => ?_, fun hh => ?_⟩, hY, hI18.af k47, hR47⟩, ?_⟩
  ·have := hf48 k hh; have := ltU.1 k hk; omega
  ·have := hfc k hh; have := ltU.1 k hk; omega
  rintro i w52 ⟨n, x, rfl, hn, hU, hk52, hW, hY, hI52, hR52⟩
  intros
  refine ae (fun h1 => ?_) (fun h1 => ?_)
  ·have hnl : n < U[j].rs.length := by omega
   have hnc : n < css.length := by rw [hR52.len]; simpa using hnl
   obtain ⟨a68, ha68, _, hrow⟩ := hR52.get (i := n) hnc
   obtain ⟨s69, hcs, hb69⟩ := hR52.row n hnc (by simpa using hnl)
   rw [hcs] at hrow
   have hb69' : ag w52 s69 (encR U[j].rs[n]) := by simpa using hb69
   obtain ⟨R, hsp⟩ := DE U j n hjl hnl
   have hok : okR U[j].rs[n] := hO.ok _ (List.getElem_mem hjl) _ (List.getElem_mem hnl)
   have hndQ := hnd
   have hQok : ∀ y ∈ qsU (U.take j) ++ (qs1 U[j]).take n, okR y.2 := fun y hy => by
    have h9 : y ∈ qsU U := by rw [hsp]; exact List.mem_append_left _ hy
    obtain ⟨g, hg, hy'⟩ := List.mem_flatMap.1 h9
    obtain ⟨c, hc, rfl⟩ := List.mem_map.1 hy'
    exact hO.ok g hg c hc
   have hlenI : ((bJ (qsU (U.take j) ++ (qs1 U[j]).take n)).ins (U[j].num : Int)).length < 2 ^ 20 := by
    rw [uF]
    have e1 : ∀ Q Q2 : List (Int × Rc), (pagesOf (((Q.filter fun x => decide (x.1 = (U[j].num : Int)))).map (·.2))).length <= (iJ U (U[j].num : Int)).length \/ ¬ (qsU U = Q ++ Q2) := fun Q Q2 => by
     by_cases e : qsU U = Q ++ Q2
     ·left
      unfold iJ
      rw [e, List.filter_append, List.map_append, bk, List.map_append, List.length_append, List.length_map]; omega
     ·exact .inr e
    have e2 := (e1 (qsU (U.take j) ++ (qs1 U[j]).take n) _).resolve_right (fun hh => hh hsp)
    have e3 := hO.zk (U[j].num : Int)
    rw [List.length_map]; omega
   have htop := yl _ hQok
   have z52 := hk52.size
   refine aa ha68 ⟨by omega, h1, s69, by rw [Int.toNat_natCast]; exact CH hrow 0 (by simp), (B8 A hU (U[j].num : Int) U[j].rs[n] hok s69 hb69' (hid w52 hk52) (by omega) (fun a t hc => ?_) (by omega) hlenI).mono ?_⟩
   ·refine EX (R := R) (seg := (U[j].num : Int)) (t := t) ?_
    rw [<- hc, <- hsp, mY]; exact hnd
   ·rintro e w71 ⟨rfl, x', hU', hT1, hT2, hT3⟩
    have hnew : ai w3 w71 := hk52.ext hT1 (fun k hk => (hW k hk).1)
    have ltO := hU.lt
    have z71 := hT1.size
    have hr1 := hI52.lt
    have hr2 := hR52.lt
    have hr3 := hR52.flt
    refine ⟨_, rfl, trivial, ao (fun h => by cases h) (fun _ => ⟨aB (by omega), ⟨n + 1, x', rfl, hnl, ?_, hnew, fun k hk => ?_, fun k hk => ?_, hI52.ext hT1 (fun k hk hh => (hW k hh).2.1 hk), hR52.ext hT1 (fun k hk hh => (hW k hh).2.2.1 hk) (fun k hk hh => (hW k hh).2.2.2 hk)⟩, by dsimp only; omega⟩)⟩
    ·have hq : n < (qs1 U[j]).length := by simpa [qs1] using hnl
     have e3 : (qs1 U[j])[n] = ((U[j].num : Int), U[j].rs[n]) := by simp [qs1]
     rw [List.take_succ_eq_append_getElem hq, <- List.append_assoc, e3, gM]
     exact hU'
    ·rcases hT2 k hk with g | g
     ·exact hW k g
     ·exact ⟨by omega, fun hh => by have := hr1 k hh; omega, fun hh => by have := hr2 k hh; omega, fun hh => by have := hr3 k hh; omega⟩
    ·rcases hT3 k hk with g | g | g
     ·exact hY k g
     ·exact g.elim
     ·omega
  ·have hnn : n = U[j].rs.length := by omega
   subst hnn
   refine ⟨aB (by omega), ⟨j + 1, x, rfl, hjl, ?_, hk52, fun k hk => ⟨(hW k hk).1, (hW k hk).2.1⟩, hY, hI52⟩, by dsimp only; omega⟩
   have e4 : (qs1 U[j]).take U[j].rs.length = qs1 U[j] := List.take_of_length_le (by simp [qs1])
   rw [e4] at hU
   rw [EW U j hjl]
   exact hU
 ·have hjj : j = U.length := by omega
  subst hjj
  rw [List.take_length] at hU
  obtain ⟨v1, v2, v3, v4, v5⟩ := Cc hO
  have hQok : ∀ y ∈ qsU U, okR y.2 := fun y hy => by
   obtain ⟨g, hg, hy'⟩ := List.mem_flatMap.1 hy
   obtain ⟨c, hc, rfl⟩ := List.mem_map.1 hy'
   exact hO.ok g hg c hc
  have htop := yl _ hQok
  refine (sC hU).mono ?_
  rintro e w74 ⟨rfl, x', hU', hT1, hT2, hT3⟩
  rw [v1, v2, v4, v5] at hU'
  have ltO := hU.lt
  have hk74 : ai w3 w74 := hk18.ext hT1 (fun k hk => (hW k hk).1)
  have hW' : ∀ k, UnW r10 x' k -> w3.heap.size <= k := fun k hk => by
   rcases hT2 k hk with g | g
   ·exact (hW k g).1
   ·omega
  have hY' : ∀ k, UnY x' k -> w3.heap.size <= k := fun k hk => by
   rcases hT3 k hk with g | g | g
   ·exact hY k g
   ·exact g.elim
   ·omega
  have hSlt := hS.B.lt
  refine ⟨rfl, r10, ⟨st, x', u, q, (bJ (qsU U)).top⟩, rfl, ⟨hS.af hk74, hU', hO, ⟨htop.1, v3⟩, hT, fun k hk hh => ?_, fun k hk hh => ?_, fun k hk => ?_⟩, rfl, fun k hk => ?_, fun k hk => ?_, k3.trans hk74⟩
  ·have := hSlt k hh; have := hW' k hk; omega
  ·rcases hh with hh | hh
   ·obtain ⟨b, s0, hs0, h00, hk0⟩ := hk
    obtain ⟨y1, y2⟩ := hU'.pb b s0 hs0 h00 k hk0
    obtain ⟨t0, _, hb0, _⟩ := (hU'.pv b).1 s0 hs0
    rcases hh with hh | hh | hh | ⟨n, s1, hs1, hk1⟩
    ·exact y1 hh
    ·obtain ⟨_, _, hp1, _⟩ := hU'.p.at'
     exact cK hb0 h00 hk0 (by rw [hh]; exact hp1)
    ·obtain ⟨_, _, hp1, _⟩ := hU'.i.at'
     exact cK hb0 h00 hk0 (by rw [hh]; exact hp1)
    ·exact y2 n s1 hs1 hk1
   ·have := hSlt k hh; have := hY' k hk; omega
  ·have := hW' k hk; omega
  ·rcases hk with hk | hk | hk
   ·have := hW' k hk; exact .inr (by omega)
   ·exact .inr (hfr k hk)
   ·exact .inl hk
  ·have := hY' k hk; omega
end Go.D
namespace Go.D
open Go Go.Proofs
def writeP (k : Nat) (s : UnS) (epoch a : Int) (t : List UInt8) : Option Nat × UnS :=
 match dT s.ep epoch a 4095 with
 | some c => (some c, s)
 | none => if t.length = 0 \/ 2048 < t.length then (some 2, s) else if a < (s.tr : Int) then (some 10, s) else if (pgM s.U s.tr a).isSome then (some 8, s)
  else match appU k s.U (.cW a.toNat t) with
   | none => (some 12, s)
   | some (n, V) => (none, ⟨V, s.tr, s.ep, max s.T (a.toNat + 1)⟩)
def mo (k : Nat) (s : UnS) (epoch : Int) : Option Nat × UnS :=
 if epoch < 0 \/ 1073741824 < epoch then (some 13, s) else if epoch < (s.ep : Int) then (some 7, s) else if epoch = (s.ep : Int) then (none, s)
 else match appU k s.U (.shut epoch.toNat) with
  | none => (some 12, s)
  | some (n, V) => (none, ⟨V, s.tr, epoch.toNat, s.T⟩)
def gq (tr : Nat) : List aV -> List aV
 | [] => []
 | [g] => [g]
 | g :: h :: t => if (pagesOf g.rs).all (fun y => decide (y.1 < tr)) then gq tr (h :: t) else g :: h :: t
def ym (k : Nat) (s : UnS) (epoch to : Int) : Option Nat × UnS :=
 match dT s.ep epoch to 4096 with
 | some c => (some c, s)
 | none => if to <= (s.tr : Int) then (none, s)
  else match appU k s.U (.trim to.toNat s.ep) with
   | none => (some 12, s)
   | some (n, V) => (none, ⟨gq to.toNat V, to.toNat, s.ep, max s.T to.toNat⟩)
def wS (U : List aV) (s : UnS) : Prop := gY U s.tr s.ep s.T /\ ∀ a, pgM U s.tr a = pgM s.U s.tr a
def UCr (d : aP) (k m : Nat) (Ss : List UnS) : Prop := d.aI.length <= 100 /\ ∀ kept torn cut : Int, ∃ U, cv (aS (crashL kept torn cut 0 d.aI d.img)) k (sU U) /\ (∀ g ∈ sU U, g.num < m) /\ ∃ s ∈ Ss, wS U s
def fF (r rd : Nat) (f f' : UnF) (w w' : World) : Prop := bp (UB r rd f) (UB r rd f') w w' /\ ∀ k, UnY f'.x k -> UnY f.x k \/ w.heap.size <= k
theorem fF.refl (r rd : Nat) (f : UnF) (w : World) : fF r rd f f w w := ⟨bp.refl _ _, fun k hk => .inl hk⟩
theorem fF.trans {r rd : Nat} {f f1 f2 : UnF} {a b c : World} (h1 : fF r rd f f1 a b) (h2 : fF r rd f1 f2 b c) : fF r rd f f2 a c :=
 ⟨h1.1.trans h2.1, fun k hk => (h2.2 k hk).elim (h1.2 k) (fun h => .inr (Nat.le_trans h1.1.1.size h))⟩
theorem fF.af {r rd : Nat} {f f' : UnF} {a b c : World} (h1 : fF r rd f f' a b) (h2 : ai b c) : fF r rd f f' a c := ⟨h1.1.af h2, h1.2⟩
theorem ai.uH {r rd : Nat} {f f' : UnF} {a b c : World} (h1 : ai a b) (h2 : fF r rd f f' b c) : fF r rd f f' a c :=
 ⟨h1.iW h2.1, fun k hk => (h2.2 k hk).imp (fun h => h) (fun h => Nat.le_trans h1.size h)⟩
def zl (w : World) (n0 r rd : Nat) (f : UnF) (d : aP) (s : UnS) (m : Nat) (p : Option Nat × UnS) (e' : Option Nat) (w' : World) : Prop :=
 (e' = p.1 /\ ∃ f' d', UAt w' n0 r rd f' d' p.2 (m + 1) /\ d'.n = d.n /\ d'.stops = d.stops /\ fF r rd f f' w w') \/
 (e' = some 11 /\ d.stops = true /\ ∃ q' d', aN w' rd q' d' /\ d'.n = d.n /\ d'.stops = d.stops /\ UCr d' (d.n / 64) (m + 1) [s, p.2] /\ bp (UB r rd f) (bj rd q') w w')
theorem E5 (k : Nat) (U : List aV) (n : Nat) : (me k (sU U) n).getD (sU U) = sU (qf k U n) := by
 unfold me qf
 split
 ·rfl
 ·cases iF k (sU U) with
  | none => rfl
  | some p => simp [o0, aV.s]
theorem yn (k : Nat) (U : List aV) (n : Nat) : eE (qf k U n) = eE U := by
 unfold qf
 split
 ·rfl
 ·split
  ·rfl
  ·exact AK _ _ _
theorem E6 (k : Nat) {U : List aV} (n : Nat) (h : okU U) : okU (qf k U n) := by
 unfold qf
 split
 ·exact h
 ·split
  ·exact h
  ·intro y hy z hz
   rcases List.mem_append.1 hy with hy | hy
   ·exact h y hy z hz
   ·rw [List.mem_singleton] at hy; subst hy; simp at hz
theorem gY.GY {U V : List aV} {tr ep T : Nat} (h : gY U tr ep T) (ho : okU V) (ha : eE V = eE U) : gY V tr ep T :=
 ⟨ho, by rw [ha]; exact h.te, by unfold pgU; rw [ha]; exact h.nd, by unfold pgU; rw [ha]; exact h.tl⟩
theorem Gf {U V : List aV} (ha : eE V = eE U) (tr : Nat) : pgM V tr = pgM U tr := by
 unfold pgM pgU
 rw [ha]
theorem DH {k m n : Nat} {U : List aV} (h : ∀ g ∈ sU U, g.num < m) : ∀ g ∈ sU (qf k U n), g.num < m + 1 := by
 intro g hg
 have hnx := wI h
 unfold qf at hg
 split at hg
 ·have := h g hg; omega
 ·split at hg
  ·have := h g hg; omega
  ·obtain ⟨y, hy, rfl⟩ := List.mem_map.1 hg
   rcases List.mem_append.1 hy with hy | hy
   ·have := h _ (List.mem_map.2 ⟨y, hy, rfl⟩); omega
   ·rw [List.mem_singleton] at hy; subst hy
    show iR (sU U) < m + 1; omega
theorem E7 {k m n : Nat} {U V : List aV} {x : Rc} (h : ∀ g ∈ sU U, g.num < m) (ha : appU k U x = some (n, V)) : ∀ g ∈ sU V, g.num < m + 1 := by
 intro g hg
 have hnx := wI h
 obtain ⟨_, _, M, g0, rfl, hM⟩ := jT ha
 obtain ⟨y, hy, rfl⟩ := List.mem_map.1 hg
 have key : ∀ z ∈ M ++ [g0], z.num < m + 1 := by
  intro z hz
  rcases hM with rfl | ⟨p, _, rfl, rfl⟩
  ·have := h _ (List.mem_map.2 ⟨z, hz, rfl⟩)
   have h2 : z.num < m := this
   omega
  ·rcases List.mem_append.1 hz with hz | hz
   ·have := h _ (List.mem_map.2 ⟨z, hz, rfl⟩)
    have h2 : z.num < m := this
    omega
   ·rw [List.mem_singleton] at hz; subst hz
    show iR (sU M) < m + 1; omega
 rcases List.mem_append.1 hy with hy | hy
 ·exact key y (by simp [hy])
 ·rw [List.mem_singleton] at hy; subst hy
  exact key g0 (by simp)
theorem pC.unit {A : Nat -> Addr} {w w' : World} {n0 st rd m : Nat} {u : StP} {q : cJ} {d : aP} {U : List aV} {c : Rc} (hc : okR c) {n : Int} {e' : Option Nat} (h : pC A w n0 st rd u q d (sU U) m (encR c) n e' w') :
  (appU (d.n / 64) U c = none /\ e' = some 12 /\ aN w' rd q d /\ ai w w') \/
  (∃ n' V, appU (d.n / 64) U c = some (n', V) /\ n = (n' : Int) /\ e' = none /\ ∃ u' q' d', Sys w' n0 st rd u' q' d' (sU V) (m + 1) /\ d'.n = d.n /\ d'.stops = d.stops /\ bp (cz st u rd q) (cz st u' rd q') w w') \/
  (∃ n' V, appU (d.n / 64) U c = some (n', V) /\ e' = some 11 /\ d.stops = true /\ ∃ q' d', aN w' rd q' d' /\ d'.n = d.n /\ d'.stops = d.stops /\ sv d' (d.n / 64) [sU U, sU (qf (d.n / 64) U (encR c).length), sU V] /\ bp (cz st u rd q) (bj rd q') w w') := by
 obtain ⟨q', d', hD, hn, hs, hcase⟩ := h
 have hok := Ge (k := d.n / 64) (U := U) hc
 cases ha : appU (d.n / 64) U c with
 | none =>
  rw [ha] at hok
  simp only at hok
  rw [hok] at hcase
  rcases hcase with ⟨_, h2, _, rfl, rfl, hk⟩ | ⟨h1, _⟩ | ⟨h1, _⟩
  ·exact .inl ⟨rfl, h2, hD, hk⟩
  ·cases h1
  ·cases h1
 | some p =>
  obtain ⟨n', V⟩ := p
  rw [ha] at hok
  simp only at hok
  rw [hok] at hcase
  rcases hcase with ⟨h1, _⟩ | ⟨_, h2, h3, u', hS, ft⟩ | ⟨_, h2, h3, h4, ft⟩
  ·exact absurd rfl h1
  ·exact .inr (.inl ⟨n', V, rfl, h3, h2, u', q', d', hS, hn, hs, ft⟩)
  ·rw [E5] at h4
   exact .inr (.inr ⟨n', V, rfl, h2, h3, q', d', hD, hn, hs, h4, ft⟩)
theorem sv.unit {d' : aP} {k m n n' : Nat} {U V : List aV} {c : Rc} {s s1 : UnS} (h : sv d' k [sU U, sU (qf k U n), sU V]) (hN : ∀ g ∈ sU U, g.num < m) (ha : appU k U c = some (n', V)) (h0 : s.U = U) (hO : gY U s.tr s.ep s.T) (h1 : wS V s1) : UCr d' k (m + 1) [s, s1] := by
 refine ⟨h.1, fun a b c => ?_⟩
 obtain ⟨L, hL, hI⟩ := h.2 a b c
 simp only [List.mem_cons, List.not_mem_nil, or_false] at hL
 rcases hL with rfl | rfl | rfl
 ·exact ⟨U, hI, fun g hg => by have := hN g hg; omega, s, by simp, hO, fun a => by rw [h0]⟩
 ·exact ⟨_, hI, DH hN, s, by simp, hO.GY (E6 k n hO.ok) (yn k U n), fun a => by rw [h0, Gf (yn k U n)]⟩
 ·exact ⟨V, hI, E7 hN ha, s1, by simp, h1⟩
theorem E8 {U V : List aV} {tr a : Nat} {t : List UInt8} (h : eE V = eE U ++ [.cW a t]) (ha : tr <= a) (hn : pgM U tr (a : Int) = none) : pgM V tr = iI (pgM U tr) (a : Int) (some t) := by
 funext b
 have hn' : dD (pgU U) a = none := by
  unfold pgM at hn
  rw [if_neg (by omega)] at hn
  exact hn
 unfold iI pgM pgU
 rw [h, bk]
 by_cases e : b = (a : Int)
 ·subst e
  rw [if_neg (by omega), if_pos rfl]
  simp only [pagesOf]
  rw [pc, Int.toNat_natCast]
  unfold pgU at hn'
  rw [hn']; simp
 ·rw [if_neg e]
  by_cases e2 : b < (tr : Int)
  ·rw [if_pos e2, if_pos e2]
  ·rw [if_neg e2, if_neg e2]
   simp only [pagesOf]
   rw [pc]
   cases dD (pagesOf (eE U)) b.toNat with
   | some y => rfl
   | none => simp only; rw [if_neg (by omega)]
theorem E9 {U V : List aV} {x : Rc} (h : eE V = eE U ++ [x]) (hx : ∀ a t, x ≠ .cW a t) (tr : Nat) : pgM V tr = pgM U tr := by
 unfold pgM pgU
 rw [h, bk]
 cases x with
 | cW a t => exact absurd rfl (hx a t)
 | trim t e => simp [pagesOf]
 | shut e => simp [pagesOf]
theorem AV {U : List aV} {tr a : Nat} (ha : tr <= a) (hn : pgM U tr (a : Int) = none) : ∀ y ∈ pgU U, y.1 ≠ a := by
 unfold pgM at hn
 rw [if_neg (by omega)] at hn
 exact uB.1 hn
def tailR (T tt : Nat) : Rc -> Nat
 | .cW a _ => max T (a + 1)
 | .trim t _ => max tt t
 | .shut _ => T
theorem yo {k n : Nat} {U V : List aV} {x : Rc} {tr ep T : Nat} (h : gY U tr ep T) (hx : okR x) (ha : appU k U x = some (n, V)) (hp : ∀ a t, x = .cW a t -> ∀ y ∈ pgU U, y.1 ≠ a) :
  gY V (kr (tr, ep) x).1 (kr (tr, ep) x).2 (tailR T (dV (pgU U)) x) := by
 have hV := E0 ha h.ok hx
 obtain ⟨_, _, M, g, rfl, hM⟩ := jT ha
 have hR : eE (M ++ [g]) = eE U := by
  rcases hM with rfl | ⟨p, _, rfl, rfl⟩
  ·rfl
  ·exact AK _ _ _
 have hok : okU (M ++ [g]) := by
  intro y hy z hz
  rcases List.mem_append.1 hy with hy | hy
  ·exact hV y (by simp [hy]) z hz
  ·rw [List.mem_singleton] at hy; subst hy
   exact hV _ (List.mem_append_right _ (List.mem_singleton.2 rfl)) z (List.mem_append_left _ hz)
 cases x <;> exact h.add hok hR hx hp
section
variable {w w' : World} {n0 r rd m : Nat} {f : UnF} {d : aP} {s : UnS}
theorem UAt.ins (h : UAt w n0 r rd f d s m) (n : Int) : (iJ s.U n).length < 2 ^ 20 := by have := h.O.zk n; omega
theorem UAt.u7 (h : UAt w n0 r rd f d s m) {e' : Option Nat} (hk : ai w w') : zl w n0 r rd f d s m (e', s) e' w' :=
 .inl ⟨rfl, f, d, (h.af hk).up (by omega), rfl, rfl, hk.uH (fF.refl _ _ _ _)⟩
theorem AW (A : Nat -> Addr) (h : UAt w n0 r rd f d s m) (hE : aY A n0 w) (hm : m <= 2 ^ 60) (epoch a : Int) (sl : Slc) (t : List UInt8) (hb : ag w sl t) (ht : t.length <= 2 ^ 20) (hs : ∀ k, au sl k -> ¬ UB r rd f k) :
  Calls Tryz.prog gy ⟨[aA r, .int .i64 epoch, .int .i64 a, sl.v]⟩ w fun e w' => ∃ e', e = .returned (cF A e') /\ zl w n0 r rd f d s m (writeP (d.n / 64) s epoch a t) e' w' := by
 refine qC _ _ _ _ ?_
 unfold nB
 have hG : bF DB A n0 w := hE.g.sub sB
 have hbl := hb.1
 refine (pd A h.M epoch a 4095 hG).mono ?_
 rintro e w6 ⟨rfl, rfl⟩
 unfold writeP
 cases hc : dT s.ep epoch a 4095 with
 | some c => exact ⟨_, rfl, aO A _, ao (fun _ => ⟨_, rfl, h.u7 (Ext.refl _ _)⟩) (fun hh => by cases hh)⟩
 | none =>
  have ha : 0 <= a /\ a <= 4095 := by
   unfold dT at hc
   split at hc
   ·cases hc
   ·split at hc
    ·cases hc
    ·omega
  obtain ⟨es, g1, g2⟩ := h.M.p.get
  refine ⟨_, rfl, aO A _, ao (fun hh => by cases hh) (fun _ => aa rfl ⟨_, h.M.c.2.1, es, g1, lookL f.x.pl a, g2 a, fun w2 => ¬ (t.length = 0 \/ 2048 < t.length) /\ ¬ a < (s.tr : Int) /\ (pgM s.U s.tr a).isSome = false /\ w2 = w6,
   ⟨fun b w2 => b = decide (t.length = 0 \/ 2048 < t.length) /\ w2 = w6, ae (fun h0 => ⟨(decide_eq_true (.inl (by omega))).symm, rfl⟩) (fun h0 => ⟨by rw [decide_eq_decide]; omega, rfl⟩), ?_⟩, ?_⟩)⟩
  ·rintro b w15 ⟨rfl, rfl⟩
   intros
   refine ae (fun h1 => ?_) (fun h1 => aa rfl ⟨_, h.M.c.2.2.2.1, ae (fun h2 => ?_) (fun h2 => ?_)⟩)
   ·rw [if_pos h1]
    exact ⟨_, fC hG 2 bw rfl (by decide), _, rfl, h.u7 (Ext.refl _ _)⟩
   ·rw [if_neg h1, if_pos h2]
    exact ⟨_, fC hG 10 dQ rfl (by decide), _, rfl, h.u7 (Ext.refl _ _)⟩
   ·rw [if_neg h1, if_neg h2]
    refine ao (fun h3 => ?_) (fun h3 => ?_)
    ·rw [h.M.has] at h3
     rw [if_pos h3]
     exact ⟨_, fC hG 8 gn rfl (by decide), _, rfl, h.u7 (Ext.refl _ _)⟩
    ·rw [h.M.has] at h3
     exact ⟨h1, h2, h3, rfl⟩
  ·rintro w29 ⟨h1, h2, h3, rfl⟩
   intros
   rw [if_neg h1, if_neg h2, if_neg (by rw [h3]; decide)]
   obtain ⟨an, rfl⟩ : ∃ an : Nat, a = an := ⟨a.toNat, by omega⟩
   rw [Int.toNat_natCast]
   have hok : okR (.cW an t) := ⟨by omega, by omega, by omega⟩
   have hpn : pgM s.U s.tr (an : Int) = none := by simpa using h3
   refine (mX A h.S h.M hE hm (.cW an t) hok (fun _ _ hh => by cases hh) sl (fun _ => hb)).mono ?_
   rintro e w53 ⟨n, e', w1, rfl, k1, hp⟩
   rcases hp.unit hok with ⟨ha1, rfl, hD, hk⟩ | ⟨n', V, ha1, rfl, rfl, u', q', d', hS', hn', hst', ft⟩ | ⟨n', V, ha1, rfl, hst, q', d', hD', hn', hst', hcr, ft⟩
   ·rw [ha1]
    exact ⟨_, _, rfl, aO A _, ao (fun hh => by cases hh) (fun _ => ⟨_, rfl, h.u7 (k1.trans hk)⟩)⟩
   ·rw [ha1]
    have ft' : bp (cz f.st f.u rd f.q) (cz f.st u' rd q') w29 w53 := k1.iW ft
    have hqs := (jT ha1).1
    have hal := vh hqs
    have hM53 := h.M.ext ft'.1 h.sep (fun k hk hh => h.qW k hk (.inr hh))
    refine ⟨_, _, rfl, aO A _, ao (fun _ => ?_) (fun hh => by cases hh)⟩
    have hb53 : ag w53 sl t := aR hb ft'.1 (fun _ k hk hh => hs k hk (.inr hh))
    refine (bx sl t w53 hb53 (by omega)).mono ?_
    rintro e w57 ⟨s58, rfl, ho58, hf58, k57⟩
    have hM57 := hM53.af k57
    have ht4 := h.T.1
    have htt := h.t
    have z53 := ft'.1.size
    have z57 := k57.size
    have lt53 := hM53.lt
    refine ⟨s58, rfl, (wN hM57 (n' : Int) (an : Int) s58 t ho58.bytes (by omega) (fun _ k hk hh => ?_) hpn (by omega) (by omega) (h.ins _)).mono ?_⟩
    ·have := hf58 k hk; have := lt53.1 k hh; omega
    ·rintro e w60 ⟨rfl, x', hM60, t1, t2, t3⟩
     have hpg : pgM V s.tr = iI (pgM s.U s.tr) (an : Int) (some t) := E8 hal (by omega) hpn
     have hin : iJ V = iI (iJ s.U) (n' : Int) (iJ s.U (n' : Int) ++ [(an : Int)]) := CP hqs
     rw [<- hpg, <- hin] at hM60
     have hSlt := hS'.B.lt
     have sys57 := hS'.af k57
     have sepW : ∀ k, UnW r f.x k -> ¬ cz f.st u' rd q' k := fun k hk hh => (ft'.2 k hh).elim (h.sep k hk) (fun hh => by have := h.M.lt.1 k hk; omega)
     have sys60 := sys57.ext t1 (fun k hk hh => sepW k hh hk)
     have x60 : Ext (UB r rd f) w29 w60 := (Ext.trans (ft'.1.mono (fun k hk => Or.inr hk)) k57 (fun _ h => h) (fun _ h => h.elim)).trans t1 (fun _ h => h) (fun k hk => .inl (.inl hk))
     have z60 := t1.size
     have hO' := yo h.O hok ha1 (fun a' t' he y hy => by cases he; exact AV (by omega) hpn y hy)
     refine ⟨rfl, none, rfl, .inl ⟨rfl, ⟨f.st, x', u', q', max f.top (an + 1)⟩, d', ⟨sys60, hM60, hO', ⟨by show 0 <= max f.top ((an : Int) + 1); omega, by show max (max f.top ((an : Int) + 1)) (s.tr : Int) = ((max s.T (an + 1) : Nat) : Int); omega⟩, ⟨by show max s.T (an + 1) <= 4096; omega, h.T.2⟩, fun k hk hh => ?_, fun k hk hh => ?_, fun k hk => ?_⟩, hn', hst', ⟨⟨x60, fun k hk => ?_⟩, fun k hk => ?_⟩⟩⟩
     ·rcases t2 k hk with g | g
      ·exact sepW k g hh
      ·have := hSlt k hh; omega
     ·rcases hh with hh | hh
      ·obtain ⟨b, s0, hs0, h00, hk0⟩ := hk
       obtain ⟨y1, y2⟩ := hM60.pb b s0 hs0 h00 k hk0
       obtain ⟨t0, _, hb0, _⟩ := (hM60.pv b).1 s0 hs0
       rcases hh with hh | hh | hh | ⟨n, s1, hs1, hk1⟩
       ·exact y1 hh
       ·obtain ⟨_, _, hp1, _⟩ := hM60.p.at'
        exact cK hb0 h00 hk0 (by rw [hh]; exact hp1)
       ·obtain ⟨_, _, hp1, _⟩ := hM60.i.at'
        exact cK hb0 h00 hk0 (by rw [hh]; exact hp1)
       ·exact y2 n s1 hs1 hk1
      ·have hl := hSlt k hh
       rcases t3 k hk with g | ⟨_, g⟩ | g
       ·rcases ft'.2 k hh with g2 | g2
        ·exact h.qW k g (.inr g2)
        ·have := h.M.lt.2 k g; omega
       ·have := hf58 k g; omega
       ·omega
     ·rcases t2 k hk with g | g
      ·exact h.n k g
      ·have := h.S.B.z; omega
     ·rcases hk with hk | hk
      ·rcases t2 k hk with g | g
       ·exact .inl (.inl g)
       ·exact .inr (by omega)
      ·exact (ft'.2 k hk).imp .inr (fun g => g)
     ·rcases t3 k hk with g | ⟨_, g⟩ | g
      ·exact .inl g
      ·have := hf58 k g; exact .inr (by omega)
      ·exact .inr (by omega)
   ·rw [ha1]
    have hal := vh (jT ha1).1
    have hO' := yo h.O hok ha1 (fun a' t' he y hy => by cases he; exact AV (by omega) hpn y hy)
    exact ⟨_, _, rfl, aO A _, ao (fun hh => by cases hh) (fun _ => ⟨some 11, rfl, .inr ⟨rfl, hst, q', d', hD', hn', hst', hcr.unit h.S.N ha1 rfl h.O ⟨hO', fun _ => rfl⟩, ⟨(k1.iW ft).1.mono (fun k hk => .inr hk), fun k hk => ((k1.iW ft).2 k hk).imp .inr (fun g => g)⟩⟩⟩)⟩
end
end Go.D
namespace Go.D
open Go Go.Proofs
section
variable {w w' : World} {n0 r rd m : Nat} {f : UnF} {d : aP} {s : UnS}
theorem UAt.Gv (h : UAt w n0 r rd f d s m) {V : List aV} {n : Nat} {c : Rc} {u' : StP} {q' : cJ} {d' : aP} (hc : okR c) (hnp : ∀ a t, c ≠ .cW a t) (ha : appU (d.n / 64) s.U c = some (n, V)) (hS : Sys w' n0 f.st rd u' q' d' (sU V) (m + 1)) (ft : bp (cz f.st f.u rd f.q) (cz f.st u' rd q') w w') :
  UnM w' r f.st f.x s.tr s.ep f.top (pgM V s.tr) (iJ V) /\ (∀ k, UnW r f.x k -> ¬ cz f.st u' rd q' k) /\ (∀ k, UnY f.x k -> ¬ UB r rd ⟨f.st, f.x, u', q', f.top⟩ k) := by
 have hqs := (jT ha).1
 have hal := vh hqs
 have hM := h.M.ext ft.1 h.sep (fun k hk hh => h.qW k hk (.inr hh))
 have hin : iJ V = iJ s.U := by
  rw [CP hqs]
  cases c with
  | cW a t => exact absurd rfl (hnp a t)
  | trim t e => rfl
  | shut e => rfl
 rw [E9 hal hnp, hin]
 refine ⟨hM, fun k hk hh => (ft.2 k hh).elim (h.sep k hk) (fun hh => by have := h.M.lt.1 k hk; omega), fun k hk hh => ?_⟩
 rcases hh with hh | hh
 ·exact h.qW k hk (.inl hh)
 ·rcases ft.2 k hh with g | g
  ·exact h.qW k hk (.inr g)
  ·have := h.M.lt.2 k hk; omega
theorem Cf (A : Nat -> Addr) (h : UAt w n0 r rd f d s m) (hE : aY A n0 w) (hm : m <= 2 ^ 60) (epoch : Int) :
  Calls Tryz.prog ij ⟨[aA r, .int .i64 epoch]⟩ w fun e w' => ∃ (n : Int) (e' : Option Nat), e = .returned (.tuple ⟨[.int .i64 n, cF A e']⟩) /\ zl w n0 r rd f d s m (mo (d.n / 64) s epoch) e' w' /\ (e' = (mo (d.n / 64) s epoch).1 -> n = if e' = none then ((mo (d.n / 64) s epoch).2.T : Int) else 0) := by
 refine rC _ _ ?_
 unfold oQ
 have hG : bF DB A n0 w := hE.g.sub sB
 have hep := h.T.2
 have kd : ai w (World.drew w) := Ext.drew _ _
 unfold mo
 refine ⟨fun b w2 => b = decide (epoch < 0 \/ 1073741824 < epoch) /\ w2 = w, ae (fun h0 => ⟨(decide_eq_true (.inl h0)).symm, rfl⟩) (fun h0 => ⟨by rw [decide_eq_decide]; omega, rfl⟩), ?_⟩
 rintro b w5 ⟨rfl, rfl⟩
 intros
 refine ae (fun h1 => ?_) (fun h1 => aa rfl ⟨_, h.M.c.2.2.2.2.1, ae (fun h2 => ?_) (fun h2 => aa rfl ⟨_, h.M.c.2.2.2.2.1, ?_⟩)⟩)
 ·rw [if_pos h1]
  exact ⟨_, fC (hG.af kd) 13 jg rfl (by decide), 0, _, rfl, h.u7 kd, fun _ => rfl⟩
 ·rw [if_neg h1, if_pos h2]
  exact ⟨_, fC (hG.af kd) 7 dI rfl (by decide), 0, _, rfl, h.u7 kd, fun _ => rfl⟩
 rw [if_neg h1, if_neg h2]
 refine ae (fun h3 => ?_) (fun h3 => ?_)
 ·rw [if_neg (by omega)]
  obtain ⟨en, rfl⟩ : ∃ en : Nat, epoch = en := ⟨epoch.toNat, by omega⟩
  rw [Int.toNat_natCast]
  have hok : okR (.shut en) := show en <= 2 ^ 30 by omega
  refine (mX A h.S h.M hE hm (.shut en) hok (fun _ _ hh => by cases hh) ⟨none, 0, 0⟩ (fun ⟨_, _, hh⟩ => by cases hh)).mono ?_
  rintro e w53 ⟨n, e', w1, rfl, k1, hp⟩
  rcases hp.unit hok with ⟨ha1, rfl, hD, hk⟩ | ⟨n', V, ha1, rfl, rfl, u', q', d', hS', hn', hst', ft⟩ | ⟨n', V, ha1, rfl, hst, q', d', hD', hn', hst', hcr, ft⟩
  ·rw [ha1]
   exact ⟨_, _, rfl, aO A _, ao (fun _ => ⟨_, _, rfl, h.u7 (k1.trans hk), fun _ => rfl⟩) (fun hh => by cases hh)⟩
  ·rw [ha1]
   have ft' : bp (cz f.st f.u rd f.q) (cz f.st u' rd q') w5 w53 := k1.iW ft
   obtain ⟨hM53, sepW, qW⟩ := h.Gv hok (fun _ _ hh => by cases hh) ha1 hS' ft'
   obtain ⟨c1, c2⟩ := hM53.o.aM 4 (by simp) (.int .i64 (en : Int))
   refine ⟨_, _, rfl, aO A _, ao (fun hh => by cases hh) (fun _ => aa rfl ?_)⟩
   rw [add_lit]
   refine ⟨c1, fun w23 hw23 => ?_⟩
   obtain ⟨o23, e23, _⟩ := c2 w23 hw23
   have hM23 := hM53.ER e23 o23
   have hO' := yo h.O hok ha1 (fun a' t' he y hy => by cases he)
   have x23 : Ext (UB r rd f) w5 w23 := (ft'.1.mono (fun k hk => Or.inr hk)).trans e23 (fun _ h => h) (fun k hk => .inl (.inl (.inl hk)))
   have hS23 := hS'.ext e23 (fun k hk hh => sepW r (.inl rfl) (by rw [<- show k = r from hh]; exact hk))
   have fin : ∀ {w25}, ai w23 w25 -> zl w5 n0 r rd f d s m (none, ⟨V, s.tr, en, s.T⟩) none w25 := fun k25 =>
    .inl ⟨rfl, ⟨f.st, f.x, u', q', f.top⟩, d', ⟨hS23.af k25, hM23.af k25, hO', h.t, ⟨h.T.1, by show en <= 2 ^ 30; omega⟩, sepW, qW, h.n⟩, hn', hst', ⟨⟨x23.trans k25 (fun _ h => h) (fun _ h => h.elim), fun k hk => hk.elim (fun h => .inl (.inl h)) (fun h => (ft'.2 k h).imp .inr (fun h => h))⟩, fun k hk => .inl hk⟩⟩
   refine (qU hM23).mono ?_
   rintro e w25 ⟨rfl, k25⟩
   exact ⟨_, rfl, _, none, rfl, fin k25, fun _ => h.t.2⟩
  ·rw [ha1]
   have hO' := yo h.O hok ha1 (fun a' t' he y hy => by cases he)
   have hal := vh (jT ha1).1
   exact ⟨_, _, rfl, aO A _, ao (fun _ => ⟨_, some 11, rfl, .inr ⟨rfl, hst, q', d', hD', hn', hst', hcr.unit h.S.N ha1 rfl h.O ⟨hO', fun _ => rfl⟩, ⟨(k1.iW ft).1.mono (fun k hk => .inr hk), fun k hk => ((k1.iW ft).2 k hk).imp .inr (fun g => g)⟩⟩, fun hh => by cases hh⟩) (fun hh => by cases hh)⟩
 ·rw [if_pos (by omega)]
  refine (qU h.M).mono ?_
  rintro e w28 ⟨rfl, k28⟩
  exact ⟨_, rfl, _, none, rfl, h.u7 k28, fun _ => h.t.2⟩
theorem UnM.HK {st : Nat} {x : UnP} {tr ep top : Int} {pg : Int -> Option (List UInt8)} {ins : Int -> List Int} (h : UnM w r st x tr ep top pg ins) (n : Int) (hp : gJ KS w' x.mi (jl x.il n)) (he : Ext (fun j => j = x.mi) w w') : UnM w' r st { x with il := jl x.il n } tr ep top pg (iI ins n []) := by
 have lk : ∀ b, lookL (jl x.il n) b = if b = n then none else lookL x.il b := fun b => rF n b h.i.nd
 obtain ⟨_, _, hi1, _⟩ := h.i.at'
 have rmi := h.CO.2
 refine ⟨h.o.ext he (fun hh => rmi hh), h.p.ext he (fun hh => h.ne hh), hp, h.ne, fun a => ⟨fun s hs => ?_, (h.pv a).2⟩, fun b => ?_, fun a b s t ha hb hne => ?_, fun a s ha => ?_, fun a s hs h0 j hj => ?_⟩
 ·obtain ⟨t, g1, g2, g3⟩ := (h.pv a).1 s hs
  exact ⟨t, g1, aR g2 he (fun h0 j hj hh => cK g2 h0 (show au s x.mi from hh ▸ hj) hi1), g3⟩
 ·dsimp only
  rw [lk]
  unfold iI
  by_cases e : b = n
  ·rw [if_pos e, if_pos e]; exact bC.nil _
  ·rw [if_neg e, if_neg e]
   refine (h.iv b).ext he (fun j hj hh => ?_)
   obtain ⟨c, T, f, hc⟩ := Own.ne (h.iv b).own hj
   rw [hh, hi1] at hc; cases hc
 ·dsimp only at ha hb
  rw [lk] at ha hb
  by_cases e : a = n
  ·rw [if_pos e] at ha; cases ha
  ·by_cases e2 : b = n
   ·rw [if_pos e2] at hb; cases hb
   ·rw [if_neg e] at ha; rw [if_neg e2] at hb
    exact h.sep a b s t ha hb hne
 ·dsimp only at ha
  rw [lk] at ha
  by_cases e : a = n
  ·rw [if_pos e] at ha; cases ha
  ·rw [if_neg e] at ha
   exact h.ir a s ha
 ·obtain ⟨y1, y2⟩ := h.pb a s hs h0 j hj
  refine ⟨y1, fun b t hb => ?_⟩
  dsimp only at hb
  rw [lk] at hb
  by_cases e : b = n
  ·rw [if_pos e] at hb; cases hb
  ·rw [if_neg e] at hb
   exact y2 b t hb
theorem wT {x : UnP} {st : Nat} {tr ep top : Int} {pg : Int -> Option (List UInt8)} {ins : Int -> List Int} {r2 : Nat} (h : UnM w r st x tr ep top pg ins) (o2 : ak w r2 [aA r]) (sl : Slc) (l : List Int) (hl : bC w sl l) (hlen : l.length <= 2 ^ 40) :
  Calls Tryz.prog dj ⟨[sl.v, .func (.func eY) ⟨[]⟩ ⟨[aA r2]⟩]⟩ w fun e w' => e = .returned (.bool (!l.all fun a => decide (a < tr))) /\ w' = w := by
 refine dR _ _ ?_
 unfold bT
 have hsl := Rows.sl hl
 refine Calls.mono (R := fun e w' => ∃ n : Int, e = .returned (.int .i64 n) /\ (decide ((0 : Int) <= n)) = (!l.all fun a => decide (a < tr)) /\ w' = w) (eB _ _ ?_) ?_
 ·unfold cC
  refine ⟨fun i w2 => ∃ k : Nat, i = k /\ k <= l.length /\ (l.take k).all (fun a => decide (a < tr)) = true /\ w2 = w, fun i _ => ((l.length : Int) - i).toNat, ⟨0, rfl, by omega, by simp, rfl⟩, ?_⟩
  rintro i w6 ⟨k, rfl, hk, hall, rfl⟩
  intros
  refine ae (fun h0 => ?_) (fun h0 => ⟨-1, rfl, ?_, rfl⟩)
  ·have hkl : k < l.length := by omega
   obtain ⟨a, ha, hc⟩ := hl.get hkl
   refine aa ha ⟨by omega, h0, _, by rw [Int.toNat_natCast]; exact hc, ?_⟩
   refine Calls.mono (R := fun e w' => e = .returned (.bool (decide (tr <= l[k]))) /\ w' = w6) (mI _ _ ?_) ?_
   ·unfold jE
    exact aa rfl ⟨_, o2.cell 0 (by simp), aa rfl ⟨_, h.c.2.2.2.1, rfl, rfl⟩⟩
   ·rintro e w22 ⟨rfl, rfl⟩
    refine ⟨_, rfl, ae (fun h1 => ⟨_, rfl, ?_, rfl⟩) (fun h1 => ⟨aB (by omega), ⟨k + 1, rfl, hkl, ?_, rfl⟩, by dsimp only; omega⟩)⟩
    ·have : l.all (fun a => decide (a < tr)) = false := by
      rw [Bool.eq_false_iff]
      intro hh
      have := List.all_eq_true.1 hh _ (List.getElem_mem hkl)
      have h3 : l[k] < tr := by simpa using this
      omega
     rw [this]
     exact decide_eq_true (by omega)
    ·rw [ja _ _ hkl, List.all_append, hall]
     simp; omega
  ·have : k = l.length := by omega
   subst this
   rw [List.take_length] at hall
   rw [hall]; rfl
 ·rintro e w' ⟨n, rfl, hn, rfl⟩
  exact ⟨n, rfl, by rw [hn], rfl⟩
end
theorem Cg {g h : aV} {t : List aV} : dropR (sU (g :: h :: t)) (g.num : Int) = (none, sU (h :: t)) := by
 unfold dropR
 have : (sU (g :: h :: t)).findIdx? (fun x => decide ((x.num : Int) = (g.num : Int))) = some 0 := by
  simp [List.findIdx?_cons, aV.s]
 rw [this]
 simp
def pj (U : List aV) (tr ep : Nat) : Prop := ∃ M p n rs, U = M ++ [⟨p, n, rs ++ [.trim tr ep]⟩]
theorem pj.tail {g h : aV} {t : List aV} {tr ep : Nat} (hh : pj (g :: h :: t) tr ep) : pj (h :: t) tr ep := by
 obtain ⟨M, p, n, rs, e⟩ := hh
 cases M with
 | nil => simp at e
 | cons x M =>
  simp only [List.cons_append, List.cons.injEq] at e
  exact ⟨M, p, n, rs, e.2⟩
theorem pj.all {U : List aV} {tr ep : Nat} (hh : pj U tr ep) : ∃ R, eE U = R ++ [.trim tr ep] := by
 obtain ⟨M, p, n, rs, rfl⟩ := hh
 rw [pD]
 exact ⟨eE M ++ rs, by simp⟩
theorem AX {g : aV} {U : List aV} {tr : Nat} (h : ∀ a, tr <= a -> dD (pgU U) a = dD (pgU (g :: U)) a) : pgM U tr = pgM (g :: U) tr := by
 funext a
 unfold pgM
 split
 ·rfl
 ·rw [h _ (by omega)]
end Go.D
namespace Go.D
open Go Go.Proofs
section
variable {w w' : World} {n0 r rd m : Nat} {f : UnF} {d : aP} {s : UnS}
theorem UnM.Hs {st : Nat} {x : UnP} {tr ep top : Int} {pg : Int -> Option (List UInt8)} {ins : Int -> List Int} (h : UnM w r st x tr ep top pg ins) : ∀ k, UnY x k -> ¬ UnW r x k := by
 rintro k ⟨b, s0, hs0, h00, hk0⟩ hh
 obtain ⟨y1, y2⟩ := h.pb b s0 hs0 h00 k hk0
 obtain ⟨t0, _, hb0, _⟩ := (h.pv b).1 s0 hs0
 rcases hh with hh | hh | hh | ⟨n, s1, hs1, hk1⟩
 ·exact y1 hh
 ·obtain ⟨_, _, hp1, _⟩ := h.p.at'
  exact cK hb0 h00 hk0 (by rw [hh]; exact hp1)
 ·obtain ⟨_, _, hp1, _⟩ := h.i.at'
  exact cK hb0 h00 hk0 (by rw [hh]; exact hp1)
 ·exact y2 n s1 hs1 hk1
theorem Fa (P : List (Nat × List UInt8)) (tr : Nat) : (P.map fun y => (y.1 : Int)).all (fun a => decide (a < (tr : Int))) = P.all fun y => decide (y.1 < tr) := by
 rw [List.all_map]
 congr 1
 funext y
 simp [decide_eq_decide]
theorem qX {tr ep T : Nat} : ∀ U : List aV, gY U tr ep T -> pj U tr ep -> pgM (gq tr U) tr = pgM U tr
 | [], _, _ => rfl
 | [g], _, _ => rfl
 | g :: h :: t, hO, hend => by
  show pgM (if _ then _ else _) tr = _
  split
  ·rename_i hall
   obtain ⟨hO3, hpgA⟩ := gY.drop hO hend.tail.all (fun y hy => by
    have := List.all_eq_true.1 hall y hy
    simpa using this)
   rw [qX (h :: t) hO3 hend.tail, AX hpgA]
  ·rfl
theorem xG (A : Nat -> Addr) (h : UAt w n0 r rd f d s (m + 1)) (hE : aY A n0 w) (hm : m + 1 <= 2 ^ 60) (hend : pj s.U s.tr s.ep) :
  Calls Tryz.prog fM ⟨[aA r]⟩ w fun e w' => ∃ e', e = .returned (cF A e') /\ zl w n0 r rd f d s m (none, ⟨gq s.tr s.U, s.tr, s.ep, s.T⟩) e' w' := by
 refine oO _ ?_
 unfold kQ
 have hUL := h.S.len
 have hk19 := h.S.k
 have hULe : (sU s.U).length = s.U.length := by simp
 have hso := lb (R := fun a b => a < b) h.S.I.so
 refine aq (fun r2 w3 hr2 hb2 k2 hs2 => ?_)
 have o2 := ak.bO hb2
 have lt := h.lt
 refine ⟨_, o2.cell 0 (by simp), aa rfl ⟨_, (h.af k2).M.c.1, (oY (h.af k2).S.B.S (by omega)).mono ?_⟩⟩
 rintro e w8 ⟨s9, rfl, hI9, hf9, k8⟩
 have z3 := k2.size
 have z8 := k8.size
 have hl9 : s9.l = s.U.length := by
  have := Rows.sl hI9
  simpa using this
 have hne : s.U ≠ [] := by
  obtain ⟨M, p, n, rs, e⟩ := hend
  rw [e]; simp
 have hpos : 0 < s.U.length := List.length_pos_iff.2 hne
 refine ⟨s9, rfl, fun i w2 => ∃ (j : Nat) (f2 : UnF) (d2 : aP) (s2 : UnS), i = j /\ j < s.U.length /\ UAt w2 n0 r rd f2 d2 s2 (m + 1) /\ s2.U = s.U.drop j /\ s2.tr = s.tr /\ s2.ep = s.ep /\ s2.T = s.T /\ pgM s2.U s.tr = pgM s.U s.tr /\ gq s.tr s2.U = gq s.tr s.U /\ pj s2.U s.tr s.ep /\
   d2.n = d.n /\ d2.stops = d.stops /\ fF r rd f f2 w w2 /\ bC w2 s9 ((sU s.U).map fun g => (g.num : Int)) /\ (∀ k, UB r rd f2 k -> ¬ au s9 k /\ k ≠ r2) /\ ak w2 r2 [aA r], fun i _ => ((s.U.length : Int) - i).toNat,
  ⟨0, f, d, s, rfl, hpos, (h.af k2).af k8, by simp, rfl, rfl, rfl, rfl, rfl, hend, rfl, rfl, (k2.trans k8).uH (fF.refl _ _ _ _), hI9, fun k hk => ⟨fun hh => ?_, ?_⟩, o2.af k8⟩, ?_⟩
 ·have := hf9 k hh; have := lt.1 k hk; omega
 ·have := lt.1 k hk; omega
 rintro i w13 ⟨j, f2, d2, s2, rfl, hj, h2, e1, e2, e3, e4, e5, e6, hend2, hdn, hds, uf, hI13, hap, o13⟩
 intros
 have z13 := uf.1.1.size
 -- what there is
 have hdrop : s.U.drop j = s.U[j] :: s.U.drop (j + 1) := List.drop_eq_getElem_cons hj
 have same : ∀ U, wS U s2 -> wS U s := fun U ⟨t1, t2⟩ => by
  rw [e2, e3, e4] at t1
  refine ⟨t1, fun a => ?_⟩
  have := t2 a
  rw [e2] at this
  rw [this, e5]
 have done : ∀ {w5}, ai w13 w5 -> gq s.tr s2.U = s2.U -> zl w n0 r rd f d s m (none, ⟨gq s.tr s.U, s.tr, s.ep, s.T⟩) none w5 := fun k5 hr => by
  refine .inl ⟨rfl, f2, d2, ?_, hdn, hds, uf.af k5⟩
  have := h2.af k5
  rw [hr] at e6
  have e7 : s2 = ⟨gq s.tr s.U, s.tr, s.ep, s.T⟩ := by
   cases s2
   simp only at e2 e3 e4 e6 ⊢
   rw [e2, e3, e4, e6]
  rw [<- e7]; exact this
 refine ae (fun h0 => ?_) (fun h0 => absurd h0 (by omega))
 obtain ⟨a52, ha52, hc52⟩ := hI13.get (i := j) (by simpa using hj)
 have hnum : (((sU s.U).map fun g => (g.num : Int))[j]'(by simpa using hj)) = (s.U[j].num : Int) := by simp [aV.s]
 rw [hnum] at hc52
 refine aa ha52 ⟨by omega, h0, _, by rw [Int.toNat_natCast]; exact hc52, ?_⟩
 refine ⟨fun w2 => ai w13 w2 /\ ∃ g' t', s2.U = s.U[j] :: g' :: t' /\ (pagesOf s.U[j].rs).all (fun y => decide (y.1 < s.tr)) = true, ⟨_, o13.cell 0 (by simp), aa rfl ⟨_, h2.M.c.1, (wz h2.S.B.S (by have := h2.S.len; omega)).mono ?_⟩⟩, ?_⟩
 ·rintro e w59 ⟨rfl, k59⟩
  have h59 := h2.af k59
  have hlen2 : (sU s2.U).length = s.U.length - j := by rw [e1]; simp
  have hlast := pA (L := sU s2.U) (by omega)
  have hso2 := lb (R := fun a b => a < b) h2.S.I.so
  have e0 : s2.U = s.U[j] :: s.U.drop (j + 1) := by rw [e1, hdrop]
  refine ⟨_, rfl, ae (fun h3 => ?_) (fun h3 => ?_)⟩
  ·refine ⟨none, rfl, done k59 ?_⟩
   cases ht : s.U.drop (j + 1) with
   | nil => rw [e0, ht]; rfl
   | cons g' t' =>
    exfalso
    rw [hlast] at h3
    have hl : (s2.U).length = t'.length + 2 := by rw [e0, ht]; simp
    have e8 : ((sU s2.U)[(sU s2.U).length - 1]'(by omega)).num = (s2.U[s2.U.length - 1]'(by omega)).num := by simp [aV.s]
    rw [e8] at h3
    have := List.pairwise_iff_getElem.1 hso2 0 (s2.U.length - 1) (by omega) (by omega) (by omega)
    have e9 : s2.U[0]'(by omega) = s.U[j] := by simp [e0]
    rw [e9] at this
    omega
  ·cases ht : s.U.drop (j + 1) with
   | nil =>
    exfalso
    rw [hlast] at h3
    have hl : (s2.U).length = 1 := by rw [e0, ht]; simp
    have e8 : ((sU s2.U)[(sU s2.U).length - 1]'(by omega)).num = (s2.U[s2.U.length - 1]'(by omega)).num := by simp [aV.s]
    rw [e8] at h3
    have e9 : s2.U[s2.U.length - 1]'(by omega) = s.U[j] := by simp [e0, ht]
    rw [e9] at h3
    omega
   | cons g' t' =>
    rw [ht] at e0
    have hdist : ∀ y ∈ g' :: t', y.num ≠ s.U[j].num := fun y hy => by
     rw [e0] at hso2
     have := (List.pairwise_cons.1 hso2).1 y hy; omega
    obtain ⟨es, g1, g2⟩ := h59.M.i.get
    have hiv := h59.M.iv (s.U[j].num : Int)
    have hfew := h2.O.zk (s.U[j].num : Int)
    have hin : iJ s2.U (s.U[j].num : Int) = (pagesOf s.U[j].rs).map fun y => (y.1 : Int) := by rw [e0]; exact DF hdist
    refine ⟨_, (o13.af k59).cell 0 (by simp), aa rfl ⟨_, h59.M.c.2.2.1, es, g1, lookL f2.x.il (s.U[j].num : Int), g2 _, (wT h59.M (o13.af k59) _ _ hiv (by omega)).mono ?_⟩⟩
    rintro e w67 ⟨rfl, rfl⟩
    rw [hin, e2, Fa]
    refine ⟨_, rfl, ao (fun h4 => ⟨none, rfl, done k59 ?_⟩) (fun h4 => ⟨k59, g', t', e0, by simpa using h4⟩)⟩
    have h5 : (pagesOf s.U[j].rs).all (fun y => decide (y.1 < s.tr)) = false := by simpa using h4
    rw [e0]
    show (if _ then _ else _) = _
    rw [h5, if_neg (by simp)]
 ·rintro w69 ⟨k69, g', t', e0, hall⟩
  intros
  have h69 := h2.af k69
  have z69 := k69.size
  have hG : aY A n0 w69 := ((hE.ext uf.1.1 h.ge).af k69)
  have hso2 := lb (R := fun a b => a < b) h2.S.I.so
  refine ⟨_, (o13.af k69).cell 0 (by simp), aa rfl ⟨_, h69.M.c.1, (B3 A h69.S (hG.g.sub sj) hm (s.U[j].num : Int)).mono ?_⟩⟩
  rintro e w92 ⟨e', rfl, q', d', hD', hdn', hds', hcase⟩
  rw [e0, Cg] at hcase
  have hok2 := h2.O
  rw [e0] at hok2
  have hend3 : pj (g' :: t') s.tr s.ep := by rw [e0] at hend2; exact hend2.tail
  obtain ⟨hO3, hpgA⟩ := gY.drop (tr := s2.tr) (ep := s2.ep) (T := s2.T) hok2 (by rw [e2, e3]; exact hend3.all) (fun y hy => by
   have := List.all_eq_true.1 hall y hy
   rw [e2]; simpa using this)
  have hpgD := AX hpgA
  have hdist : ∀ y ∈ g' :: t', y.num ≠ s.U[j].num := fun y hy => by
   rw [e0] at hso2
   have := (List.pairwise_cons.1 hso2).1 y hy; omega
  rcases hcase with ⟨h5, _⟩ | ⟨_, rfl, u', hS', ft⟩ | ⟨_, rfl, hst, hcr, ft⟩
  ·exact absurd rfl h5
  ·refine ⟨_, rfl, aO A _, ao (fun hh => by cases hh) (fun _ => ?_)⟩
   have hM92 := h69.M.ext ft.1 h69.sep (fun k hk hh => h69.qW k hk (.inr hh))
   have sepW : ∀ k, UnW r f2.x k -> ¬ cz f2.st u' rd q' k := fun k hk hh => (ft.2 k hh).elim (h2.sep k hk) (fun hh => by have := h69.M.lt.1 k hk; omega)
   have hb92 : ∀ k, cz f2.st u' rd q' k -> ¬ au s9 k /\ k ≠ r2 := fun k hk => by
    rcases ft.2 k hk with g | g
    ·exact hap k (.inr g)
    ·refine ⟨fun hh => ?_, fun hh => ?_⟩
     ·have := Rows.lt hI13 k hh; omega
     ·have := o13.lt; omega
   have I92 := (hI13.af k69).ext ft.1 (fun k hk hh => (hap k (.inr hh)).1 hk)
   have o92 := (o13.af k69).ext ft.1 (fun hh => (hap _ (.inr hh)).2 rfl)
   obtain ⟨es1, ck1, es2, m1, m2, m3⟩ := hM92.i.del (s.U[j].num : Int)
   refine ⟨_, o92.cell 0 (by simp), aa rfl ⟨_, hM92.c.2.2.1, f2.x.mi, es1, ck1, es2, rfl, m1, m2, fun w101 hw101 => ?_⟩⟩
   obtain ⟨i101, e101, z101⟩ := m3 w101 hw101
   have hM101 := hM92.HK (s.U[j].num : Int) i101 e101
   have hin : iJ (g' :: t') = iI (iJ s2.U) (s.U[j].num : Int) [] := by rw [e0]; exact DG hdist
   rw [<- hin] at hM101
   have hpg : pgM s2.U s2.tr = pgM (g' :: t') s2.tr := by rw [e0]; exact hpgD.symm
   rw [hpg] at hM101
   have hS101 := hS'.ext e101 (fun k hk hh => sepW f2.x.mi (.inr (.inr (.inl rfl))) (by rw [<- show k = f2.x.mi from hh]; exact hk))
   have jlt : j + 1 < s.U.length := by
    have : (s.U.drop j).length = t'.length + 2 := by rw [<- e1, e0]; simp
    rw [List.length_drop] at this; omega
   have subW : ∀ k, UnW r { f2.x with il := jl f2.x.il (s.U[j].num : Int) } k -> UnW r f2.x k := by
    rintro k (hk | hk | hk | ⟨b, s1, hs1, hk⟩)
    ·exact .inl hk
    ·exact .inr (.inl hk)
    ·exact .inr (.inr (.inl hk))
    ·dsimp only at hs1
     rw [rF _ b h2.M.i.nd] at hs1
     by_cases e : b = (s.U[j].num : Int)
     ·rw [if_pos e] at hs1; cases hs1
     ·rw [if_neg e] at hs1
      exact .inr (.inr (.inr ⟨b, s1, hs1, hk⟩))
   have x101 : Ext (UB r rd f2) w13 w101 := (Ext.trans k69 (ft.1.mono (fun k hk => Or.inr hk)) (fun _ h => h.elim) (fun _ h => .inl h)).trans e101 (fun _ h => h) (fun k hk => .inl (.inl (.inr (.inr (.inl hk)))))
   have uf101 : fF r rd f2 ⟨f2.st, { f2.x with il := jl f2.x.il (s.U[j].num : Int) }, u', q', f2.top⟩ w13 w101 := by
    refine ⟨⟨x101, fun k hk => ?_⟩, fun k hk => .inl hk⟩
    rcases hk with hk | hk
    ·exact .inl (.inl (subW k hk))
    ·exact (ft.2 k hk).elim (fun g => .inl (.inr g)) (fun g => .inr (by omega))
   refine ⟨aB (by omega), ⟨j + 1, ⟨f2.st, { f2.x with il := jl f2.x.il (s.U[j].num : Int) }, u', q', f2.top⟩, d', ⟨g' :: t', s2.tr, s2.ep, s2.T⟩, rfl, jlt, ⟨hS101, hM101, hO3, h2.t, h2.T, fun k hk hh => sepW k (subW k hk) hh, fun k hk hh => ?_, fun k hk => h2.n k (subW k hk)⟩, ?_, e2, e3, e4, ?_, ?_, hend3, by rw [hdn', hdn], by rw [hds', hds], uf.trans uf101, ?_, ?_, ?_⟩, by dsimp only; omega⟩
   ·rcases hh with hh | hh
    ·exact h2.qW k hk (.inl (subW k hh))
    ·rcases ft.2 k hh with g | g
     ·exact h2.qW k hk (.inr g)
     ·have := h69.M.lt.2 k hk; omega
   ·show g' :: t' = s.U.drop (j + 1)
    have : (s.U.drop j).tail = (s2.U).tail := by rw [e1]
    rw [hdrop, e0] at this
    exact this.symm
   ·show pgM (g' :: t') s.tr = _
    rw [<- e5, <- e2, hpg]
   ·show gq s.tr (g' :: t') = _
    rw [<- e6, e0]
    show _ = (if _ then _ else _)
    rw [hall, if_pos rfl]
   ·exact I92.ext e101 (fun k hk hh => (hap k (.inl (.inr (.inr (.inl hh))))).1 hk)
   ·rintro k (hk | hk)
    ·exact hap k (.inl (subW k hk))
    ·exact hb92 k hk
   ·exact o92.ext e101 (fun hh => (hap r2 (.inl (.inr (.inr (.inl hh))))).2 rfl)
  ·refine ⟨_, rfl, aO A _, ao (fun _ => ⟨some 11, rfl, .inr ⟨rfl, by rw [<- hds]; exact hst, q', d', hD', by rw [hdn', hdn], by rw [hds', hds], ⟨hcr.1, fun a b c => ?_⟩, ?_⟩⟩) (fun hh => by cases hh)⟩
   ·obtain ⟨L, hL, hI⟩ := hcr.2 a b c
    rw [hdn] at hI
    simp only [List.mem_cons, List.not_mem_nil, or_false] at hL
    rcases hL with rfl | rfl
    ·refine ⟨s.U[j] :: g' :: t', hI, fun g hg => h2.S.N g (by rw [e0]; exact hg), s, by simp, same _ ⟨hok2, fun a => by rw [e0]⟩⟩
    ·refine ⟨g' :: t', hI, fun g hg => h2.S.N g (by rw [e0]; exact List.mem_cons_of_mem _ hg), s, by simp, same _ ⟨hO3, fun a => by rw [hpgD, e0]⟩⟩
   ·have f1 : bp (UB r rd f2) (bj rd q') w13 w92 := ⟨Ext.trans k69 (ft.1.mono (fun k hk => Or.inr hk)) (fun _ h => h.elim) (fun _ h => .inl h), fun k hk => (ft.2 k hk).elim (fun g => .inl (.inr g)) (fun g => .inr (by omega))⟩
    exact uf.1.trans f1
theorem wS.trans {U : List aV} {s1 s2 : UnS} (h : wS U s1) (e1 : s2.tr = s1.tr) (e2 : s2.ep = s1.ep) (e3 : s2.T = s1.T) (e4 : ∀ a, pgM s1.U s1.tr a = pgM s2.U s1.tr a) : wS U s2 := by
 obtain ⟨t1, t2⟩ := h
 refine ⟨by rw [e1, e2, e3]; exact t1, fun a => ?_⟩
 rw [e1, t2 a, e4 a]
theorem Ch (A : Nat -> Addr) (h : UAt w n0 r rd f d s m) (hE : aY A n0 w) (hm : m + 1 <= 2 ^ 60) (epoch to : Int) :
  Calls Tryz.prog ig ⟨[aA r, .int .i64 epoch, .int .i64 to]⟩ w fun e w' => ∃ e', e = .returned (cF A e') /\ zl w n0 r rd f d s m (ym (d.n / 64) s epoch to) e' w' := by
 refine rB _ _ _ ?_
 unfold oP
 have hG : bF DB A n0 w := hE.g.sub sB
 refine (pd A h.M epoch to 4096 hG).mono ?_
 rintro e w6 ⟨rfl, rfl⟩
 unfold ym
 cases hc : dT s.ep epoch to 4096 with
 | some c => exact ⟨_, rfl, aO A _, ao (fun _ => ⟨_, rfl, h.u7 (Ext.refl _ _)⟩) (fun hh => by cases hh)⟩
 | none =>
  have ha : 0 <= to /\ to <= 4096 := by
   unfold dT at hc
   split at hc
   ·cases hc
   ·split at hc
    ·cases hc
    ·omega
  refine ⟨_, rfl, aO A _, ao (fun hh => by cases hh) (fun _ => aa rfl ⟨_, h.M.c.2.2.2.1, ae (fun h0 => ?_) (fun h0 => ?_)⟩)⟩
  ·dsimp only
   rw [if_pos h0]
   exact ⟨none, rfl, h.u7 (Ext.refl _ _)⟩
  dsimp only
  rw [if_neg h0]
  obtain ⟨tn, rfl⟩ : ∃ tn : Nat, to = tn := ⟨to.toNat, by omega⟩
  rw [Int.toNat_natCast]
  have hok : okR (.trim tn s.ep) := ⟨by omega, h.T.2⟩
  have ht4 := h.T.1
  have htt := h.t
  have htl := h.O.tl
  refine (mX A h.S h.M hE (by omega) (.trim tn s.ep) hok (fun _ _ hh => by cases hh; rfl) ⟨none, 0, 0⟩ (fun ⟨_, _, hh⟩ => by cases hh)).mono ?_
  rintro e w53 ⟨n, e', w1, rfl, k1, hp⟩
  rcases hp.unit hok with ⟨ha1, rfl, hD, hk⟩ | ⟨n', V, ha1, rfl, rfl, u', q', d', hS', hn', hst', ft⟩ | ⟨n', V, ha1, rfl, hst, q', d', hD', hn', hst', hcr, ft⟩
  ·rw [ha1]
   exact ⟨_, _, rfl, aO A _, ao (fun _ => ⟨_, rfl, h.u7 (k1.trans hk)⟩) (fun hh => by cases hh)⟩
  ·rw [ha1]
   have hO' := yo h.O hok ha1 (fun a' t' he y hy => by cases he)
   have eT : max (dV (pgU s.U)) tn = max s.T tn := by omega
   have ft' : bp (cz f.st f.u rd f.q) (cz f.st u' rd q') w6 w53 := k1.iW ft
   obtain ⟨hM53, sepW, qW⟩ := h.Gv hok (fun _ _ hh => by cases hh) ha1 hS' ft'
   obtain ⟨c1, c2⟩ := hM53.o.aM 3 (by simp) (.int .i64 (tn : Int))
   refine ⟨_, _, rfl, aO A _, ao (fun hh => by cases hh) (fun _ => aa rfl ?_)⟩
   rw [add_lit]
   refine ⟨c1, fun w14 hw14 => ?_⟩
   obtain ⟨o14, e14, _⟩ := c2 w14 hw14
   have hM14 := hM53.ER e14 o14
   have hS14 := hS'.ext e14 (fun k hk hh => sepW r (.inl rfl) (by rw [<- show k = r from hh]; exact hk))
   have x14 : Ext (UB r rd f) w6 w14 := (ft'.1.mono (fun k hk => Or.inr hk)).trans e14 (fun _ h => h) (fun k hk => .inl (.inl (.inl hk)))
   refine (sC hM14).mono ?_
   rintro e w16 ⟨rfl, x', hM16, t1, t2, t3⟩
   have z53 := ft'.1.size
   have z14 := e14.size
   have z16 := t1.size
   have hcut : wO (tn : Int) (pgM V s.tr) = pgM V tn := by
    funext a
    unfold wO pgM
    by_cases e : a < (tn : Int)
    ·rw [if_pos e, if_pos e]
    ·rw [if_neg e, if_neg e, if_neg (by omega)]
   rw [hcut] at hM16
   have hSlt := hS'.B.lt
   have x16 : Ext (UB r rd f) w6 w16 := x14.trans t1 (fun _ h => h) (fun k hk => .inl (.inl hk))
   have hO1 : gY V tn s.ep (max s.T tn) := by
    have := hO'
    simp only [kr, tailR] at this
    rw [eT] at this; exact this
   have h16 : UAt w16 n0 r rd ⟨f.st, x', u', q', f.top⟩ d' ⟨V, tn, s.ep, max s.T tn⟩ (m + 1) := by
    refine ⟨hS14.ext t1 (fun k hk hh => sepW k hh hk), hM16, hO1, ⟨htt.1, by show max f.top (tn : Int) = ((max s.T tn : Nat) : Int); omega⟩, ⟨by show max s.T tn <= 4096; omega, h.T.2⟩, fun k hk hh => ?_, fun k hk hh => ?_, fun k hk => ?_⟩
    ·rcases t2 k hk with g | g
     ·exact sepW k g hh
     ·have := hSlt k hh; omega
    ·rcases hh with hh | hh
     ·exact hM16.Hs k hk hh
     ·have hl := hSlt k hh
      rcases t3 k hk with g | g | g
      ·exact qW k g (.inr hh)
      ·exact g
      ·omega
    ·rcases t2 k hk with g | g
     ·exact h.n k g
     ·have := h.S.B.z; omega
   have uf16 : fF r rd f ⟨f.st, x', u', q', f.top⟩ w6 w16 := by
    refine ⟨⟨x16, fun k hk => ?_⟩, fun k hk => ?_⟩
    ·rcases hk with hk | hk
     ·rcases t2 k hk with g | g
      ·exact .inl (.inl g)
      ·exact .inr (by omega)
     ·exact (ft'.2 k hk).imp .inr (fun g => g)
    ·rcases t3 k hk with g | g | g
     ·exact .inl g
     ·exact g.elim
     ·exact .inr (by omega)
   have hend : pj V tn s.ep := by
    obtain ⟨_, _, M, g, rfl, _⟩ := jT ha1
    exact ⟨M, g.place, g.num, g.rs, rfl⟩
   refine ⟨rfl, (xG A h16 (hE.ext x16 h.ge) hm hend).mono ?_⟩
   rintro e w18 ⟨e', rfl, hcase⟩
   refine ⟨_, rfl, e', rfl, ?_⟩
   rcases hcase with ⟨rfl, f2, d2, h2, hd1, hd2, uf⟩ | ⟨rfl, hst, q2, d2, hD2, hd1, hd2, hcr, ft2⟩
   ·exact .inl ⟨rfl, f2, d2, h2, by rw [hd1, hn'], by rw [hd2, hst'], uf16.trans uf⟩
   ·refine .inr ⟨rfl, by rw [<- hst']; exact hst, q2, d2, hD2, by rw [hd1, hn'], by rw [hd2, hst'], ⟨hcr.1, fun a b c => ?_⟩, uf16.1.trans ft2⟩
    obtain ⟨U2, g1, g2, s2, g3, g4⟩ := hcr.2 a b c
    rw [hn'] at g1
    refine ⟨U2, g1, g2, _, List.mem_cons_of_mem _ (List.mem_singleton.2 rfl), ?_⟩
    simp only [List.mem_cons, List.not_mem_nil, or_false] at g3
    rcases g3 with rfl | rfl
    ·exact g4.trans rfl rfl rfl (fun a => by rw [qX V hO1 hend])
    ·exact g4
  ·rw [ha1]
   have hO' := yo h.O hok ha1 (fun a' t' he y hy => by cases he)
   have eT : max (dV (pgU s.U)) tn = max s.T tn := by omega
   have hO1 : gY V tn s.ep (max s.T tn) := by
    have := hO'
    simp only [kr, tailR] at this
    rw [eT] at this; exact this
   have hend : pj V tn s.ep := by
    obtain ⟨_, _, M, g, rfl, _⟩ := jT ha1
    exact ⟨M, g.place, g.num, g.rs, rfl⟩
   exact ⟨_, _, rfl, aO A _, ao (fun _ => ⟨some 11, rfl, .inr ⟨rfl, hst, q', d', hD', hn', hst', hcr.unit h.S.N ha1 rfl h.O ⟨hO1, fun a => by rw [qX V hO1 hend]⟩, ⟨(k1.iW ft).1.mono (fun k hk => .inr hk), fun k hk => ((k1.iW ft).2 k hk).imp .inr (fun g => g)⟩⟩⟩) (fun hh => by cases hh)⟩
end
end Go.D
namespace Go.D
open Go Go.Proofs
theorem zl.live {w w' : World} {n0 r rd m : Nat} {f : UnF} {d : aP} {s : UnS} {p : Option Nat × UnS} {e' : Option Nat} (h : zl w n0 r rd f d s m p e' w') (hst : d.stops = false) :
  e' = p.1 /\ ∃ f' d', UAt w' n0 r rd f' d' p.2 (m + 1) /\ d'.n = d.n /\ d'.stops = false /\ fF r rd f f' w w' := by
 rcases h with ⟨h1, f', d', h2, h3, h4, h5⟩ | ⟨_, h2, _⟩
 ·exact ⟨h1, f', d', h2, h3, by rw [h4]; exact hst, h5⟩
 ·rw [hst] at h2; cases h2
theorem AY (A : Nat -> Addr) (n : Nat) (hn : 1 <= n /\ n < 20) (w0 w : World) (hE : bA A w0) (hk : ai w0 w) :
  Calls Tryz.prog kH ⟨[.int .i64 ((64 * n : Nat) : Int)]⟩ w fun e w' => ∃ rd q d, e = .returned (.tuple ⟨[aA rd, .nilIface]⟩) /\ ai w w' /\ d.n / 64 = n /\ d.stops = false /\
   ∀ w2, ai w' w2 -> Calls Tryz.prog jM ⟨[aA rd]⟩ w2 fun e w3 => ∃ r f, e = .returned (.tuple ⟨[aA r, .nilIface]⟩) /\ UAt w3 w0.heap.size r rd f d ⟨[], 0, 0, 0⟩ 0 /\ f.q = q /\ ai w2 w3 /\ (∀ j, UB r rd f j -> w.heap.size <= j) /\ (∀ j, UnY f.x j -> w.heap.size <= j) := by
 have hB : aY A w0.heap.size w0 := hE.b
 refine (Dr A _ w ((hB.g.af hk).sub (fun g hg => sj g (fS g hg)))).mono ?_
 rintro e w3 ⟨k3, hc⟩
 rw [if_neg (by omega)] at hc
 obtain ⟨rd, q, rfl, hD, hDf⟩ := hc
 have hn' : (Et (Int.toNat ((64 * n : Nat) : Int))).n = 64 * n := by rw [GV]; omega
 refine ⟨rd, q, _, rfl, k3, by rw [hn']; omega, rfl, fun w2 k2 => ?_⟩
 have z0 := hk.size
 have z3 := k3.size
 have z2 := k2.size
 refine (Ce A (hB.af ((hk.trans k3).trans k2)) (hD.af k2) rfl (U := []) (tr := 0) (ep := 0) (T := 0) (EM _ _) gY.nil (by omega) (by rw [hn']; omega) (m := 0) (by simp) (by omega) (fun j hj => by have := hDf j hj; omega) (by omega)).mono ?_
 rintro e w4 ⟨r, f, rfl, hU, hq, hUB, hUY, k4⟩
 exact ⟨r, f, rfl, hU, hq, k4, fun j hj => (hUB j hj).elim (hDf j) (fun g => by omega), fun j hj => by have := hUY j hj; omega⟩
end Go.D
namespace Go.D
theorem AZ : ∀ (l : List Int), (∀ n ∈ l, n <= 4611686018427387903) -> ((l.map fun n => bo n.toNat).flatten).length <= 9 * l.length
 | [], _ => by simp
 | n :: l, h => by
  have h1 := AZ l (fun n hn => h n (by simp [hn]))
  have h2 := h n (by simp)
  have h3 := bI n.toNat 8 (by omega)
  simp at h1 ⊢; omega
end Go.D
namespace Go.D
open Go Go.Proofs
theorem u9 : ∀ (n : Nat) (z : Int) (w : World), z = n -> n <= 9223372036854775807 ->
  Calls Tryz.prog bH ⟨[.int .i64 z]⟩ w fun e w' => ∃ s : Slc, e = .returned s.v /\ Own w' s 1 ((bo n).map aJ) /\ aF w s /\ ai w w' := by
 intro n
 induction n using Nat.strongRecOn with
 | ind n ih =>
  intro z w hz hn
  refine nV _ ?_
  unfold j7
  refine ae (fun h => ?_) (fun h => ?_)
  ·refine aq (fun r w3 hr hb hk hs => ?_)
   rw [hz, rT] at hb
   refine ⟨_, rfl, ?_, aF.at (by omega), hk⟩
   rw [zh (by omega)]
   exact Own.new (sz := 1) hb (.inl (by simp)) rfl
  ·refine ⟨by omega, by omega, aB (by omega), aq (fun r w5 hr hb hk hs => ?_)⟩
   rw [show (z % 128 + 128) = ((n % 128 + 128 : Nat) : Int) by omega, rT] at hb
   refine ⟨by omega, by omega, aB (by omega), ?_⟩
   refine (ih (n / 128) (by omega) (z / 128) w5 (by omega) (by omega)).mono ?_
   rintro e w7 ⟨s8, rfl, h8, f8, k8⟩
   have ho : Own w7 ⟨some ⟨r, 0, none⟩, 1, 1⟩ 1 ([UInt8.ofNat (n % 128 + 128)].map aJ) := Own.af (Own.new (sz := 1) hb (.inl (by simp)) rfl) k8
   have hle := bI (n / 128) 9 (by omega)
   have h81 := h8.bytes.1
   refine ⟨s8, rfl, bf (w0 := w) ho rfl (aF.at (by omega)) (hk.trans k8) (aW h8.bytes) (by simp only [Src.n]; omega) (fun s9 w10 g1 g2 g3 g4 => ?_)⟩
   refine ⟨s9, rfl, ?_, g3, g2⟩
   rw [zi (by omega)]
   exact g1
theorem pk (n : Nat) (w : World) (h : n <= 9223372036854775807) :
  Calls Tryz.prog bH ⟨[.int .i64 (n : Int)]⟩ w fun e w' => ∃ s : Slc, e = .returned s.v /\ Own w' s 1 ((bo n).map aJ) /\ aF w s /\ ai w w' := u9 n n w rfl h
end Go.D
namespace Go.D
open Go Go.Proofs
theorem va (t : List UInt8) (w : World) (hl : t.length <= 2 ^ 20) :
  Calls Tryz.prog eU ⟨[fG t]⟩ w fun e w' => ∃ s : Slc, e = .returned s.v /\ Own w' s 1 ((bo t.length ++ t).map aJ) /\ aF w s /\ ai w w' := by
 refine mJ _ ?_
 unfold jF
 refine (pk t.length w (by omega)).mono ?_
 rintro e w3 ⟨s4, rfl, h4, f4, k4⟩
 have hle := bI t.length 9 (by omega)
 have h41 := h4.bytes.1
 refine ⟨s4, rfl, bf (w0 := w) h4 rfl f4 k4 ⟨rfl, rfl⟩ (by simp only [Src.n]; omega) (fun s9 w10 g1 g2 g3 g4 => ?_)⟩
 exact ⟨s9, rfl, g1, g3, g2⟩
end Go.D
namespace Go.D
def ld (s : Nat) : Nat := if s &&& 1 = 1 then (s / 2) ^^^ 3988292384 else s / 2
def iterB : Nat -> Nat -> Nat
 | 0, s => s
 | n + 1, s => ld (iterB n s)
def A0 (s : Nat) (c : UInt8) : Nat := iterB 8 (s ^^^ c.toNat)
def qY (s : Nat) (b : List UInt8) : Nat := b.foldl A0 s
def crc (b : List UInt8) : Nat := 4294967295 ^^^ qY 4294967295 b
theorem Ci {s : Nat} (h : s < 4294967296) : ld s < 4294967296 := by
 unfold ld
 split
 ·exact Nat.xor_lt_two_pow (n := 32) (by omega) (by decide)
 ·omega
theorem wU {s : Nat} (h : s < 4294967296) : ∀ n, iterB n s < 4294967296
 | 0 => h
 | n + 1 => Ci (wU h n)
theorem A1 {s : Nat} (h : s < 4294967296) (c : UInt8) : A0 s c < 4294967296 :=
 wU (Nat.xor_lt_two_pow (n := 32) h (by have := c.toNat_lt; omega)) 8
theorem CR : ∀ (b : List UInt8) {s : Nat}, s < 4294967296 -> qY s b < 4294967296
 | [], _, h => h
 | c :: b, s, h => CR b (A1 h c)
theorem GZ (b : List UInt8) : crc b < 4294967296 := Nat.xor_lt_two_pow (n := 32) (by decide) (CR b (by decide))
theorem A2 (s : Nat) (a b : List UInt8) : qY s (a ++ b) = qY (qY s a) b := by simp [qY]
def mZ (r bit : Nat) : Nat := if r &&& 1 = bit then r / 2 else (r / 2) ^^^ 3988292384
def refRest (r c : Nat) : Nat -> Nat
 | 0 => r
 | i + 1 => mZ (refRest r c i) ((c / 2 ^ i) &&& 1)
theorem G0 (n : Nat) : n &&& 1 = n % 2 := Nat.and_one_is_mod n
theorem Fb (a b : Nat) : (a ^^^ b) % 2 = (a % 2 + b % 2) % 2 := by
 have h := Nat.xor_mod_two_pow (a := a) (b := b) (n := 1)
 rw [Nat.pow_one] at h
 rw [h]
 rcases Nat.mod_two_eq_zero_or_one a with h1 | h1 <;> rcases Nat.mod_two_eq_zero_or_one b with h2 | h2 <;> simp [h1, h2]
theorem Fc (a b : Nat) : (a ^^^ b) / 2 = a / 2 ^^^ b / 2 := by
 have := Nat.shiftRight_xor_distrib (a := a) (b := b) (i := 1)
 simpa [Nat.shiftRight_eq_div_pow] using this
theorem G1 (a b c : Nat) : a ^^^ (b ^^^ c) = b ^^^ (a ^^^ c) := by
 rw [<- Nat.xor_assoc, Nat.xor_comm a b, Nat.xor_assoc]
theorem Gg (r c : Nat) : ld (r ^^^ c) = mZ r (c &&& 1) ^^^ (c / 2) := by
 unfold ld mZ
 rw [G0, G0, G0, Fb, Fc]
 rcases Nat.mod_two_eq_zero_or_one r with h1 | h1 <;> rcases Nat.mod_two_eq_zero_or_one c with h2 | h2 <;> simp [h1, h2, Nat.xor_assoc, Nat.xor_comm, G1]
theorem A3 (r c : Nat) : ∀ i, iterB i (r ^^^ c) = refRest r c i ^^^ (c / 2 ^ i)
 | 0 => by simp [iterB, refRest]
 | i + 1 => by
  rw [iterB, A3 r c i, Gg, refRest, Nat.div_div_eq_div_mul, <- Nat.pow_succ]
theorem Fe (r : Nat) (c : UInt8) : refRest r c.toNat 8 = A0 r c := by
 unfold A0
 rw [A3]
 have : c.toNat / 2 ^ 8 = 0 := by have := c.toNat_lt; omega
 rw [this, Nat.xor_zero]
theorem wV {r c : Nat} (h : r < 4294967296) : ∀ i, refRest r c i < 4294967296
 | 0 => h
 | i + 1 => by
  have := wV (c := c) h i
  unfold refRest mZ
  split
  ·omega
  ·exact Nat.xor_lt_two_pow (n := 32) (by omega) (by decide)
end Go.D
namespace Go.D
open Go Go.Proofs
theorem pF (a : Nat) : bitsI .and (a : Int) 1 = ((a &&& 1 : Nat) : Int) := rfl
theorem DI (s : Nat) (c : UInt8) (hs : s < 4294967296) (w : World) :
  Calls Tryz.prog mD ⟨[.int .u32 (s : Int), .int .u8 (c.toNat : Int)]⟩ w fun e w' => e = .returned (.int .u32 (A0 s c : Int)) /\ w' = w := by
 have hc := c.toNat_lt
 refine yS _ _ ?_
 unfold xS
 refine ⟨eg (by omega), by omega, by omega, eg (by omega), eg (by omega), ?_⟩
 refine ⟨fun s' i w' => w' = w /\ ∃ k : Nat, i = k /\ k <= 8 /\ s' = (iterB k (s ^^^ c.toNat) : Nat), fun _ i _ => (8 - i).toNat, ⟨rfl, 0, rfl, by omega, rfl⟩, ?_⟩
 rintro s' i w' ⟨rfl, k, rfl, hk, rfl⟩
 intros
 have hx : s ^^^ c.toNat < 4294967296 := Nat.xor_lt_two_pow (n := 32) hs (by omega)
 have hb := wU hx k
 refine ae (fun h => ?_) (fun h => ?_)
 ·refine ⟨by omega, by omega, eg (by omega), eg (by omega), by omega, by omega, ?_⟩
  have e : ld (iterB k (s ^^^ c.toNat)) = iterB (k + 1) (s ^^^ c.toNat) := rfl
  refine ae (fun h1 => ?_) (fun h1 => ?_)
  ·refine ⟨by omega, by omega, eg (by omega), eg (by omega), aB (by omega), ⟨rfl, k + 1, rfl, by omega, ?_⟩, by dsimp only; omega⟩
   have h2 : iterB k (s ^^^ c.toNat) &&& 1 = 1 := by have := pF (iterB k (s ^^^ c.toNat)); omega
   rw [<- e, ld, if_pos h2]
   rfl
  ·refine ⟨aB (by omega), ⟨rfl, k + 1, rfl, by omega, ?_⟩, by dsimp only; omega⟩
   have h2 : ¬ iterB k (s ^^^ c.toNat) &&& 1 = 1 := by have := pF (iterB k (s ^^^ c.toNat)); omega
   rw [<- e, ld, if_neg h2]
   rfl
 ·obtain rfl : k = 8 := by omega
  exact ⟨rfl, rfl⟩
theorem A4 (parts : Slc) (ps : List Slc) (bs : List (List UInt8)) (w : World) (h : Eh w parts ps bs) (hl : parts.l <= 2 ^ 40) (hll : ∀ i (h : i < ps.length), ps[i].l <= 2 ^ 40) :
  Calls Tryz.prog kI ⟨[parts.v]⟩ w fun e w' => e = .returned (.int .u32 (crc bs.flatten : Int)) /\ w' = w := by
 obtain ⟨h1, h2, h3, h4⟩ := h
 refine Aj _ ?_
 unfold Ai
 refine ⟨fun s i w' => w' = w /\ ∃ k t : Nat, i = k /\ k <= ps.length /\ s = t /\ t < 4294967296 /\ qY t (bs.drop k).flatten = qY 4294967295 bs.flatten, fun _ i _ => (ps.length - i).toNat,
  ⟨rfl, 0, 4294967295, rfl, by omega, rfl, by omega, rfl⟩, ?_⟩
 rintro s i w' ⟨rfl, k, t, rfl, hk, rfl, ht, hsum⟩
 intros
 refine ae (fun h => ?_) (fun h => ?_)
 ·have hk' : k < ps.length := by omega
  refine lq h2 (i := k) (by simpa using hk') (fun a ha hc => ⟨by omega, h, ps[k], ?_, ?_⟩)
  ·simpa using hc
  ·have hb := h4 k hk' (by omega)
   have hlk := hll k hk'
   rw [kl (show k < bs.length by omega), List.flatten_cons, A2] at hsum
   refine ⟨fun s2 j w2 => w2 = w' /\ ∃ m u : Nat, j = m /\ m <= bs[k].length /\ s2 = u /\ u < 4294967296 /\ qY u (bs[k].drop m) = qY t bs[k], fun _ j _ => (bs[k].length - j).toNat,
    ⟨rfl, 0, t, rfl, by omega, rfl, ht, rfl⟩, ?_⟩
   rintro s2 j w2 ⟨rfl, m, u, rfl, hm, rfl, hu, hsum2⟩
   intros
   have hbl := hb.1
   refine ae (fun h5 => ?_) (fun h5 => ?_)
   ·have hm' : m < bs[k].length := by omega
    refine lq hb.2 (i := m) (by simpa using hm') (fun a2 ha2 hc2 => ⟨by omega, h5, (bs[k][m].toNat : Int), ?_, ?_⟩)
    ·simpa [aJ] using hc2
    ·refine (DI u bs[k][m] hu w2).mono ?_
     rintro e w3 ⟨rfl, rfl⟩
     refine ⟨_, rfl, aB (by omega), ⟨rfl, m + 1, _, rfl, by omega, rfl, A1 hu _, ?_⟩, by dsimp only; omega⟩
     rw [kl hm'] at hsum2
     exact hsum2
   ·have hme : m = bs[k].length := by omega
    rw [hme, List.drop_length] at hsum2
    refine ⟨aB (by omega), ⟨rfl, k + 1, u, rfl, by omega, rfl, hu, ?_⟩, by dsimp only; omega⟩
    have hsum2' : u = qY t bs[k] := hsum2
    rw [hsum2']
    exact hsum
 ·obtain rfl : k = ps.length := by omega
  rw [h3] at hsum
  simp only [List.drop_length, List.flatten_nil] at hsum
  refine ⟨by omega, eg (by omega), ?_, rfl⟩
  have hsum' : t = qY 4294967295 bs.flatten := hsum
  rw [hsum']
  rfl
theorem zm (n : Nat) (h : n <= 100) : IntKind.wrap .u64 (n : Int) = n := ea (oB (by omega))
theorem A5 (b : Slc) (bs : List UInt8) (w : World) (h : ag w b bs) (hl : b.l <= 2 ^ 40) :
  Calls Tryz.prog fp ⟨[b.v]⟩ w fun e w' => e = .returned (.int .u32 (crc bs : Int)) /\ w' = w := by
 obtain ⟨h1, h2⟩ := h
 refine nR _ ?_
 unfold j4
 refine ⟨fun s i w' => w' = w /\ ∃ k t : Nat, i = k /\ k <= bs.length /\ s = t /\ t < 4294967296 /\ qY t (bs.drop k) = qY 4294967295 bs, fun _ i _ => (bs.length - i).toNat,
  ⟨rfl, 0, 4294967295, rfl, by omega, rfl, by omega, rfl⟩, ?_⟩
 rintro s i w' ⟨rfl, k, t, rfl, hk, rfl, ht, hsum⟩
 intros
 refine ae (fun h => ?_) (fun h => ?_)
 ·have hk' : k < bs.length := by omega
  have hc8 := bs[k].toNat_lt
  refine lq h2 (i := k) (by simpa using hk') (fun a ha hc => ⟨by omega, h, (bs[k].toNat : Int), ?_, ?_⟩)
  ·simpa [aJ] using hc
  ·refine ⟨fun s2 j w2 => w2 = w' /\ ∃ m : Nat, j = m /\ m <= 8 /\ s2 = (refRest t bs[k].toNat m : Nat), fun _ j _ => (8 - j).toNat, ⟨rfl, 0, rfl, by omega, rfl⟩, ?_⟩
   rintro s2 j w2 ⟨rfl, m, rfl, hm, rfl⟩
   intros
   have hr := wV (c := bs[k].toNat) ht m
   refine ae (fun h5 => ?_) (fun h5 => ?_)
   ·rw [zm m (by omega)]
    have e1 : min (Int.toNat (m : Int)) 32 = m := by omega
    rw [e1]
    have e2 : ((bs[k].toNat : Int) / ((2 ^ m : Nat) : Int)) = ((bs[k].toNat / 2 ^ m : Nat) : Int) := by simp
    rw [e2]
    have hd : bs[k].toNat / 2 ^ m <= bs[k].toNat := Nat.div_le_self _ _
    have e3 : refRest t bs[k].toNat (m + 1) = mZ (refRest t bs[k].toNat m) ((bs[k].toNat / 2 ^ m) &&& 1) := rfl
    have e4 := pF (refRest t bs[k].toNat m)
    have e5 := pF (bs[k].toNat / 2 ^ m)
    clear e2
    generalize bs[k].toNat / 2 ^ m = q at e3 e5 hd ⊢
    refine ⟨eg (by omega), by omega, by omega, by omega, by omega, eg (by omega), eg (by omega), by omega, by omega, eg (by omega), eg (by omega), ?_⟩
    refine bg (fun h6 => ?_) (fun h6 => ?_)
    ·refine ⟨by omega, by omega, by omega, by omega, eg (by omega), eg (by omega), aB (by omega), ⟨rfl, m + 1, rfl, by omega, ?_⟩, by dsimp only; omega⟩
     have h7 : ¬ (refRest t bs[k].toNat m &&& 1 = q &&& 1) := fun h8 => h6 (by omega)
     rw [e3, mZ, if_neg h7]
     rfl
    ·refine ⟨by omega, by omega, aB (by omega), ⟨rfl, m + 1, rfl, by omega, ?_⟩, by dsimp only; omega⟩
     have h7 : refRest t bs[k].toNat m &&& 1 = q &&& 1 := by omega
     rw [e3, mZ, if_pos h7]
     rfl
   ·obtain rfl : m = 8 := by omega
    refine ⟨aB (by omega), ⟨rfl, k + 1, _, rfl, by omega, rfl, hr, ?_⟩, by dsimp only; omega⟩
    rw [Fe]
    rw [kl hk'] at hsum
    exact hsum
 ·obtain rfl : k = bs.length := by omega
  simp only [List.drop_length] at hsum
  refine ⟨by omega, by omega, eg (by omega), eg (by omega), ?_, rfl⟩
  have hsum' : t = qY 4294967295 bs := hsum
  have : (bitsI .xor (t : Int) (4294967295 : Int)) = (crc bs : Int) := by
   rw [hsum', crc, Nat.xor_comm]; rfl
  rw [this]
end Go.D
namespace Go.D
open Go Go.Proofs
end Go.D
namespace Go.D
open Go Go.Proofs
def bn (b : List UInt8) : List UInt8 := le2 b.length ++ le4 (crc (le2 b.length ++ b)) ++ b
theorem wW {w : World} {r : Nat} {T : TypeId} {f : Nat × Nat} {s1 s2 : Slc} {b1 b2 : List UInt8} (h : w.heap[r]? = some (.cells ⟨[s1.v, s2.v]⟩ T f)) (h1 : ag w s1 b1) (h2 : ag w s2 b2) :
  Eh w ⟨some ⟨r, 0, none⟩, 2, 2⟩ [s1, s2] [b1, b2] := by
 refine ⟨rfl, .inr ⟨_, rfl, fun i hi => ?_⟩, rfl, fun i hi _ => ?_⟩
 ·have hi : i < 2 := by simpa using hi
  rw [add_lit, cell_of h, Nat.zero_add]
  match i, hi with
  | 0, _ => rfl
  | 1, _ => rfl
 ·have hi : i < 2 := by simpa using hi
  match i, hi with
  | 0, _ => exact h1
  | 1, _ => exact h2
theorem Cj (s : Slc) (b : List UInt8) (w : World) (hb : ag w s b) (hl : b.length <= 2048) :
  Calls Tryz.prog lx ⟨[s.v]⟩ w fun e w' => ∃ f : Slc, e = .returned (.tuple ⟨[f.v, .nilIface]⟩) /\ Own w' f 1 ((bn b).map aJ) /\ aF w f /\ ai w w' := by
 have hsl := hb.1
 refine xo _ ?_
 unfold vN
 refine ae (fun h => by omega) (fun h => ?_)
 refine ⟨by omega, by omega, aq (fun r3 w4 hr3 hb3 hk3 hs3 => aq (fun r5 w6 hr5 hb5 hk5 hs5 => ?_))⟩
 rw [hsl, rT, show (256 : Int) = ((256 : Nat) : Int) from rfl, mP] at hb3
 have ho3 : Own w4 ⟨some ⟨r3, 0, none⟩, 2, 2⟩ 1 ((le2 b.length).map aJ) := Own.new (sz := 1) hb3 (Or.inl (by simp)) rfl
 have hk6 := hk3.trans hk5
 refine (A4 _ _ _ _ (wW hb5 (ho3.af hk5).bytes (aj hb hk6)) (by simp) (fun i h => by
  have h : i < 2 := by simpa using h
  match i, h with
  | 0, _ => simp
  | 1, _ => show s.l <= _; omega)).mono ?_
 rintro e w7 ⟨rfl, rfl⟩
 have hcrc : ([le2 b.length, b] : List (List UInt8)).flatten = le2 b.length ++ b := by simp
 rw [hcrc]
 refine ⟨_, rfl, by omega, by omega, by omega, by omega, by omega, by omega, aq (fun r10 w11 hr10 hb10 hk10 hs10 => ?_)⟩
 rw [rT, show (256 : Int) = ((256 : Nat) : Int) from rfl, mP, show (65536 : Int) = ((65536 : Nat) : Int) from rfl, mP, show (16777216 : Int) = ((16777216 : Nat) : Int) from rfl, mP] at hb10
 have ho10 : Own w11 ⟨some ⟨r10, 0, none⟩, 4, 4⟩ 1 ((le4 (crc (le2 b.length ++ b))).map aJ) := Own.new (sz := 1) hb10 (Or.inl (by simp)) rfl
 have hk11 := hk6.trans hk10
 have hf3 : aF w ⟨some ⟨r3, 0, none⟩, 2, 2⟩ := aF.at (by omega)
 refine bf ((ho3.af hk5).af hk10) rfl hf3 hk11 (aW ho10.bytes) (by simp [Src.n]) (fun s12 w13 h1 h2 h3 h4 => ?_)
 have e1 := h1.1
 refine bf h1 rfl h3 h2 (aW (aj hb h2)) (by simp [Src.n, le2, le4] at e1 ⊢; omega) (fun s14 w15 h5 h6 h7 h8 => ?_)
 exact ⟨s14, rfl, h5, h7, h6⟩
theorem bz (b : List UInt8) : (bn b).length = b.length + 6 := by
 simp [bn, le2, le4]
end Go.D
namespace Go.D
open Go Go.Proofs
theorem or2 (a b : Nat) (ha : a < 256) : bitsI .or (a : Int) ((b : Int) * 256) = ((a + 256 * b : Nat) : Int) := by
 have h := rV a b 8 ha
 have : ((b : Int) * 256) = ((b * 2 ^ 8 : Nat) : Int) := by omega
 rw [this, rU, h]; omega
theorem wrap32 (n : Int) (h : 0 <= n /\ n < 4294967296) : IntKind.wrap .u32 n = n := by
 simp [IntKind.wrap, IntKind.signed, IntKind.bits]
 omega
theorem HL (a b : Nat) (ha : a < 256) (hb : b < 256) : bitsI .or (a : Int) (IntKind.wrap .u32 ((b : Int) * 256)) = ((a + 256 * b : Nat) : Int) := by
 rw [wrap32 _ (by omega)]; exact or2 a b ha
theorem HM (a b : Nat) (ha : a < 65536) (hb : b < 256) : bitsI .or (a : Int) (IntKind.wrap .u32 ((b : Int) * 65536)) = ((a + 65536 * b : Nat) : Int) := by
 rw [wrap32 _ (by omega)]
 have h := rV a b 16 ha
 have : ((b : Int) * 65536) = ((b * 2 ^ 16 : Nat) : Int) := by omega
 rw [this, rU, h]; omega
theorem HN (a b : Nat) (ha : a < 16777216) (hb : b < 256) : bitsI .or (a : Int) (IntKind.wrap .u32 ((b : Int) * 16777216)) = ((a + 16777216 * b : Nat) : Int) := by
 rw [wrap32 _ (by omega)]
 have h := rV a b 24 ha
 have : ((b : Int) * 16777216) = ((b * 2 ^ 24 : Nat) : Int) := by omega
 rw [this, rU, h]; omega
def at8 (b : List UInt8) (i : Nat) : Nat := (b.getD i 0).toNat
theorem Ff (b : List UInt8) (i : Nat) : at8 b i < 256 := (b.getD i 0).toNat_lt
theorem A6 {w : World} {s : Slc} {b : List UInt8} (h : ag w s b) {i : Nat} (hi : i < b.length) {a : Addr} (ha : s.p = some a) : w.cell? (a.add i) = some (.int .u8 (at8 b i : Int)) := by
 obtain ⟨a', ha', hc⟩ := cI h hi
 rw [ha] at ha'
 obtain rfl := Option.some.inj ha'
 rw [hc, aJ, at8]
 simp [List.getD, hi]
def lenOf (b : List UInt8) : Nat := at8 b 0 + 256 * at8 b 1
def toldOf (b : List UInt8) : Nat := at8 b 2 + 256 * at8 b 3 + 65536 * at8 b 4 + 16777216 * at8 b 5
def iH (b : List UInt8) : List UInt8 := (b.take (6 + lenOf b)).drop 6
def eI (b : List UInt8) : Except Nat (List UInt8 × List UInt8) :=
 if b.length < 6 then .error 1 else if 2048 < lenOf b then .error 2 else if b.length < 6 + lenOf b then .error 1 else
  if crc (b.take 2 ++ iH b) = toldOf b then .ok (iH b, b.drop (6 + lenOf b)) else .error 4
theorem DJ (s : Slc) (b : List UInt8) (w : World) (hb : ag w s b) (hl : s.l <= 2 ^ 30) :
  Calls Tryz.prog ar ⟨[s.v]⟩ w fun e w' => ∃ t : Slc, e = .returned t.v /\ Own w' t 1 (b.map aJ) /\ aF w t /\ ai w w' := by
 refine jh _ ?_
 unfold iz
 refine ao (fun h => ?_) (fun h => ?_)
 ·have hp : s.p = none := by simpa using h
  have hb0 : b = [] := by
   rcases hb.2 with h0 | ⟨a, ha, _⟩
   ·simpa using h0
   ·rw [hp] at ha; cases ha
  subst hb0
  exact ⟨_, rfl, Own.nil _ _, aF.nil _ _ _, Ext.refl _ _⟩
 ·refine aq (fun r w1 hr hb1 hk hs => ?_)
  refine bf (vs := []) (w0 := w) (Own.new (sz := 1) (n := 0) hb1 (.inl (by simp)) rfl) rfl (aF.at (by omega)) hk (aW (aj hb hk)) (by simp only [Src.n]; omega) (fun s' w' h1 h2 h3 h4 => ?_)
  exact ⟨s', rfl, by simpa using h1, h3, h2⟩
theorem wX (s : Slc) (b : List UInt8) (w : World) (hb : ag w s b) (hl : s.l <= 2 ^ 30) :
  Calls Tryz.prog ar ⟨[s.v]⟩ w fun e w' => ∃ t : Slc, e = .returned t.v /\ ag w' t b /\ aF w t /\ ai w w' := by
 refine (DJ s b w hb hl).mono ?_
 rintro e w' ⟨t, rfl, h1, h2, h3⟩
 exact ⟨t, rfl, h1.bytes, h2, h3⟩
def Gh (A : Nat -> Addr) (w w' : World) (s t : Slc) (ev : Value) : Except Nat (List UInt8 × List UInt8) -> Prop
 | .error k => s = ⟨none, 0, 0⟩ /\ t = ⟨none, 0, 0⟩ /\ ev = fQ A (dt.getD k 0)
 | .ok (x, y) => ag w' s x /\ ag w' t y /\ aF w s /\ aF w t /\ ev = .nilIface
theorem DK (A : Nat -> Addr) (s : Slc) (b : List UInt8) (w : World) (hb : ag w s b) (hl : s.l <= 2 ^ 30) (hc : s.l <= s.c) (hE : ju ui [ct, bw, jV] A w) :
  Calls Tryz.prog mC ⟨[s.v]⟩ w fun e w' => ∃ (x y : Slc) (ev : Value), e = .returned (.tuple ⟨[x.v, y.v, ev]⟩) /\ Gh A w w' x y ev (eI b) /\ ai w w' := by
 have hsl := hb.1
 refine yT _ ?_
 unfold xU
 refine ae (fun h => ?_) (fun h => ?_)
 ·refine ⟨_, (hE.1 ct (by simp)).1, _, _, _, rfl, ?_, Ext.drew _ _⟩
  rw [eI, if_pos (by omega)]
  exact ⟨rfl, rfl, rfl⟩
 obtain ⟨a, ha, _⟩ := cI hb (i := 0) (by omega)
 have cell : ∀ i, i < b.length -> w.cell? (a.add i) = some (.int .u8 (at8 b i : Int)) := fun i hi => A6 hb hi ha
 have lt := Ff b
 have l0 := lt 0; have l1 := lt 1; have l2 := lt 2; have l3 := lt 3; have l4 := lt 4; have l5 := lt 5
 refine aa ha ⟨by omega, by omega, _, cell 0 (by omega), aB (by omega), aa ha ⟨by omega, by omega, _, cell 1 (by omega), aB (by omega), by omega, aB (by omega), by omega, by omega, aB (by omega), aB (by omega), ?_⟩⟩
 rw [or2 _ _ l0]
 have hlen : at8 b 0 + 256 * at8 b 1 = lenOf b := rfl
 rw [hlen]
 have hll : lenOf b < 65536 := by omega
 refine ae (fun h2 => ?_) (fun h2 => ?_)
 ·refine ⟨_, (hE.1 bw (by simp)).1, _, _, _, rfl, ?_, ai.drew (Ext.drew _ _)⟩
  rw [eI, if_neg (by omega), if_pos (by omega)]
  exact ⟨rfl, rfl, rfl⟩
 refine ⟨aB (by omega), ae (fun h3 => ?_) (fun h3 => ?_)⟩
 ·refine ⟨_, (hE.1 ct (by simp)).1, _, _, _, rfl, ?_, ai.drew (Ext.drew _ _)⟩
  rw [eI, if_neg (by omega), if_neg (by omega), if_pos (by omega)]
  exact ⟨rfl, rfl, rfl⟩
 have hw32 : ∀ x : Nat, x < 256 -> ∀ k : Int, k <= 16777216 -> 0 <= k -> IntKind.wrap .u32 ((x : Int) * k) = (x : Int) * k := fun x hx k hk hk0 => by
  have h1 : (x : Int) * k <= 255 * 16777216 := Int.le_trans (Int.mul_le_mul_of_nonneg_right (by omega : (x : Int) <= 255) hk0) (by omega)
  have h0 : 0 <= (x : Int) * k := Int.mul_nonneg (by omega) hk0
  exact wrap32 _ (by omega)
 refine aa ha ⟨by omega, by omega, _, cell 2 (by omega), eg (by omega), aa ha ⟨by omega, by omega, _, cell 3 (by omega), eg (by omega), by omega, by omega, by rw [hw32 _ l3 _ (by omega) (by omega)]; omega, eg (by omega), by rw [hw32 _ l3 _ (by omega) (by omega)]; exact eg (by omega), ?_⟩⟩
 rw [HL _ _ l2 l3]
 refine aa ha ⟨by omega, by omega, _, cell 4 (by omega), eg (by omega), by omega, by omega, by rw [hw32 _ l4 _ (by omega) (by omega)]; omega, eg (by omega), by rw [hw32 _ l4 _ (by omega) (by omega)]; exact eg (by omega), ?_⟩
 rw [HM _ _ (by omega) l4]
 refine aa ha ⟨by omega, by omega, _, cell 5 (by omega), eg (by omega), by omega, by omega, by rw [hw32 _ l5 _ (by omega) (by omega)]; omega, eg (by omega), by rw [hw32 _ l5 _ (by omega) (by omega)]; exact eg (by omega), ?_⟩
 rw [HN _ _ (by omega) l5]
 have htold : at8 b 2 + 256 * at8 b 3 + 65536 * at8 b 4 + 16777216 * at8 b 5 = toldOf b := rfl
 rw [htold]
 have e6 : Int.toNat ((6 : Int) + (lenOf b : Int)) = 6 + lenOf b := by omega
 rw [e6]
 refine ⟨aB (by omega), by omega, by omega, by omega, by omega, by omega, by omega, by omega, by omega, aq (fun r w1 hr hb1 hk hs => ?_)⟩
 have hk1 : ai w w1 := ai.trans (ai.drew (Ext.drew _ _)) hk
 have hbt : ag w (Slc.sub s 1 6 (6 + lenOf b) s.c) (iH b) := bq hb (by omega) (by omega) (by omega)
 have hbh : ag w (Slc.sub s 1 0 2 s.c) (b.take 2) := by
  have := bq hb (lo := 0) (hi := 2) (c := s.c) (by omega) (by omega) (by omega)
  simpa using this
 refine (A4 _ _ _ _ (wW hb1 (aj hbh hk1) (aj hbt hk1)) (by simp) (fun i h => by
  have h : i < 2 := by simpa using h
  match i, h with
  | 0, _ => simp [Slc.sub]
  | 1, _ => simp [Slc.sub]; omega)).mono ?_
 rintro e w2 ⟨rfl, rfl⟩
 have hcrc : ([b.take 2, iH b] : List (List UInt8)).flatten = b.take 2 ++ iH b := by simp
 rw [hcrc]
 refine ⟨_, rfl, bg (fun h4 => ?_) (fun h4 => ?_)⟩
 ·refine ⟨_, ((hE.af (hk1.drew)).1 jV (by simp)).1, _, _, _, rfl, ?_, hk1.drew⟩
  rw [eI, if_neg (by omega), if_neg (by omega), if_neg (by omega), if_neg (by omega)]
  exact ⟨rfl, rfl, rfl⟩
 ·refine ⟨aB (by omega), by omega, by omega, by omega, by omega, ?_⟩
  refine (wX _ _ _ (aj hbt hk1.drew) (by simp [Slc.sub]; omega)).mono ?_
  rintro e w3 ⟨x, rfl, hx, hfx, hk3⟩
  refine ⟨x, rfl, ?_⟩
  have hbr : ag w (Slc.sub s 1 (6 + lenOf b) s.l s.c) (b.drop (6 + lenOf b)) := by
   have := bq hb (lo := 6 + lenOf b) (hi := s.l) (c := s.c) (by omega) (by omega) (by omega)
   rw [hsl, List.take_length] at this
   rw [hsl]; exact this
  have hk13 := hk1.drew.trans hk3
  refine (wX _ _ _ (aj hbr hk13) (by simp [Slc.sub]; omega)).mono ?_
  rintro e w4 ⟨y, rfl, hy, hfy, hk4⟩
  refine ⟨y, rfl, x, y, _, rfl, ?_, hk13.trans hk4⟩
  rw [eI, if_neg (by omega), if_neg (by omega), if_neg (by omega), if_pos (by omega)]
  exact ⟨aj hx hk4, hy, hfx.mono hk1.drew.size, hfy.mono hk13.size, rfl⟩
end Go.D
namespace Go.D
open Go Go.Proofs
theorem ofNat_mod (n : Nat) : UInt8.ofNat (n % 256) = UInt8.ofNat n := by
 apply UInt8.toNat_inj.1
 rw [UInt8.toNat_ofNat', UInt8.toNat_ofNat']
 simp
theorem ofNat_eq {n : Nat} {x : UInt8} (h : n % 256 = x.toNat) : UInt8.ofNat n = x := by
 apply UInt8.toNat_inj.1
 rw [UInt8.toNat_ofNat']
 exact h
theorem qg (s : Slc) (b : List UInt8) (w : World) (hb : ag w s b) (hl : s.l <= 2 ^ 20) :
  Calls Tryz.prog cN ⟨[s.v]⟩ w fun e w' => ∃ f : Slc, e = .returned f.v /\ Own w' f 1 ((bn b).map aJ) /\ aF w f /\ ai w w' := by
 have hsl := hb.1
 refine lU _ ?_
 unfold ji
 refine ⟨by omega, by omega, by omega, by omega, aB (by omega), aq (fun r2 w3 hr2 hb2 hk2 hs2 => aq (fun r4 w5 hr4 hb4 hk4 hs4 => ?_))⟩
 have em : ((s.l : Nat) : Int) % (256 : Int) = ((b.length % 256 : Nat) : Int) := by rw [hsl]; omega
 rw [em, rT, ofNat_mod, hsl, show (256 : Int) = ((256 : Nat) : Int) from rfl, mP] at hb2
 have ho2 : Own w3 ⟨some ⟨r2, 0, none⟩, 2, 2⟩ 1 ((le2 b.length).map aJ) := Own.new (sz := 1) hb2 (Or.inl (by simp)) rfl
 refine bf (vs := []) (w0 := w3) (Own.new (sz := 1) (n := 0) hb4 (.inl (by simp)) rfl) rfl (aF.at (by omega)) hk4 (aW (ho2.af hk4).bytes) (by simp [Src.n]) (fun s6 w7 h1 h2 h3 h4 => ?_)
 have e1 := h1.1
 have l1 : s6.l = 2 := by simpa [le2] using e1
 refine bf h1 rfl h3 h2 (aW (aj hb (hk2.trans h2))) (by simp only [Src.n]; omega) (fun s8 w9 h5 h6 h7 h8 => ?_)
 have e2 := h5.1
 have l2 : s8.l = 2 + b.length := by simp [le2] at e2; omega
 refine (A5 s8 _ w9 h5.bytes (by omega)).mono ?_
 rintro e w10 ⟨rfl, rfl⟩
 have ecrc : [] ++ le2 b.length ++ b = le2 b.length ++ b := rfl
 rw [ecrc]
 refine ⟨_, rfl, by omega, by omega, by omega, by omega, by omega, by omega, aq (fun r13 w14 hr13 hb13 hk13 hs13 => ?_)⟩
 rw [rT, show (256 : Int) = ((256 : Nat) : Int) from rfl, mP, show (65536 : Int) = ((65536 : Nat) : Int) from rfl, mP, show (16777216 : Int) = ((16777216 : Nat) : Int) from rfl, mP] at hb13
 have ho13 : Own w14 ⟨some ⟨r13, 0, none⟩, 4, 4⟩ 1 ((le4 (crc (le2 b.length ++ b))).map aJ) := Own.new (sz := 1) hb13 (Or.inl (by simp)) rfl
 have hk14 := h6.trans hk13
 refine bf (w0 := w) (ho2.af hk14) rfl (aF.at (by omega)) (hk2.trans hk14) (aW ho13.bytes) (by simp [Src.n]) (fun s15 w16 g1 g2 g3 g4 => ?_)
 have e3 := g1.1
 have l3 : s15.l = 6 := by simpa [le2, le4] using e3
 refine bf g1 rfl g3 g2 (aW (aj hb g2)) (by simp only [Src.n]; omega) (fun s17 w18 g5 g6 g7 g8 => ?_)
 exact ⟨s17, rfl, g5, g7, g6⟩
theorem yp (b : List UInt8) (h6 : 6 + lenOf b <= b.length) : bn (iH b) = b.take (6 + lenOf b) ↔ crc (b.take 2 ++ iH b) = toldOf b := by
 obtain ⟨b0, b1, b2, b3, b4, b5, r, rfl⟩ : ∃ b0 b1 b2 b3 b4 b5 r, b = b0 :: b1 :: b2 :: b3 :: b4 :: b5 :: r := by
  match b, h6 with
  | b0 :: b1 :: b2 :: b3 :: b4 :: b5 :: r, _ => exact ⟨b0, b1, b2, b3, b4, b5, r, rfl⟩
  | [], h => simp at h
  | [_], h => simp at h; omega
  | [_, _], h => simp at h; omega
  | [_, _, _], h => simp at h; omega
  | [_, _, _, _], h => simp at h; omega
  | [_, _, _, _, _], h => simp at h; omega
 have hn : lenOf (b0 :: b1 :: b2 :: b3 :: b4 :: b5 :: r) = b0.toNat + 256 * b1.toNat := rfl
 have ht : toldOf (b0 :: b1 :: b2 :: b3 :: b4 :: b5 :: r) = b2.toNat + 256 * b3.toNat + 65536 * b4.toNat + 16777216 * b5.toNat := rfl
 have htx : iH (b0 :: b1 :: b2 :: b3 :: b4 :: b5 :: r) = r.take (b0.toNat + 256 * b1.toNat) := by
  rw [iH, hn, Nat.add_comm 6]; rfl
 have h2 : (b0 :: b1 :: b2 :: b3 :: b4 :: b5 :: r).take 2 = [b0, b1] := rfl
 have h6' : (b0 :: b1 :: b2 :: b3 :: b4 :: b5 :: r).take (6 + (b0.toNat + 256 * b1.toNat)) = [b0, b1] ++ [b2, b3, b4, b5] ++ r.take (b0.toNat + 256 * b1.toNat) := by
  rw [Nat.add_comm 6]; rfl
 rw [hn] at h6 ⊢
 rw [ht, htx, h2, h6', bn]
 have hl : (r.take (b0.toNat + 256 * b1.toNat)).length = b0.toNat + 256 * b1.toNat := by
  rw [List.length_take]
  simp only [List.length_cons] at h6
  omega
 have l0 := b0.toNat_lt; have l1 := b1.toNat_lt; have l2 := b2.toNat_lt; have l3 := b3.toNat_lt; have l4 := b4.toNat_lt; have l5 := b5.toNat_lt
 have hle : le2 (r.take (b0.toNat + 256 * b1.toNat)).length = [b0, b1] := by
  rw [hl, le2, ofNat_eq (x := b0) (by omega), ofNat_eq (x := b1) (by omega)]
 rw [hle, List.append_left_inj, List.append_right_inj]
 have hc := GZ ([b0, b1] ++ r.take (b0.toNat + 256 * b1.toNat))
 generalize crc ([b0, b1] ++ r.take (b0.toNat + 256 * b1.toNat)) = c at hc ⊢
 constructor
 ·intro h
  simp only [le4, List.cons.injEq, and_true] at h
  obtain ⟨e2, e3, e4, e5⟩ := h
  have e2 := congrArg UInt8.toNat e2
  have e3 := congrArg UInt8.toNat e3
  have e4 := congrArg UInt8.toNat e4
  have e5 := congrArg UInt8.toNat e5
  rw [UInt8.toNat_ofNat'] at e2 e3 e4 e5
  omega
 ·intro h
  rw [le4, ofNat_eq (x := b2) (by omega), ofNat_eq (x := b3) (by omega), ofNat_eq (x := b4) (by omega), ofNat_eq (x := b5) (by omega)]
def CS : Except Nat (List UInt8 × List UInt8) -> Int
 | .error k => ((k + 1 : Nat) : Int)
 | .ok _ => 0
def HO (w w' : World) (s t : Slc) : Except Nat (List UInt8 × List UInt8) -> Prop
 | .error k => s = ⟨none, 0, 0⟩ /\ t = ⟨none, 0, 0⟩
 | .ok (x, y) => ag w' s x /\ ag w' t y /\ aF w s /\ aF w t
def Gi (w w' : World) (s t : Slc) : Except Nat (List UInt8 × List UInt8) -> Prop
 | .error k => s = ⟨none, 0, 0⟩ /\ t = ⟨none, 0, 0⟩
 | .ok (x, y) => ag w' s x /\ ag w' t y /\ aF w s /\ aF w t /\ s.l <= s.c /\ ∀ k, au s k -> k < w'.heap.size
theorem xH (s : Slc) (b : List UInt8) (w : World) (hb : ag w s b) (hl : s.l <= 2 ^ 20) (hc : s.l <= s.c) :
  Calls Tryz.prog eR ⟨[s.v]⟩ w fun e w' => ∃ (x y : Slc), e = .returned (.tuple ⟨[x.v, y.v, .int .i64 (CS (eI b))]⟩) /\ Gi w w' x y (eI b) /\ ai w w' := by
 have hsl := hb.1
 refine mF _ ?_
 unfold jB
 refine ae (fun h => ?_) (fun h => ?_)
 ·rw [eI, if_pos (by omega)]
  exact ⟨_, _, rfl, ⟨rfl, rfl⟩, Ext.refl _ _⟩
 obtain ⟨a, ha, _⟩ := cI hb (i := 0) (by omega)
 have cell : ∀ i, i < b.length -> w.cell? (a.add i) = some (.int .u8 (at8 b i : Int)) := fun i hi => A6 hb hi ha
 have lt := Ff b
 have l0 := lt 0; have l1 := lt 1
 refine aa ha ⟨by omega, by omega, _, cell 0 (by omega), aB (by omega), aa ha ⟨by omega, by omega, _, cell 1 (by omega), aB (by omega), aB (by omega), aB (by omega), ?_⟩⟩
 have hlen : (at8 b 0 : Int) + 256 * (at8 b 1 : Int) = (lenOf b : Int) := by rw [lenOf]; omega
 rw [hlen]
 have hll : lenOf b < 65536 := by rw [lenOf]; omega
 refine ae (fun h2 => ?_) (fun h2 => ⟨aB (by omega), ae (fun h3 => ?_) (fun h3 => ?_)⟩)
 ·rw [eI, if_neg (by omega), if_pos (by omega)]
  exact ⟨_, _, rfl, ⟨rfl, rfl⟩, Ext.drew _ _⟩
 ·rw [eI, if_neg (by omega), if_neg (by omega), if_pos (by omega)]
  exact ⟨_, _, rfl, ⟨rfl, rfl⟩, Ext.drew _ _⟩
 have e6 : Int.toNat ((6 : Int) + (lenOf b : Int)) = 6 + lenOf b := by omega
 rw [e6]
 have hd2 : ai w w.drew.drew := ai.drew (Ext.drew _ _)
 have hbt : ag w (Slc.sub s 1 6 (6 + lenOf b) s.c) (iH b) := bq hb (by omega) (by omega) (by omega)
 have hbf : ag w (Slc.sub s 1 0 (6 + lenOf b) s.c) (b.take (6 + lenOf b)) := by
  have := bq hb (lo := 0) (hi := 6 + lenOf b) (c := s.c) (by omega) (by omega) (by omega)
  simpa using this
 have hbr : ag w (Slc.sub s 1 (6 + lenOf b) s.l s.c) (b.drop (6 + lenOf b)) := by
  have := bq hb (lo := 6 + lenOf b) (hi := s.l) (c := s.c) (by omega) (by omega) (by omega)
  rw [hsl, List.take_length] at this
  rw [hsl]; exact this
 refine ⟨aB (by omega), by omega, by omega, by omega, by omega, aB (by omega), by omega, by omega, by omega, by omega, _, aj hbf hd2, ?_⟩
 refine (qg _ _ _ (aj hbt hd2) (by simp [Slc.sub]; omega)).mono ?_
 rintro e w3 ⟨f, rfl, hf, hff, hk3⟩
 have hk := hd2.trans hk3
 refine ⟨f, rfl, ⟨_, aj hbf hk, rfl⟩, _, hf.bytes, ?_⟩
 have hiff := yp b (by omega)
 refine bg (fun h4 => ?_) (fun h4 => ?_)
 ·rw [eI, if_neg (by omega), if_neg (by omega), if_neg (by omega), if_neg (fun h => h4 (hiff.2 h))]
  exact ⟨_, _, rfl, ⟨rfl, rfl⟩, hk⟩
 ·rw [eI, if_neg (by omega), if_neg (by omega), if_neg (by omega), if_pos (hiff.1 h4)]
  have hkd : ai w w3.drew := hk.drew
  have ltx : (Slc.sub s 1 6 (6 + lenOf b) s.c).l <= 2 ^ 20 := by simp [Slc.sub]; omega
  have lrx : (Slc.sub s 1 (6 + lenOf b) s.l s.c).l <= 2 ^ 20 := by simp [Slc.sub]; omega
  refine ⟨aB (by omega), by omega, by omega, by omega, by omega, aB (by omega), by omega, by omega, by omega, by omega, ⟨?_, ?_⟩⟩
  ·refine aq (fun r16 w17 hr16 hb16 hk16 hs16 => ⟨?_, ?_⟩)
   ·refine bf (vs := []) (w0 := w) (Own.new (sz := 1) (n := 0) hb16 (.inl (by simp)) rfl) rfl (aF.at (by have := hkd.size; omega)) (hkd.trans hk16) (aW (aj hbt (hkd.trans hk16))) (by simp only [Src.n]; omega) (fun s18 w19 h1 h2 h3 h4 => ?_)
    refine aq (fun r20 w21 hr20 hb20 hk20 hs20 => ?_)
    refine bf (vs := []) (w0 := w19) (Own.new (sz := 1) (n := 0) hb20 (.inl (by simp)) rfl) rfl (aF.at (by omega)) hk20 (aW (aj hbr (h2.trans hk20))) (by simp only [Src.n]; omega) (fun s22 w23 h5 h6 h7 h8 => ?_)
    exact ⟨_, _, rfl, ⟨(h1.af h6).bytes, h5.bytes, h3, h7.mono h2.size, h1.le (by omega), kG (h1.af h6)⟩, h2.trans h6⟩
   ·refine aq (fun r24 w25 hr24 hb24 hk24 hs24 => ?_)
    have ho16 : Own w17 ⟨some ⟨r16, 0, none⟩, 0, 0⟩ 1 (([] : List UInt8).map aJ) := Own.new (sz := 1) (n := 0) hb16 (.inl (by simp)) rfl
    have ho24 : Own w25 ⟨some ⟨r24, 0, none⟩, 0, 0⟩ 1 (([] : List UInt8).map aJ) := Own.new (sz := 1) (n := 0) hb24 (.inl (by simp)) rfl
    have hk25 := (hkd.trans hk16).trans hk24
    have hs0 := hkd.size
    have hs1 := hk16.size
    refine lu (vs := []) (w0 := w) (ho16.af hk24) rfl (aF.at (by omega)) hk25 (aW (aj hbt hk25)) (by simp only [Src.n]; omega) (fun s26 w27 h1 h2 h3 h4 h4' => ?_)
    have ho24' := ho24.ext h4 (by
     rintro k ⟨x, hx, rfl⟩ ⟨y, hy, hxy⟩
     cases hx; cases hy
     simp only at hxy
     omega)
    refine lu (vs := []) (w0 := w) ho24' rfl (aF.at (by omega)) h2 (aW (aj hbr h2)) (by simp only [Src.n]; omega) (fun s28 w29 h5 h6 h7 h8 h8' => ?_)
    refine ⟨_, _, rfl, ⟨(h1.ext h8 ?_).bytes, h5.bytes, h3, h7, h1.le (by omega), fun k hk => Nat.lt_of_lt_of_le (kG h1 k hk) h8.size⟩, h6⟩
    rintro k hk1 ⟨y, hy, rfl⟩
    cases hy
    have h9 := h4' _ hk1
    rcases h9 with ⟨z, hz, hzz⟩ | h9
    ·cases hz; simp only at hzz; omega
    ·have := (Array.getElem?_eq_some_iff.1 hb24).1
     simp only at h9
     omega
  ·refine aq (fun r30 w31 hr30 hb30 hk30 hs30 => aq (fun r32 w33 hr32 hb32 hk32 hs32 => ?_))
   have ho30 : Own w31 ⟨some ⟨r30, 0, none⟩, 0, 0⟩ 1 (([] : List UInt8).map aJ) := Own.new (sz := 1) (n := 0) hb30 (.inl (by simp)) rfl
   refine bf (vs := []) (w0 := w31) (Own.new (sz := 1) (n := 0) hb32 (.inl (by simp)) rfl) rfl (aF.at (by omega)) hk32 (aW (aj hbt ((hkd.trans hk30).trans hk32))) (by simp only [Src.n]; omega) (fun s34 w35 h1 h2 h3 h4 => ?_)
   have hs0 := hkd.size
   refine lu (vs := []) (w0 := w) (ho30.af h2) rfl (aF.at (by omega)) ((hkd.trans hk30).trans h2) (aW (aj hbr ((hkd.trans hk30).trans h2))) (by simp only [Src.n]; omega) (fun s36 w37 h5 h6 h7 h8 h8' => ?_)
   refine ⟨_, _, rfl, ⟨(h1.ext h8 ?_).bytes, h5.bytes, h3.mono (by omega), h7, h1.le (by omega), fun k hk => Nat.lt_of_lt_of_le (kG h1 k hk) h8.size⟩, h6⟩
   rintro k hk1 ⟨y, hy, rfl⟩
   cases hy
   have := h3 _ hk1
   simp only at this
   omega
end Go.D
namespace Go.D
open Go Go.Proofs
theorem Ht {A : Nat -> Addr} {w : World} (h : bA A w) : ju ui [ct, bw, jV] A w := h.sub (by decide)
theorem A7 (b r : List UInt8) (hl : b.length <= 2048) : eI (bn b ++ r) = .ok (b, r) := by
 obtain ⟨b0, b1, h01⟩ : ∃ b0 b1, le2 b.length = [b0, b1] := ⟨_, _, rfl⟩
 obtain ⟨c0, c1, c2, c3, hc⟩ : ∃ c0 c1 c2 c3, le4 (crc (le2 b.length ++ b)) = [c0, c1, c2, c3] := ⟨_, _, _, _, rfl⟩
 have e : bn b ++ r = b0 :: b1 :: c0 :: c1 :: c2 :: c3 :: (b ++ r) := by
  rw [bn, hc, h01]; simp
 have hlen : lenOf (bn b ++ r) = b.length := by
  rw [e]
  have h0 := congrArg (fun l => l.map UInt8.toNat) h01
  simp only [le2, List.map_cons, List.map_nil, UInt8.toNat_ofNat', List.cons.injEq, and_true] at h0
  show b0.toNat + 256 * b1.toNat = b.length
  omega
 have htext : iH (bn b ++ r) = b := by
  rw [iH, hlen, e, Nat.add_comm 6]
  show (b ++ r).take b.length = b
  simp
 have htake : (bn b ++ r).take (6 + b.length) = bn b := by
  rw [Nat.add_comm, <- bz]; simp
 have hiff := yp (bn b ++ r) (by rw [hlen]; simp [bz]; omega)
 rw [hlen, htext, htake] at hiff
 have hcrc := hiff.1 rfl
 rw [eI, hlen, htext, if_neg (by simp [bz]; omega), if_neg (by omega), if_neg (by simp [bz]; omega), if_pos hcrc]
 congr 2
 rw [Nat.add_comm, <- bz]; simp
end Go.D
namespace Go.D
open Go Go.Proofs
def A8 (A : Nat -> Addr) : List Value := (List.range 19).map fun k => fQ A (dt.getD k 0)
theorem qZ (A : Nat -> Addr) (w : World) (h : bA A w) :
  Calls Tryz.prog gm ⟨[]⟩ w fun e w' => ∃ t : Slc, e = .returned t.v /\ t.l = 19 /\ Own w' t 1 (A8 A) /\ ai w w' := by
 refine xq ?_
 unfold vW
 refine ⟨_, bA.at h 0 (by omega), _, bA.at h 1 (by omega), _, bA.at h 2 (by omega), _, bA.at h 3 (by omega), _, bA.at h 4 (by omega), _, bA.at h 5 (by omega), _, bA.at h 6 (by omega), _, bA.at h 7 (by omega), _, bA.at h 8 (by omega), _, bA.at h 9 (by omega), _, bA.at h 10 (by omega), _, bA.at h 11 (by omega), _, bA.at h 12 (by omega), _, bA.at h 13 (by omega), _, bA.at h 14 (by omega), _, bA.at h 15 (by omega), _, bA.at h 16 (by omega), _, bA.at h 17 (by omega), _, bA.at h 18 (by omega), ?_⟩
 refine aq (fun r w1 hr hb hk hs => ?_)
 exact ⟨⟨some ⟨r, 0, none⟩, 19, 19⟩, rfl, rfl, Own.new (sz := 1) (n := 19) hb (.inl (by simp)) rfl, hk⟩
theorem bA.row {A : Nat -> Addr} {w : World} {t : Slc} (h : Own w t 1 (A8 A)) {n : Nat} (hn : n < 19) : ∃ a, t.p = some a /\ w.cell? (a.add n) = some (fQ A (dt.getD n 0)) := by
 obtain ⟨a, ha, hc⟩ := bm h.cells (i := n) (by simp [A8]; exact hn)
 refine ⟨a, ha, ?_⟩
 rw [hc]
 simp [A8]
theorem wY (A : Nat -> Addr) (k : Nat) (hk : k < 19) (c : Addr) (t : Slc) (w : World) (hE : bA A w) (htl : t.l = 19) (ht : Own w t 1 (A8 A)) (hc : w.cell? c = some (fQ A (dt.getD k 0))) :
  Calls Tryz.prog dB ⟨[t.v, (Value.func (.func fZ) ⟨[]⟩ ⟨[(Value.pointer (some c))]⟩)]⟩ w fun e w' => e = .returned (.int .i64 (k : Int)) /\ w' = w := by
 refine fH _ _ ?_
 unfold cR
 refine ⟨fun i w2 => w2 = w /\ ∃ n : Nat, i = n /\ n <= k, fun i _ => (19 - i).toNat, ⟨rfl, 0, rfl, by omega⟩, ?_⟩
 rintro i w2 ⟨rfl, n, rfl, hn⟩
 intros
 refine ae (fun h1 => ?_) (fun h1 => by omega)
 obtain ⟨a, ha, hcell⟩ := bA.row ht (n := n) (by omega)
 refine aa ha ⟨by omega, h1, _, (by rw [show (Int.toNat (n : Int)) * 1 = n by omega]; exact hcell), ?_⟩
 have hclos : Calls Tryz.prog fZ ⟨[fQ A (dt.getD n 0), (Value.pointer (some c))]⟩ w2 fun e w' => e = .returned (.bool (decide (k = n))) /\ w' = w2 := by
  refine tq _ _ ?_
  refine aa rfl ⟨_, hc, ?_⟩
  refine (bA.is hE hk (by omega)).mono ?_
  rintro e w3 ⟨rfl, rfl⟩
  exact ⟨_, rfl, rfl, rfl⟩
 refine hclos.mono ?_
 rintro e w3 ⟨rfl, rfl⟩
 refine ⟨_, rfl, ao (fun h2 => ?_) (fun h2 => ?_)⟩
 ·have : k = n := by simpa using h2
  subst this
  exact ⟨rfl, rfl⟩
 ·have : k ≠ n := by simpa using h2
  exact ⟨aB (by omega), ⟨rfl, n + 1, rfl, by omega⟩, by dsimp only; omega⟩
theorem Ck (w : World) : Calls Tryz.prog eo ⟨[.nilIface]⟩ w fun e w' => e = .returned (.int .i64 0) /\ ai w w' := by
 refine oS _ ?_
 refine aq (fun r w1 hr hb hk hs => ?_)
 exact ⟨_, cell_of hb 0, trivial, ao (fun _ => ⟨rfl, hk⟩) (fun h => by cases h)⟩
theorem A9 (A : Nat -> Addr) (k : Nat) (hk : k < 19) (w : World) (h : bA A w) :
  Calls Tryz.prog eo ⟨[fQ A (dt.getD k 0)]⟩ w fun e w' => e = .returned (.int .i64 ((k + 1 : Nat) : Int)) /\ ai w w' := by
 refine oS _ ?_
 refine aq (fun r w1 hr hb hk1 hs => ?_)
 refine ⟨_, cell_of hb 0, trivial, ao (fun h => by cases h) (fun _ => ?_)⟩
 refine (qZ A w1 (h.af hk1)).mono ?_
 rintro e w2 ⟨t, rfl, htl, ht, hk2⟩
 refine ⟨t, rfl, ?_⟩
 refine (wY A k hk ⟨r, 0, none⟩ t w2 (h.af (hk1.trans hk2)) htl ht (hk2.cell (cell_of hb 0))).mono ?_
 rintro e w3 ⟨rfl, rfl⟩
 exact ⟨_, rfl, ae (fun h => by omega) (fun _ => ⟨aB (by omega), by simp, hk1.trans hk2⟩)⟩
end Go.D
namespace Go.D
open Go Go.Proofs
theorem gX (n m : Int) (w : World) : Calls Tryz.prog cL ⟨[.int .i64 n, .int .i64 m]⟩ w fun e w' => e = .returned (.bool (decide (0 <= n /\ n <= m))) /\ w' = w := by
 refine vX _ _ ?_
 unfold ur
 refine ae (fun h => ⟨?_, rfl⟩) (fun h => ⟨?_, rfl⟩)
 ·rw [decide_eq_decide.2]; exact ⟨fun h2 => ⟨h, h2⟩, fun h2 => h2.2⟩
 ·rw [decide_eq_false]; omega
theorem tO (n m : Int) (w : World) : Calls Tryz.prog bX ⟨[.int .i64 n, .int .i64 m]⟩ w fun e w' => e = .returned (.bool (decide (0 <= n /\ n <= m))) /\ w' = w := by
 refine mK _ _ ?_
 unfold jG
 refine ae (fun h => ⟨?_, rfl⟩) (fun h => ⟨?_, rfl⟩)
 ·rw [decide_eq_decide.2]; exact ⟨fun h2 => ⟨h, h2⟩, fun h2 => h2.2⟩
 ·rw [decide_eq_false]; omega
abbrev cP (t k e a : Int) (l : Nat) : Prop := (0 <= t /\ t <= 1073741824) /\ (1 <= k /\ k <= 5) /\ (0 <= e /\ e <= 1073741824) /\ (0 <= a /\ a <= 4096) /\ l <= 2000 /\ (l = 0 \/ k = 1)
abbrev gl (t e n : Int) (l : Nat) : Prop := (0 <= t /\ t <= 1073741824) /\ (0 <= e /\ e <= 19) /\ (0 <= n /\ n <= 4096) /\ l <= 2000
abbrev pn (t k e a : Int) (s : Slc) : List Value := [.int .i64 t, .int .i64 k, .int .i64 e, .int .i64 a, s.v]
abbrev fT (t e n : Int) (s : Slc) : List Value := [.int .i64 t, .int .i64 e, .int .i64 n, s.v]
theorem kx (t k e a : Int) (s : Slc) (w : World) :
  Calls Tryz.prog dz ⟨[.agg ⟨pn t k e a s⟩]⟩ w fun x w' => x = .returned (.bool (decide (cP t k e a s.l))) /\ ai w w' := by
 refine nX _ _ _ _ _ ?_
 unfold j8
 refine aq (fun r w7 hr hb hk hs => ?_)
 have ho := ak.bO hb
 have no : ∀ {X : Prop}, ¬ cP t k e a s.l -> (Ending.returned (Value.bool false) = .returned (.bool (decide (cP t k e a s.l))) /\ ai w w7) := fun h => ⟨by rw [decide_eq_false h], hk⟩
 refine ⟨t, ho.cell 0 (by simp), (gX _ _ w7).mono ?_⟩
 rintro x w8 ⟨rfl, rfl⟩
 refine ⟨_, rfl, ae (fun h1 => ⟨k, ho.cell 1 (by simp), ae (fun h2 => ⟨k, ho.cell 1 (by simp), ae (fun h3 => ⟨e, ho.cell 2 (by simp), (gX _ _ w8).mono ?_⟩) (fun h3 => no (X := True) (fun h => h3 h.2.1.2))⟩) (fun h2 => no (X := True) (fun h => h2 h.2.1.1))⟩) (fun h1 => no (X := True) (fun h => h1 h.1))⟩
 rintro x w9 ⟨rfl, rfl⟩
 refine ⟨_, rfl, ae (fun h4 => ⟨a, ho.cell 3 (by simp), (gX _ _ w9).mono ?_⟩) (fun h4 => no (X := True) (fun h => h4 h.2.2.1))⟩
 rintro x w10 ⟨rfl, rfl⟩
 refine ⟨_, rfl, ae (fun h5 => ⟨s, ho.cell 4 (by simp), ae (fun h6 => ⟨s, ho.cell 4 (by simp), ae (fun h7 => ?_) (fun h7 => ⟨k, ho.cell 1 (by simp), ?_, hk⟩)⟩) (fun h6 => no (X := True) (fun h => by have := h.2.2.2.2.1; omega))⟩) (fun h5 => no (X := True) (fun h => h5 h.2.2.2.1))⟩
 ·rw [decide_eq_true (show cP t k e a s.l from ⟨h1, ⟨h2, h3⟩, h4, h5, by omega, .inl (by omega)⟩)]
  exact ⟨rfl, hk⟩
 ·rw [decide_eq_decide.2]
  exact ⟨fun h8 => ⟨h1, ⟨h2, h3⟩, h4, h5, by omega, .inr h8⟩, fun h => h.2.2.2.2.2.elim (fun h => by omega) (fun h => h)⟩
theorem xI (t k e a : Int) (s : Slc) (w : World) :
  Calls Tryz.prog de ⟨[.agg ⟨pn t k e a s⟩]⟩ w fun x w' => x = .returned (.bool (decide (cP t k e a s.l))) /\ ai w w' := by
 refine j9 _ _ _ _ _ ?_
 unfold gU
 refine aq (fun r w7 hr hb hk hs => ?_)
 have ho := ak.bO hb
 have no : ∀ {X : Prop}, ¬ cP t k e a s.l -> (Ending.returned (Value.bool false) = .returned (.bool (decide (cP t k e a s.l))) /\ ai w w7) := fun h => ⟨by rw [decide_eq_false h], hk⟩
 refine ⟨t, ho.cell 0 (by simp), (tO _ _ w7).mono ?_⟩
 rintro x w8 ⟨rfl, rfl⟩
 refine ⟨_, rfl, ae (fun h1 => ⟨k, ho.cell 1 (by simp), ae (fun h2 => ⟨k, ho.cell 1 (by simp), ae (fun h3 => ⟨e, ho.cell 2 (by simp), (tO _ _ w8).mono ?_⟩) (fun h3 => no (X := True) (fun h => h3 h.2.1.2))⟩) (fun h2 => no (X := True) (fun h => h2 h.2.1.1))⟩) (fun h1 => no (X := True) (fun h => h1 h.1))⟩
 rintro x w9 ⟨rfl, rfl⟩
 refine ⟨_, rfl, ae (fun h4 => ⟨a, ho.cell 3 (by simp), (tO _ _ w9).mono ?_⟩) (fun h4 => no (X := True) (fun h => h4 h.2.2.1))⟩
 rintro x w10 ⟨rfl, rfl⟩
 refine ⟨_, rfl, ae (fun h5 => ⟨s, ho.cell 4 (by simp), ae (fun h6 => ⟨k, ho.cell 1 (by simp), ae (fun h7 => ?_) (fun h7 => ⟨s, ho.cell 4 (by simp), ?_, hk⟩)⟩) (fun h6 => no (X := True) (fun h => by have := h.2.2.2.2.1; omega))⟩) (fun h5 => no (X := True) (fun h => h5 h.2.2.2.1))⟩
 ·rw [decide_eq_true (show cP t k e a s.l from ⟨h1, ⟨h2, h3⟩, h4, h5, by omega, .inr h7⟩)]
  exact ⟨rfl, hk⟩
 ·rw [decide_eq_decide.2]
  exact ⟨fun h8 => ⟨h1, ⟨h2, h3⟩, h4, h5, by omega, .inl (by omega)⟩, fun h => h.2.2.2.2.2.elim (fun h => by omega) (fun h => absurd h h7)⟩
theorem tP (A : Nat -> Addr) (t e n : Int) (s : Slc) (w : World) (hE : bA A w) :
  Calls Tryz.prog gj ⟨[.agg ⟨fT t e n s⟩]⟩ w fun x w' => x = .returned (.bool (decide (gl t e n s.l))) /\ ai w w' := by
 refine pM _ _ _ _ ?_
 unfold lZ
 refine aq (fun r w6 hr hb hk hs => ?_)
 have ho := ak.af (ak.bO hb) (Ext.drew _ _)
 refine ⟨t, ho.cell 0 (by simp), (gX _ _ _).mono ?_⟩
 rintro x w8 ⟨rfl, rfl⟩
 refine ⟨_, rfl, ae (fun h1 => ⟨e, ho.cell 1 (by simp), ?_⟩) (fun h1 => ⟨by rw [decide_eq_false (fun h => h1 h.1)], hk.drew⟩)⟩
 refine (qZ A _ (hE.af hk.drew)).mono ?_
 rintro x w13 ⟨tb, rfl, htl, _, k13⟩
 have ho13 := ho.af k13
 have kk := hk.drew.trans k13
 refine ⟨tb, rfl, ⟨e, ho13.cell 1 (by simp), rfl⟩, (gX _ _ _).mono ?_⟩
 rintro x w17 ⟨rfl, rfl⟩
 rw [htl]
 refine ⟨_, rfl, ae (fun h2 => ⟨n, ho13.cell 2 (by simp), (gX _ _ _).mono ?_⟩) (fun h2 => ⟨by rw [decide_eq_false (fun h => h2 h.2.1)], kk⟩)⟩
 rintro x w21 ⟨rfl, rfl⟩
 refine ⟨_, rfl, ae (fun h3 => ⟨s, ho13.cell 3 (by simp), ?_, kk⟩) (fun h3 => ⟨by rw [decide_eq_false (fun h => h3 h.2.2.1)], kk⟩)⟩
 rw [decide_eq_decide.2]
 exact ⟨fun h => ⟨h1, h2, h3, by omega⟩, fun h => by have := h.2.2.2; omega⟩
def mq (l : List Int) : List UInt8 := (l.map fun n => bo n.toNat).flatten
def aU (l : List Int) (d : List UInt8) : List UInt8 := mq l ++ bo d.length ++ d
theorem tQ (n : Int) (l : List Int) : mq (n :: l) = bo n.toNat ++ mq l := by simp [mq]
theorem Ba (l : List Int) (b : List UInt8) (h : ∀ n ∈ l, 0 <= n /\ n <= 4611686018427387903) : l.foldl (fun st n => u5 n st) (b, none) = (b ++ mq l, none) := by
 induction l generalizing b with
 | nil => simp [mq]
 | cons n l ih =>
  rw [List.foldl_cons, u5, if_neg (by have := h n (by simp); omega), ih _ (fun m hm => h m (by simp [hm])), tQ]; simp
theorem uI (A : Nat -> Addr) (d nl : Slc) (db : List UInt8) (l : List Int) (w : World) (hd : ag w d db) (hn : jZ w nl l) (hl : l.length <= 10) (hr : ∀ n ∈ l, 0 <= n /\ n <= 4611686018427387903) (hp : (aU l db).length <= 2048) (hE : aY A w.heap.size w) :
  Calls Tryz.prog iq ⟨[d.v, nl.v]⟩ w fun x w' => ∃ f : Slc, x = .returned (.tuple ⟨[f.v, .nilIface]⟩) /\ Own w' f 1 ((bn (aU l db)).map aJ) /\ aF w f /\ ai w w' := by
 have hnl := hn.1
 have hpl : (mq l).length + (bo db.length).length + db.length <= 2048 := by simpa [aU, Nat.add_assoc] using hp
 refine vY _ _ ?_
 unfold uu
 refine aq (fun r w4 hr4 hb hk hs => ?_)
 refine ⟨fun i w8 => ∃ (k : Nat) (s : Slc), i = k /\ k <= l.length /\ u4 A w8 r s ((l.take k).foldl (fun st n => u5 n st) ([], none)) /\ bp (iX r ⟨none, 0, 0⟩) (iX r s) w4 w8, fun i _ => ((l.length : Int) - i).toNat, ⟨0, _, rfl, by omega, u4.new A hb, bp.refl _ _⟩, ?_⟩
 rintro i w8 ⟨k, s, rfl, hkl, ho, hf⟩
 intros
 have m0 : ∀ k, iX r ⟨none, 0, 0⟩ k -> w.heap.size <= k := fun k hk => by rw [AO hk]; omega
 obtain ⟨k8, hold⟩ := hf.new hk m0
 refine ae (fun hlt => ?_) (fun hlt => ?_)
 ·have hk2 : k < l.length := by omega
  obtain ⟨a, ha, hc⟩ := ub (uc hn k8) hk2
  have hmem := hr _ (List.getElem_mem hk2)
  refine aa ha ⟨by omega, hlt, l[k], by rw [show Int.toNat (k : Int) * 1 = k by omega]; exact hc, ?_⟩
  have hst : ((l.take k).foldl (fun st n => u5 n st) ([], none)).1.length <= 9 * 10 := by
   have := yi (l.take k) ([], none)
   have h2 : (l.take k).length <= l.length := by simp; omega
   simp only [List.length_nil] at this; omega
  refine (AN A _ r s _ _ w8 ho (by omega) (by omega) (hE.af k8)).mono ?_
  rintro x w20 ⟨rfl, s20, h20, f20⟩
  refine ⟨rfl, aB (by omega), ⟨k + 1, s20, rfl, hk2, ?_, hf.trans f20⟩, by dsimp only; omega⟩
  rw [List.take_succ_eq_append_getElem hk2, List.foldl_append]
  exact h20
 ·have : k = l.length := by omega
  subst this
  rw [List.take_length, Ba l [] hr, List.nil_append] at ho
  refine ⟨db, aj hd k8, (yk A _ r s _ db w8 ho (by dsimp only; omega) (by omega) (hE.af k8)).mono ?_⟩
  rintro x w23 ⟨rfl, s23, h23, f23⟩
  have e1 : CN db (mq l, none) = (aU l db, none) := rfl
  rw [e1] at h23
  have f23' := hf.trans f23
  obtain ⟨k23, _⟩ := f23'.new hk m0
  refine ⟨rfl, (DC A _ r s23 _ w23 h23 (by dsimp only; omega) (hE.af k23)).mono ?_⟩
  rintro x w25 ⟨t, e2, rfl, g1, g2, g3, g5, g6⟩
  dsimp only at g3 g6
  rw [if_neg (by omega)] at g3
  subst g3
  refine ⟨t, _, rfl, trivial, ao (fun h => by cases h) (fun _ => ?_)⟩
  refine (Cj t _ w25 (g6 rfl) hp).mono ?_
  rintro x w29 ⟨f, rfl, q1, q2, q3⟩
  exact ⟨f, _, rfl, f, rfl, q1, q2.mono (k23.trans g1).size, (k23.trans g1).trans q3⟩
theorem tR (d nl : Slc) (db : List UInt8) (l : List Int) (w : World) (hd : ag w d db) (hn : jZ w nl l) (hl : l.length <= 10) (hr : ∀ n ∈ l, 0 <= n /\ n <= 4611686018427387903) (hp : (aU l db).length <= 2048) :
  Calls Tryz.prog dK ⟨[d.v, nl.v]⟩ w fun x w' => ∃ f : Slc, x = .returned f.v /\ ag w' f (bn (aU l db)) /\ aF w f /\ ai w w' /\ f.l <= f.c := by
 have hnl := hn.1
 have hpl : (mq l).length + (bo db.length).length + db.length <= 2048 := by simpa [aU, Nat.add_assoc] using hp
 refine lD _ _ ?_
 unfold iN
 refine aq (fun r w4 hr4 hb hk hs => ?_)
 refine ⟨fun out i w9 => ∃ k : Nat, i = k /\ k <= l.length /\ Own w9 out 1 ((mq (l.take k)).map aJ) /\ aF w out /\ ai w w9, fun _ i _ => ((l.length : Int) - i).toNat, ⟨0, rfl, by omega, Own.new (sz := 1) (n := 0) hb (.inl (by simp)) rfl, aF.at (by omega), hk⟩, ?_⟩
 rintro out i w9 ⟨k, rfl, hkl, ho, hf, hkp⟩
 intros
 have hol := ho.bytes.1
 refine ae (fun hlt => ?_) (fun hlt => ?_)
 ·have hk2 : k < l.length := by omega
  obtain ⟨a, ha, hc⟩ := ub (uc hn hkp) hk2
  obtain ⟨m, hm⟩ : ∃ m : Nat, l[k] = (m : Int) := ⟨l[k].toNat, by have := hr _ (List.getElem_mem hk2); omega⟩
  have hmr := hr _ (List.getElem_mem hk2)
  refine aa ha ⟨by omega, hlt, l[k], by rw [show Int.toNat (k : Int) * 1 = k by omega]; exact hc, ?_⟩
  rw [hm]
  refine (pk m w9 (by omega)).mono ?_
  rintro e w22 ⟨s23, rfl, h23, f23, k23⟩
  have hle2 := bI m 8 (by omega)
  have h231 := h23.bytes.1
  have hfl := AZ (l.take k) (fun n hn => (hr n (List.mem_of_mem_take hn)).2)
  have htk : (l.take k).length <= 10 := by simp; omega
  have hel : (mq (l.take k)).length <= 90 := by rw [mq]; omega
  refine ⟨s23, rfl, bf (w0 := w) (ho.af k23) rfl hf (hkp.trans k23) (aW h23.bytes) (by simp only [Src.n]; omega) (fun s24 w25 g1 g2 g3 g4 => ?_)⟩
  refine ⟨aB (by omega), ⟨k + 1, rfl, hk2, ?_, g3, g2⟩, by dsimp only; omega⟩
  rw [List.take_succ_eq_append_getElem hk2]
  simpa [mq, hm] using g1
 ·have : k = l.length := by omega
  subst this
  rw [List.take_length] at ho hol
  refine ⟨db, aj hd hkp, (va db w9 (by omega)).mono ?_⟩
  rintro x w28 ⟨s29, rfl, h29, f29, k29⟩
  have h291 := h29.bytes.1
  simp only [List.length_append] at h291
  refine ⟨s29, rfl, bf (w0 := w) (ho.af k29) rfl hf (hkp.trans k29) (aW h29.bytes) (by simp only [Src.n]; omega) (fun s30 w31 g1 g2 g3 g4 => ?_)⟩
  have e1 : mq l ++ (bo db.length ++ db) = aU l db := by simp [aU]
  rw [e1] at g1
  have g11 := g1.bytes.1
  refine (qg s30 _ w31 g1.bytes (by omega)).mono ?_
  rintro x w33 ⟨f, rfl, q1, q2, q3⟩
  exact ⟨f, rfl, f, rfl, q1.bytes, q2.mono g2.size, g2.trans q3, q1.le (by omega)⟩
end Go.D
namespace Go.D
open Go Go.Proofs
theorem DL {t k e a : Int} {l : Nat} (h : cP t k e a l) : (mq [1, t, k, e, a]).length <= 14 := by
 obtain ⟨h1, h2, h3, h4, _⟩ := h
 have g0 := bI (1 : Int).toNat 0 (by omega)
 have g1 := bI t.toNat 4 (by omega)
 have g2 := bI k.toNat 0 (by omega)
 have g3 := bI e.toNat 4 (by omega)
 have g4 := bI a.toNat 1 (by omega)
 simp only [tQ, List.length_append]
 simp only [mq, List.map_nil, List.flatten_nil, List.length_nil]
 omega
theorem DM {t e n : Int} {l : Nat} (h : gl t e n l) : (mq [2, t, e, n]).length <= 9 := by
 obtain ⟨h1, h2, h3, _⟩ := h
 have g0 := bI (2 : Int).toNat 0 (by omega)
 have g1 := bI t.toNat 4 (by omega)
 have g2 := bI e.toNat 0 (by omega)
 have g4 := bI n.toNat 1 (by omega)
 simp only [tQ, List.length_append]
 simp only [mq, List.map_nil, List.flatten_nil, List.length_nil]
 omega
theorem ky {t k e a : Int} {d : List UInt8} (h : cP t k e a d.length) : (aU [1, t, k, e, a] d).length <= 2048 := by
 have h1 := DL h
 have h2 := h.2.2.2.2.1
 have h3 := bI d.length 1 (by omega)
 rw [aU, List.length_append, List.length_append]; omega
theorem sK {t e n : Int} {d : List UInt8} (h : gl t e n d.length) : (aU [2, t, e, n] d).length <= 2048 := by
 have h1 := DM h
 have h2 := h.2.2.2
 have h3 := bI d.length 1 (by omega)
 rw [aU, List.length_append, List.length_append]; omega
theorem Gw {t k e a : Int} {l : Nat} (h : cP t k e a l) : ∀ n ∈ [1, t, k, e, a], 0 <= n /\ n <= 4611686018427387903 := by
 intro n hn
 simp only [List.mem_cons, List.not_mem_nil, or_false] at hn
 rcases hn with rfl | rfl | rfl | rfl | rfl <;> omega
theorem Hu {t e n : Int} {l : Nat} (h : gl t e n l) : ∀ m ∈ [2, t, e, n], 0 <= m /\ m <= 4611686018427387903 := by
 intro m hm
 simp only [List.mem_cons, List.not_mem_nil, or_false] at hm
 rcases hm with rfl | rfl | rfl | rfl <;> omega
theorem Fg (A : Nat -> Addr) (t k e a : Int) (s : Slc) (d : List UInt8) (w : World) (hd : ag w s d) (hE : aY A w.heap.size w) :
  Calls Tryz.prog oC ⟨[.agg ⟨pn t k e a s⟩]⟩ w fun x w' => ∃ (f : Slc) (ev : Value), x = .returned (.tuple ⟨[f.v, ev]⟩) /\ ai w w' /\
   ((cP t k e a d.length /\ ev = .nilIface /\ Own w' f 1 ((bn (aU [1, t, k, e, a] d)).map aJ) /\ aF w f) \/ (¬ cP t k e a d.length /\ f = ⟨none, 0, 0⟩ /\ ev = fQ A (dt.getD 3 0))) := by
 have hsl := hd.1
 refine At _ _ _ _ _ ?_
 unfold As
 refine aq (fun r6 w7 hr hb hk hs => ?_)
 have ho := ak.bO hb
 refine ⟨_, _, _, _, _, ho.row, (kx t k e a s w7).mono ?_⟩
 rintro x w14 ⟨rfl, k14⟩
 have kk := hk.trans k14
 rw [hsl]
 refine ⟨_, rfl, bg (fun hb => ?_) (fun hb => ?_)⟩
 ·exact ⟨_, bA.at (hE.af kk.drew).1 3 (by omega), _, _, rfl, kk.drew, .inr ⟨hb, rfl, rfl⟩⟩
 ·have ho14 := ho.af k14
  refine ⟨_, ho14.cell 4 (by simp), _, ho14.cell 0 (by simp), _, ho14.cell 1 (by simp), _, ho14.cell 2 (by simp), _, ho14.cell 3 (by simp), aq (fun r22 w23 hr22 hb22 k22 hs22 => ?_)⟩
  have k23 := kk.trans k22
  have hi : jZ w23 ⟨some ⟨r22, 0, none⟩, 5, 5⟩ [1, t, k, e, a] := Own.ints (Own.new (sz := 1) hb22 (.inl (by simp)) rfl)
  have hE23 : aY A w23.heap.size w23 := (hE.af k23).1.b
  refine (uI A s _ d _ w23 (aj hd k23) hi (by simp) (Gw hb) (ky hb) hE23).mono ?_
  rintro x w25 ⟨f, rfl, g1, g2, g3⟩
  exact ⟨f, _, rfl, f, _, rfl, k23.trans g3, .inl ⟨hb, rfl, g1, g2.mono k23.size⟩⟩
theorem DN (A : Nat -> Addr) (t e n : Int) (s : Slc) (d : List UInt8) (w : World) (hd : ag w s d) (hE : aY A w.heap.size w) :
  Calls Tryz.prog ia ⟨[.agg ⟨fT t e n s⟩]⟩ w fun x w' => ∃ (f : Slc) (ev : Value), x = .returned (.tuple ⟨[f.v, ev]⟩) /\ ai w w' /\
   ((gl t e n d.length /\ ev = .nilIface /\ Own w' f 1 ((bn (aU [2, t, e, n] d)).map aJ) /\ aF w f) \/ (¬ gl t e n d.length /\ f = ⟨none, 0, 0⟩ /\ ev = fQ A (dt.getD 3 0))) := by
 have hsl := hd.1
 refine y0 _ _ _ _ ?_
 unfold ye
 refine aq (fun r6 w7 hr hb hk hs => ?_)
 have ho := ak.bO hb
 refine ⟨_, _, _, _, ho.row, (tP A t e n s w7 (hE.af hk).1).mono ?_⟩
 rintro x w14 ⟨rfl, k14⟩
 have kk := hk.trans k14
 rw [hsl]
 refine ⟨_, rfl, bg (fun hb => ?_) (fun hb => ?_)⟩
 ·exact ⟨_, bA.at (hE.af kk.drew).1 3 (by omega), _, _, rfl, kk.drew, .inr ⟨hb, rfl, rfl⟩⟩
 ·have ho14 := ho.af k14
  refine ⟨_, ho14.cell 3 (by simp), _, ho14.cell 0 (by simp), _, ho14.cell 1 (by simp), _, ho14.cell 2 (by simp), aq (fun r22 w23 hr22 hb22 k22 hs22 => ?_)⟩
  have k23 := kk.trans k22
  have hi : jZ w23 ⟨some ⟨r22, 0, none⟩, 4, 4⟩ [2, t, e, n] := Own.ints (Own.new (sz := 1) hb22 (.inl (by simp)) rfl)
  have hE23 : aY A w23.heap.size w23 := (hE.af k23).1.b
  refine (uI A s _ d _ w23 (aj hd k23) hi (by simp) (Hu hb) (sK hb) hE23).mono ?_
  rintro x w25 ⟨f, rfl, g1, g2, g3⟩
  exact ⟨f, _, rfl, f, _, rfl, k23.trans g3, .inl ⟨hb, rfl, g1, g2.mono k23.size⟩⟩
inductive Msg where
 | ask (t k e a : Int) (d : List UInt8)
 | tell (t e n : Int) (d : List UInt8)
structure HP where
 (t k e a : Int) (d : List UInt8) (st : InS)
def bB (st : InS) : HP :=
 let t := rNum 1073741824 st; let k := rNum 5 t.2; let e := rNum 1073741824 k.2; let a := rNum 4096 e.2; let d := gW 2000 a.2
 ⟨t.1, k.1, e.1, a.1, d.1, d.2⟩
structure Hv where
 (t e n : Int) (d : List UInt8) (st : InS)
def bU (st : InS) : Hv :=
 let t := rNum 1073741824 st; let e := rNum 19 t.2; let n := rNum 4096 e.2; let d := gW 2000 n.2
 ⟨t.1, e.1, n.1, d.1, d.2⟩
def readR (b : List UInt8) : Except Nat Msg :=
 match eI b with
 | .error k => .error k
 | .ok (x, y) => if 0 < y.length then .error 3 else
  let st := rNum 2 (x, none)
  if st.1 = 2 then match lK (bU st.2).st with
   | some j => .error j
   | none => .ok (.tell (bU st.2).t (bU st.2).e (bU st.2).n (bU st.2).d)
  else match lK (bB st.2).st with
   | some j => .error j
   | none => if st.1 = 1 /\ cP (bB st.2).t (bB st.2).k (bB st.2).e (bB st.2).a (bB st.2).d.length then .ok (.ask (bB st.2).t (bB st.2).k (bB st.2).e (bB st.2).a (bB st.2).d) else .error 3
abbrev Z5 : List Value := pn 0 0 0 0 ⟨none, 0, 0⟩
abbrev Z4 : List Value := fT 0 0 0 ⟨none, 0, 0⟩
def vi (A : Nat -> Addr) (w w' : World) (q p : List Value) (is : Bool) (ev : Value) : Except Nat Msg -> Prop
 | .error k => q = Z5 /\ p = Z4 /\ is = false /\ ev = fQ A (dt.getD k 0)
 | .ok (.ask t k e a d) => ∃ s, q = pn t k e a s /\ ag w' s d /\ s.l <= s.c /\ aF w s /\ p = Z4 /\ is = true /\ ev = .nilIface
 | .ok (.tell t e n d) => ∃ s, p = fT t e n s /\ ag w' s d /\ s.l <= s.c /\ aF w s /\ q = Z5 /\ is = false /\ ev = .nilIface
theorem zn {w : World} {r2 r4 n2 n4 : Nat} {z2 z4 c2 c4 : List Value} {K : World -> Prop} (h2 : ak w r2 z2) (h4 : ak w r4 z4) (hne : r2 ≠ r4) (l2 : z2.length = n2) (m2 : c2.length = n2) (l4 : z4.length = n4) (m4 : c4.length = n4)
  (hK : ∀ w12, ak w12 r2 c2 -> ak w12 r4 c4 -> Ext (fun k => k = r2 \/ k = r4) w w12 -> K w12) :
  az w (⟨r2, 0, none⟩ : Addr) n2 /\ ∀ w11 : World, w11 = setCells w (⟨r2, 0, none⟩ : Addr) 0 c2 -> az w11 (⟨r4, 0, none⟩ : Addr) n4 /\ ∀ w12 : World, w12 = setCells w11 (⟨r4, 0, none⟩ : Addr) 0 c4 -> K w12 := by
 obtain ⟨a1, a2⟩ := h2.cx l2 m2
 refine ⟨a1, fun w11 hw => ?_⟩
 obtain ⟨b1, b2, b3⟩ := a2 w11 hw
 obtain ⟨c1, c2⟩ := (h4.ext b2 (fun h => hne h.symm)).cx l4 m4
 refine ⟨c1, fun w12 hw2 => ?_⟩
 obtain ⟨d1, d2, d3⟩ := c2 w12 hw2
 exact hK w12 (b1.ext d2 hne) d1 (b2.trans d2 (fun k h => .inl h) (fun k h => .inl (.inr h)))
theorem zo {w : World} {r2 r4 n2 n4 : Nat} {z2 z4 c2 c4 : List Value} {K : World -> Prop} {g : Addr} {v : Value} (h2 : ak w r2 z2) (h4 : ak w r4 z4) (hne : r2 ≠ r4) (l2 : z2.length = n2) (m2 : c2.length = n2) (l4 : z4.length = n4) (m4 : c4.length = n4)
  (hg : w.cell? g = some v) (g2 : g.block ≠ r2) (g4 : g.block ≠ r4) (hK : ∀ w12, ak w12 r2 c2 -> ak w12 r4 c4 -> Ext (fun k => k = r2 \/ k = r4) w w12 -> K w12) :
  az w (⟨r2, 0, none⟩ : Addr) n2 /\ ∀ w11 : World, w11 = setCells w (⟨r2, 0, none⟩ : Addr) 0 c2 -> (∃ v1 : Value, w11.cell? g = some v1 /\ v1 = v) /\ az w11 (⟨r4, 0, none⟩ : Addr) n4 /\
   ∀ w12 : World, w12 = setCells w11 (⟨r4, 0, none⟩ : Addr) 0 c4 -> (∃ v1 : Value, w12.cell? g = some v1 /\ v1 = v) /\ K w12 := by
 obtain ⟨a1, a2⟩ := h2.cx l2 m2
 refine ⟨a1, fun w11 hw => ?_⟩
 obtain ⟨b1, b2, b3⟩ := a2 w11 hw
 obtain ⟨c1, c2⟩ := (h4.ext b2 (fun h => hne h.symm)).cx l4 m4
 have hg1 := b2.cell hg g2
 refine ⟨⟨v, hg1, rfl⟩, c1, fun w12 hw2 => ?_⟩
 obtain ⟨d1, d2, d3⟩ := c2 w12 hw2
 exact ⟨⟨v, d2.cell hg1 g4, rfl⟩, hK w12 (b1.ext d2 hne) d1 (b2.trans d2 (fun k h => .inl h) (fun k h => .inl (.inr h)))⟩
structure RS (A : Nat -> Addr) (w0 w : World) (r : Nat) (F : Nat -> Prop) (r2 r4 r39 r41 : Nat) (st : InS) (c39 c41 : List Value) : Prop where
 inr : InR A w r F st
 o2 : ak w r2 Z5
 o4 : ak w r4 Z4
 o39 : ak w r39 c39
 o41 : ak w r41 c41
 kp : ai w0 w
 len : st.1.length <= 2 ^ 30
structure RD (w0 : World) (r : Nat) (F : Nat -> Prop) (r2 r4 r39 r41 : Nat) : Prop where
 b : w0.heap.size <= r2 /\ r2 < r4 /\ r4 < r /\ r < r39 /\ r39 < r41
 f : ∀ k, F k -> r4 < k /\ k < r39
theorem RS.step {A : Nat -> Addr} {w0 w w' : World} {r : Nat} {F : Nat -> Prop} {r2 r4 r39 r41 : Nat} {st st' : InS} {c39 c41 : List Value} (h : RS A w0 w r F r2 r4 r39 r41 st c39 c41) (d : RD w0 r F r2 r4 r39 r41)
  (he : Ext (eqB r) w w') (hi : InR A w' r F st') (hl : st'.1.length <= 2 ^ 30) : RS A w0 w' r F r2 r4 r39 r41 st' c39 c41 := by
 obtain ⟨d1, d2, d3, d4, d5⟩ := d.b
 have ne : ∀ x, x ≠ r -> ¬ eqB r x := fun x hx hh => hx hh
 exact ⟨hi, h.o2.ext he (ne _ (by omega)), h.o4.ext he (ne _ (by omega)), h.o39.ext he (ne _ (by omega)), h.o41.ext he (ne _ (by omega)), h.kp.ext he (fun k hk => by rw [show k = r from hk]; omega), hl⟩
theorem RS.af {A : Nat -> Addr} {w0 w w' : World} {r : Nat} {F : Nat -> Prop} {r2 r4 r39 r41 : Nat} {st : InS} {c39 c41 : List Value} (h : RS A w0 w r F r2 r4 r39 r41 st c39 c41) (k : ai w w') : RS A w0 w' r F r2 r4 r39 r41 st c39 c41 :=
 ⟨h.inr.af k, h.o2.af k, h.o4.af k, h.o39.af k, h.o41.af k, h.kp.trans k, h.len⟩
theorem RS.Gx {A : Nat -> Addr} {w0 w w' : World} {r : Nat} {F : Nat -> Prop} {r2 r4 r39 r41 : Nat} {st : InS} {c39 c41 c' : List Value} (h : RS A w0 w r F r2 r4 r39 r41 st c39 c41) (d : RD w0 r F r2 r4 r39 r41)
  (ho : ak w' r39 c') (he : Ext (fun x => x = r39) w w') : RS A w0 w' r F r2 r4 r39 r41 st c' c41 := by
 obtain ⟨d1, d2, d3, d4, d5⟩ := d.b
 exact ⟨h.inr.ext he (by omega) (fun k hk hh => by have := d.f k hk; omega), h.o2.ext he (by omega), h.o4.ext he (by omega), ho, h.o41.ext he (by omega), h.kp.ext he (fun k hk => by omega), h.len⟩
theorem RS.Gy {A : Nat -> Addr} {w0 w w' : World} {r : Nat} {F : Nat -> Prop} {r2 r4 r39 r41 : Nat} {st : InS} {c39 c41 c' : List Value} (h : RS A w0 w r F r2 r4 r39 r41 st c39 c41) (d : RD w0 r F r2 r4 r39 r41)
  (ho : ak w' r41 c') (he : Ext (fun x => x = r41) w w') : RS A w0 w' r F r2 r4 r39 r41 st c39 c' := by
 obtain ⟨d1, d2, d3, d4, d5⟩ := d.b
 exact ⟨h.inr.ext he (by omega) (fun k hk hh => by have := d.f k hk; omega), h.o2.ext he (by omega), h.o4.ext he (by omega), h.o39.ext he (by omega), ho, h.kp.ext he (fun k hk => by omega), h.len⟩
theorem RS.Num {A : Nat -> Addr} {w0 w : World} {r : Nat} {F : Nat -> Prop} {r2 r4 r39 r41 : Nat} {st : InS} {c39 c41 : List Value} (h : RS A w0 w r F r2 r4 r39 r41 st c39 c41) (d : RD w0 r F r2 r4 r39 r41) (hE : aY A w0.heap.size w0) (most : Int) :
  Calls Tryz.prog aQ ⟨[.pointer (some ⟨r, 0, none⟩), .int .i64 most]⟩ w fun e w' => e = .returned (.int .i64 (rNum most st).1) /\ RS A w0 w' r F r2 r4 r39 r41 (rNum most st).2 c39 c41 := by
 obtain ⟨d1, d2, d3, d4, d5⟩ := d.b
 refine (pf A w0.heap.size r F st most w h.inr h.len (hE.af h.kp) (by omega)).mono ?_
 rintro e w' ⟨rfl, h1, h2⟩
 exact ⟨rfl, h.step d h2 h1 (Nat.le_trans (mj most st) h.len)⟩
theorem DO (most : Int) (st : InS) : (gW most st).2.1.length <= st.1.length := by
 have := mj most st
 rw [gW]
 generalize rNum most st = x at this ⊢
 obtain ⟨n, bs, er⟩ := x
 cases er with
 | some k => exact this
 | none =>
  rw [qV]
  split
  ·exact this
  ·dsimp only at this ⊢
   simp; omega
theorem RS.Text {A : Nat -> Addr} {w0 w : World} {r : Nat} {F : Nat -> Prop} {r2 r4 r39 r41 : Nat} {st : InS} {c39 c41 : List Value} (h : RS A w0 w r F r2 r4 r39 r41 st c39 c41) (d : RD w0 r F r2 r4 r39 r41) (hE : aY A w0.heap.size w0) (most : Int) :
  Calls Tryz.prog cO ⟨[.pointer (some ⟨r, 0, none⟩), .int .i64 most]⟩ w fun e w' => e = .returned (fG (gW most st).1) /\ RS A w0 w' r F r2 r4 r39 r41 (gW most st).2 c39 c41 := by
 obtain ⟨d1, d2, d3, d4, d5⟩ := d.b
 refine (sI A w0.heap.size r F st most w h.inr h.len (hE.af h.kp) (by omega)).mono ?_
 rintro e w' ⟨rfl, h1, h2⟩
 exact ⟨rfl, h.step d h2 h1 (Nat.le_trans (DO most st) h.len)⟩
end Go.D
namespace Go.D
open Go Go.Proofs
def HQ (A : Nat -> Addr) (w0 w : World) (r : Nat) (F : Nat -> Prop) (r2 r4 r39 r41 : Nat) (st : Int × InS) : Prop :=
 (st.1 = 2 /\ ∃ s, RS A w0 w r F r2 r4 r39 r41 (bU st.2).st Z5 (fT (bU st.2).t (bU st.2).e (bU st.2).n s) /\ ag w s (bU st.2).d /\ s.l <= s.c /\ ∀ k, au s k -> r4 < k) \/
 (st.1 ≠ 2 /\ ∃ s, RS A w0 w r F r2 r4 r39 r41 (bB st.2).st (pn (bB st.2).t (bB st.2).k (bB st.2).e (bB st.2).a s) Z4 /\ ag w s (bB st.2).d /\ s.l <= s.c /\ ∀ k, au s k -> r4 < k)
theorem uJ (A : Nat -> Addr) (s : Slc) (b : List UInt8) (w : World) (hb : ag w s b) (hl : s.l <= 2 ^ 20) (hc : s.l <= s.c) (hE : aY A w.heap.size w) :
  Calls Tryz.prog jN ⟨[s.v]⟩ w fun x w' => ∃ (q p : List Value) (is : Bool) (ev : Value), x = .returned (.tuple ⟨[.agg ⟨q⟩, .agg ⟨p⟩, .bool is, ev]⟩) /\ vi A w w' q p is ev (readR b) /\ ai w w' := by
 refine y9 _ ?_
 unfold yf
 refine aq (fun r2 w3 hr2 hb2 k2 hs2 => aq (fun r4 w5 hr4 hb4 k4 hs4 => ?_))
 have k5 := k2.trans k4
 have o2 : ak w5 r2 Z5 := ak.af (ak.bO hb2) k4
 have o4 : ak w5 r4 Z4 := ak.bO hb4
 have hg : ∀ {w' : World}, aY A w.heap.size w' -> w'.cell? ⟨aw, 0, none⟩ = some (fQ A (dt.getD 3 0)) := fun h => bA.at h.1 3 (by omega)
 have hglt : aw < w.heap.size := (hE.2 aw (iD (k := 3) (by omega))).1
 refine (DK A s b w5 (aj hb k5) (by omega) hc (Ht (hE.af k5).1)).mono ?_
 rintro x w7 ⟨s8, s9, ev, rfl, hres, k7'⟩
 have k7 := k5.trans k7'
 have o27 := o2.af k7'
 have o47 := o4.af k7'
 have hne : r2 ≠ r4 := by omega
 -- an error
 have bad : ∀ (j : Nat) (w12 : World), ak w12 r2 Z5 -> ak w12 r4 Z4 -> ai w w12 -> readR b = .error j -> ∃ (q p : List Value) (is : Bool) (ev : Value), Ending.returned (Value.tuple ⟨[.agg ⟨Z5⟩, .agg ⟨Z4⟩, .bool false, fQ A (dt.getD j 0)]⟩) = .returned (.tuple ⟨[.agg ⟨q⟩, .agg ⟨p⟩, .bool is, ev]⟩) /\ vi A w w12 q p is ev (readR b) /\ ai w w12 := by
  intro j w12 _ _ kk hj
  rw [hj]
  exact ⟨_, _, _, _, rfl, ⟨rfl, rfl, rfl, rfl⟩, kk⟩
 have kext : ∀ {wa wb : World}, ai w wa -> Ext (fun k => k = r2 \/ k = r4) wa wb -> ai w wb := fun h he => h.ext he (fun k hk => by omega)
 cases hop : eI b with
 | error j =>
  rw [hop] at hres
  obtain ⟨rfl, rfl, rfl⟩ := hres
  refine ⟨_, _, _, rfl, trivial, ao (fun _ => ?_) (fun h => by cases h)⟩
  refine zn o27 o47 hne rfl rfl rfl rfl (fun w12 a2 a4 he => ⟨_, _, _, _, _, a2.row, _, _, _, _, a4.row, ?_⟩)
  exact bad j w12 a2 a4 (kext k7 he) (by rw [readR, hop])
 | ok xy =>
  obtain ⟨x, y⟩ := xy
  rw [hop] at hres
  obtain ⟨hx, hy, hfx, hfy, rfl⟩ := hres
  have hyl := hy.1
  refine ⟨_, _, _, rfl, trivial, ao (fun h => by cases h) (fun _ => ae (fun h0 => ?_) (fun h0 => ?_))⟩
  ·have kd := k7.drew
   refine ⟨_, hg (hE.af kd), zo (o27.af (Ext.drew _ _)) (o47.af (Ext.drew _ _)) hne rfl rfl rfl rfl (hg (hE.af kd)) (by show aw ≠ r2; omega) (by show aw ≠ r4; omega) (fun w12 a2 a4 he => ⟨_, _, _, _, _, a2.row, _, _, _, _, a4.row, ?_⟩)⟩
   refine bad 3 w12 a2 a4 (kext kd he) ?_
   rw [readR, hop]; dsimp only; rw [if_pos (by omega)]
  ·have hxl := hx.1
   have hxb : x.length <= b.length := by
    have : eI b = .ok (x, y) := hop
    rw [eI] at this
    split at this; ·cases this
    split at this; ·cases this
    split at this; ·cases this
    split at this
    ·cases this; simp [iH]; omega
    ·cases this
   have hbl := hb.1
   refine (yj A s8 x w7 hx (by omega)).mono ?_
   rintro e w37 ⟨r, F, rfl, hR, k37, hr, hF⟩
   refine ⟨_, rfl, aq (fun r39 w40 hr39 hb39 k39 hs39 => aq (fun r41 w42 hr41 hb41 k41 hs41 => ?_))⟩
   have hrlt : r < w37.heap.size := by obtain ⟨_, h1, _⟩ := hR; exact h1.1.lt
   have h57 := k7'.size
   have d : RD w r F r2 r4 r39 r41 := ⟨by omega, fun k hk => by have := hF k hk; omega⟩
   have k37' := k37.trans (k39.trans k41)
   have hS : RS A w w42 r F r2 r4 r39 r41 (x, none) Z5 Z4 := ⟨hR.af (k39.trans k41), o27.af k37', o47.af k37', ak.af (ak.bO hb39) k41, ak.bO hb41, k7.trans k37', by dsimp only; omega⟩
   refine (hS.Num d hE 2).mono ?_
   rintro e w44 ⟨rfl, hS44⟩
   have hrr : readR b = (if (rNum 2 (x, none)).1 = 2 then match lK (bU (rNum 2 (x, none)).2).st with
     | some j => .error j
     | none => .ok (.tell (bU (rNum 2 (x, none)).2).t (bU (rNum 2 (x, none)).2).e (bU (rNum 2 (x, none)).2).n (bU (rNum 2 (x, none)).2).d)
    else match lK (bB (rNum 2 (x, none)).2).st with
     | some j => .error j
     | none => if (rNum 2 (x, none)).1 = 1 /\ cP (bB (rNum 2 (x, none)).2).t (bB (rNum 2 (x, none)).2).k (bB (rNum 2 (x, none)).2).e (bB (rNum 2 (x, none)).2).a (bB (rNum 2 (x, none)).2).d.length then .ok (.ask (bB (rNum 2 (x, none)).2).t (bB (rNum 2 (x, none)).2).k (bB (rNum 2 (x, none)).2).e (bB (rNum 2 (x, none)).2).a (bB (rNum 2 (x, none)).2).d) else .error 3) := by
    rw [readR, hop]; dsimp only; first | (rw [if_neg (by omega)]; done) | (rw [if_neg (by omega)]; rfl)
   generalize rNum 2 (x, none) = st at hS44 hrr ⊢
   refine ⟨_, rfl, fun w85 => HQ A w w85 r F r2 r4 r39 r41 st, ae (fun h2 => ?_) (fun h2 => ?_), ?_⟩
   ·refine (hS44.Num d hE 1073741824).mono ?_
    rintro e w48 ⟨rfl, hS48⟩
    refine ⟨_, rfl, (qZ A w48 (hE.af hS48.kp).1).mono ?_⟩
    rintro e w51 ⟨tb, rfl, htl, _, k51⟩
    refine ⟨tb, rfl, ?_⟩
    rw [htl]
    refine ((hS48.af k51).Num d hE 19).mono ?_
    rintro e w54 ⟨rfl, hS54⟩
    refine ⟨_, rfl, (hS54.Num d hE 4096).mono ?_⟩
    rintro e w57 ⟨rfl, hS57⟩
    obtain ⟨a1, a2⟩ := hS57.o41.cx (n := 4) (cs := fT (rNum 1073741824 st.2).1 (rNum 19 (rNum 1073741824 st.2).2).1 (rNum 4096 (rNum 19 (rNum 1073741824 st.2).2).2).1 ⟨none, 0, 0⟩) rfl rfl
    refine ⟨_, rfl, a1, fun w59 hw59 => ?_⟩
    obtain ⟨b1, b2, _⟩ := a2 w59 hw59
    have hS59 := hS57.Gy d b1 b2
    refine (hS59.Text d hE 2000).mono ?_
    rintro e w61 ⟨rfl, hS61⟩
    refine ⟨_, rfl, lR (fun s63 w64 hsb hsc hfr k64 => ?_)⟩
    have hS64 := hS61.af k64
    obtain ⟨c1, c2⟩ := hS64.o41.aM 3 (by simp) s63.v
    refine ⟨c1, fun w65 hw65 => ?_⟩
    obtain ⟨d1, d2, _⟩ := c2 w65 hw65
    have h41 : r41 < w61.heap.size := hS61.o41.lt
    refine .inl ⟨h2, s63, hS64.Gy d d1 d2, aE hsb d2 (fun k hk hh => by have := hfr k hk; omega), hsc, fun k hk => by have := hfr k hk; have := d.b; omega⟩
   ·refine (hS44.Num d hE 1073741824).mono ?_
    rintro e w48 ⟨rfl, hS48⟩
    refine ⟨_, rfl, (hS48.Num d hE 5).mono ?_⟩
    rintro e w54 ⟨rfl, hS54⟩
    refine ⟨_, rfl, (hS54.Num d hE 1073741824).mono ?_⟩
    rintro e w55 ⟨rfl, hS55⟩
    refine ⟨_, rfl, (hS55.Num d hE 4096).mono ?_⟩
    rintro e w57 ⟨rfl, hS57⟩
    obtain ⟨a1, a2⟩ := hS57.o39.cx (n := 5) (cs := pn (rNum 1073741824 st.2).1 (rNum 5 (rNum 1073741824 st.2).2).1 (rNum 1073741824 (rNum 5 (rNum 1073741824 st.2).2).2).1 (rNum 4096 (rNum 1073741824 (rNum 5 (rNum 1073741824 st.2).2).2).2).1 ⟨none, 0, 0⟩) rfl rfl
    refine ⟨_, rfl, a1, fun w59 hw59 => ?_⟩
    obtain ⟨b1, b2, _⟩ := a2 w59 hw59
    have hS59 := hS57.Gx d b1 b2
    refine (hS59.Text d hE 2000).mono ?_
    rintro e w61 ⟨rfl, hS61⟩
    refine ⟨_, rfl, lR (fun s63 w64 hsb hsc hfr k64 => ?_)⟩
    have hS64 := hS61.af k64
    obtain ⟨c1, c2⟩ := hS64.o39.aM 4 (by simp) s63.v
    refine ⟨c1, fun w65 hw65 => ?_⟩
    obtain ⟨d1, d2, _⟩ := c2 w65 hw65
    have h39 : r39 < w61.heap.size := hS61.o39.lt
    refine .inr ⟨h2, s63, hS64.Gx d d1 d2, aE hsb d2 (fun k hk hh => by have := hfr k hk; omega), hsc, fun k hk => by have := hfr k hk; have := d.b; omega⟩
   ·rintro w85 hmeet
    intros
    rcases hmeet with ⟨h2, sd, hS85, hsd, hsdc, hsdb⟩ | ⟨h2, sd, hS85, hsd, hsdc, hsdb⟩
    ·rw [if_pos h2] at hrr
     refine (ph A _ r F _ w85 hS85.inr (hE.af hS85.kp)).mono ?_
     rintro e w115 ⟨rfl, rfl⟩
     refine ⟨_, rfl, aO _ _, ?_⟩
     cases hen : lK (bU st.2).st with
     | some j =>
      rw [hen] at hrr
      refine ao (fun _ => ?_) (fun h => by cases h)
      refine zn hS85.o2 hS85.o4 hne rfl rfl rfl rfl (fun w12 a2 a4 he => ⟨_, _, _, _, _, a2.row, _, _, _, _, a4.row, ?_⟩)
      exact bad j w12 a2 a4 (kext hS85.kp he) hrr
     | none =>
      rw [hen] at hrr
      have hSd := hS85.af (Ext.drew _ w115)
      refine ao (fun h => by cases h) (fun _ => ae (fun _ => ?_) (fun h => absurd h2 h))
      refine ⟨_, _, _, _, hSd.o41.row, ?_⟩
      obtain ⟨a1, a2⟩ := hSd.o2.cx (n := 5) (cs := Z5) rfl rfl
      refine ⟨a1, fun w132 hw => ?_⟩
      obtain ⟨b1, b2, _⟩ := a2 w132 hw
      have dd := d.b
      refine ⟨⟨_, _, _, _, (hSd.o41.ext b2 (by omega)).row, rfl⟩, ?_⟩
      obtain ⟨c1, c2⟩ := (hSd.o4.ext b2 (by omega)).cx (n := 4) (cs := fT (bU st.2).t (bU st.2).e (bU st.2).n sd) rfl rfl
      refine ⟨c1, fun w137 hw => ?_⟩
      obtain ⟨d1, d2, _⟩ := c2 w137 hw
      refine ⟨_, _, _, _, _, (b1.ext d2 (by omega)).row, _, _, _, _, d1.row, _, _, _, _, rfl, ?_, ?_⟩
      ·rw [hrr]
       refine ⟨sd, rfl, aE (aE (yR hsd) b2 (fun k hk hh => by have := hsdb k hk; omega)) d2 (fun k hk hh => by have := hsdb k hk; omega), hsdc, fun k hk => by have := hsdb k hk; omega, rfl, rfl, rfl⟩
      ·exact (hSd.kp.ext b2 (fun k hk => by omega)).ext d2 (fun k hk => by omega)
    ·rw [if_neg h2] at hrr
     refine (ph A _ r F _ w85 hS85.inr (hE.af hS85.kp)).mono ?_
     rintro e w115 ⟨rfl, rfl⟩
     refine ⟨_, rfl, aO _ _, ?_⟩
     have dd := d.b
     cases hen : lK (bB st.2).st with
     | some j =>
      rw [hen] at hrr
      refine ao (fun _ => ?_) (fun h => by cases h)
      refine zn hS85.o2 hS85.o4 hne rfl rfl rfl rfl (fun w12 a2 a4 he => ⟨_, _, _, _, _, a2.row, _, _, _, _, a4.row, ?_⟩)
      exact bad j w12 a2 a4 (kext hS85.kp he) hrr
     | none =>
      rw [hen] at hrr
      dsimp only at hrr
      refine ao (fun h => by cases h) (fun _ => ae (fun h => absurd h h2) (fun _ => bg (fun h1 => ?_) (fun h1 => ?_)))
      ·have kd := hS85.kp.drew
       rw [if_neg (fun h => h1 h.1)] at hrr
       refine ⟨_, hg (hE.af kd), zo (hS85.o2.af (Ext.drew _ _)) (hS85.o4.af (Ext.drew _ _)) hne rfl rfl rfl rfl (hg (hE.af kd)) (by show aw ≠ r2; omega) (by show aw ≠ r4; omega) (fun w12 a2 a4 he => ⟨_, _, _, _, _, a2.row, _, _, _, _, a4.row, ?_⟩)⟩
       exact bad 3 w12 a2 a4 (kext kd he) hrr
      ·refine ⟨_, _, _, _, _, hS85.o39.row, (kx _ _ _ _ _ w115).mono ?_⟩
       rintro e w167 ⟨rfl, k167⟩
       have hS167 := hS85.af k167
       rw [hsd.1]
       refine ⟨_, rfl, bg (fun hq => ?_) (fun hq => ?_)⟩
       ·have kd := hS167.kp.drew
        rw [if_neg (fun h => hq h.2)] at hrr
        refine ⟨_, hg (hE.af kd), zo (hS167.o2.af (Ext.drew _ _)) (hS167.o4.af (Ext.drew _ _)) hne rfl rfl rfl rfl (hg (hE.af kd)) (by show aw ≠ r2; omega) (by show aw ≠ r4; omega) (fun w12 a2 a4 he => ⟨_, _, _, _, _, a2.row, _, _, _, _, a4.row, ?_⟩)⟩
        exact bad 3 w12 a2 a4 (kext kd he) hrr
       ·rw [if_pos ⟨h1, hq⟩] at hrr
        refine ⟨_, _, _, _, _, hS167.o39.row, zn hS167.o2 hS167.o4 hne rfl rfl rfl rfl (fun w12 a2 a4 he => ⟨_, _, _, _, _, a2.row, _, _, _, _, a4.row, _, _, _, _, rfl, ?_, kext hS167.kp he⟩)⟩
        rw [hrr]
        exact ⟨sd, rfl, aE (aj hsd k167) he (fun k hk hh => by have := hsdb k hk; omega), hsdc, fun k hk => by have := hsdb k hk; omega, rfl, rfl, rfl⟩
end Go.D
namespace Go.D
open Go Go.Proofs
structure NdE where
 f : Int
 t : Int
 e : Option Nat
 n : Int
 d : List UInt8
def NdE.msg (x : NdE) : List UInt8 := bn (aU [2, x.t, eN x.e, x.n] x.d)
abbrev NdA := Option Nat × Int × List UInt8
def uK (s : UnS) (ep a : Int) : List UInt8 := if (readE s.tr s.ep (pgM s.U s.tr) ep a).isNone then (pgM s.U s.tr a).getD [] else []
def dx (k : Nat) (s : UnS) (kd ep a : Int) (d : List UInt8) : NdA × UnS :=
 if kd = 1 then (((writeP k s ep a d).1, 0, []), (writeP k s ep a d).2)
 else if kd = 2 then (if 2000 < (uK s ep a).length then (some 2, 0, []) else (readE s.tr s.ep (pgM s.U s.tr) ep a, 0, uK s ep a), s)
 else if kd = 3 then (((ym k s ep a).1, 0, []), (ym k s ep a).2)
 else if kd = 4 then (((mo k s ep).1, if (mo k s ep).1 = none then ((mo k s ep).2.T : Int) else 0, []), (mo k s ep).2)
 else (if ep < (s.ep : Int) then (some 7, 0, []) else (none, (s.T : Int), []), s)
theorem tS {ep epoch a most : Int} : ∀ j, dT ep epoch a most = some j -> j < 19 /\ j ≠ 11 := by
 intro j hj
 unfold dT at hj
 split at hj
 ·cases hj; omega
 ·split at hj
  ·cases hj; omega
  ·cases hj
theorem DP {k : Nat} {s : UnS} {epoch a : Int} {t : List UInt8} : ∀ j, (writeP k s epoch a t).1 = some j -> j < 19 /\ j ≠ 11 := by
 intro j hj
 unfold writeP at hj
 split at hj
 ·rename_i c hc; cases hj; exact tS _ hc
 ·split at hj
  ·cases hj; omega
  ·split at hj
   ·cases hj; omega
   ·split at hj
    ·cases hj; omega
    ·split at hj
     ·cases hj; omega
     ·cases hj
theorem Fh {k : Nat} {s : UnS} {epoch : Int} : ∀ j, (mo k s epoch).1 = some j -> j < 19 /\ j ≠ 11 := by
 intro j hj
 unfold mo at hj
 split at hj
 ·cases hj; omega
 ·split at hj
  ·cases hj; omega
  ·split at hj
   ·cases hj
   ·split at hj
    ·cases hj; omega
    ·cases hj
theorem Fi {k : Nat} {s : UnS} {epoch a : Int} : ∀ j, (ym k s epoch a).1 = some j -> j < 19 /\ j ≠ 11 := by
 intro j hj
 unfold ym at hj
 split at hj
 ·rename_i c hc; cases hj; exact tS _ hc
 ·split at hj
  ·cases hj
  ·split at hj
   ·cases hj; omega
   ·cases hj
theorem Fj {tr ep : Int} {pg : Int -> Option (List UInt8)} {epoch a : Int} : ∀ j, readE tr ep pg epoch a = some j -> j < 19 /\ j ≠ 11 := by
 intro j hj
 unfold readE at hj
 split at hj
 ·rename_i c hc; cases hj; exact tS _ hc
 ·split at hj
  ·cases hj; omega
  ·split at hj
   ·cases hj
   ·cases hj; omega
def Hw (c : NdA) : Prop := (∀ j, c.1 = some j -> j < 19 /\ j ≠ 11) /\ 0 <= c.2.1 /\ c.2.1 <= 4096 /\ c.2.2.length <= 2000
theorem Fk {k : Nat} {s : UnS} {kd ep a : Int} {d : List UInt8} (h1 : s.T <= 4096) (h2 : (dx k s kd ep a d).2.T <= 4096) : Hw (dx k s kd ep a d).1 := by
 unfold dx at h2 ⊢
 split at h2
 ·rename_i e; rw [if_pos e]; exact ⟨DP, by simp, by simp, by simp⟩
 rename_i e1; rw [if_neg e1]
 split at h2
 ·rename_i e; rw [if_pos e]
  split
  ·exact ⟨fun j hj => by cases hj; omega, by simp, by simp, by simp⟩
  ·exact ⟨Fj, by simp, by simp, by dsimp only; omega⟩
 rename_i e2; rw [if_neg e2]
 split at h2
 ·rename_i e; rw [if_pos e]; exact ⟨Fi, by simp, by simp, by simp⟩
 rename_i e3; rw [if_neg e3]
 split at h2
 ·rename_i e; rw [if_pos e]
  refine ⟨Fh, ?_, ?_, by simp⟩
  ·dsimp only; split <;> omega
  ·dsimp only at h2 ⊢; split <;> omega
 rename_i e4; rw [if_neg e4]
 split
 ·exact ⟨fun j hj => by cases hj; omega, by simp, by simp, by simp⟩
 ·exact ⟨(fun j hj => by cases hj), by dsimp only; omega, by dsimp only; omega, by simp⟩
theorem Hx {e : Option Nat} (h : ∀ j, e = some j -> j < 19) : 0 <= eN e /\ eN e <= 19 := by
 cases e with
 | none => exact ⟨by decide, by decide⟩
 | some j => have := h j rfl; exact ⟨by show (0 : Int) <= ((j + 1 : Nat) : Int); omega, by show ((j + 1 : Nat) : Int) <= 19; omega⟩
def NdE.ok (x : NdE) : Prop := gl x.t (eN x.e) x.n x.d.length /\ ∀ j, x.e = some j -> j < 19
def fe (T : List NdE) : List NdE := T.drop (T.length - 32)
def nO (f t : Int) (T : List NdE) : Option NdE := (fe T).find? (fun x => decide (x.f = f /\ x.t = t))
def ndStep (k : Nat) (s : UnS) (T : List NdE) (f : Int) (b : List UInt8) : Option NdE × UnS × List NdE :=
 match readR b with
 | .ok (.ask t kd ep a d) => match nO f t T with
  | some x => (some x, s, T)
  | none => (some ⟨f, t, (dx k s kd ep a d).1.1, (dx k s kd ep a d).1.2.1, (dx k s kd ep a d).1.2.2⟩, (dx k s kd ep a d).2, T ++ [⟨f, t, (dx k s kd ep a d).1.1, (dx k s kd ep a d).1.2.1, (dx k s kd ep a d).1.2.2⟩])
 | _ => (none, s, T)
theorem wZ (T : List NdE) : (fe T).length = min 32 T.length := by unfold fe; rw [List.length_drop]; omega
theorem sL {T : List NdE} {x : NdE} (h : x ∈ fe T) : x ∈ T := List.mem_of_mem_drop h
theorem Cl {f t : Int} {T : List NdE} {k : Nat} (hk : k < (fe T).length) (h : (fe T)[k].f = f /\ (fe T)[k].t = t) (hno : ∀ j (hj : j < (fe T).length), j < k -> ¬ ((fe T)[j].f = f /\ (fe T)[j].t = t)) : nO f t T = some (fe T)[k] := by
 unfold nO
 rw [List.find?_eq_some_iff_getElem]
 exact ⟨decide_eq_true h, k, hk, rfl, fun j hj => by rw [decide_eq_false (hno j (by omega) hj)]; rfl⟩
theorem Cm {f t : Int} {T : List NdE} (hno : ∀ j (hj : j < (fe T).length), ¬ ((fe T)[j].f = f /\ (fe T)[j].t = t)) : nO f t T = none := by
 unfold nO
 rw [List.find?_eq_none]
 intro x hx
 obtain ⟨j, hj, rfl⟩ := List.getElem_of_mem hx
 simpa using hno j hj
theorem yq {f t : Int} {T : List NdE} {x : NdE} (h : nO f t T = some x) : x ∈ T := sL (List.mem_of_find?_eq_some h)
theorem tU (T : List NdE) (x : NdE) : fe (T ++ [x]) = if 32 < (fe T ++ [x]).length then (fe T ++ [x]).eraseIdx 0 else fe T ++ [x] := by
 have hl := wZ T
 unfold fe at hl ⊢
 rw [List.length_append, List.length_append, List.length_singleton, List.length_drop]
 by_cases h : 32 <= T.length
 ·rw [if_pos (by omega)]
  have h2 : T.length - 32 < T.length := by omega
  rw [List.drop_eq_getElem_cons h2, show T.length + 1 - 32 = T.length - 32 + 1 by omega, List.drop_append_of_le_length (by omega)]
  rfl
 ·rw [if_neg (by omega), show T.length + 1 - 32 = 0 by omega, show T.length - 32 = 0 by omega]
  rfl
end Go.D
namespace Go.D
open Go Go.Proofs
theorem Fl (A : Nat -> Addr) (e' : Option Nat) (h : ∀ j, e' = some j -> j < 19) (k : Nat) (hk : k < 19) (w : World) (hE : bA A w) :
  Calls Tryz.prog jO ⟨[cF A e', fQ A (dt.getD k 0)]⟩ w fun e w' => e = .returned (.bool (decide (e' = some k))) /\ w' = w := by
 cases e' with
 | none => exact GU _ _
 | some j =>
  refine (bA.is hE (h j rfl) hk).mono ?_
  rintro e w' ⟨rfl, rfl⟩
  refine ⟨?_, rfl⟩
  by_cases hj : j = k
  ·rw [decide_eq_true hj, decide_eq_true (by rw [hj])]
  ·rw [decide_eq_false hj, decide_eq_false (fun hh => hj (Option.some.inj hh))]
theorem yr (A : Nat -> Addr) (e' : Option Nat) (h : ∀ k, e' = some k -> k < 19) (w : World) (hE : bA A w) : Calls Tryz.prog eo ⟨[cF A e']⟩ w fun e w' => e = .returned (.int .i64 (eN e')) /\ ai w w' := by
 cases e' with
 | none => exact Ck w
 | some k => exact A9 A k (h k rfl) w hE
section
variable {w w' : World} {n0 r rd m rn : Nat} {f : UnF} {d : aP} {s : UnS} {ts : Slc}
theorem xJ (A : Nat -> Addr) (h : UAt w n0 r rd f d s m) (hE : aY A n0 w) (o : ak w rn [aA r, ts.v, .bool false]) (ep : Int) :
  Calls Tryz.prog ik ⟨[aA rn, .int .i64 ep]⟩ w fun e w' => e = .returned (.tuple ⟨[.int .i64 (if ep < (s.ep : Int) then 0 else (s.T : Int)), cF A (if ep < (s.ep : Int) then some 7 else none)]⟩) /\ ai w w' := by
 refine rI _ _ ?_
 unfold oT
 refine aa rfl ⟨_, o.cell 0 (by simp), (AL h.M).mono ?_⟩
 rintro e w6 ⟨rfl, k6⟩
 refine ⟨_, rfl, ae (fun h1 => ?_) (fun h1 => aa rfl ⟨_, (o.af k6).cell 0 (by simp), (qU (h.af k6).M).mono ?_⟩)⟩
 ·rw [if_pos h1, if_pos h1]
  have kd := k6.trans (Ext.drew gP w6)
  exact ⟨_, bA.at (hE.af kd).1 7 (by omega), rfl, kd⟩
 ·rintro e w12 ⟨rfl, k12⟩
  rw [if_neg h1, if_neg h1, <- h.t.2]
  exact ⟨_, rfl, rfl, k6.trans k12⟩
theorem Bb (A : Nat -> Addr) (h : UAt w n0 r rd f d s m) (hE : aY A n0 w) (hn0 : n0 <= w.heap.size) (hm : m <= 2 ^ 58) (hst : d.stops = false) (o : ak w rn [aA r, ts.v, .bool false]) (t kd ep a : Int) (sl : Slc) (b : List UInt8) (hb : ag w sl b) (hbl : b.length <= 2 ^ 20) (hs : ∀ k, au sl k -> ¬ UB r rd f k) (hk : 1 <= kd /\ kd <= 5) :
  Calls Tryz.prog jx ⟨[aA rn, .agg ⟨pn t kd ep a sl⟩]⟩ w fun e w' => ∃ (n : Int) (u : Slc), e = .returned (.tuple ⟨[.int .i64 n, u.v, cF A (dx (d.n / 64) s kd ep a b).1.1]⟩) /\ ((dx (d.n / 64) s kd ep a b).1.1 = none -> n = (dx (d.n / 64) s kd ep a b).1.2.1 /\ ag w' u (dx (d.n / 64) s kd ep a b).1.2.2) /\
   ((dx (d.n / 64) s kd ep a b).1.1 ≠ none -> (dx (d.n / 64) s kd ep a b).1.2 = (0, [])) /\ ∃ f' d', UAt w' n0 r rd f' d' (dx (d.n / 64) s kd ep a b).2 (m + 1) /\ d'.n = d.n /\ d'.stops = false /\ fF r rd f f' w w' := by
 refine uU _ _ _ _ _ _ ?_
 unfold rJ
 refine aq (fun r7 w8 hr7 hb7 k7 hs7 => ?_)
 have o7 := ak.bO hb7
 have kd8 : ai w8 (World.drew w8) := Ext.drew _ _
 have h8 := h.af k7
 have hd8 := h8.af kd8
 have od8 := o7.af kd8
 have on := (o.af k7).af kd8
 have kk := k7.trans kd8
 have nilB : ∀ w2, ag w2 (⟨none, 0, 0⟩ : Slc) [] := fun w2 => ⟨rfl, .inl rfl⟩
 refine ⟨_, o7.cell 1 (by simp), ae (fun h1 => ?_) (fun h1 => ae (fun h2 => ?_) (fun h2 => ae (fun h3 => ?_) (fun h3 => ae (fun h4 => ?_) (fun h4 => ?_))))⟩
 ·subst h1
  refine aa rfl ⟨_, on.cell 0 (by simp), _, od8.cell 2 (by simp), _, od8.cell 3 (by simp), sl, od8.cell 4 (by simp), (AW A hd8 (hE.af kk) (by omega) ep a sl b (aj hb kk) hbl hs).mono ?_⟩
  rintro e w16 ⟨e', rfl, hout⟩
  obtain ⟨rfl, f', d', hU', hn', hs', uf⟩ := hout.live hst
  refine ⟨_, rfl, 0, ⟨none, 0, 0⟩, rfl, fun _ => ⟨rfl, nilB _⟩, fun _ => rfl, f', d', hU', hn', hs', ai.uH kk uf⟩
 ·subst h2
  refine aa rfl ⟨_, on.cell 0 (by simp), _, od8.cell 2 (by simp), _, od8.cell 3 (by simp), (B5 A hd8.M ep a ((hE.af kk).g.sub sB)).mono ?_⟩
  rintro e w23 ⟨t23, rfl, ho, hf, k23⟩
  have hlen : t23.l = (uK s ep a).length := ho.bytes.1
  have eP : dx (d.n / 64) s 2 ep a b = (if 2000 < (uK s ep a).length then (some 2, 0, []) else (readE s.tr s.ep (pgM s.U s.tr) ep a, 0, uK s ep a), s) := rfl
  rw [eP]
  refine ⟨t23, _, rfl, ae (fun h5 => ?_) (fun h5 => ?_)⟩
  ·rw [if_pos (by omega)]
   have kd := (kk.trans k23).trans (Ext.drew gP w23)
   exact ⟨_, bA.at (hE.af kd).1 2 (by omega), 0, ⟨none, 0, 0⟩, rfl, (fun hh => by cases hh), fun _ => rfl, f, d, ((hd8.af k23).af (Ext.drew gP w23)).up (by omega), rfl, hst, ai.uH kd (fF.refl _ _ _ _)⟩
  ·rw [if_neg (by omega)]
   refine ⟨0, t23, rfl, fun _ => ⟨rfl, ho.bytes⟩, fun hne => ?_, f, d, (hd8.af k23).up (by omega), rfl, hst, ai.uH (kk.trans k23) (fF.refl _ _ _ _)⟩
   dsimp only at hne ⊢
   unfold uK
   rw [if_neg (by simpa [Option.isNone_iff_eq_none] using hne)]
 ·subst h3
  refine aa rfl ⟨_, on.cell 0 (by simp), _, od8.cell 2 (by simp), _, od8.cell 3 (by simp), (Ch A hd8 (hE.af kk) (by omega) ep a).mono ?_⟩
  rintro e w16 ⟨e', rfl, hout⟩
  obtain ⟨rfl, f', d', hU', hn', hs', uf⟩ := hout.live hst
  refine ⟨_, rfl, 0, ⟨none, 0, 0⟩, rfl, fun _ => ⟨rfl, nilB _⟩, fun _ => rfl, f', d', hU', hn', hs', ai.uH kk uf⟩
 ·subst h4
  refine aa rfl ⟨_, on.cell 0 (by simp), _, od8.cell 2 (by simp), (Cf A hd8 (hE.af kk) (by omega) ep).mono ?_⟩
  rintro e w16 ⟨n, e', rfl, hout, hnum⟩
  obtain ⟨rfl, f', d', hU', hn', hs', uf⟩ := hout.live hst
  have hnn := hnum rfl
  refine ⟨_, _, rfl, n, ⟨none, 0, 0⟩, rfl, fun _ => ⟨hnn, nilB _⟩, fun hne => ?_, f', d', hU', hn', hs', ai.uH kk uf⟩
  have hne' : (mo (d.n / 64) s ep).1 ≠ none := hne
  show ((if (mo (d.n / 64) s ep).1 = none then ((mo (d.n / 64) s ep).2.T : Int) else 0), ([] : List UInt8)) = (0, [])
  rw [if_neg hne']
 ·have h5 : kd = 5 := by omega
  subst h5
  refine ⟨_, o7.cell 2 (by simp), (xJ A h8 (hE.af k7) (o.af k7) ep).mono ?_⟩
  rintro e w43 ⟨rfl, k43⟩
  have eP : dx (d.n / 64) s 5 ep a b = (if ep < (s.ep : Int) then (some 7, 0, []) else (none, (s.T : Int), []), s) := rfl
  rw [eP]
  refine ⟨_, _, rfl, (if ep < (s.ep : Int) then 0 else (s.T : Int)), ⟨none, 0, 0⟩, ?_, ?_, ?_, f, d, (h8.af k43).up (by omega), rfl, hst, ai.uH (k7.trans k43) (fF.refl _ _ _ _)⟩
  ·by_cases hc : ep < (s.ep : Int)
   ·rw [if_pos hc, if_pos hc, if_pos hc]
   ·rw [if_neg hc, if_neg hc, if_neg hc]
  ·by_cases hc : ep < (s.ep : Int)
   ·rw [if_pos hc]; intro hh; cases hh
   ·rw [if_neg hc, if_neg hc]; exact fun _ => ⟨rfl, nilB _⟩
  ·by_cases hc : ep < (s.ep : Int)
   ·rw [if_pos hc]; exact fun _ => rfl
   ·rw [if_neg hc]; exact fun hh => absurd rfl hh
end
end Go.D

