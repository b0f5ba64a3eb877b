/-
  WHAT IS PROVED: contracts of functions, and the plain law, for this proof. No further conditions.
-/
import Derived.Test.YtbeciidagekppaaGreatDoorAll2
import Derived.Test.YtbeciidagekppaaGreatDoorVCref08
import Derived.Test.YtbeciidagekppaaGreatDoorVCref04
import Derived.Test.YtbeciidagekppaaGreatDoorAll1
import Derived.Test.YtbeciidagekppaaGreatDoorArgs
import Derived.Test.YtbeciidagekppaaGreatDoorRd
import Derived.Test.YtbeciidagekppaaGreatDoorVCref09
set_option linter.unusedVariables false
set_option linter.unusedSimpArgs false
namespace Go.D
open Go Go.Proofs

def kindR : Rc → Int
  | .page _ _ => 1
  | .trim _ _ => 2
  | .shut _ => 3
def numR : Rc → Int
  | .page a _ => a
  | .trim t _ => t
  | .shut e => e
def textR : Rc → List UInt8
  | .page _ t => t
  | _ => []
/-- A record is written: what Append makes of it. -/
theorem record_spec9 {w : World} {n0 r st rd m : Nat} {u : StP} {q : DevP} {d : DevS} {L : List SegS} {x : UnP} {tr ep top : Int} {pg : Int → Option (List UInt8)} {ins : Int → List Int} (A : Nat → Addr) (hS : Sys w n0 st rd u q d L m) (h : UnM w r st x tr ep top pg ins) (hE : ErrsB A n0 w) (hm : m ≤ 2 ^ 60)
    (c : Rc) (hc : okR c) (hep : ∀ t e, c = .trim t e → ep = (e : Int)) (s : Slc) (hb : (∃ a t, c = .page a t) → bytesAt w s (textR c)) :
    Calls Tryz.prog fn_unit_Unit_record ⟨[ptrR' r, .int .i64 (kindR c), .int .i64 (numR c), s.v]⟩ w fun e w' => ∃ (n : Int) (e' : Option Nat) (w1 : World), e = .returned (.tuple ⟨[.int .i64 n, errO A e']⟩) ∧ Keep w w1 ∧ AppPost A w1 n0 st rd u q d L m (encR c) n e' w' := by
  refine unit_Unit_record_ok _ _ _ _ ?_
  unfold unit_Unit_record
  have hel := encR_len hc
  refine newS_mk (fun r5 w6 hr5 hb5 k6 hs5 => ?_)
  have hO : OutK A w w6 r5 ⟨none, 0, 0⟩ [] := ⟨OutS.new A hb5, fun k hk => by rw [OutM_nil hk]; omega, k6⟩
  have hk3 : 0 ≤ kindR c ∧ kindR c ≤ 3 := by cases c <;> simp [kindR]
  have hn3 : 0 ≤ numR c ∧ numR c ≤ 2 ^ 31 := by
    cases c with
    | page a t => obtain ⟨v1, _⟩ := hc; simp only [numR]; omega
    | trim t e => obtain ⟨v1, _⟩ := hc; simp only [numR]; omega
    | shut e => have v1 : e ≤ 2 ^ 30 := hc; simp only [numR]; omega
  have hl1 := numB_len (kindR c) (by omega)
  have hl2 := numB_len (numR c) (by omega)
  refine (outNum hO (by omega) (by simp) hE).mono ?_
  rintro e w8 ⟨rfl, s8, h8, _⟩
  refine ⟨rfl, (outNum h8 (by omega) (by simp; omega) hE).mono ?_⟩
  rintro e w10 ⟨rfl, s10, h10, _⟩
  refine ⟨rfl, fun w2 => ∃ s2, OutK A w w2 r5 s2 (encR c), ?_, ?_⟩
  · cases c with
    | page a t =>
      obtain ⟨v1, v2, v3⟩ := hc
      refine BIf_dec (fun _ => ⟨t, bytesAt_keep (hb ⟨a, t, rfl⟩) h10.k, (outText h10 (by omega) (by simp [kindR, numR] at hl1 hl2 ⊢; omega) hE).mono ?_⟩) (fun hh => absurd rfl hh)
      rintro e w14 ⟨rfl, s14, h14, _⟩
      exact ⟨rfl, s14, by simpa [encR, kindR, numR] using h14⟩
    | trim t e0 =>
      obtain ⟨v1, v2⟩ := hc
      have he := hep t e0 rfl
      subst he
      refine BIf_dec (fun hh => absurd hh (by simp [kindR])) (fun _ => BIf_dec (fun _ => needSome_mk rfl ⟨_, (h.keep h10.k).c.2.2.2.2.1, (outNum h10 (by omega) (by simp [kindR, numR] at hl1 hl2 ⊢; omega) hE).mono ?_⟩) (fun hh => absurd rfl hh))
      rintro e w18 ⟨rfl, s18, h18, _⟩
      exact ⟨rfl, s18, by simpa [encR, kindR, numR] using h18⟩
    | shut e0 =>
      refine BIf_dec (fun hh => absurd hh (by simp [kindR])) (fun _ => BIf_dec (fun hh => absurd hh (by simp [kindR])) (fun _ => ⟨s10, by simpa [encR, kindR, numR] using h10⟩))
  · rintro w19 ⟨s19, h19⟩
    intros
    refine (outDoneK h19 (by omega) hE).mono ?_
    rintro e w36 ⟨t, rfl, ht, htf, k36, _⟩
    have hS36 := hS.keep k36
    refine ⟨t, _, rfl, trivial, BIf_mk (fun hh => by cases hh) (fun _ => needSome_mk rfl ⟨_, (h.keep k36).c.1, ?_⟩)⟩
    refine Calls.mono (R := fun e w' => ∃ n e', e = .returned (.tuple ⟨[.int .i64 n, errO A e']⟩) ∧ AppPost A w36 n0 st rd u q d L m (encR c) n e' w') (segs_Store_Append_ok _ _ (Append_gen8 hS36 ((hE.keep k36).g.sub segG_sub) hm ht.bytes (ht.le (by omega)) (by omega) (fun _ k hk hh => ?_) (fun n e' w' hp => ⟨n, e', rfl, hp⟩))) ?_
    · have := htf k hk
      have := hS.B.lt k hh
      omega
    · rintro e w42 ⟨n, e', rfl, hp⟩
      exact ⟨n, _, rfl, n, e', w36, rfl, k36, hp⟩
end Go.D

set_option linter.unusedVariables false
set_option linter.unusedSimpArgs false
namespace Go.D
open Go

/-! ### a unit that is told its records, one after the other -/
structure UV where
  tr : Int
  ep : Int
  top : Int
  pg : Int → Option (List UInt8)
  ins : Int → List Int
def stepV (v : UV) (x : Int × Rc) : UV := ⟨tellTr v.tr x.2, tellEp v.ep x.2, tellTop v.top x.2, tellPg v.pg x.2, tellIn v.ins x.1 x.2⟩
def initV : UV := ⟨0, 0, 0, fun _ => none, fun _ => []⟩
def foldV (Q : List (Int × Rc)) : UV := Q.foldl stepV initV
theorem foldV_snoc (Q : List (Int × Rc)) (x : Int × Rc) : foldV (Q ++ [x]) = stepV (foldV Q) x := by simp [foldV]
theorem pagesOf_mem {R : List Rc} {y : Nat × List UInt8} : y ∈ pagesOf R ↔ Rc.page y.1 y.2 ∈ R := by
  induction R with
  | nil => simp [pagesOf]
  | cons c R ih => cases c <;> simp [pagesOf, ih, Prod.ext_iff]
theorem fold_inv {P : List (Int × Rc) → Prop} (h0 : P []) (hs : ∀ Q x, P Q → P (Q ++ [x])) : ∀ Q, P Q := by
  intro Q
  have key : ∀ n, P (Q.take n) := by
    intro n
    induction n with
    | zero => simpa using h0
    | succ n ih =>
      by_cases hn : n < Q.length
      · rw [List.take_succ_eq_append_getElem hn]; exact hs _ _ ih
      · rw [List.take_of_length_le (by omega)]
        rwa [List.take_of_length_le (by omega)] at ih
  have := key Q.length
  rwa [List.take_length] at this
theorem foldV_pg (Q : List (Int × Rc)) : ∀ a : Int, (∀ y ∈ pagesOf (Q.map (·.2)), (y.1 : Int) ≠ a) → (foldV Q).pg a = none := by
  refine fold_inv (P := fun Q => ∀ a : Int, (∀ y ∈ pagesOf (Q.map (·.2)), (y.1 : Int) ≠ a) → (foldV Q).pg a = none) (fun a _ => rfl) (fun Q x ih a h => ?_) Q
  rw [foldV_snoc]
  rw [List.map_append, pagesOf_append] at h
  have ih' := ih a (fun y hy => h y (by simp [hy]))
  obtain ⟨seg, c⟩ := x
  cases c with
  | page b t =>
    have hb := h (b, t) (by simp [pagesOf])
    simp only [stepV, tellPg, updI]
    rw [if_neg (fun e => hb e.symm)]
    exact ih'
  | trim t e => exact ih'
  | shut e => exact ih'
theorem foldV_top (Q : List (Int × Rc)) (hq : ∀ x ∈ Q, okR x.2) : 0 ≤ (foldV Q).top ∧ (foldV Q).top ≤ 4096 := by
  refine fold_inv (P := fun Q => (∀ x ∈ Q, okR x.2) → 0 ≤ (foldV Q).top ∧ (foldV Q).top ≤ 4096) (fun _ => by simp [foldV, initV]) (fun Q x ih h => ?_) Q hq
  rw [foldV_snoc]
  have ih' := ih (fun y hy => h y (by simp [hy]))
  have hx := h x (by simp)
  obtain ⟨seg, c⟩ := x
  cases c with
  | page b t =>
    obtain ⟨v1, _⟩ := hx
    simp only [stepV, tellTop]
    omega
  | trim t e => exact ih'
  | shut e => exact ih'
theorem foldV_ins (Q : List (Int × Rc)) : ∀ n, ((foldV Q).ins n).length ≤ Q.length := by
  refine fold_inv (P := fun Q => ∀ n, ((foldV Q).ins n).length ≤ Q.length) (fun n => by simp [foldV, initV]) (fun Q x ih n => ?_) Q
  rw [foldV_snoc, List.length_append, List.length_singleton]
  have ih' := ih n
  obtain ⟨seg, c⟩ := x
  cases c with
  | page b t =>
    simp only [stepV, tellIn, updI]
    by_cases e : n = seg
    · rw [if_pos e, List.length_append, List.length_singleton]
      subst e; omega
    · rw [if_neg e]; omega
  | trim t e => simp only [stepV, tellIn]; omega
  | shut e => simp only [stepV, tellIn]; omega
end Go.D

set_option linter.unusedVariables false
set_option linter.unusedSimpArgs false
namespace Go.D
open Go Go.Proofs

def qs1 (g : USeg) : List (Int × Rc) := g.rs.map fun c => ((g.num : Int), c)
def qsU (U : List USeg) : List (Int × Rc) := U.flatMap qs1
theorem qsU_snd (U : List USeg) : (qsU U).map (·.2) = allR U := by
  induction U with
  | nil => rfl
  | cons g U ih =>
    simp only [qsU, allR, List.flatMap_cons, List.map_append] at ih ⊢
    rw [ih]
    congr 1
    unfold qs1
    rw [List.map_map]
    exact List.map_id _
theorem qsU_take (U : List USeg) (j : Nat) (hj : j < U.length) : qsU (U.take (j + 1)) = qsU (U.take j) ++ qs1 U[j] := by
  unfold qsU
  rw [List.take_succ_eq_append_getElem hj, List.flatMap_append, List.flatMap_cons, List.flatMap_nil, List.append_nil]
/-- The records ahead of one, and behind it. -/
theorem qsU_split (U : List USeg) (j n : Nat) (hj : j < U.length) (hn : n < U[j].rs.length) : ∃ R, qsU U = (qsU (U.take j) ++ (qs1 U[j]).take n) ++ (((U[j].num : Int), U[j].rs[n]) :: R) := by
  have e : U = U.take j ++ (U[j] :: U.drop (j + 1)) := by
    rw [← List.drop_eq_getElem_cons hj, List.take_append_drop]
  have hq : n < (qs1 U[j]).length := by simpa [qs1] using hn
  have e2 : qs1 U[j] = (qs1 U[j]).take n ++ ((qs1 U[j])[n] :: (qs1 U[j]).drop (n + 1)) := by
    rw [← List.drop_eq_getElem_cons hq, List.take_append_drop]
  have e3 : (qs1 U[j])[n] = ((U[j].num : Int), U[j].rs[n]) := by simp [qs1]
  refine ⟨(qs1 U[j]).drop (n + 1) ++ qsU (U.drop (j + 1)), ?_⟩
  have h1 : qsU U = qsU (U.take j) ++ (qs1 U[j] ++ qsU (U.drop (j + 1))) := by
    conv => lhs; rw [e]
    unfold qsU
    rw [List.flatMap_append, List.flatMap_cons]
  rw [h1]
  conv => lhs; rw [e2]
  rw [e3]
  simp
/-- A page that is told is not there yet. -/
theorem new_page {Q R : List (Int × Rc)} {seg : Int} {a : Nat} {t : List UInt8} (hn : ((pagesOf ((Q ++ ((seg, Rc.page a t) :: R)).map (·.2))).map (·.1)).Nodup) : (foldV Q).pg (a : Int) = none := by
  refine foldV_pg Q _ (fun y hy e => ?_)
  rw [List.map_append, pagesOf_append, List.map_append] at hn
  have h1 := (List.nodup_append.1 hn).2.2 y.1 (List.mem_map.2 ⟨y, hy, rfl⟩) a (by simp [pagesOf])
  omega
end Go.D

set_option linter.unusedVariables false
set_option linter.unusedSimpArgs false
namespace Go.D
open Go

/-! ### what a unit holds, plainly -/
def pgM (U : List USeg) (tr : Nat) (a : Int) : Option (List UInt8) := if a < (tr : Int) then none else pageAt (pgU U) a.toNat
def insU (U : List USeg) (n : Int) : List Int := (pagesOf (((qsU U).filter fun x => decide (x.1 = n)).map (·.2))).map fun y => (y.1 : Int)
theorem foldV_te (Q : List (Int × Rc)) : (foldV Q).tr = ((teOf (Q.map (·.2))).1 : Int) ∧ (foldV Q).ep = ((teOf (Q.map (·.2))).2 : Int) := by
  refine fold_inv (P := fun Q => (foldV Q).tr = ((teOf (Q.map (·.2))).1 : Int) ∧ (foldV Q).ep = ((teOf (Q.map (·.2))).2 : Int)) (by simp [foldV, initV, teOf]) (fun Q x ih => ?_) Q
  obtain ⟨seg, c⟩ := x
  rw [foldV_snoc, List.map_append, List.map_cons, List.map_nil, teOf_snoc]
  cases c with
  | page b t => exact ih
  | trim t e => exact ⟨rfl, rfl⟩
  | shut e => exact ⟨ih.1, rfl⟩
theorem foldV_topOf (Q : List (Int × Rc)) : (foldV Q).top = ((topOf (pagesOf (Q.map (·.2)))) : Int) := by
  refine fold_inv (P := fun Q => (foldV Q).top = ((topOf (pagesOf (Q.map (·.2)))) : Int)) (by simp [foldV, initV, topOf, pagesOf]) (fun Q x ih => ?_) Q
  obtain ⟨seg, c⟩ := x
  rw [foldV_snoc, List.map_append, List.map_cons, List.map_nil, pagesOf_append]
  cases c with
  | page b t =>
    simp only [stepV, tellTop, pagesOf]
    rw [topOf_snoc, ih]; omega
  | trim t e => simpa [stepV, tellTop, pagesOf] using ih
  | shut e => simpa [stepV, tellTop, pagesOf] using ih
theorem foldV_pgAt (Q : List (Int × Rc)) (hn : ((pagesOf (Q.map (·.2))).map (·.1)).Nodup) (a : Nat) : (foldV Q).pg (a : Int) = pageAt (pagesOf (Q.map (·.2))) a := by
  revert hn
  refine fold_inv (P := fun Q => ((pagesOf (Q.map (·.2))).map (·.1)).Nodup → (foldV Q).pg (a : Int) = pageAt (pagesOf (Q.map (·.2))) a) (fun _ => by simp [foldV, initV, pageAt, pagesOf]) (fun Q x ih hn => ?_) Q
  obtain ⟨seg, c⟩ := x
  rw [List.map_append, List.map_cons, List.map_nil, pagesOf_append] at hn ⊢
  rw [foldV_snoc]
  have hq : ((pagesOf (Q.map (·.2))).map (·.1)).Nodup := by rw [List.map_append] at hn; exact (List.nodup_append.1 hn).1
  have ih' := ih hq
  cases c with
  | page b t =>
    simp only [stepV, tellPg, pagesOf, updI]
    rw [pageAt_snoc]
    by_cases e : (a : Int) = (b : Int)
    · have e2 : b = a := by omega
      subst e2
      rw [if_pos rfl]
      have : pageAt (pagesOf (Q.map (·.2))) b = none := pageAt_none.2 (fun y hy e => by
        rw [List.map_append] at hn
        exact (List.nodup_append.1 hn).2.2 y.1 (List.mem_map.2 ⟨y, hy, rfl⟩) b (by simp [pagesOf]) e)
      rw [this]; simp
    · rw [if_neg e, ih']
      cases pageAt (pagesOf (Q.map (·.2))) a with
      | some y => rfl
      | none => simp only; rw [if_neg (by omega)]
  | trim t e => simpa [stepV, tellPg, pagesOf] using ih'
  | shut e => simpa [stepV, tellPg, pagesOf] using ih'
theorem foldV_insAt (Q : List (Int × Rc)) (n : Int) : (foldV Q).ins n = (pagesOf ((Q.filter fun x => decide (x.1 = n)).map (·.2))).map fun y => (y.1 : Int) := by
  refine fold_inv (P := fun Q => (foldV Q).ins n = (pagesOf ((Q.filter fun x => decide (x.1 = n)).map (·.2))).map fun y => (y.1 : Int)) (by simp [foldV, initV, pagesOf]) (fun Q x ih => ?_) Q
  obtain ⟨seg, c⟩ := x
  rw [foldV_snoc, List.filter_append, List.map_append, pagesOf_append, List.map_append, ← ih]
  by_cases e : seg = n
  · subst e
    cases c with
    | page b t => simp [stepV, tellIn, updI, pagesOf]
    | trim t e => simp [stepV, tellIn, pagesOf]
    | shut e => simp [stepV, tellIn, pagesOf]
  · have e' : ¬ n = seg := fun h => e h.symm
    cases c with
    | page b t => simp [stepV, tellIn, updI, pagesOf, e, e']
    | trim t e1 => simp [stepV, tellIn, pagesOf, e]
    | shut e1 => simp [stepV, tellIn, pagesOf, e]
/-- Opened: what the records tell is what the unit holds. -/
theorem foldV_unit {U : List USeg} {tr ep T : Nat} (h : UnOk U tr ep T) : (foldV (qsU U)).tr = (tr : Int) ∧ (foldV (qsU U)).ep = (ep : Int) ∧ max (foldV (qsU U)).top (tr : Int) = (T : Int) ∧ cutPg (tr : Int) (foldV (qsU U)).pg = pgM U tr ∧ (foldV (qsU U)).ins = insU U := by
  have h1 := foldV_te (qsU U)
  have h2 := foldV_topOf (qsU U)
  have hte := h.te
  have htl := h.tl
  rw [qsU_snd] at h1 h2
  rw [hte] at h1
  refine ⟨h1.1, h1.2, ?_, ?_, funext fun n => foldV_insAt _ n⟩
  · rw [h2]; show max ((topOf (pgU U) : Nat) : Int) (tr : Int) = T
    omega
  · funext a
    unfold cutPg pgM
    split
    · rfl
    · rename_i ha
      obtain ⟨b, rfl⟩ : ∃ b : Nat, a = b := ⟨a.toNat, by omega⟩
      rw [foldV_pgAt _ (by rw [qsU_snd]; exact h.nd), qsU_snd]; rfl

/-! ### a record more, and a segment less -/
theorem qsU_append (U V : List USeg) : qsU (U ++ V) = qsU U ++ qsU V := by simp [qsU]
theorem qsU_one (g : USeg) : qsU [g] = qs1 g := by simp [qsU]
theorem qsU_add (M : List USeg) (g : USeg) (x : Rc) : qsU (M ++ [{ g with rs := g.rs ++ [x] }]) = qsU (M ++ [g]) ++ [((g.num : Int), x)] := by
  rw [qsU_append, qsU_append, qsU_one, qsU_one, List.append_assoc]
  simp [qs1]
theorem qsU_new (U : List USeg) (p n : Nat) : qsU (U ++ [⟨p, n, []⟩]) = qsU U := by rw [qsU_append, qsU_one]; simp [qs1]
theorem insU_qs {U V : List USeg} {n : Int} {x : Rc} (h : qsU V = qsU U ++ [(n, x)]) : insU V = tellIn (insU U) n x := by
  funext k
  have e0 : insU V k = insU U k ++ (pagesOf (([(n, x)].filter fun x => decide (x.1 = k)).map (·.2))).map fun y => (y.1 : Int) := by
    unfold insU
    rw [h, List.filter_append, List.map_append, pagesOf_append, List.map_append]
  rw [e0]
  by_cases e : k = n
  · subst e
    cases x <;> simp [tellIn, updI, pagesOf]
  · have e' : ¬ n = k := fun h => e h.symm
    cases x <;> simp [tellIn, updI, pagesOf, e, e']
theorem insU_new (U : List USeg) (p n : Nat) : insU (U ++ [⟨p, n, []⟩]) = insU U := by funext k; unfold insU; rw [qsU_new]
theorem filter_none {g : USeg} {n : Int} (h : (g.num : Int) ≠ n) : (qs1 g).filter (fun x => decide (x.1 = n)) = [] := by
  rw [List.filter_eq_nil_iff]
  intro x hx
  obtain ⟨c, _, rfl⟩ := List.mem_map.1 hx
  simpa using h
theorem filter_all (g : USeg) : (qs1 g).filter (fun x => decide (x.1 = (g.num : Int))) = qs1 g := by
  rw [List.filter_eq_self]
  intro x hx
  obtain ⟨c, _, rfl⟩ := List.mem_map.1 hx
  simp
theorem filter_noneU {U : List USeg} {n : Int} (h : ∀ g ∈ U, (g.num : Int) ≠ n) : (qsU U).filter (fun x => decide (x.1 = n)) = [] := by
  induction U with
  | nil => rfl
  | cons g U ih =>
    rw [show g :: U = [g] ++ U from rfl, qsU_append, qsU_one, List.filter_append, filter_none (h g (by simp)), ih (fun g' hg' => h g' (by simp [hg']))]; rfl
theorem insU_head {g : USeg} {U : List USeg} (h : ∀ g' ∈ U, g'.num ≠ g.num) : insU (g :: U) (g.num : Int) = (pagesOf g.rs).map fun y => (y.1 : Int) := by
  unfold insU
  rw [show g :: U = [g] ++ U from rfl, qsU_append, qsU_one, List.filter_append, filter_all, filter_noneU (fun g' hg' e => h g' hg' (by omega)), List.append_nil]
  congr 2
  unfold qs1
  rw [List.map_map]
  exact List.map_id _
theorem insU_drop {g : USeg} {U : List USeg} (h : ∀ g' ∈ U, g'.num ≠ g.num) : insU U = updI (insU (g :: U)) (g.num : Int) [] := by
  funext k
  unfold updI
  by_cases e : k = (g.num : Int)
  · rw [if_pos e]
    unfold insU
    rw [e, filter_noneU (fun g' hg' e => h g' hg' (by omega))]; rfl
  · rw [if_neg e]
    unfold insU
    rw [show g :: U = [g] ++ U from rfl, qsU_append, qsU_one, List.filter_append, filter_none (fun h => e h.symm), List.nil_append]
theorem insU_len (U : List USeg) (n : Int) : (insU U n).length ≤ (pgU U).length := by
  unfold insU pgU
  rw [← qsU_snd, List.length_map]
  have key : ∀ Q : List (Int × Rc), (pagesOf ((Q.filter fun x => decide (x.1 = n)).map (·.2))).length ≤ (pagesOf (Q.map (·.2))).length := by
    intro Q
    induction Q with
    | nil => simp
    | cons x Q ih =>
      obtain ⟨s, c⟩ := x
      by_cases e : s = n
      · rw [List.filter_cons_of_pos (by simpa using e)]
        cases c <;> simp only [List.map_cons, pagesOf, List.length_cons] <;> omega
      · rw [List.filter_cons_of_neg (by simpa using e)]
        cases c <;> simp only [List.map_cons, pagesOf, List.length_cons] <;> omega
  exact key _

/-! ### what a unit does, plainly -/
def appU (k : Nat) (U : List USeg) (x : Rc) : Option (Nat × List USeg) :=
  if fitsL (sU U) (encR x).length then (if h : U ≠ [] then some ((U.getLast h).num, U.dropLast ++ [{ U.getLast h with rs := (U.getLast h).rs ++ [x] }]) else none)
  else match freeP k (sU U) with
    | none => none
    | some p => some (nextN (sU U), U ++ [⟨p, nextN (sU U), [x]⟩])
def baseU (k : Nat) (U : List USeg) (n : Nat) : List USeg :=
  if fitsL (sU U) n then U else match freeP k (sU U) with
    | none => U
    | some p => U ++ [⟨p, nextN (sU U), []⟩]
theorem fits_ne {U : List USeg} {n : Nat} (h : fitsL (sU U) n = true) : U ≠ [] := fun e => by subst e; simp [fitsL] at h
theorem appU_ok {k : Nat} {U : List USeg} {x : Rc} (h : okR x) : appR k (sU U) (encR x) = match appU k U x with | none => (some 12, 0, sU U) | some (n, V) => (none, (n : Int), sU V) := by
  have hl := encR_len h
  have hap : appR k (sU U) (encR x) = match baseL k (sU U) (encR x).length with | none => (some 12, 0, sU U) | some L0 => (none, lastN L0, addRec L0 (encR x)) := by
    unfold appR; rw [if_neg (by omega)]; try rfl
  rw [hap]
  unfold appU baseL
  by_cases hf : fitsL (sU U) (encR x).length = true
  · have hne := fits_ne hf
    rw [if_pos hf, if_pos hf, dif_pos hne]
    have e : U.dropLast ++ [U.getLast hne] = U := List.dropLast_concat_getLast hne
    have e1 : sU U = sU U.dropLast ++ [(U.getLast hne).s] := by rw [show sU U = sU (U.dropLast ++ [U.getLast hne]) by rw [e]]; simp
    have e2 : sU (U.dropLast ++ [{ U.getLast hne with rs := (U.getLast hne).rs ++ [x] }]) = sU U.dropLast ++ [{ (U.getLast hne).s with recs := (U.getLast hne).s.recs ++ [encR x] }] := by simp [USeg.s]
    simp only
    rw [e1, lastN_snoc, addRec_snoc, e2]; rfl
  · rw [if_neg hf, if_neg hf]
    cases hp : freeP k (sU U) with
    | none => rfl
    | some p =>
      simp only [Option.map_some]
      unfold takeL
      rw [lastN_snoc, addRec_snoc]
      simp [USeg.s]
/-- What an append makes: the records' order, and the segment. -/
theorem appU_qs {k : Nat} {U V : List USeg} {x : Rc} {n : Nat} (h : appU k U x = some (n, V)) : qsU V = qsU U ++ [((n : Int), x)] ∧ (V.getLast?.map (·.num)) = some n ∧ (∃ M g, V = M ++ [{ g with rs := g.rs ++ [x] }] ∧ (M ++ [g] = U ∨ ∃ p, freeP k (sU U) = some p ∧ M = U ∧ g = ⟨p, nextN (sU U), []⟩)) := by
  unfold appU at h
  by_cases hf : fitsL (sU U) (encR x).length = true
  · have hne := fits_ne hf
    rw [if_pos hf, dif_pos hne] at h
    cases h
    have e : U.dropLast ++ [U.getLast hne] = U := List.dropLast_concat_getLast hne
    refine ⟨?_, by simp, U.dropLast, U.getLast hne, rfl, .inl e⟩
    rw [qsU_add, e]
  · rw [if_neg hf] at h
    cases hp : freeP k (sU U) with
    | none => rw [hp] at h; cases h
    | some p =>
      rw [hp] at h
      cases h
      refine ⟨?_, by simp, U, ⟨p, nextN (sU U), []⟩, by simp, .inr ⟨p, hp.symm ▸ rfl, rfl, rfl⟩⟩
      rw [qsU_append, qsU_one]; simp [qs1]
theorem allR_qs {U V : List USeg} {n : Int} {x : Rc} (h : qsU V = qsU U ++ [(n, x)]) : allR V = allR U ++ [x] := by
  rw [← qsU_snd, h, List.map_append, qsU_snd]; rfl
theorem appU_ok2 {k : Nat} {U V : List USeg} {x : Rc} {n : Nat} (h : appU k U x = some (n, V)) (hU : okU U) (hx : okR x) : okU V := by
  obtain ⟨_, _, M, g, rfl, hM⟩ := appU_qs h
  refine okU_add ?_ hx
  rcases hM with rfl | ⟨p, _, rfl, rfl⟩
  · exact hU
  · intro y hy z hz
    rcases List.mem_append.1 hy with hy | hy
    · exact hU y hy z hz
    · rw [List.mem_singleton] at hy; subst hy; simp at hz
end Go.D

set_option linter.unusedVariables false
set_option linter.unusedSimpArgs false
namespace Go.D
open Go Go.Proofs

/-! ### a unit, its store and its device -/
structure UnS where
  U : List USeg
  tr : Nat
  ep : Nat
  T : Nat
structure UnF where
  st : Nat
  x : UnP
  u : StP
  q : DevP
  top : Int
def UB (r rd : Nat) (f : UnF) (k : Nat) : Prop := UnW r f.x k ∨ SysB f.st f.u rd f.q k
structure UAt (w : World) (n0 r rd : Nat) (f : UnF) (d : DevS) (s : UnS) (m : Nat) : Prop where
  S : Sys w n0 f.st rd f.u f.q d (sU s.U) m
  M : UnM w r f.st f.x s.tr s.ep f.top (pgM s.U s.tr) (insU s.U)
  O : UnOk s.U s.tr s.ep s.T
  t : 0 ≤ f.top ∧ max f.top (s.tr : Int) = s.T
  T : s.T ≤ 4096 ∧ s.ep ≤ 2 ^ 30
  sep : ∀ k, UnW r f.x k → ¬ SysB f.st f.u rd f.q k
  ysep : ∀ k, UnY f.x k → ¬ UB r rd f k
  n : ∀ k, UnW r f.x k → n0 ≤ k
section
variable {w w' : World} {n0 r rd m : Nat} {f : UnF} {d : DevS} {s : UnS}
theorem UAt.ext {M : Nat → Prop} (h : UAt w n0 r rd f d s m) (he : Ext M w w') (h1 : ∀ k, UB r rd f k → ¬ M k) (h2 : ∀ k, UnY f.x k → ¬ M k) : UAt w' n0 r rd f d s m :=
  ⟨h.S.ext he (fun k hk => h1 k (.inr hk)), h.M.ext he (fun k hk => h1 k (.inl hk)) h2, h.O, h.t, h.T, h.sep, h.ysep, h.n⟩
theorem UAt.keep (h : UAt w n0 r rd f d s m) (he : Keep w w') : UAt w' n0 r rd f d s m := h.ext he (fun _ _ h => h) (fun _ _ h => h)
theorem UAt.lt (h : UAt w n0 r rd f d s m) : (∀ k, UB r rd f k → k < w.heap.size) ∧ ∀ k, UnY f.x k → k < w.heap.size :=
  ⟨fun k hk => hk.elim (h.M.lt.1 k) (h.S.B.lt k), h.M.lt.2⟩
theorem UAt.ge (h : UAt w n0 r rd f d s m) : ∀ k, UB r rd f k → n0 ≤ k := fun k hk => hk.elim (h.n k) (SysB_ge h.S k)
theorem UAt.up (h : UAt w n0 r rd f d s m) {m' : Nat} (hm : m ≤ m') : UAt w n0 r rd f d s m' := ⟨h.S.up hm, h.M, h.O, h.t, h.T, h.sep, h.ysep, h.n⟩
end
theorem pairwise_sU {R : Nat → Nat → Prop} {U : List USeg} (h : (sU U).Pairwise fun g h => R g.num h.num) : U.Pairwise fun g h => R g.num h.num := by
  rw [List.pairwise_map] at h
  exact h
theorem recsOf_mem9 {U : List USeg} (h : U.Pairwise fun g h => g.num < h.num) {g : USeg} (hg : g ∈ U) : recsOf (g.num : Int) (sU U) = g.rs.map encR := by
  unfold recsOf
  rcases seek_cases (fun x => decide ((x.num : Int) = (g.num : Int))) (sU U) with ⟨_, h2, _⟩ | ⟨i, hi, _, h2, h3, _⟩
  · have := h2 g.s (List.mem_map.2 ⟨g, hg, rfl⟩)
    simp [USeg.s] at this
  · rw [h3]
    obtain ⟨j, hj, rfl⟩ := List.getElem_of_mem hg
    have hi' : i < U.length := by simpa using hi
    have e1 : (sU U)[i] = U[i].s := List.getElem_map _
    rw [e1] at h2 ⊢
    have h4 : (U[i].num : Int) = (U[j].num : Int) := of_decide_eq_true h2
    have hp := List.pairwise_iff_getElem.1 h
    rcases Nat.lt_trichotomy i j with h5 | h5 | h5
    · have := hp i j hi' hj h5; omega
    · subst h5; rfl
    · have := hp j i hj hi' h5; omega
theorem recs_small9 {S : Nat → List UInt8} {k : Nat} {L : List SegS} (h : ImgOk S k L) : ∀ g ∈ L, g.recs.length ≤ 2 ^ 20 ∧ ∀ b ∈ g.recs, b.length ≤ 2 ^ 20 := by
  intro g hg
  have hon := h.on g hg
  have hf := hon.fin
  have h1 := sumN_ge g.recs
  unfold SegS.fin at hf
  exact ⟨by omega, fun b hb => by have := (recsOn_bytes hon.2 b hb).2; omega⟩
theorem nodup_4096 {l : List Nat} (hn : l.Nodup) (hl : ∀ x ∈ l, x < 4096) : l.length ≤ 4096 := by
  have := nodup_len9 hn (b := List.range 4096) (fun x hx => List.mem_range.2 (hl x hx))
  rwa [List.length_range] at this
theorem pages_ok {R : List Rc} (h : ∀ x ∈ R, okR x) : ∀ y ∈ pagesOf R, y.1 < 4096 ∧ 1 ≤ y.2.length ∧ y.2.length ≤ 2048 := fun y hy => h _ (pagesOf_mem.1 hy)
theorem UnOk.pages {U : List USeg} {tr ep T : Nat} (h : UnOk U tr ep T) : ∀ y ∈ pgU U, y.1 < 4096 ∧ 1 ≤ y.2.length ∧ y.2.length ≤ 2048 :=
  pages_ok (fun x hx => by
    obtain ⟨g, hg, hx⟩ := List.mem_flatMap.1 hx
    exact h.ok g hg x hx)
theorem UnOk.few {U : List USeg} {tr ep T : Nat} (h : UnOk U tr ep T) : (pgU U).length ≤ 4096 := by
  have := nodup_4096 h.nd (fun x hx => by
    obtain ⟨y, hy, rfl⟩ := List.mem_map.1 hx
    exact (h.pages y hy).1)
  rwa [List.length_map] at this
theorem UnOk.ins_few {U : List USeg} {tr ep T : Nat} (h : UnOk U tr ep T) (n : Int) : (insU U n).length ≤ 4096 := Nat.le_trans (insU_len U n) h.few

/-- A unit is opened. -/
theorem Open_spec9 {w1 : World} {n0 rd m : Nat} {q : DevP} {d : DevS} {U : List USeg} {tr ep T : Nat} (A : Nat → Addr) (hE : ErrsB A n0 w1) (hD : DevAt w1 rd q d) (hp : d.pend = []) (hI : ImgOk (secI d.img) (d.n / 64) (sU U)) (hO : UnOk U tr ep T) (hT : T ≤ 4096 ∧ ep ≤ 2 ^ 30)
    (hk : 1 ≤ d.n / 64 ∧ d.n / 64 < 20) (hN : ∀ g ∈ sU U, g.num < m) (hm : m ≤ 2 ^ 60) (hdn : ∀ k, DevB rd q k → n0 ≤ k) (hz : n0 ≤ w1.heap.size) :
    Calls Tryz.prog fn_unit_Open ⟨[ptrR' rd]⟩ w1 fun e w2 => ∃ (r : Nat) (f : UnF), e = .returned (.tuple ⟨[ptrR' r, .nilIface]⟩) ∧ UAt w2 n0 r rd f d ⟨U, tr, ep, T⟩ m ∧ f.q = q ∧ (∀ k, UB r rd f k → DevB rd q k ∨ w1.heap.size ≤ k) ∧ (∀ k, UnY f.x k → w1.heap.size ≤ k) ∧ Keep w1 w2 := by
  refine unit_Open_ok _ ?_
  unfold unit_Open
  refine (open_sys8 A (hE.g.sub segG_sub) hD hp hI hk hN hm hdn hz).mono ?_
  rintro e w3 ⟨st, u, rfl, hS, hfr, k3⟩
  refine ⟨_, _, rfl, trivial, BIf_mk (fun h => by cases h) (fun _ => newS_mk (fun r6 w7 hr6 hb6 k7 hs7 => newS_mk (fun r8 w9 hr8 hb8 k9 hs9 => newS_mk (fun r10 w11 hr10 hb10 k11 hs11 => ?_))))⟩
  have p6 : MapB KS w11 r6 [] := ((MapB.new hb6).keep k9).keep k11
  have p8 : MapB KS w11 r8 [] := (MapB.new hb8).keep k11
  have k311 : Keep w3 w11 := (k7.trans k9).trans k11
  have hUL := hS.len
  have hULe : (sU U).length = U.length := by simp
  have z3 := k3.size
  have U0 : UnM w11 r10 st ⟨r6, r8, [], []⟩ initV.tr initV.ep initV.top initV.pg initV.ins := by
    refine ⟨ObjAt.new hb10 (clear0 _), p6, p8, by show r6 ≠ r8; omega, fun a => ⟨fun s hs => by simp [lookL] at hs, fun _ => rfl⟩, fun n => by simpa [lookL, initV] using IntsAt.nil w11, fun n m s t hs => by simp [lookL] at hs, fun n s hs => by simp [lookL] at hs, fun a s hs => by simp [lookL] at hs⟩
  have hnd := hO.nd
  have hso := pairwise_sU (R := fun a b => a < b) hI.so
  refine (Segments_spec8 (hS.keep k311).B.S (by omega)).mono ?_
  rintro e w13 ⟨s14, rfl, hI14, hf14, k13⟩
  have W0 : ∀ k, UnW r10 ⟨r6, r8, [], []⟩ k → w3.heap.size ≤ k ∧ k < w11.heap.size := by
    rintro k (hk | hk | hk | ⟨n, s, hs, _⟩)
    · omega
    · have hk' : k = r6 := hk; omega
    · have hk' : k = r8 := hk; omega
    · simp [lookL] at hs
  have hl14 : s14.l = U.length := by
    have := Rows.sl hI14
    simpa using this
  have hid : ∀ w2, Keep w3 w2 → ErrsB A n0 w2 := fun w2 hk2 => (hE.keep k3).keep hk2
  have n3 : n0 ≤ w3.heap.size := by omega
  refine ⟨s14, rfl, fun i w2 => ∃ (j : Nat) (x : UnP), i = j ∧ j ≤ U.length ∧ UnM w2 r10 st x (foldV (qsU (U.take j))).tr (foldV (qsU (U.take j))).ep (foldV (qsU (U.take j))).top (foldV (qsU (U.take j))).pg (foldV (qsU (U.take j))).ins ∧
      Keep w3 w2 ∧ (∀ k, UnW r10 x k → w3.heap.size ≤ k ∧ ¬ ownB s14 k) ∧ (∀ k, UnY x k → w3.heap.size ≤ k) ∧ IntsAt w2 s14 ((sU U).map fun g => (g.num : Int)), fun i _ => ((U.length : Int) - i).toNat,
    ⟨0, _, rfl, by omega, by simpa [qsU, foldV] using U0.keep k13, k311.trans k13, fun k hk => ⟨(W0 k hk).1, fun hh => by have := hf14 k hh; have := (W0 k hk).2; omega⟩, (by rintro k ⟨a, s, hs, _⟩; simp [lookL] at hs), hI14⟩, ?_⟩
  rintro i w18 ⟨j, x, rfl, hj, hU, hk18, hW, hY, hI18⟩
  intros
  have z18 := hk18.size
  refine BIf_dec (fun h0 => ?_) (fun h0 => ?_)
  · have hjl : j < U.length := by omega
    obtain ⟨a44, ha44, hc44⟩ := hI18.get (i := j) (by simpa using hjl)
    have hnum : (((sU U).map fun g => (g.num : Int))[j]'(by simpa using hjl)) = (U[j].num : Int) := by simp [USeg.s]
    rw [hnum] at hc44
    refine needSome_mk ha44 ⟨by omega, h0, _, by rw [Int.toNat_natCast]; exact hc44, (Records_specF (hS.keep hk18).B.S (U[j].num : Int) (by omega) (recs_small9 hI)).mono ?_⟩
    rintro e w47 ⟨s48, css, rfl, hR47, k47, hf48, hfc⟩
    rw [recsOf_mem9 hso (List.getElem_mem hjl)] at hR47
    have hl48 : s48.l = U[j].rs.length := by
      have := hR47.sl
      simpa using this
    have ltU := hU.lt
    have hfew : U[j].rs.length ≤ 2 ^ 20 := by
      have := (recs_small9 hI U[j].s (List.mem_map.2 ⟨_, List.getElem_mem hjl, rfl⟩)).1
      simpa [USeg.s] using this
    refine ⟨s48, rfl, fun i w2 => ∃ (n : Nat) (x : UnP), i = n ∧ n ≤ U[j].rs.length ∧ UnM w2 r10 st x (foldV (qsU (U.take j) ++ (qs1 U[j]).take n)).tr (foldV (qsU (U.take j) ++ (qs1 U[j]).take n)).ep (foldV (qsU (U.take j) ++ (qs1 U[j]).take n)).top (foldV (qsU (U.take j) ++ (qs1 U[j]).take n)).pg (foldV (qsU (U.take j) ++ (qs1 U[j]).take n)).ins ∧
      Keep w3 w2 ∧ (∀ k, UnW r10 x k → w3.heap.size ≤ k ∧ ¬ ownB s14 k ∧ ¬ ownB s48 k ∧ ¬ footC css k) ∧ (∀ k, UnY x k → w3.heap.size ≤ k) ∧ IntsAt w2 s14 ((sU U).map fun g => (g.num : Int)) ∧ Rows BytR w2 s48 (U[j].rs.map encR) css, fun i _ => ((U[j].rs.length : Int) - i).toNat,
      ⟨0, x, rfl, by omega, by simpa using hU.keep k47, hk18.trans k47, fun k hk => ⟨(hW k hk).1, (hW k hk).2, fun hh => ?_, fun hh => ?_⟩, hY, hI18.keep k47, hR47⟩, ?_⟩
    · have := hf48 k hh; have := ltU.1 k hk; omega
    · have := hfc k hh; have := ltU.1 k hk; omega
    rintro i w52 ⟨n, x, rfl, hn, hU, hk52, hW, hY, hI52, hR52⟩
    intros
    refine BIf_dec (fun h1 => ?_) (fun h1 => ?_)
    · have hnl : n < U[j].rs.length := by omega
      have hnc : n < css.length := by rw [hR52.len]; simpa using hnl
      obtain ⟨a68, ha68, _, hrow⟩ := hR52.get (i := n) hnc
      obtain ⟨s69, hcs, hb69⟩ := hR52.row n hnc (by simpa using hnl)
      rw [hcs] at hrow
      have hb69' : bytesAt w52 s69 (encR U[j].rs[n]) := by simpa using hb69
      obtain ⟨R, hsp⟩ := qsU_split U j n hjl hnl
      have hok : okR U[j].rs[n] := hO.ok _ (List.getElem_mem hjl) _ (List.getElem_mem hnl)
      have hndQ := hnd
      have hQok : ∀ y ∈ qsU (U.take j) ++ (qs1 U[j]).take n, okR y.2 := fun y hy => by
        have h9 : y ∈ qsU U := by rw [hsp]; exact List.mem_append_left _ hy
        obtain ⟨g, hg, hy'⟩ := List.mem_flatMap.1 h9
        obtain ⟨c, hc, rfl⟩ := List.mem_map.1 hy'
        exact hO.ok g hg c hc
      have hlenI : ((foldV (qsU (U.take j) ++ (qs1 U[j]).take n)).ins (U[j].num : Int)).length < 2 ^ 20 := by
        rw [foldV_insAt]
        have e1 : ∀ Q Q2 : List (Int × Rc), (pagesOf (((Q.filter fun x => decide (x.1 = (U[j].num : Int)))).map (·.2))).length ≤ (insU U (U[j].num : Int)).length ∨ ¬ (qsU U = Q ++ Q2) := fun Q Q2 => by
          by_cases e : qsU U = Q ++ Q2
          · left
            unfold insU
            rw [e, List.filter_append, List.map_append, pagesOf_append, List.map_append, List.length_append, List.length_map]; omega
          · exact .inr e
        have e2 := (e1 (qsU (U.take j) ++ (qs1 U[j]).take n) _).resolve_right (fun hh => hh hsp)
        have e3 := hO.ins_few (U[j].num : Int)
        rw [List.length_map]; omega
      have htop := foldV_top _ hQok
      have z52 := hk52.size
      refine needSome_mk ha68 ⟨by omega, h1, s69, by rw [Int.toNat_natCast]; exact rowAt_c hrow 0 (by simp), (tell_spec9 A hU (U[j].num : Int) U[j].rs[n] hok s69 hb69' (hid w52 hk52) (by omega) (fun a t hc => ?_) (by omega) hlenI).mono ?_⟩
      · refine new_page (R := R) (seg := (U[j].num : Int)) (t := t) ?_
        rw [← hc, ← hsp, qsU_snd]; exact hnd
      · rintro e w71 ⟨rfl, x', hU', hT1, hT2, hT3⟩
        have hnew : Keep w3 w71 := hk52.ext hT1 (fun k hk => (hW k hk).1)
        have ltO := hU.lt
        have z71 := hT1.size
        have hr1 := hI52.lt
        have hr2 := hR52.lt
        have hr3 := hR52.flt
        refine ⟨_, rfl, trivial, BIf_mk (fun h => by cases h) (fun _ => ⟨inR64 (by omega), ⟨n + 1, x', rfl, hnl, ?_, hnew, fun k hk => ?_, fun k hk => ?_, hI52.ext hT1 (fun k hk hh => (hW k hh).2.1 hk), hR52.ext hT1 (fun k hk hh => (hW k hh).2.2.1 hk) (fun k hk hh => (hW k hh).2.2.2 hk)⟩, by dsimp only; omega⟩)⟩
        · have hq : n < (qs1 U[j]).length := by simpa [qs1] using hnl
          have e3 : (qs1 U[j])[n] = ((U[j].num : Int), U[j].rs[n]) := by simp [qs1]
          rw [List.take_succ_eq_append_getElem hq, ← List.append_assoc, e3, foldV_snoc]
          exact hU'
        · rcases hT2 k hk with g | g
          · exact hW k g
          · exact ⟨by omega, fun hh => by have := hr1 k hh; omega, fun hh => by have := hr2 k hh; omega, fun hh => by have := hr3 k hh; omega⟩
        · rcases hT3 k hk with g | g | g
          · exact hY k g
          · exact g.elim
          · omega
    · have hnn : n = U[j].rs.length := by omega
      subst hnn
      refine ⟨inR64 (by omega), ⟨j + 1, x, rfl, hjl, ?_, hk52, fun k hk => ⟨(hW k hk).1, (hW k hk).2.1⟩, hY, hI52⟩, by dsimp only; omega⟩
      have e4 : (qs1 U[j]).take U[j].rs.length = qs1 U[j] := List.take_of_length_le (by simp [qs1])
      rw [e4] at hU
      rw [qsU_take U j hjl]
      exact hU
  · have hjj : j = U.length := by omega
    subst hjj
    rw [List.take_length] at hU
    obtain ⟨v1, v2, v3, v4, v5⟩ := foldV_unit hO
    have hQok : ∀ y ∈ qsU U, okR y.2 := fun y hy => by
      obtain ⟨g, hg, hy'⟩ := List.mem_flatMap.1 hy
      obtain ⟨c, hc, rfl⟩ := List.mem_map.1 hy'
      exact hO.ok g hg c hc
    have htop := foldV_top _ hQok
    refine (forget_spec9 hU).mono ?_
    rintro e w74 ⟨rfl, x', hU', hT1, hT2, hT3⟩
    rw [v1, v2, v4, v5] at hU'
    have ltO := hU.lt
    have hk74 : Keep w3 w74 := hk18.ext hT1 (fun k hk => (hW k hk).1)
    have hW' : ∀ k, UnW r10 x' k → w3.heap.size ≤ k := fun k hk => by
      rcases hT2 k hk with g | g
      · exact (hW k g).1
      · omega
    have hY' : ∀ k, UnY x' k → w3.heap.size ≤ k := fun k hk => by
      rcases hT3 k hk with g | g | g
      · exact hY k g
      · exact g.elim
      · omega
    have hSlt := hS.B.lt
    refine ⟨rfl, r10, ⟨st, x', u, q, (foldV (qsU U)).top⟩, rfl, ⟨hS.keep hk74, hU', hO, ⟨htop.1, v3⟩, hT, fun k hk hh => ?_, fun k hk hh => ?_, fun k hk => ?_⟩, rfl, fun k hk => ?_, fun k hk => ?_, k3.trans hk74⟩
    · have := hSlt k hh; have := hW' k hk; omega
    · rcases hh with hh | hh
      · obtain ⟨b, s0, hs0, h00, hk0⟩ := hk
        obtain ⟨y1, y2⟩ := hU'.pb b s0 hs0 h00 k hk0
        obtain ⟨t0, _, hb0, _⟩ := (hU'.pv b).1 s0 hs0
        rcases hh with hh | hh | hh | ⟨n, s1, hs1, hk1⟩
        · exact y1 hh
        · obtain ⟨_, _, hp1, _⟩ := hU'.p.at'
          exact bytes_ne_map hb0 h00 hk0 (by rw [hh]; exact hp1)
        · obtain ⟨_, _, hp1, _⟩ := hU'.i.at'
          exact bytes_ne_map hb0 h00 hk0 (by rw [hh]; exact hp1)
        · exact y2 n s1 hs1 hk1
      · have := hSlt k hh; have := hY' k hk; omega
    · have := hW' k hk; omega
    · rcases hk with hk | hk | hk
      · have := hW' k hk; exact .inr (by omega)
      · exact .inr (hfr k hk)
      · exact .inl hk
    · have := hY' k hk; omega
end Go.D

set_option linter.unusedVariables false
set_option linter.unusedSimpArgs false
namespace Go.D
open Go Go.Proofs

/-! ### what the calls come to, plainly -/
def writeP (k : Nat) (s : UnS) (epoch a : Int) (t : List UInt8) : Option Nat × UnS :=
  match checkE s.ep epoch a 4095 with
  | some c => (some c, s)
  | none => if t.length = 0 ∨ 2048 < t.length then (some 2, s) else if a < (s.tr : Int) then (some 10, s) else if (pgM s.U s.tr a).isSome then (some 8, s)
    else match appU k s.U (.page a.toNat t) with
      | none => (some 12, s)
      | some (n, V) => (none, ⟨V, s.tr, s.ep, max s.T (a.toNat + 1)⟩)
def sealP (k : Nat) (s : UnS) (epoch : Int) : Option Nat × UnS :=
  if epoch < 0 ∨ 1073741824 < epoch then (some 13, s) else if epoch < (s.ep : Int) then (some 7, s) else if epoch = (s.ep : Int) then (none, s)
  else match appU k s.U (.shut epoch.toNat) with
    | none => (some 12, s)
    | some (n, V) => (none, ⟨V, s.tr, epoch.toNat, s.T⟩)
def reclaimU (tr : Nat) : List USeg → List USeg
  | [] => []
  | [g] => [g]
  | g :: h :: t => if (pagesOf g.rs).all (fun y => decide (y.1 < tr)) then reclaimU tr (h :: t) else g :: h :: t
def trimP (k : Nat) (s : UnS) (epoch to : Int) : Option Nat × UnS :=
  match checkE s.ep epoch to 4096 with
  | some c => (some c, s)
  | none => if to ≤ (s.tr : Int) then (none, s)
    else match appU k s.U (.trim to.toNat s.ep) with
      | none => (some 12, s)
      | some (n, V) => (none, ⟨reclaimU to.toNat V, to.toNat, s.ep, max s.T to.toNat⟩)

/-- What a unit opened on these segments would tell. -/
def Tells (U : List USeg) (s : UnS) : Prop := UnOk U s.tr s.ep s.T ∧ ∀ a, pgM U s.tr a = pgM s.U s.tr a
def UCr (d : DevS) (k m : Nat) (Ss : List UnS) : Prop := d.pend.length ≤ 100 ∧ ∀ kept torn cut : Int, ∃ U, ImgOk (secI (crashL kept torn cut 0 d.pend d.img)) k (sU U) ∧ (∀ g ∈ sU U, g.num < m) ∧ ∃ s ∈ Ss, Tells U s
def UFoot (r rd : Nat) (f f' : UnF) (w w' : World) : Prop := Foot (UB r rd f) (UB r rd f') w w' ∧ ∀ k, UnY f'.x k → UnY f.x k ∨ w.heap.size ≤ k
theorem UFoot.refl (r rd : Nat) (f : UnF) (w : World) : UFoot r rd f f w w := ⟨Foot.refl _ _, fun k hk => .inl hk⟩
theorem UFoot.trans {r rd : Nat} {f f1 f2 : UnF} {a b c : World} (h1 : UFoot r rd f f1 a b) (h2 : UFoot r rd f1 f2 b c) : UFoot r rd f f2 a c :=
  ⟨h1.1.trans h2.1, fun k hk => (h2.2 k hk).elim (h1.2 k) (fun h => .inr (Nat.le_trans h1.1.1.size h))⟩
theorem UFoot.keep {r rd : Nat} {f f' : UnF} {a b c : World} (h1 : UFoot r rd f f' a b) (h2 : Keep b c) : UFoot r rd f f' a c := ⟨h1.1.keep h2, h1.2⟩
theorem Keep.ufoot {r rd : Nat} {f f' : UnF} {a b c : World} (h1 : Keep a b) (h2 : UFoot r rd f f' b c) : UFoot r rd f f' a c :=
  ⟨h1.foot h2.1, fun k hk => (h2.2 k hk).imp (fun h => h) (fun h => Nat.le_trans h1.size h)⟩
/-- What a call that writes comes to: all is done, or the device is down. -/
def Outc (w : World) (n0 r rd : Nat) (f : UnF) (d : DevS) (s : UnS) (m : Nat) (p : Option Nat × UnS) (e' : Option Nat) (w' : World) : Prop :=
  (e' = p.1 ∧ ∃ f' d', UAt w' n0 r rd f' d' p.2 (m + 1) ∧ d'.n = d.n ∧ d'.stops = d.stops ∧ UFoot r rd f f' w w') ∨
  (e' = some 11 ∧ d.stops = true ∧ ∃ q' d', DevAt w' rd q' d' ∧ d'.n = d.n ∧ d'.stops = d.stops ∧ UCr d' (d.n / 64) (m + 1) [s, p.2] ∧ Foot (UB r rd f) (DevB rd q') w w')

theorem baseU_ok (k : Nat) (U : List USeg) (n : Nat) : (baseL k (sU U) n).getD (sU U) = sU (baseU k U n) := by
  unfold baseL baseU
  split
  · rfl
  · cases freeP k (sU U) with
    | none => rfl
    | some p => simp [takeL, USeg.s]
theorem allR_base (k : Nat) (U : List USeg) (n : Nat) : allR (baseU k U n) = allR U := by
  unfold baseU
  split
  · rfl
  · split
    · rfl
    · exact allR_new _ _ _
theorem okU_base (k : Nat) {U : List USeg} (n : Nat) (h : okU U) : okU (baseU k U n) := by
  unfold baseU
  split
  · exact h
  · split
    · exact h
    · intro y hy z hz
      rcases List.mem_append.1 hy with hy | hy
      · exact h y hy z hz
      · rw [List.mem_singleton] at hy; subst hy; simp at hz
theorem UnOk.of_all {U V : List USeg} {tr ep T : Nat} (h : UnOk U tr ep T) (ho : okU V) (ha : allR V = allR U) : UnOk V tr ep T :=
  ⟨ho, by rw [ha]; exact h.te, by unfold pgU; rw [ha]; exact h.nd, by unfold pgU; rw [ha]; exact h.tl⟩
theorem pgM_all {U V : List USeg} (ha : allR V = allR U) (tr : Nat) : pgM V tr = pgM U tr := by
  unfold pgM pgU
  rw [ha]
theorem nums_base {k m n : Nat} {U : List USeg} (h : ∀ g ∈ sU U, g.num < m) : ∀ g ∈ sU (baseU k U n), g.num < m + 1 := by
  intro g hg
  have hnx := nextN_le h
  unfold baseU at hg
  split at hg
  · have := h g hg; omega
  · split at hg
    · have := h g hg; omega
    · obtain ⟨y, hy, rfl⟩ := List.mem_map.1 hg
      rcases List.mem_append.1 hy with hy | hy
      · have := h _ (List.mem_map.2 ⟨y, hy, rfl⟩); omega
      · rw [List.mem_singleton] at hy; subst hy
        show nextN (sU U) < m + 1; omega
theorem nums_app {k m n : Nat} {U V : List USeg} {x : Rc} (h : ∀ g ∈ sU U, g.num < m) (ha : appU k U x = some (n, V)) : ∀ g ∈ sU V, g.num < m + 1 := by
  intro g hg
  have hnx := nextN_le h
  obtain ⟨_, _, M, g0, rfl, hM⟩ := appU_qs ha
  obtain ⟨y, hy, rfl⟩ := List.mem_map.1 hg
  have key : ∀ z ∈ M ++ [g0], z.num < m + 1 := by
    intro z hz
    rcases hM with rfl | ⟨p, _, rfl, rfl⟩
    · have := h _ (List.mem_map.2 ⟨z, hz, rfl⟩)
      have h2 : z.num < m := this
      omega
    · rcases List.mem_append.1 hz with hz | hz
      · have := h _ (List.mem_map.2 ⟨z, hz, rfl⟩)
        have h2 : z.num < m := this
        omega
      · rw [List.mem_singleton] at hz; subst hz
        show nextN (sU M) < m + 1; omega
  rcases List.mem_append.1 hy with hy | hy
  · exact key y (by simp [hy])
  · rw [List.mem_singleton] at hy; subst hy
    exact key g0 (by simp)
/-- A record is written, of a unit. -/
theorem AppPost.unit {A : Nat → Addr} {w w' : World} {n0 st rd m : Nat} {u : StP} {q : DevP} {d : DevS} {U : List USeg} {c : Rc} (hc : okR c) {n : Int} {e' : Option Nat} (h : AppPost A w n0 st rd u q d (sU U) m (encR c) n e' w') :
    (appU (d.n / 64) U c = none ∧ e' = some 12 ∧ DevAt w' rd q d ∧ Keep w w') ∨
    (∃ n' V, appU (d.n / 64) U c = some (n', V) ∧ n = (n' : Int) ∧ e' = none ∧ ∃ u' q' d', Sys w' n0 st rd u' q' d' (sU V) (m + 1) ∧ d'.n = d.n ∧ d'.stops = d.stops ∧ Foot (SysB st u rd q) (SysB st u' rd q') w w') ∨
    (∃ n' V, appU (d.n / 64) U c = some (n', V) ∧ e' = some 11 ∧ d.stops = true ∧ ∃ q' d', DevAt w' rd q' d' ∧ d'.n = d.n ∧ d'.stops = d.stops ∧ CrOk d' (d.n / 64) [sU U, sU (baseU (d.n / 64) U (encR c).length), sU V] ∧ Foot (SysB st u rd q) (DevB rd q') w w') := by
  obtain ⟨q', d', hD, hn, hs, hcase⟩ := h
  have hok := appU_ok (k := d.n / 64) (U := U) hc
  cases ha : appU (d.n / 64) U c with
  | none =>
    rw [ha] at hok
    simp only at hok
    rw [hok] at hcase
    rcases hcase with ⟨_, h2, _, rfl, rfl, hk⟩ | ⟨h1, _⟩ | ⟨h1, _⟩
    · exact .inl ⟨rfl, h2, hD, hk⟩
    · cases h1
    · cases h1
  | some p =>
    obtain ⟨n', V⟩ := p
    rw [ha] at hok
    simp only at hok
    rw [hok] at hcase
    rcases hcase with ⟨h1, _⟩ | ⟨_, h2, h3, u', hS, ft⟩ | ⟨_, h2, h3, h4, ft⟩
    · exact absurd rfl h1
    · exact .inr (.inl ⟨n', V, rfl, h3, h2, u', q', d', hS, hn, hs, ft⟩)
    · rw [baseU_ok] at h4
      exact .inr (.inr ⟨n', V, rfl, h2, h3, q', d', hD, hn, hs, h4, ft⟩)
theorem CrOk.unit {d' : DevS} {k m n n' : Nat} {U V : List USeg} {c : Rc} {s s1 : UnS} (h : CrOk d' k [sU U, sU (baseU k U n), sU V]) (hN : ∀ g ∈ sU U, g.num < m) (ha : appU k U c = some (n', V)) (h0 : s.U = U) (hO : UnOk U s.tr s.ep s.T) (h1 : Tells V s1) : UCr d' k (m + 1) [s, s1] := by
  refine ⟨h.1, fun a b c => ?_⟩
  obtain ⟨L, hL, hI⟩ := h.2 a b c
  simp only [List.mem_cons, List.not_mem_nil, or_false] at hL
  rcases hL with rfl | rfl | rfl
  · exact ⟨U, hI, fun g hg => by have := hN g hg; omega, s, by simp, hO, fun a => by rw [h0]⟩
  · exact ⟨_, hI, nums_base hN, s, by simp, hO.of_all (okU_base k n hO.ok) (allR_base k U n), fun a => by rw [h0, pgM_all (allR_base k U n)]⟩
  · exact ⟨V, hI, nums_app hN ha, s1, by simp, h1⟩
theorem pgM_page {U V : List USeg} {tr a : Nat} {t : List UInt8} (h : allR V = allR U ++ [.page a t]) (ha : tr ≤ a) (hn : pgM U tr (a : Int) = none) : pgM V tr = updI (pgM U tr) (a : Int) (some t) := by
  funext b
  have hn' : pageAt (pgU U) a = none := by
    unfold pgM at hn
    rw [if_neg (by omega)] at hn
    exact hn
  unfold updI pgM pgU
  rw [h, pagesOf_append]
  by_cases e : b = (a : Int)
  · subst e
    rw [if_neg (by omega), if_pos rfl]
    simp only [pagesOf]
    rw [pageAt_snoc, Int.toNat_natCast]
    unfold pgU at hn'
    rw [hn']; simp
  · rw [if_neg e]
    by_cases e2 : b < (tr : Int)
    · rw [if_pos e2, if_pos e2]
    · rw [if_neg e2, if_neg e2]
      simp only [pagesOf]
      rw [pageAt_snoc]
      cases pageAt (pagesOf (allR U)) b.toNat with
      | some y => rfl
      | none => simp only; rw [if_neg (by omega)]
theorem pgM_same {U V : List USeg} {x : Rc} (h : allR V = allR U ++ [x]) (hx : ∀ a t, x ≠ .page a t) (tr : Nat) : pgM V tr = pgM U tr := by
  unfold pgM pgU
  rw [h, pagesOf_append]
  cases x with
  | page a t => exact absurd rfl (hx a t)
  | trim t e => simp [pagesOf]
  | shut e => simp [pagesOf]
theorem pgM_none {U : List USeg} {tr a : Nat} (ha : tr ≤ a) (hn : pgM U tr (a : Int) = none) : ∀ y ∈ pgU U, y.1 ≠ a := by
  unfold pgM at hn
  rw [if_neg (by omega)] at hn
  exact pageAt_none.1 hn
def tailR (T tt : Nat) : Rc → Nat
  | .page a _ => max T (a + 1)
  | .trim t _ => max tt t
  | .shut _ => T
theorem addOk {k n : Nat} {U V : List USeg} {x : Rc} {tr ep T : Nat} (h : UnOk U tr ep T) (hx : okR x) (ha : appU k U x = some (n, V)) (hp : ∀ a t, x = .page a t → ∀ y ∈ pgU U, y.1 ≠ a) :
    UnOk V (teStep (tr, ep) x).1 (teStep (tr, ep) x).2 (tailR T (topOf (pgU U)) x) := by
  have hV := appU_ok2 ha h.ok hx
  obtain ⟨_, _, M, g, rfl, hM⟩ := appU_qs ha
  have hR : allR (M ++ [g]) = allR U := by
    rcases hM with rfl | ⟨p, _, rfl, rfl⟩
    · rfl
    · exact allR_new _ _ _
  have hok : okU (M ++ [g]) := by
    intro y hy z hz
    rcases List.mem_append.1 hy with hy | hy
    · exact hV y (by simp [hy]) z hz
    · rw [List.mem_singleton] at hy; subst hy
      exact hV _ (List.mem_append_right _ (List.mem_singleton.2 rfl)) z (List.mem_append_left _ hz)
  cases x <;> exact h.add hok hR hx hp

section
variable {w w' : World} {n0 r rd m : Nat} {f : UnF} {d : DevS} {s : UnS}
theorem UAt.ins (h : UAt w n0 r rd f d s m) (n : Int) : (insU s.U n).length < 2 ^ 20 := by have := h.O.ins_few n; omega
theorem UAt.outc (h : UAt w n0 r rd f d s m) {e' : Option Nat} (hk : Keep w w') : Outc w n0 r rd f d s m (e', s) e' w' :=
  .inl ⟨rfl, f, d, (h.keep hk).up (by omega), rfl, rfl, hk.ufoot (UFoot.refl _ _ _ _)⟩

theorem Write_spec9 (A : Nat → Addr) (h : UAt w n0 r rd f d s m) (hE : ErrsB A n0 w) (hm : m ≤ 2 ^ 60) (epoch a : Int) (sl : Slc) (t : List UInt8) (hb : bytesAt w sl t) (ht : t.length ≤ 2 ^ 20) (hs : ∀ k, ownB sl k → ¬ UB r rd f k) :
    Calls Tryz.prog fn_unit_Unit_Write ⟨[ptrR' r, .int .i64 epoch, .int .i64 a, sl.v]⟩ w fun e w' => ∃ e', e = .returned (errO A e') ∧ Outc w n0 r rd f d s m (writeP (d.n / 64) s epoch a t) e' w' := by
  refine unit_Unit_Write_ok _ _ _ _ ?_
  unfold unit_Unit_Write
  have hG : ErrsG uniG A n0 w := hE.g.sub uniG_sub
  have hbl := hb.1
  refine (check_spec9 A h.M epoch a 4095 hG).mono ?_
  rintro e w6 ⟨rfl, rfl⟩
  unfold writeP
  cases hc : checkE s.ep epoch a 4095 with
  | some c => exact ⟨_, rfl, errO_isI A _, BIf_mk (fun _ => ⟨_, rfl, h.outc (Ext.refl _ _)⟩) (fun hh => by cases hh)⟩
  | none =>
    have ha : 0 ≤ a ∧ a ≤ 4095 := by
      unfold checkE at hc
      split at hc
      · cases hc
      · split at hc
        · cases hc
        · omega
    obtain ⟨es, g1, g2⟩ := h.M.p.get
    refine ⟨_, rfl, errO_isI A _, BIf_mk (fun hh => by cases hh) (fun _ => needSome_mk rfl ⟨_, h.M.c.2.1, es, g1, lookL f.x.pl a, g2 a, fun w2 => ¬ (t.length = 0 ∨ 2048 < t.length) ∧ ¬ a < (s.tr : Int) ∧ (pgM s.U s.tr a).isSome = false ∧ w2 = w6,
      ⟨fun b w2 => b = decide (t.length = 0 ∨ 2048 < t.length) ∧ w2 = w6, BIf_dec (fun h0 => ⟨(decide_eq_true (.inl (by omega))).symm, rfl⟩) (fun h0 => ⟨by rw [decide_eq_decide]; omega, rfl⟩), ?_⟩, ?_⟩)⟩
    · rintro b w15 ⟨rfl, rfl⟩
      intros
      refine BIf_dec (fun h1 => ?_) (fun h1 => needSome_mk rfl ⟨_, h.M.c.2.2.2.1, BIf_dec (fun h2 => ?_) (fun h2 => ?_)⟩)
      · rw [if_pos h1]
        exact ⟨_, errG_at hG 2 gl_ErrLong rfl (by decide), _, rfl, h.outc (Ext.refl _ _)⟩
      · rw [if_neg h1, if_pos h2]
        exact ⟨_, errG_at hG 10 gl_ErrTrimmed rfl (by decide), _, rfl, h.outc (Ext.refl _ _)⟩
      · rw [if_neg h1, if_neg h2]
        refine BIf_mk (fun h3 => ?_) (fun h3 => ?_)
        · rw [h.M.has] at h3
          rw [if_pos h3]
          exact ⟨_, errG_at hG 8 gl_ErrWritten rfl (by decide), _, rfl, h.outc (Ext.refl _ _)⟩
        · rw [h.M.has] at h3
          exact ⟨h1, h2, h3, rfl⟩
    · rintro w29 ⟨h1, h2, h3, rfl⟩
      intros
      rw [if_neg h1, if_neg h2, if_neg (by rw [h3]; decide)]
      obtain ⟨an, rfl⟩ : ∃ an : Nat, a = an := ⟨a.toNat, by omega⟩
      rw [Int.toNat_natCast]
      have hok : okR (.page an t) := ⟨by omega, by omega, by omega⟩
      have hpn : pgM s.U s.tr (an : Int) = none := by simpa using h3
      refine (record_spec9 A h.S h.M hE hm (.page an t) hok (fun _ _ hh => by cases hh) sl (fun _ => hb)).mono ?_
      rintro e w53 ⟨n, e', w1, rfl, k1, hp⟩
      rcases hp.unit hok with ⟨ha1, rfl, hD, hk⟩ | ⟨n', V, ha1, rfl, rfl, u', q', d', hS', hn', hst', ft⟩ | ⟨n', V, ha1, rfl, hst, q', d', hD', hn', hst', hcr, ft⟩
      · rw [ha1]
        exact ⟨_, _, rfl, errO_isI A _, BIf_mk (fun hh => by cases hh) (fun _ => ⟨_, rfl, h.outc (k1.trans hk)⟩)⟩
      · rw [ha1]
        have ft' : Foot (SysB f.st f.u rd f.q) (SysB f.st u' rd q') w29 w53 := k1.foot ft
        have hqs := (appU_qs ha1).1
        have hal := allR_qs hqs
        have hM53 := h.M.ext ft'.1 h.sep (fun k hk hh => h.ysep k hk (.inr hh))
        refine ⟨_, _, rfl, errO_isI A _, BIf_mk (fun _ => ?_) (fun hh => by cases hh)⟩
        have hb53 : bytesAt w53 sl t := bytesAt_stayX hb ft'.1 (fun _ k hk hh => hs k hk (.inr hh))
        refine (CloneB_own sl t w53 hb53 (by omega)).mono ?_
        rintro e w57 ⟨s58, rfl, ho58, hf58, k57⟩
        have hM57 := hM53.keep k57
        have ht4 := h.T.1
        have htt := h.t
        have z53 := ft'.1.size
        have z57 := k57.size
        have lt53 := hM53.lt
        refine ⟨s58, rfl, (take_spec9 hM57 (n' : Int) (an : Int) s58 t ho58.bytes (by omega) (fun _ k hk hh => ?_) hpn (by omega) (by omega) (h.ins _)).mono ?_⟩
        · have := hf58 k hk; have := lt53.1 k hh; omega
        · rintro e w60 ⟨rfl, x', hM60, t1, t2, t3⟩
          have hpg : pgM V s.tr = updI (pgM s.U s.tr) (an : Int) (some t) := pgM_page hal (by omega) hpn
          have hin : insU V = updI (insU s.U) (n' : Int) (insU s.U (n' : Int) ++ [(an : Int)]) := insU_qs hqs
          rw [← hpg, ← hin] at hM60
          have hSlt := hS'.B.lt
          have sys57 := hS'.keep k57
          have sepW : ∀ k, UnW r f.x k → ¬ SysB f.st u' rd q' k := fun k hk hh => (ft'.2 k hh).elim (h.sep k hk) (fun hh => by have := h.M.lt.1 k hk; omega)
          have sys60 := sys57.ext t1 (fun k hk hh => sepW k hh hk)
          have x60 : Ext (UB r rd f) w29 w60 := (Ext.trans (ft'.1.mono (fun k hk => Or.inr hk)) k57 (fun _ h => h) (fun _ h => h.elim)).trans t1 (fun _ h => h) (fun k hk => .inl (.inl hk))
          have z60 := t1.size
          have hO' := addOk h.O hok ha1 (fun a' t' he y hy => by cases he; exact pgM_none (by omega) hpn y hy)
          refine ⟨rfl, none, rfl, .inl ⟨rfl, ⟨f.st, x', u', q', max f.top (an + 1)⟩, d', ⟨sys60, hM60, hO', ⟨by show 0 ≤ max f.top ((an : Int) + 1); omega, by show max (max f.top ((an : Int) + 1)) (s.tr : Int) = ((max s.T (an + 1) : Nat) : Int); omega⟩, ⟨by show max s.T (an + 1) ≤ 4096; omega, h.T.2⟩, fun k hk hh => ?_, fun k hk hh => ?_, fun k hk => ?_⟩, hn', hst', ⟨⟨x60, fun k hk => ?_⟩, fun k hk => ?_⟩⟩⟩
          · rcases t2 k hk with g | g
            · exact sepW k g hh
            · have := hSlt k hh; omega
          · rcases hh with hh | hh
            · obtain ⟨b, s0, hs0, h00, hk0⟩ := hk
              obtain ⟨y1, y2⟩ := hM60.pb b s0 hs0 h00 k hk0
              obtain ⟨t0, _, hb0, _⟩ := (hM60.pv b).1 s0 hs0
              rcases hh with hh | hh | hh | ⟨n, s1, hs1, hk1⟩
              · exact y1 hh
              · obtain ⟨_, _, hp1, _⟩ := hM60.p.at'
                exact bytes_ne_map hb0 h00 hk0 (by rw [hh]; exact hp1)
              · obtain ⟨_, _, hp1, _⟩ := hM60.i.at'
                exact bytes_ne_map hb0 h00 hk0 (by rw [hh]; exact hp1)
              · exact y2 n s1 hs1 hk1
            · have hl := hSlt k hh
              rcases t3 k hk with g | ⟨_, g⟩ | g
              · rcases ft'.2 k hh with g2 | g2
                · exact h.ysep k g (.inr g2)
                · have := h.M.lt.2 k g; omega
              · have := hf58 k g; omega
              · omega
          · rcases t2 k hk with g | g
            · exact h.n k g
            · have := h.S.B.z; omega
          · rcases hk with hk | hk
            · rcases t2 k hk with g | g
              · exact .inl (.inl g)
              · exact .inr (by omega)
            · exact (ft'.2 k hk).imp .inr (fun g => g)
          · rcases t3 k hk with g | ⟨_, g⟩ | g
            · exact .inl g
            · have := hf58 k g; exact .inr (by omega)
            · exact .inr (by omega)
      · rw [ha1]
        have hal := allR_qs (appU_qs ha1).1
        have hO' := addOk h.O hok ha1 (fun a' t' he y hy => by cases he; exact pgM_none (by omega) hpn y hy)
        exact ⟨_, _, rfl, errO_isI A _, BIf_mk (fun hh => by cases hh) (fun _ => ⟨some 11, rfl, .inr ⟨rfl, hst, q', d', hD', hn', hst', hcr.unit h.S.N ha1 rfl h.O ⟨hO', fun _ => rfl⟩, ⟨(k1.foot ft).1.mono (fun k hk => .inr hk), fun k hk => ((k1.foot ft).2 k hk).imp .inr (fun g => g)⟩⟩⟩)⟩
end
end Go.D

set_option linter.unusedVariables false
set_option linter.unusedSimpArgs false
namespace Go.D
open Go Go.Proofs

section
variable {w w' : World} {n0 r rd m : Nat} {f : UnF} {d : DevS} {s : UnS}
/-- A unit whose store has grown by a record that tells of no page. -/
theorem UAt.noted (h : UAt w n0 r rd f d s m) {V : List USeg} {n : Nat} {c : Rc} {u' : StP} {q' : DevP} {d' : DevS} (hc : okR c) (hnp : ∀ a t, c ≠ .page a t) (ha : appU (d.n / 64) s.U c = some (n, V)) (hS : Sys w' n0 f.st rd u' q' d' (sU V) (m + 1)) (ft : Foot (SysB f.st f.u rd f.q) (SysB f.st u' rd q') w w') :
    UnM w' r f.st f.x s.tr s.ep f.top (pgM V s.tr) (insU V) ∧ (∀ k, UnW r f.x k → ¬ SysB f.st u' rd q' k) ∧ (∀ k, UnY f.x k → ¬ UB r rd ⟨f.st, f.x, u', q', f.top⟩ k) := by
  have hqs := (appU_qs ha).1
  have hal := allR_qs hqs
  have hM := h.M.ext ft.1 h.sep (fun k hk hh => h.ysep k hk (.inr hh))
  have hin : insU V = insU s.U := by
    rw [insU_qs hqs]
    cases c with
    | page a t => exact absurd rfl (hnp a t)
    | trim t e => rfl
    | shut e => rfl
  rw [pgM_same hal hnp, hin]
  refine ⟨hM, fun k hk hh => (ft.2 k hh).elim (h.sep k hk) (fun hh => by have := h.M.lt.1 k hk; omega), fun k hk hh => ?_⟩
  rcases hh with hh | hh
  · exact h.ysep k hk (.inl hh)
  · rcases ft.2 k hh with g | g
    · exact h.ysep k hk (.inr g)
    · have := h.M.lt.2 k hk; omega

theorem Seal_spec9 (A : Nat → Addr) (h : UAt w n0 r rd f d s m) (hE : ErrsB A n0 w) (hm : m ≤ 2 ^ 60) (epoch : Int) :
    Calls Tryz.prog fn_unit_Unit_Seal ⟨[ptrR' r, .int .i64 epoch]⟩ w fun e w' => ∃ (n : Int) (e' : Option Nat), e = .returned (.tuple ⟨[.int .i64 n, errO A e']⟩) ∧ Outc w n0 r rd f d s m (sealP (d.n / 64) s epoch) e' w' ∧ (e' = (sealP (d.n / 64) s epoch).1 → n = if e' = none then ((sealP (d.n / 64) s epoch).2.T : Int) else 0) := by
  refine unit_Unit_Seal_ok _ _ ?_
  unfold unit_Unit_Seal
  have hG : ErrsG uniG A n0 w := hE.g.sub uniG_sub
  have hep := h.T.2
  have kd : Keep w (World.drew w) := Ext.drew _ _
  unfold sealP
  refine ⟨fun b w2 => b = decide (epoch < 0 ∨ 1073741824 < epoch) ∧ w2 = w, BIf_dec (fun h0 => ⟨(decide_eq_true (.inl h0)).symm, rfl⟩) (fun h0 => ⟨by rw [decide_eq_decide]; omega, rfl⟩), ?_⟩
  rintro b w5 ⟨rfl, rfl⟩
  intros
  refine BIf_dec (fun h1 => ?_) (fun h1 => needSome_mk rfl ⟨_, h.M.c.2.2.2.2.1, BIf_dec (fun h2 => ?_) (fun h2 => needSome_mk rfl ⟨_, h.M.c.2.2.2.2.1, ?_⟩)⟩)
  · rw [if_pos h1]
    exact ⟨_, errG_at (hG.keep kd) 13 gl_ErrEpoch rfl (by decide), 0, _, rfl, h.outc kd, fun _ => rfl⟩
  · rw [if_neg h1, if_pos h2]
    exact ⟨_, errG_at (hG.keep kd) 7 gl_ErrSealed rfl (by decide), 0, _, rfl, h.outc kd, fun _ => rfl⟩
  rw [if_neg h1, if_neg h2]
  refine BIf_dec (fun h3 => ?_) (fun h3 => ?_)
  · rw [if_neg (by omega)]
    obtain ⟨en, rfl⟩ : ∃ en : Nat, epoch = en := ⟨epoch.toNat, by omega⟩
    rw [Int.toNat_natCast]
    have hok : okR (.shut en) := show en ≤ 2 ^ 30 by omega
    refine (record_spec9 A h.S h.M hE hm (.shut en) hok (fun _ _ hh => by cases hh) ⟨none, 0, 0⟩ (fun ⟨_, _, hh⟩ => by cases hh)).mono ?_
    rintro e w53 ⟨n, e', w1, rfl, k1, hp⟩
    rcases hp.unit hok with ⟨ha1, rfl, hD, hk⟩ | ⟨n', V, ha1, rfl, rfl, u', q', d', hS', hn', hst', ft⟩ | ⟨n', V, ha1, rfl, hst, q', d', hD', hn', hst', hcr, ft⟩
    · rw [ha1]
      exact ⟨_, _, rfl, errO_isI A _, BIf_mk (fun _ => ⟨_, _, rfl, h.outc (k1.trans hk), fun _ => rfl⟩) (fun hh => by cases hh)⟩
    · rw [ha1]
      have ft' : Foot (SysB f.st f.u rd f.q) (SysB f.st u' rd q') w5 w53 := k1.foot ft
      obtain ⟨hM53, sepW, ysep⟩ := h.noted hok (fun _ _ hh => by cases hh) ha1 hS' ft'
      obtain ⟨c1, c2⟩ := hM53.o.setOne 4 (by simp) (.int .i64 (en : Int))
      refine ⟨_, _, rfl, errO_isI A _, BIf_mk (fun hh => by cases hh) (fun _ => needSome_mk rfl ?_)⟩
      rw [add_lit]
      refine ⟨c1, fun w23 hw23 => ?_⟩
      obtain ⟨o23, e23, _⟩ := c2 w23 hw23
      have hM23 := hM53.seto e23 o23
      have hO' := addOk h.O hok ha1 (fun a' t' he y hy => by cases he)
      have x23 : Ext (UB r rd f) w5 w23 := (ft'.1.mono (fun k hk => Or.inr hk)).trans e23 (fun _ h => h) (fun k hk => .inl (.inl (.inl hk)))
      have hS23 := hS'.ext e23 (fun k hk hh => sepW r (.inl rfl) (by rw [← show k = r from hh]; exact hk))
      have fin : ∀ {w25}, Keep w23 w25 → Outc w5 n0 r rd f d s m (none, ⟨V, s.tr, en, s.T⟩) none w25 := fun k25 =>
        .inl ⟨rfl, ⟨f.st, f.x, u', q', f.top⟩, d', ⟨hS23.keep k25, hM23.keep k25, hO', h.t, ⟨h.T.1, by show en ≤ 2 ^ 30; omega⟩, sepW, ysep, h.n⟩, hn', hst', ⟨⟨x23.trans k25 (fun _ h => h) (fun _ h => h.elim), fun k hk => hk.elim (fun h => .inl (.inl h)) (fun h => (ft'.2 k h).imp .inr (fun h => h))⟩, fun k hk => .inl hk⟩⟩
      refine (Tail_spec9 hM23).mono ?_
      rintro e w25 ⟨rfl, k25⟩
      exact ⟨_, rfl, _, none, rfl, fin k25, fun _ => h.t.2⟩
    · rw [ha1]
      have hO' := addOk h.O hok ha1 (fun a' t' he y hy => by cases he)
      have hal := allR_qs (appU_qs ha1).1
      exact ⟨_, _, rfl, errO_isI A _, BIf_mk (fun _ => ⟨_, some 11, rfl, .inr ⟨rfl, hst, q', d', hD', hn', hst', hcr.unit h.S.N ha1 rfl h.O ⟨hO', fun _ => rfl⟩, ⟨(k1.foot ft).1.mono (fun k hk => .inr hk), fun k hk => ((k1.foot ft).2 k hk).imp .inr (fun g => g)⟩⟩, fun hh => by cases hh⟩) (fun hh => by cases hh)⟩
  · rw [if_pos (by omega)]
    refine (Tail_spec9 h.M).mono ?_
    rintro e w28 ⟨rfl, k28⟩
    exact ⟨_, rfl, _, none, rfl, h.outc k28, fun _ => h.t.2⟩

/-! ### segments are given back -/
theorem UnM.delI {st : Nat} {x : UnP} {tr ep top : Int} {pg : Int → Option (List UInt8)} {ins : Int → List Int} (h : UnM w r st x tr ep top pg ins) (n : Int) (hp : MapB KS w' x.mi (delL x.il n)) (he : Ext (fun j => j = x.mi) w w') : UnM w' r st { x with il := delL x.il n } tr ep top pg (updI ins n []) := by
  have lk : ∀ b, lookL (delL x.il n) b = if b = n then none else lookL x.il b := fun b => look_del n b h.i.nd
  obtain ⟨_, _, hi1, _⟩ := h.i.at'
  have rmi := h.ne_maps.2
  refine ⟨h.o.ext he (fun hh => rmi hh), h.p.ext he (fun hh => h.ne hh), hp, h.ne, fun a => ⟨fun s hs => ?_, (h.pv a).2⟩, fun b => ?_, fun a b s t ha hb hne => ?_, fun a s ha => ?_, fun a s hs h0 j hj => ?_⟩
  · obtain ⟨t, g1, g2, g3⟩ := (h.pv a).1 s hs
    exact ⟨t, g1, bytesAt_stayX g2 he (fun h0 j hj hh => bytes_ne_map g2 h0 (show ownB s x.mi from hh ▸ hj) hi1), g3⟩
  · dsimp only
    rw [lk]
    unfold updI
    by_cases e : b = n
    · rw [if_pos e, if_pos e]; exact IntsAt.nil _
    · rw [if_neg e, if_neg e]
      refine (h.iv b).ext he (fun j hj hh => ?_)
      obtain ⟨c, T, f, hc⟩ := Own.ne (h.iv b).own hj
      rw [hh, hi1] at hc; cases hc
  · dsimp only at ha hb
    rw [lk] at ha hb
    by_cases e : a = n
    · rw [if_pos e] at ha; cases ha
    · by_cases e2 : b = n
      · rw [if_pos e2] at hb; cases hb
      · rw [if_neg e] at ha; rw [if_neg e2] at hb
        exact h.sep a b s t ha hb hne
  · dsimp only at ha
    rw [lk] at ha
    by_cases e : a = n
    · rw [if_pos e] at ha; cases ha
    · rw [if_neg e] at ha
      exact h.ir a s ha
  · obtain ⟨y1, y2⟩ := h.pb a s hs h0 j hj
    refine ⟨y1, fun b t hb => ?_⟩
    dsimp only at hb
    rw [lk] at hb
    by_cases e : b = n
    · rw [if_pos e] at hb; cases hb
    · rw [if_neg e] at hb
      exact y2 b t hb
theorem Contains_spec9 {x : UnP} {st : Nat} {tr ep top : Int} {pg : Int → Option (List UInt8)} {ins : Int → List Int} {r2 : Nat} (h : UnM w r st x tr ep top pg ins) (o2 : ObjAt w r2 [ptrR' r]) (sl : Slc) (l : List Int) (hl : IntsAt w sl l) (hlen : l.length ≤ 2 ^ 40) :
    Calls Tryz.prog fn_slices_ContainsFunc_int ⟨[sl.v, .func (.func 75) ⟨[]⟩ ⟨[ptrR' r2]⟩]⟩ w fun e w' => e = .returned (.bool (!l.all fun a => decide (a < tr))) ∧ w' = w := by
  refine slices_ContainsFunc_int_unit_Unit_reclaim_1_ok _ _ ?_
  unfold slices_ContainsFunc_int_unit_Unit_reclaim_1
  have hsl := Rows.sl hl
  refine Calls.mono (R := fun e w' => ∃ n : Int, e = .returned (.int .i64 n) ∧ (decide ((0 : Int) ≤ n)) = (!l.all fun a => decide (a < tr)) ∧ w' = w) (slices_IndexFunc_int_unit_Unit_reclaim_1_ok _ _ ?_) ?_
  · unfold slices_IndexFunc_int_unit_Unit_reclaim_1
    refine ⟨fun i w2 => ∃ k : Nat, i = k ∧ k ≤ l.length ∧ (l.take k).all (fun a => decide (a < tr)) = true ∧ w2 = w, fun i _ => ((l.length : Int) - i).toNat, ⟨0, rfl, by omega, by simp, rfl⟩, ?_⟩
    rintro i w6 ⟨k, rfl, hk, hall, rfl⟩
    intros
    refine BIf_dec (fun h0 => ?_) (fun h0 => ⟨-1, rfl, ?_, rfl⟩)
    · have hkl : k < l.length := by omega
      obtain ⟨a, ha, hc⟩ := hl.get hkl
      refine needSome_mk ha ⟨by omega, h0, _, by rw [Int.toNat_natCast]; exact hc, ?_⟩
      refine Calls.mono (R := fun e w' => e = .returned (.bool (decide (tr ≤ l[k]))) ∧ w' = w6) (unit_Unit_reclaim_1_ok _ _ ?_) ?_
      · unfold unit_Unit_reclaim_1
        exact needSome_mk rfl ⟨_, o2.cell 0 (by simp), needSome_mk rfl ⟨_, h.c.2.2.2.1, rfl, rfl⟩⟩
      · rintro e w22 ⟨rfl, rfl⟩
        refine ⟨_, rfl, BIf_dec (fun h1 => ⟨_, rfl, ?_, rfl⟩) (fun h1 => ⟨inR64 (by omega), ⟨k + 1, rfl, hkl, ?_, rfl⟩, by dsimp only; omega⟩)⟩
        · have : l.all (fun a => decide (a < tr)) = false := by
            rw [Bool.eq_false_iff]
            intro hh
            have := List.all_eq_true.1 hh _ (List.getElem_mem hkl)
            have h3 : l[k] < tr := by simpa using this
            omega
          rw [this]
          exact decide_eq_true (by omega)
        · rw [take_snoc' _ _ hkl, List.all_append, hall]
          simp; omega
    · have : k = l.length := by omega
      subst this
      rw [List.take_length] at hall
      rw [hall]; rfl
  · rintro e w' ⟨n, rfl, hn, rfl⟩
    exact ⟨n, rfl, by rw [hn], rfl⟩
end
theorem dropR_head {g h : USeg} {t : List USeg} : dropR (sU (g :: h :: t)) (g.num : Int) = (none, sU (h :: t)) := by
  unfold dropR
  have : (sU (g :: h :: t)).findIdx? (fun x => decide ((x.num : Int) = (g.num : Int))) = some 0 := by
    simp [List.findIdx?_cons, USeg.s]
  rw [this]
  simp
def EndsT (U : List USeg) (tr ep : Nat) : Prop := ∃ M p n rs, U = M ++ [⟨p, n, rs ++ [.trim tr ep]⟩]
theorem EndsT.tail {g h : USeg} {t : List USeg} {tr ep : Nat} (hh : EndsT (g :: h :: t) tr ep) : EndsT (h :: t) tr ep := by
  obtain ⟨M, p, n, rs, e⟩ := hh
  cases M with
  | nil => simp at e
  | cons x M =>
    simp only [List.cons_append, List.cons.injEq] at e
    exact ⟨M, p, n, rs, e.2⟩
theorem EndsT.all {U : List USeg} {tr ep : Nat} (hh : EndsT U tr ep) : ∃ R, allR U = R ++ [.trim tr ep] := by
  obtain ⟨M, p, n, rs, rfl⟩ := hh
  rw [allR_snoc]
  exact ⟨allR M ++ rs, by simp⟩
theorem pgM_drop {g : USeg} {U : List USeg} {tr : Nat} (h : ∀ a, tr ≤ a → pageAt (pgU U) a = pageAt (pgU (g :: U)) a) : pgM U tr = pgM (g :: U) tr := by
  funext a
  unfold pgM
  split
  · rfl
  · rw [h _ (by omega)]
end Go.D

set_option linter.unusedVariables false
set_option linter.unusedSimpArgs false
namespace Go.D
open Go Go.Proofs

section
variable {w w' : World} {n0 r rd m : Nat} {f : UnF} {d : DevS} {s : UnS}
theorem UnM.y_out {st : Nat} {x : UnP} {tr ep top : Int} {pg : Int → Option (List UInt8)} {ins : Int → List Int} (h : UnM w r st x tr ep top pg ins) : ∀ k, UnY x k → ¬ UnW r x k := by
  rintro k ⟨b, s0, hs0, h00, hk0⟩ hh
  obtain ⟨y1, y2⟩ := h.pb b s0 hs0 h00 k hk0
  obtain ⟨t0, _, hb0, _⟩ := (h.pv b).1 s0 hs0
  rcases hh with hh | hh | hh | ⟨n, s1, hs1, hk1⟩
  · exact y1 hh
  · obtain ⟨_, _, hp1, _⟩ := h.p.at'
    exact bytes_ne_map hb0 h00 hk0 (by rw [hh]; exact hp1)
  · obtain ⟨_, _, hp1, _⟩ := h.i.at'
    exact bytes_ne_map hb0 h00 hk0 (by rw [hh]; exact hp1)
  · exact y2 n s1 hs1 hk1
theorem all_map9 (P : List (Nat × List UInt8)) (tr : Nat) : (P.map fun y => (y.1 : Int)).all (fun a => decide (a < (tr : Int))) = P.all fun y => decide (y.1 < tr) := by
  rw [List.all_map]
  congr 1
  funext y
  simp [decide_eq_decide]

theorem reclaim_pg {tr ep T : Nat} : ∀ U : List USeg, UnOk U tr ep T → EndsT U tr ep → pgM (reclaimU tr U) tr = pgM U tr
  | [], _, _ => rfl
  | [g], _, _ => rfl
  | g :: h :: t, hO, hend => by
    show pgM (if _ then _ else _) tr = _
    split
    · rename_i hall
      obtain ⟨hO3, hpgA⟩ := UnOk.drop hO hend.tail.all (fun y hy => by
        have := List.all_eq_true.1 hall y hy
        simpa using this)
      rw [reclaim_pg (h :: t) hO3 hend.tail, pgM_drop hpgA]
    · rfl

theorem reclaim_spec9 (A : Nat → Addr) (h : UAt w n0 r rd f d s (m + 1)) (hE : ErrsB A n0 w) (hm : m + 1 ≤ 2 ^ 60) (hend : EndsT s.U s.tr s.ep) :
    Calls Tryz.prog fn_unit_Unit_reclaim ⟨[ptrR' r]⟩ w fun e w' => ∃ e', e = .returned (errO A e') ∧ Outc w n0 r rd f d s m (none, ⟨reclaimU s.tr s.U, s.tr, s.ep, s.T⟩) e' w' := by
  refine unit_Unit_reclaim_ok _ ?_
  unfold unit_Unit_reclaim
  have hUL := h.S.len
  have hk19 := h.S.k
  have hULe : (sU s.U).length = s.U.length := by simp
  have hso := pairwise_sU (R := fun a b => a < b) h.S.I.so
  refine newS_mk (fun r2 w3 hr2 hb2 k2 hs2 => ?_)
  have o2 := ObjAt.new' hb2
  have lt := h.lt
  refine ⟨_, o2.cell 0 (by simp), needSome_mk rfl ⟨_, (h.keep k2).M.c.1, (Segments_spec8 (h.keep k2).S.B.S (by omega)).mono ?_⟩⟩
  rintro e w8 ⟨s9, rfl, hI9, hf9, k8⟩
  have z3 := k2.size
  have z8 := k8.size
  have hl9 : s9.l = s.U.length := by
    have := Rows.sl hI9
    simpa using this
  have hne : s.U ≠ [] := by
    obtain ⟨M, p, n, rs, e⟩ := hend
    rw [e]; simp
  have hpos : 0 < s.U.length := List.length_pos_iff.2 hne
  refine ⟨s9, rfl, fun i w2 => ∃ (j : Nat) (f2 : UnF) (d2 : DevS) (s2 : UnS), i = j ∧ j < s.U.length ∧ UAt w2 n0 r rd f2 d2 s2 (m + 1) ∧ s2.U = s.U.drop j ∧ s2.tr = s.tr ∧ s2.ep = s.ep ∧ s2.T = s.T ∧ pgM s2.U s.tr = pgM s.U s.tr ∧ reclaimU s.tr s2.U = reclaimU s.tr s.U ∧ EndsT s2.U s.tr s.ep ∧
      d2.n = d.n ∧ d2.stops = d.stops ∧ UFoot r rd f f2 w w2 ∧ IntsAt w2 s9 ((sU s.U).map fun g => (g.num : Int)) ∧ (∀ k, UB r rd f2 k → ¬ ownB s9 k ∧ k ≠ r2) ∧ ObjAt w2 r2 [ptrR' r], fun i _ => ((s.U.length : Int) - i).toNat,
    ⟨0, f, d, s, rfl, hpos, (h.keep k2).keep k8, by simp, rfl, rfl, rfl, rfl, rfl, hend, rfl, rfl, (k2.trans k8).ufoot (UFoot.refl _ _ _ _), hI9, fun k hk => ⟨fun hh => ?_, ?_⟩, o2.keep k8⟩, ?_⟩
  · have := hf9 k hh; have := lt.1 k hk; omega
  · have := lt.1 k hk; omega
  rintro i w13 ⟨j, f2, d2, s2, rfl, hj, h2, e1, e2, e3, e4, e5, e6, hend2, hdn, hds, uf, hI13, hap, o13⟩
  intros
  have z13 := uf.1.1.size
  -- what there is
  have hdrop : s.U.drop j = s.U[j] :: s.U.drop (j + 1) := List.drop_eq_getElem_cons hj
  have same : ∀ U, Tells U s2 → Tells U s := fun U ⟨t1, t2⟩ => by
    rw [e2, e3, e4] at t1
    refine ⟨t1, fun a => ?_⟩
    have := t2 a
    rw [e2] at this
    rw [this, e5]
  have done : ∀ {w5}, Keep w13 w5 → reclaimU s.tr s2.U = s2.U → Outc w n0 r rd f d s m (none, ⟨reclaimU s.tr s.U, s.tr, s.ep, s.T⟩) none w5 := fun k5 hr => by
    refine .inl ⟨rfl, f2, d2, ?_, hdn, hds, uf.keep k5⟩
    have := h2.keep k5
    rw [hr] at e6
    have e7 : s2 = ⟨reclaimU s.tr s.U, s.tr, s.ep, s.T⟩ := by
      cases s2
      simp only at e2 e3 e4 e6 ⊢
      rw [e2, e3, e4, e6]
    rw [← e7]; exact this
  refine BIf_dec (fun h0 => ?_) (fun h0 => absurd h0 (by omega))
  obtain ⟨a52, ha52, hc52⟩ := hI13.get (i := j) (by simpa using hj)
  have hnum : (((sU s.U).map fun g => (g.num : Int))[j]'(by simpa using hj)) = (s.U[j].num : Int) := by simp [USeg.s]
  rw [hnum] at hc52
  refine needSome_mk ha52 ⟨by omega, h0, _, by rw [Int.toNat_natCast]; exact hc52, ?_⟩
  refine ⟨fun w2 => Keep w13 w2 ∧ ∃ g' t', s2.U = s.U[j] :: g' :: t' ∧ (pagesOf s.U[j].rs).all (fun y => decide (y.1 < s.tr)) = true, ⟨_, o13.cell 0 (by simp), needSome_mk rfl ⟨_, h2.M.c.1, (Last_spec8 h2.S.B.S (by have := h2.S.len; omega)).mono ?_⟩⟩, ?_⟩
  · rintro e w59 ⟨rfl, k59⟩
    have h59 := h2.keep k59
    have hlen2 : (sU s2.U).length = s.U.length - j := by rw [e1]; simp
    have hlast := lastN_get (L := sU s2.U) (by omega)
    have hso2 := pairwise_sU (R := fun a b => a < b) h2.S.I.so
    have e0 : s2.U = s.U[j] :: s.U.drop (j + 1) := by rw [e1, hdrop]
    refine ⟨_, rfl, BIf_dec (fun h3 => ?_) (fun h3 => ?_)⟩
    · refine ⟨none, rfl, done k59 ?_⟩
      cases ht : s.U.drop (j + 1) with
      | nil => rw [e0, ht]; rfl
      | cons g' t' =>
        exfalso
        rw [hlast] at h3
        have hl : (s2.U).length = t'.length + 2 := by rw [e0, ht]; simp
        have e8 : ((sU s2.U)[(sU s2.U).length - 1]'(by omega)).num = (s2.U[s2.U.length - 1]'(by omega)).num := by simp [USeg.s]
        rw [e8] at h3
        have := List.pairwise_iff_getElem.1 hso2 0 (s2.U.length - 1) (by omega) (by omega) (by omega)
        have e9 : s2.U[0]'(by omega) = s.U[j] := by simp [e0]
        rw [e9] at this
        omega
    · cases ht : s.U.drop (j + 1) with
      | nil =>
        exfalso
        rw [hlast] at h3
        have hl : (s2.U).length = 1 := by rw [e0, ht]; simp
        have e8 : ((sU s2.U)[(sU s2.U).length - 1]'(by omega)).num = (s2.U[s2.U.length - 1]'(by omega)).num := by simp [USeg.s]
        rw [e8] at h3
        have e9 : s2.U[s2.U.length - 1]'(by omega) = s.U[j] := by simp [e0, ht]
        rw [e9] at h3
        omega
      | cons g' t' =>
        rw [ht] at e0
        have hdist : ∀ y ∈ g' :: t', y.num ≠ s.U[j].num := fun y hy => by
          rw [e0] at hso2
          have := (List.pairwise_cons.1 hso2).1 y hy; omega
        obtain ⟨es, g1, g2⟩ := h59.M.i.get
        have hiv := h59.M.iv (s.U[j].num : Int)
        have hfew := h2.O.ins_few (s.U[j].num : Int)
        have hin : insU s2.U (s.U[j].num : Int) = (pagesOf s.U[j].rs).map fun y => (y.1 : Int) := by rw [e0]; exact insU_head hdist
        refine ⟨_, (o13.keep k59).cell 0 (by simp), needSome_mk rfl ⟨_, h59.M.c.2.2.1, es, g1, lookL f2.x.il (s.U[j].num : Int), g2 _, (Contains_spec9 h59.M (o13.keep k59) _ _ hiv (by omega)).mono ?_⟩⟩
        rintro e w67 ⟨rfl, rfl⟩
        rw [hin, e2, all_map9]
        refine ⟨_, rfl, BIf_mk (fun h4 => ⟨none, rfl, done k59 ?_⟩) (fun h4 => ⟨k59, g', t', e0, by simpa using h4⟩)⟩
        have h5 : (pagesOf s.U[j].rs).all (fun y => decide (y.1 < s.tr)) = false := by simpa using h4
        rw [e0]
        show (if _ then _ else _) = _
        rw [h5, if_neg (by simp)]
  · rintro w69 ⟨k69, g', t', e0, hall⟩
    intros
    have h69 := h2.keep k69
    have z69 := k69.size
    have hG : ErrsB A n0 w69 := ((hE.ext uf.1.1 h.ge).keep k69)
    have hso2 := pairwise_sU (R := fun a b => a < b) h2.S.I.so
    refine ⟨_, (o13.keep k69).cell 0 (by simp), needSome_mk rfl ⟨_, h69.M.c.1, (Drop_spec8 A h69.S (hG.g.sub segG_sub) hm (s.U[j].num : Int)).mono ?_⟩⟩
    rintro e w92 ⟨e', rfl, q', d', hD', hdn', hds', hcase⟩
    rw [e0, dropR_head] at hcase
    have hok2 := h2.O
    rw [e0] at hok2
    have hend3 : EndsT (g' :: t') s.tr s.ep := by rw [e0] at hend2; exact hend2.tail
    obtain ⟨hO3, hpgA⟩ := UnOk.drop (tr := s2.tr) (ep := s2.ep) (T := s2.T) hok2 (by rw [e2, e3]; exact hend3.all) (fun y hy => by
      have := List.all_eq_true.1 hall y hy
      rw [e2]; simpa using this)
    have hpgD := pgM_drop hpgA
    have hdist : ∀ y ∈ g' :: t', y.num ≠ s.U[j].num := fun y hy => by
      rw [e0] at hso2
      have := (List.pairwise_cons.1 hso2).1 y hy; omega
    rcases hcase with ⟨h5, _⟩ | ⟨_, rfl, u', hS', ft⟩ | ⟨_, rfl, hst, hcr, ft⟩
    · exact absurd rfl h5
    · refine ⟨_, rfl, errO_isI A _, BIf_mk (fun hh => by cases hh) (fun _ => ?_)⟩
      have hM92 := h69.M.ext ft.1 h69.sep (fun k hk hh => h69.ysep k hk (.inr hh))
      have sepW : ∀ k, UnW r f2.x k → ¬ SysB f2.st u' rd q' k := fun k hk hh => (ft.2 k hh).elim (h2.sep k hk) (fun hh => by have := h69.M.lt.1 k hk; omega)
      have hb92 : ∀ k, SysB f2.st u' rd q' k → ¬ ownB s9 k ∧ k ≠ r2 := fun k hk => by
        rcases ft.2 k hk with g | g
        · exact hap k (.inr g)
        · refine ⟨fun hh => ?_, fun hh => ?_⟩
          · have := Rows.lt hI13 k hh; omega
          · have := o13.lt; omega
      have I92 := (hI13.keep k69).ext ft.1 (fun k hk hh => (hap k (.inr hh)).1 hk)
      have o92 := (o13.keep k69).ext ft.1 (fun hh => (hap _ (.inr hh)).2 rfl)
      obtain ⟨es1, ck1, es2, m1, m2, m3⟩ := hM92.i.del (s.U[j].num : Int)
      refine ⟨_, o92.cell 0 (by simp), needSome_mk rfl ⟨_, hM92.c.2.2.1, f2.x.mi, es1, ck1, es2, rfl, m1, m2, fun w101 hw101 => ?_⟩⟩
      obtain ⟨i101, e101, z101⟩ := m3 w101 hw101
      have hM101 := hM92.delI (s.U[j].num : Int) i101 e101
      have hin : insU (g' :: t') = updI (insU s2.U) (s.U[j].num : Int) [] := by rw [e0]; exact insU_drop hdist
      rw [← hin] at hM101
      have hpg : pgM s2.U s2.tr = pgM (g' :: t') s2.tr := by rw [e0]; exact hpgD.symm
      rw [hpg] at hM101
      have hS101 := hS'.ext e101 (fun k hk hh => sepW f2.x.mi (.inr (.inr (.inl rfl))) (by rw [← show k = f2.x.mi from hh]; exact hk))
      have jlt : j + 1 < s.U.length := by
        have : (s.U.drop j).length = t'.length + 2 := by rw [← e1, e0]; simp
        rw [List.length_drop] at this; omega
      have subW : ∀ k, UnW r { f2.x with il := delL f2.x.il (s.U[j].num : Int) } k → UnW r f2.x k := by
        rintro k (hk | hk | hk | ⟨b, s1, hs1, hk⟩)
        · exact .inl hk
        · exact .inr (.inl hk)
        · exact .inr (.inr (.inl hk))
        · dsimp only at hs1
          rw [look_del _ b h2.M.i.nd] at hs1
          by_cases e : b = (s.U[j].num : Int)
          · rw [if_pos e] at hs1; cases hs1
          · rw [if_neg e] at hs1
            exact .inr (.inr (.inr ⟨b, s1, hs1, hk⟩))
      have x101 : Ext (UB r rd f2) w13 w101 := (Ext.trans k69 (ft.1.mono (fun k hk => Or.inr hk)) (fun _ h => h.elim) (fun _ h => .inl h)).trans e101 (fun _ h => h) (fun k hk => .inl (.inl (.inr (.inr (.inl hk)))))
      have uf101 : UFoot r rd f2 ⟨f2.st, { f2.x with il := delL f2.x.il (s.U[j].num : Int) }, u', q', f2.top⟩ w13 w101 := by
        refine ⟨⟨x101, fun k hk => ?_⟩, fun k hk => .inl hk⟩
        rcases hk with hk | hk
        · exact .inl (.inl (subW k hk))
        · exact (ft.2 k hk).elim (fun g => .inl (.inr g)) (fun g => .inr (by omega))
      refine ⟨inR64 (by omega), ⟨j + 1, ⟨f2.st, { f2.x with il := delL f2.x.il (s.U[j].num : Int) }, u', q', f2.top⟩, d', ⟨g' :: t', s2.tr, s2.ep, s2.T⟩, rfl, jlt, ⟨hS101, hM101, hO3, h2.t, h2.T, fun k hk hh => sepW k (subW k hk) hh, fun k hk hh => ?_, fun k hk => h2.n k (subW k hk)⟩, ?_, e2, e3, e4, ?_, ?_, hend3, by rw [hdn', hdn], by rw [hds', hds], uf.trans uf101, ?_, ?_, ?_⟩, by dsimp only; omega⟩
      · rcases hh with hh | hh
        · exact h2.ysep k hk (.inl (subW k hh))
        · rcases ft.2 k hh with g | g
          · exact h2.ysep k hk (.inr g)
          · have := h69.M.lt.2 k hk; omega
      · show g' :: t' = s.U.drop (j + 1)
        have : (s.U.drop j).tail = (s2.U).tail := by rw [e1]
        rw [hdrop, e0] at this
        exact this.symm
      · show pgM (g' :: t') s.tr = _
        rw [← e5, ← e2, hpg]
      · show reclaimU s.tr (g' :: t') = _
        rw [← e6, e0]
        show _ = (if _ then _ else _)
        rw [hall, if_pos rfl]
      · exact I92.ext e101 (fun k hk hh => (hap k (.inl (.inr (.inr (.inl hh))))).1 hk)
      · rintro k (hk | hk)
        · exact hap k (.inl (subW k hk))
        · exact hb92 k hk
      · exact o92.ext e101 (fun hh => (hap r2 (.inl (.inr (.inr (.inl hh))))).2 rfl)
    · refine ⟨_, rfl, errO_isI A _, BIf_mk (fun _ => ⟨some 11, rfl, .inr ⟨rfl, by rw [← hds]; exact hst, q', d', hD', by rw [hdn', hdn], by rw [hds', hds], ⟨hcr.1, fun a b c => ?_⟩, ?_⟩⟩) (fun hh => by cases hh)⟩
      · obtain ⟨L, hL, hI⟩ := hcr.2 a b c
        rw [hdn] at hI
        simp only [List.mem_cons, List.not_mem_nil, or_false] at hL
        rcases hL with rfl | rfl
        · refine ⟨s.U[j] :: g' :: t', hI, fun g hg => h2.S.N g (by rw [e0]; exact hg), s, by simp, same _ ⟨hok2, fun a => by rw [e0]⟩⟩
        · refine ⟨g' :: t', hI, fun g hg => h2.S.N g (by rw [e0]; exact List.mem_cons_of_mem _ hg), s, by simp, same _ ⟨hO3, fun a => by rw [hpgD, e0]⟩⟩
      · have f1 : Foot (UB r rd f2) (DevB rd q') w13 w92 := ⟨Ext.trans k69 (ft.1.mono (fun k hk => Or.inr hk)) (fun _ h => h.elim) (fun _ h => .inl h), fun k hk => (ft.2 k hk).elim (fun g => .inl (.inr g)) (fun g => .inr (by omega))⟩
        exact uf.1.trans f1

theorem Tells.trans {U : List USeg} {s1 s2 : UnS} (h : Tells U s1) (e1 : s2.tr = s1.tr) (e2 : s2.ep = s1.ep) (e3 : s2.T = s1.T) (e4 : ∀ a, pgM s1.U s1.tr a = pgM s2.U s1.tr a) : Tells U s2 := by
  obtain ⟨t1, t2⟩ := h
  refine ⟨by rw [e1, e2, e3]; exact t1, fun a => ?_⟩
  rw [e1, t2 a, e4 a]
theorem Trim_spec9 (A : Nat → Addr) (h : UAt w n0 r rd f d s m) (hE : ErrsB A n0 w) (hm : m + 1 ≤ 2 ^ 60) (epoch to : Int) :
    Calls Tryz.prog fn_unit_Unit_Trim ⟨[ptrR' r, .int .i64 epoch, .int .i64 to]⟩ w fun e w' => ∃ e', e = .returned (errO A e') ∧ Outc w n0 r rd f d s m (trimP (d.n / 64) s epoch to) e' w' := by
  refine unit_Unit_Trim_ok _ _ _ ?_
  unfold unit_Unit_Trim
  have hG : ErrsG uniG A n0 w := hE.g.sub uniG_sub
  refine (check_spec9 A h.M epoch to 4096 hG).mono ?_
  rintro e w6 ⟨rfl, rfl⟩
  unfold trimP
  cases hc : checkE s.ep epoch to 4096 with
  | some c => exact ⟨_, rfl, errO_isI A _, BIf_mk (fun _ => ⟨_, rfl, h.outc (Ext.refl _ _)⟩) (fun hh => by cases hh)⟩
  | none =>
    have ha : 0 ≤ to ∧ to ≤ 4096 := by
      unfold checkE at hc
      split at hc
      · cases hc
      · split at hc
        · cases hc
        · omega
    refine ⟨_, rfl, errO_isI A _, BIf_mk (fun hh => by cases hh) (fun _ => needSome_mk rfl ⟨_, h.M.c.2.2.2.1, BIf_dec (fun h0 => ?_) (fun h0 => ?_)⟩)⟩
    · dsimp only
      rw [if_pos h0]
      exact ⟨none, rfl, h.outc (Ext.refl _ _)⟩
    dsimp only
    rw [if_neg h0]
    obtain ⟨tn, rfl⟩ : ∃ tn : Nat, to = tn := ⟨to.toNat, by omega⟩
    rw [Int.toNat_natCast]
    have hok : okR (.trim tn s.ep) := ⟨by omega, h.T.2⟩
    have ht4 := h.T.1
    have htt := h.t
    have htl := h.O.tl
    refine (record_spec9 A h.S h.M hE (by omega) (.trim tn s.ep) hok (fun _ _ hh => by cases hh; rfl) ⟨none, 0, 0⟩ (fun ⟨_, _, hh⟩ => by cases hh)).mono ?_
    rintro e w53 ⟨n, e', w1, rfl, k1, hp⟩
    rcases hp.unit hok with ⟨ha1, rfl, hD, hk⟩ | ⟨n', V, ha1, rfl, rfl, u', q', d', hS', hn', hst', ft⟩ | ⟨n', V, ha1, rfl, hst, q', d', hD', hn', hst', hcr, ft⟩
    · rw [ha1]
      exact ⟨_, _, rfl, errO_isI A _, BIf_mk (fun _ => ⟨_, rfl, h.outc (k1.trans hk)⟩) (fun hh => by cases hh)⟩
    · rw [ha1]
      have hO' := addOk h.O hok ha1 (fun a' t' he y hy => by cases he)
      have eT : max (topOf (pgU s.U)) tn = max s.T tn := by omega
      have ft' : Foot (SysB f.st f.u rd f.q) (SysB f.st u' rd q') w6 w53 := k1.foot ft
      obtain ⟨hM53, sepW, ysep⟩ := h.noted hok (fun _ _ hh => by cases hh) ha1 hS' ft'
      obtain ⟨c1, c2⟩ := hM53.o.setOne 3 (by simp) (.int .i64 (tn : Int))
      refine ⟨_, _, rfl, errO_isI A _, BIf_mk (fun hh => by cases hh) (fun _ => needSome_mk rfl ?_)⟩
      rw [add_lit]
      refine ⟨c1, fun w14 hw14 => ?_⟩
      obtain ⟨o14, e14, _⟩ := c2 w14 hw14
      have hM14 := hM53.seto e14 o14
      have hS14 := hS'.ext e14 (fun k hk hh => sepW r (.inl rfl) (by rw [← show k = r from hh]; exact hk))
      have x14 : Ext (UB r rd f) w6 w14 := (ft'.1.mono (fun k hk => Or.inr hk)).trans e14 (fun _ h => h) (fun k hk => .inl (.inl (.inl hk)))
      refine (forget_spec9 hM14).mono ?_
      rintro e w16 ⟨rfl, x', hM16, t1, t2, t3⟩
      have z53 := ft'.1.size
      have z14 := e14.size
      have z16 := t1.size
      have hcut : cutPg (tn : Int) (pgM V s.tr) = pgM V tn := by
        funext a
        unfold cutPg pgM
        by_cases e : a < (tn : Int)
        · rw [if_pos e, if_pos e]
        · rw [if_neg e, if_neg e, if_neg (by omega)]
      rw [hcut] at hM16
      have hSlt := hS'.B.lt
      have x16 : Ext (UB r rd f) w6 w16 := x14.trans t1 (fun _ h => h) (fun k hk => .inl (.inl hk))
      have hO1 : UnOk V tn s.ep (max s.T tn) := by
        have := hO'
        simp only [teStep, tailR] at this
        rw [eT] at this; exact this
      have h16 : UAt w16 n0 r rd ⟨f.st, x', u', q', f.top⟩ d' ⟨V, tn, s.ep, max s.T tn⟩ (m + 1) := by
        refine ⟨hS14.ext t1 (fun k hk hh => sepW k hh hk), hM16, hO1, ⟨htt.1, by show max f.top (tn : Int) = ((max s.T tn : Nat) : Int); omega⟩, ⟨by show max s.T tn ≤ 4096; omega, h.T.2⟩, fun k hk hh => ?_, fun k hk hh => ?_, fun k hk => ?_⟩
        · rcases t2 k hk with g | g
          · exact sepW k g hh
          · have := hSlt k hh; omega
        · rcases hh with hh | hh
          · exact hM16.y_out k hk hh
          · have hl := hSlt k hh
            rcases t3 k hk with g | g | g
            · exact ysep k g (.inr hh)
            · exact g
            · omega
        · rcases t2 k hk with g | g
          · exact h.n k g
          · have := h.S.B.z; omega
      have uf16 : UFoot r rd f ⟨f.st, x', u', q', f.top⟩ w6 w16 := by
        refine ⟨⟨x16, fun k hk => ?_⟩, fun k hk => ?_⟩
        · rcases hk with hk | hk
          · rcases t2 k hk with g | g
            · exact .inl (.inl g)
            · exact .inr (by omega)
          · exact (ft'.2 k hk).imp .inr (fun g => g)
        · rcases t3 k hk with g | g | g
          · exact .inl g
          · exact g.elim
          · exact .inr (by omega)
      have hend : EndsT V tn s.ep := by
        obtain ⟨_, _, M, g, rfl, _⟩ := appU_qs ha1
        exact ⟨M, g.place, g.num, g.rs, rfl⟩
      refine ⟨rfl, (reclaim_spec9 A h16 (hE.ext x16 h.ge) hm hend).mono ?_⟩
      rintro e w18 ⟨e', rfl, hcase⟩
      refine ⟨_, rfl, e', rfl, ?_⟩
      rcases hcase with ⟨rfl, f2, d2, h2, hd1, hd2, uf⟩ | ⟨rfl, hst, q2, d2, hD2, hd1, hd2, hcr, ft2⟩
      · exact .inl ⟨rfl, f2, d2, h2, by rw [hd1, hn'], by rw [hd2, hst'], uf16.trans uf⟩
      · refine .inr ⟨rfl, by rw [← hst']; exact hst, q2, d2, hD2, by rw [hd1, hn'], by rw [hd2, hst'], ⟨hcr.1, fun a b c => ?_⟩, uf16.1.trans ft2⟩
        obtain ⟨U2, g1, g2, s2, g3, g4⟩ := hcr.2 a b c
        rw [hn'] at g1
        refine ⟨U2, g1, g2, _, List.mem_cons_of_mem _ (List.mem_singleton.2 rfl), ?_⟩
        simp only [List.mem_cons, List.not_mem_nil, or_false] at g3
        rcases g3 with rfl | rfl
        · exact g4.trans rfl rfl rfl (fun a => by rw [reclaim_pg V hO1 hend])
        · exact g4
    · rw [ha1]
      have hO' := addOk h.O hok ha1 (fun a' t' he y hy => by cases he)
      have eT : max (topOf (pgU s.U)) tn = max s.T tn := by omega
      have hO1 : UnOk V tn s.ep (max s.T tn) := by
        have := hO'
        simp only [teStep, tailR] at this
        rw [eT] at this; exact this
      have hend : EndsT V tn s.ep := by
        obtain ⟨_, _, M, g, rfl, _⟩ := appU_qs ha1
        exact ⟨M, g.place, g.num, g.rs, rfl⟩
      exact ⟨_, _, rfl, errO_isI A _, BIf_mk (fun _ => ⟨some 11, rfl, .inr ⟨rfl, hst, q', d', hD', hn', hst', hcr.unit h.S.N ha1 rfl h.O ⟨hO1, fun a => by rw [reclaim_pg V hO1 hend]⟩, ⟨(k1.foot ft).1.mono (fun k hk => .inr hk), fun k hk => ((k1.foot ft).2 k hk).imp .inr (fun g => g)⟩⟩⟩) (fun hh => by cases hh)⟩
end
end Go.D

set_option linter.unusedVariables false
set_option linter.unusedSimpArgs false
namespace Go.D
open Go Go.Proofs

/-! ### the document's store -/
structure Rz where
  g : SegS
  n : Int
  s : Slc
  c : List (List Value)
def rzC (z : Rz) : List Value := [.int .i64 (z.g.place : Int), .int .i64 (z.g.num : Int), .int .i64 z.n, z.s.v]
theorem foot_rz {z : Rz} {k : Nat} (h : footV (rzC z) k) : 0 < z.s.l ∧ ownB z.s k := by
  obtain ⟨s', hs, h1, h2⟩ := h
  have : s' = z.s := by
    obtain ⟨g, n, ⟨p, l, c⟩, c2⟩ := z
    obtain ⟨p', l', c'⟩ := s'
    simp [rzC, Slc.v] at hs
    obtain ⟨rfl, rfl, rfl⟩ := hs
    rfl
  subst this
  exact ⟨h1, h2⟩
def RzR : RowD Rz where
  n := 4
  pos := by omega
  R w z cs := cs = rzC z ∧ ∀ k, ownB z.s k → k < w.heap.size
  len h := by rw [h.1]; rfl
  one h := by rw [h.1]; intro v hv; simp [rzC] at hv; rcases hv with rfl | rfl | rfl | rfl <;> rfl
  ext h he _ := ⟨h.1, fun k hk => Nat.lt_of_lt_of_le (h.2 k hk) he.size⟩
  lt h := by rw [h.1]; intro k hk; exact h.2 k (foot_rz hk).2
theorem rz_ext {M : Nat → Prop} {w w' : World} {sl : Slc} {zs : List Rz} {css : List (List Value)} (h : Rows RzR w sl zs css) (he : Ext M w w') (h1 : ∀ k, ownB sl k → ¬ M k) : Rows RzR w' sl zs css :=
  ⟨h.own.ext he h1, h.len, fun i hi hi' => ⟨(h.row i hi hi').1, fun k hk => Nat.lt_of_lt_of_le ((h.row i hi hi').2 k hk) he.size⟩, h.sep⟩
abbrev gL (zs : List Rz) : List SegS := zs.map (·.g)
structure RfAt (w : World) (r k : Nat) (sl : Slc) (zs : List Rz) : Prop where
  o : ObjAt w r [.int .i64 (k : Int), sl.v]
  s : Rows RzR w sl zs (zs.map rzC)
  b : ∀ z ∈ zs, Rows BytR w z.s z.g.recs z.c
  n : ∀ z ∈ zs, z.n = (sumN z.g.recs : Int)
  sep : zs.Pairwise fun x y => ∀ k, ownB x.s k → ¬ ownB y.s k
  nr : ¬ ownB sl r
  ds : ∀ z ∈ zs, ∀ k, ownB z.s k → k ≠ r ∧ ¬ ownB sl k
  bt : ∀ z ∈ zs, ∀ k, footC z.c k → k ≠ r ∧ ¬ ownB sl k ∧ ∀ y ∈ zs, ¬ ownB y.s k
/-- What is written; and what is but read. -/
def RfW (r : Nat) (sl : Slc) (zs : List Rz) (k : Nat) : Prop := k = r ∨ ownB sl k ∨ ∃ z ∈ zs, ownB z.s k
def RfY (zs : List Rz) (k : Nat) : Prop := ∃ z ∈ zs, footC z.c k
section
variable {w w' : World} {r k : Nat} {sl : Slc} {zs : List Rz}
theorem RfAt.ext {M : Nat → Prop} (h : RfAt w r k sl zs) (he : Ext M w w') (h1 : ∀ j, RfW r sl zs j → ¬ M j) (h2 : ∀ j, RfY zs j → ¬ M j) : RfAt w' r k sl zs := by
  refine ⟨h.o.ext he (h1 _ (.inl rfl)), h.s.ext he (fun j hj => h1 j (.inr (.inl hj))) (fun j hj => ?_), fun z hz => (h.b z hz).ext he (fun j hj => h1 j (.inr (.inr ⟨z, hz, hj⟩))) (fun j hj => h2 j ⟨z, hz, hj⟩), h.n, h.sep, h.nr, h.ds, h.bt⟩
  obtain ⟨cs, hc, hk⟩ := hj
  obtain ⟨z, hz, rfl⟩ := List.mem_map.1 hc
  exact h1 j (.inr (.inr ⟨z, hz, (foot_rz hk).2⟩))
theorem RfAt.keep (h : RfAt w r k sl zs) (he : Keep w w') : RfAt w' r k sl zs := h.ext he (fun _ _ h => h) (fun _ _ h => h)
theorem RfAt.lt (h : RfAt w r k sl zs) : (∀ j, RfW r sl zs j → j < w.heap.size) ∧ ∀ j, RfY zs j → j < w.heap.size := by
  refine ⟨?_, ?_⟩
  · rintro j (rfl | hj | ⟨z, hz, hj⟩)
    · exact h.o.lt
    · exact h.s.lt j hj
    · exact (h.b z hz).lt j hj
  · rintro j ⟨z, hz, hj⟩
    exact (h.b z hz).flt j hj
theorem RfAt.c0 (h : RfAt w r k sl zs) : w.cell? ⟨r, 0, none⟩ = some (.int .i64 (k : Int)) := h.o.cell 0 (by simp)
theorem RfAt.c1 (h : RfAt w r k sl zs) : w.cell? ((⟨r, 0, none⟩ : Addr).add 1) = some sl.v := by rw [add_lit]; exact h.o.cell 1 (by simp)
theorem RfAt.at (h : RfAt w r k sl zs) {i : Nat} (hi : i < zs.length) : ∃ a : Addr, sl.p = some a ∧ rowAt w (a.add (i * 4)) 0 (rzC zs[i]) := by
  obtain ⟨a, ha, _, hrow⟩ := h.s.get (i := i) (by simpa using hi)
  rw [List.getElem_map] at hrow
  exact ⟨a, ha, hrow⟩
theorem need_spec8 (s : Slc) (w : World) (hl : s.l ≤ 2 ^ 30) : Calls Tryz.prog fn_tidewaterref08_need ⟨[s.v]⟩ w fun e w' => e = .returned (.int .i64 (need s.l : Int)) ∧ w' = w := by
  refine tidewaterref08_need_ok _ ?_
  unfold tidewaterref08_need need secs
  refine ⟨inR64 (by omega), by omega, by omega, inR64 (by omega), inR64 (by omega), ?_, rfl⟩
  congr 2
theorem refFits_spec8 (h : RfAt w r k sl zs) (hz : zs.length ≤ 2 ^ 20) (hf : ∀ z ∈ zs, sumN z.g.recs ≤ 2 ^ 40) (s : Slc) (hl : s.l ≤ 2 ^ 30) :
    Calls Tryz.prog fn_tidewaterref08_Store_Fits ⟨[ptrR' r, s.v]⟩ w fun e w' => e = .returned (.bool (fitsL (gL zs) s.l)) ∧ Keep w w' := by
  refine tidewaterref08_Store_Fits_ok _ _ ?_
  unfold tidewaterref08_Store_Fits
  have hsl := h.s.sl
  have kd : Keep w (World.drew w) := Ext.drew _ _
  refine needSome_mk rfl ⟨_, h.c1, BIf_dec (fun h0 => ?_) (fun h0 => ?_)⟩
  · have hi : zs.length - 1 < zs.length := by omega
    obtain ⟨a, ha, hrow⟩ := (h.keep kd).at hi
    have e1 : Int.toNat (((sl.l : Nat) : Int) - 1) = zs.length - 1 := by omega
    have hzn := h.n _ (List.getElem_mem hi)
    have hf1 := hf _ (List.getElem_mem hi)
    refine needSome_mk rfl ⟨_, (h.keep kd).c1, inR64 (by omega), needSome_mk ha ⟨by omega, by omega, _, by rw [e1]; exact rowAt_c hrow 2 (by simp [rzC]), (need_spec8 s _ hl).mono ?_⟩⟩
    rintro e w10 ⟨rfl, rfl⟩
    have hnl : need s.l ≤ 2 ^ 30 := by unfold need secs; omega
    refine ⟨_, rfl, ⟨_, by rw [e1]; exact rowAt_c hrow 2 (by simp [rzC]), rfl⟩, ⟨_, (h.keep kd).c1, rfl⟩, inR64 (by omega), ?_, kd⟩
    have e2 : fitsL (gL zs) s.l = decide ((zs[zs.length - 1].g).fin + need s.l ≤ 64) := by
      have e3 : (gL zs).getLast? = some zs[zs.length - 1].g := by
        rw [List.getLast?_map, List.getLast?_eq_getElem?, List.getElem?_eq_getElem hi]; rfl
      unfold fitsL
      rw [e3]
    rw [e2]
    have e4 : decide (zs[zs.length - 1].n + (need s.l : Int) ≤ 63) = decide ((zs[zs.length - 1].g).fin + need s.l ≤ 64) := by
      rw [decide_eq_decide, hzn]
      unfold SegS.fin; omega
    rw [← e4]
  · have : zs = [] := List.length_eq_zero_iff.1 (by omega)
    subst this
    exact ⟨rfl, kd⟩

theorem freeAt_take {L : List SegS} {p i : Nat} (hi : i < L.length) : freeAt (L.take (i + 1)) p = (freeAt (L.take i) p && decide (L[i].place ≠ p)) := by
  unfold freeAt
  rw [take_snoc' _ _ hi, List.all_append]
  simp
/-- A row more. -/
theorem refTake_spec8 (h : RfAt w r k sl zs) (hk : k ≤ 2 ^ 20) (hz : zs.length ≤ 2 ^ 20) (hN : ∀ z ∈ zs, z.g.num ≤ 2 ^ 60) :
    Calls Tryz.prog fn_tidewaterref08_Store_Take ⟨[ptrR' r]⟩ w fun e w' => match freeP k (gL zs) with
      | none => e = .returned (.bool false) ∧ Keep w w'
      | some p => e = .returned (.bool true) ∧ ∃ sl', RfAt w' r k sl' (zs ++ [⟨⟨p, nextN (gL zs), []⟩, 0, ⟨none, 0, 0⟩, []⟩]) ∧ Ext (RfW r sl zs) w w' ∧ ∀ j, RfW r sl' (zs ++ [⟨⟨p, nextN (gL zs), []⟩, 0, ⟨none, 0, 0⟩, []⟩]) j → RfW r sl zs j ∨ w.heap.size ≤ j := by
  refine tidewaterref08_Store_Take_ok _ ?_
  unfold tidewaterref08_Store_Take
  have hsl := h.s.sl
  refine needSome_mk rfl ⟨_, h.c0, inR64 (by omega), fun at_ p w2 => ∃ j : Nat, p = (j : Int) - 1 ∧ j ≤ k ∧ Keep w w2 ∧ (at_ = -1 ∧ (∀ q, j ≤ q → q < k → freeAt (gL zs) q = false) ∨ ∃ q0 : Nat, at_ = q0 ∧ j ≤ q0 ∧ q0 < k ∧ freeAt (gL zs) q0 = true ∧ ∀ q, j ≤ q → q < q0 → freeAt (gL zs) q = false), fun _ p _ => (p + 1).toNat,
    ⟨k, rfl, Nat.le_refl _, Ext.refl _ _, .inl ⟨rfl, fun q h1 h2 => by omega⟩⟩, ?_⟩
  rintro at_ p w8 ⟨j, rfl, hj, hkk, hat⟩
  intros
  have h8 := h.keep hkk
  refine BIf_dec (fun h0 => ?_) (fun h0 => ?_)
  · obtain ⟨p, rfl⟩ : ∃ p, j = p + 1 := ⟨j - 1, by omega⟩
    have ep : (((p + 1 : Nat) : Int) - 1) = (p : Int) := by omega
    rw [ep]
    refine needSome_mk rfl ⟨_, h8.c1, fun tk i w2 => ∃ n : Nat, i = n ∧ n ≤ zs.length ∧ tk = !freeAt ((gL zs).take n) p ∧ Keep w8 w2, fun _ i _ => ((zs.length : Int) - i).toNat, ⟨0, rfl, by omega, rfl, Ext.refl _ _⟩, ?_⟩
    rintro tk i w41 ⟨n, rfl, hn, rfl, hkn⟩
    intros
    refine BIf_dec (fun h1 => ?_) (fun h1 => ?_)
    · have hnl : n < zs.length := by omega
      obtain ⟨a, ha, hrow⟩ := (h8.keep hkn).at hnl
      have hnl2 : n < (gL zs).length := by simpa using hnl
      have hft := freeAt_take (p := p) hnl2
      have hgn : (gL zs)[n] = zs[n].g := List.getElem_map _
      rw [hgn] at hft
      refine needSome_mk ha ⟨by omega, h1, _, _, _, _, by rw [Int.toNat_natCast]; exact hrow, var_mk (cs := rzC zs[n]) rfl rfl (fun r59 w61 hr o59 k61 hs => ?_)⟩
      refine BIf_mk (fun h2 => ?_) (fun h2 => ?_)
      · refine ⟨inR64 (by omega), ⟨n + 1, rfl, hnl, ?_, hkn.trans k61⟩, by dsimp only; omega⟩
        rw [hft]
        have : freeAt ((gL zs).take n) p = false := by simpa using h2
        rw [this]; rfl
      · refine ⟨_, o59.cell 0 (by simp [rzC]), inR64 (by omega), ⟨n + 1, rfl, hnl, ?_, hkn.trans k61⟩, by dsimp only; omega⟩
        rw [hft]
        have : freeAt ((gL zs).take n) p = true := by simpa using h2
        rw [this, Bool.true_and]
        by_cases e : zs[n].g.place = p
        · rw [decide_eq_true (show ((zs[n].g.place : Nat) : Int) = (p : Int) by omega), decide_eq_false (by omega)]; rfl
        · rw [decide_eq_false (show ¬ ((zs[n].g.place : Nat) : Int) = (p : Int) by omega), decide_eq_true e]; rfl
    · have hne : n = zs.length := by omega
      subst hne
      have ht : (gL zs).take zs.length = gL zs := List.take_of_length_le (by simp)
      rw [ht]
      refine BIf_mk (fun h2 => ?_) (fun h2 => ?_)
      · have hfr : freeAt (gL zs) p = true := by simpa using h2
        refine ⟨inR64 (by omega), ⟨p, rfl, by omega, hkk.trans hkn, .inr ⟨p, rfl, by omega, by omega, hfr, fun q h3 h4 => by omega⟩⟩, by dsimp only; omega⟩
      · have hfr : freeAt (gL zs) p = false := by simpa using h2
        have stp : ∀ q, p ≤ q → q ≠ p → p + 1 ≤ q := fun q h1 h2 => by omega
        refine ⟨inR64 (by omega), ⟨p, rfl, by omega, hkk.trans hkn, ?_⟩, by dsimp only; omega⟩
        rcases hat with ⟨rfl, hno⟩ | ⟨q0, rfl, g1, g2, g3, g4⟩
        · refine .inl ⟨rfl, fun q h3 h4 => ?_⟩
          by_cases e : q = p
          · subst e; exact hfr
          · exact hno q (stp q h3 e) h4
        · refine .inr ⟨q0, rfl, by omega, g2, g3, fun q h3 h4 => ?_⟩
          by_cases e : q = p
          · subst e; exact hfr
          · exact g4 q (stp q h3 e) h4
  · have hj0 : j = 0 := by omega
    subst hj0
    rcases hat with ⟨rfl, hno⟩ | ⟨q0, rfl, g1, g2, g3, g4⟩
    · rw [freeP_none (fun q hq => hno q (by omega) hq)]
      exact BIf_dec (fun _ => ⟨rfl, hkk⟩) (fun h1 => by omega)
    · rw [freeP_some g2 g3 (fun q hq => g4 q (by omega) hq)]
      refine BIf_dec (fun h1 => by omega) (fun _ => ⟨fun n w2 => n = ((nextN (gL zs) : Nat) : Int) ∧ w2 = w8, needSome_mk rfl ⟨_, h8.c1, BIf_dec (fun h2 => ?_) (fun h2 => ?_)⟩, ?_⟩)
      · have hi : zs.length - 1 < zs.length := by omega
        obtain ⟨a, ha, hrow⟩ := h8.at hi
        have e1 : Int.toNat (((sl.l : Nat) : Int) - 1) = zs.length - 1 := by omega
        have hNi := hN _ (List.getElem_mem hi)
        have hnx := nextN_int (gL zs)
        rw [lastN_get (by simp; omega)] at hnx
        have e2 : (gL zs)[(gL zs).length - 1]'(by simp; omega) = zs[zs.length - 1].g := by simp
        rw [e2] at hnx
        exact needSome_mk rfl ⟨_, h8.c1, inR64 (by omega), needSome_mk ha ⟨by omega, by omega, _, by rw [e1]; exact rowAt_c hrow 1 (by simp [rzC]), inR64 (by omega), hnx, rfl⟩⟩
      · have : zs = [] := List.length_eq_zero_iff.1 (by omega)
        subst this
        exact ⟨rfl, rfl⟩
      · rintro n w71 ⟨rfl, rfl⟩
        intros
        refine needSome_mk rfl ⟨_, h8.c1, newS_mk (fun r92 w93 hr hb k93 hs => ?_)⟩
        have h93 := h8.keep k93
        refine h93.s.snoc (cs := rzC ⟨⟨q0, nextN (gL zs), []⟩, 0, ⟨none, 0, 0⟩, []⟩) (x := ⟨⟨q0, nextN (gL zs), []⟩, 0, ⟨none, 0, 0⟩, []⟩) (z := [.int .i64 0, .int .i64 0, .int .i64 0, (⟨none, 0, 0⟩ : Slc).v]) rfl ⟨rfl, (by rintro j ⟨a, ha, _⟩; cases ha)⟩ (fun j hj => by
          obtain ⟨_, a, ha, _⟩ := foot_rz hj
          cases ha) hb (.inl (by simp)) (by omega) (fun s' w95 g1' g2' g3' => needSome_mk rfl ?_)
        have o95 := h93.o.ext g2' h93.nr
        have hs' : ¬ ownB s' r := fun hh => by
          rcases g3' r hh with h5 | h5
          · exact h93.nr h5
          · have := h93.o.lt; omega
        obtain ⟨c1, c2⟩ := o95.setOne 1 (by simp) s'.v
        rw [add_lit]
        refine ⟨c1, fun w97 hw97 => ⟨rfl, s', ?_, ?_, ?_⟩⟩
        · obtain ⟨o97, e97, _⟩ := c2 w97 hw97
          have hmap : zs.map rzC ++ [rzC ⟨⟨q0, nextN (gL zs), []⟩, 0, ⟨none, 0, 0⟩, []⟩] = (zs ++ [(⟨⟨q0, nextN (gL zs), []⟩, 0, ⟨none, 0, 0⟩, []⟩ : Rz)]).map rzC := by simp
          rw [hmap] at g1'
          have lt := h93.lt
          have old : ∀ j, j < w93.heap.size → ¬ ownB sl j → ¬ ownB s' j := fun j h1 h2 hh => (g3' j hh).elim h2 (fun h3 => by omega)
          have e2 : ∀ {j}, RfW r sl zs j → j < w93.heap.size := fun hj => lt.1 _ hj
          refine ⟨o97, g1'.ext e97 (fun j hj hh => hs' (by rw [← show j = r from hh]; exact hj)) (fun j hj hh => ?_), fun z hz => ?_, fun z hz => ?_, ?_, hs', fun z hz j hj => ?_, fun z hz j hj => ?_⟩
          · obtain ⟨cs, hc, hk'⟩ := hj
            obtain ⟨z, hz, rfl⟩ := List.mem_map.1 hc
            obtain ⟨_, hk'⟩ := foot_rz hk'
            rcases List.mem_append.1 hz with hz | hz
            · exact (h93.ds z hz j hk').1 hh
            · rw [List.mem_singleton] at hz; subst hz
              obtain ⟨a, ha, _⟩ := hk'; cases ha
          · rcases List.mem_append.1 hz with hz | hz
            · exact ((h93.b z hz).ext g2' (fun j hj hh => (h93.ds z hz j hj).2 hh) (fun j hj hh => (h93.bt z hz j hj).2.1 hh)).ext e97 (fun j hj hh => (h93.ds z hz j hj).1 hh) (fun j hj hh => (h93.bt z hz j hj).1 hh)
            · rw [List.mem_singleton] at hz; subst hz
              exact Rows.nil _ _
          · rcases List.mem_append.1 hz with hz | hz
            · exact h93.n z hz
            · rw [List.mem_singleton] at hz; subst hz; rfl
          · refine List.pairwise_append.2 ⟨h93.sep, List.pairwise_singleton _ _, fun y hy x hx j hj hh => ?_⟩
            rw [List.mem_singleton] at hx; subst hx
            obtain ⟨a, ha, _⟩ := hh; cases ha
          · rcases List.mem_append.1 hz with hz | hz
            · obtain ⟨v1, v2⟩ := h93.ds z hz j hj
              exact ⟨v1, old j (e2 (.inr (.inr ⟨z, hz, hj⟩))) v2⟩
            · rw [List.mem_singleton] at hz; subst hz
              obtain ⟨a, ha, _⟩ := hj; cases ha
          · rcases List.mem_append.1 hz with hz | hz
            · obtain ⟨v1, v2, v3⟩ := h93.bt z hz j hj
              refine ⟨v1, old j (lt.2 j ⟨z, hz, hj⟩) v2, fun y hy => ?_⟩
              rcases List.mem_append.1 hy with hy | hy
              · exact v3 y hy
              · rw [List.mem_singleton] at hy; subst hy
                rintro ⟨a, ha, _⟩; cases ha
            · rw [List.mem_singleton] at hz; subst hz
              obtain ⟨cs, hc, _⟩ := hj; simp at hc
        · obtain ⟨o97, e97, _⟩ := c2 w97 hw97
          exact (Ext.trans (hkk.trans k93) (g2'.mono (fun j hj => Or.inr (Or.inl hj))) (fun _ h => h.elim) (fun _ h => .inl h)).trans e97 (fun _ h => h) (fun j hj => .inl (.inl hj))
        · have zz := (hkk.trans k93).size
          rintro j (hj | hj | ⟨z, hz, hj⟩)
          · exact .inl (.inl hj)
          · rcases g3' j hj with h5 | h5
            · exact .inl (.inr (.inl h5))
            · exact .inr (by omega)
          · rcases List.mem_append.1 hz with hz | hz
            · exact .inl (.inr (.inr ⟨z, hz, hj⟩))
            · rw [List.mem_singleton] at hz; subst hz
              obtain ⟨a, ha, _⟩ := hj; cases ha
end
end Go.D

set_option linter.unusedVariables false
set_option linter.unusedSimpArgs false
namespace Go.D
open Go Go.Proofs

theorem flat_take {n : Nat} : ∀ (css : List (List Value)), (∀ cs ∈ css, cs.length = n) → ∀ i, css.flatten.take (i * n) = (css.take i).flatten
  | [], _, i => by simp
  | a :: l, h, 0 => by simp
  | a :: l, h, i + 1 => by
    have ha := h a (by simp)
    rw [List.flatten_cons, List.take_succ_cons, List.flatten_cons, show (i + 1) * n = a.length + i * n by rw [ha, Nat.add_mul]; omega, List.take_length_add_append, flat_take l (fun c hc => h c (by simp [hc])) i]
theorem flat_drop {n : Nat} : ∀ (css : List (List Value)), (∀ cs ∈ css, cs.length = n) → ∀ i, css.flatten.drop (i * n) = (css.drop i).flatten
  | [], _, i => by simp
  | a :: l, h, 0 => by simp
  | a :: l, h, i + 1 => by
    have ha := h a (by simp)
    rw [List.flatten_cons, List.drop_succ_cons, show (i + 1) * n = a.length + i * n by rw [ha, Nat.add_mul]; omega, List.drop_length_add_append, flat_drop l (fun c hc => h c (by simp [hc])) i]

section
variable {w w' : World} {r k : Nat} {sl : Slc} {M zs : List Rz} {z z' : Rz}
theorem row_last (h : Rows RzR w sl (M ++ [z]) ((M ++ [z]).map rzC)) : ∃ a : Addr, sl.p = some a ∧ rowAt w (a.add (M.length * 4)) 0 (rzC z) := by
  obtain ⟨a, ha, _, hrow⟩ := h.get (i := M.length) (by simp)
  have e : ((M ++ [z]).map rzC)[M.length]'(by simp) = rzC z := by simp
  rw [e] at hrow
  exact ⟨a, ha, hrow⟩
theorem row_last_set (h : Rows RzR w sl (M ++ [z]) ((M ++ [z]).map rzC)) {a : Addr} (ha : sl.p = some a) (j : Nat) (hj : j < 4) (v : Value) (hz : (rzC z).take j ++ [v] ++ (rzC z).drop (j + 1) = rzC z') (hlt : ∀ k, ownB z'.s k → k < w.heap.size) (hd : ∀ k, ownB z'.s k → ¬ ownB sl k) :
    canW w ((a.add (M.length * 4)).add j) 1 ∧ ∀ w', w' = w.setCell ((a.add (M.length * 4)).add j) v → Rows RzR w' sl (M ++ [z']) ((M ++ [z']).map rzC) ∧ Ext (ownB sl) w w' ∧ w'.heap.size = w.heap.size := by
  have hi : M.length < ((M ++ [z]).map rzC).length := by simp
  have e : ((M ++ [z]).map rzC)[M.length]'hi = rzC z := by simp
  obtain ⟨c1, c2⟩ := Rows.set h hi j [v] (by show j + 1 ≤ 4; omega) z' ha (fun w' he => ⟨by rw [e]; exact hz, fun k hk => Nat.lt_of_lt_of_le (hlt k hk) he.size⟩) (fun k hk => by
    rw [e] at hk
    have : footV (rzC z') k := by rw [← hz]; exact hk
    exact hd k (foot_rz this).2)
  refine ⟨c1, fun w' hw => ?_⟩
  have h0 : ((a.add (M.length * 4)).add j).add 0 = (a.add (M.length * 4)).add j := by
    generalize (a.add (M.length * 4)).add j = b
    simp [Addr.add]
  obtain ⟨g1, g2, g3⟩ := c2 w' (by rw [hw]; simp only [setCells]; rw [show (Addr.add (a.add (M.length * RzR.n)) j) = (a.add (M.length * 4)).add j from rfl, h0])
  refine ⟨?_, g2, g3⟩
  have e1 : (M ++ [z]).set M.length z' = M ++ [z'] := by simp
  have e2 : ((M ++ [z]).map rzC).set M.length (((M ++ [z]).map rzC)[M.length].take j ++ [v] ++ ((M ++ [z]).map rzC)[M.length].drop (j + [v].length)) = (M ++ [z']).map rzC := by
    rw [e]
    have : (rzC z).take j ++ [v] ++ (rzC z).drop (j + [v].length) = rzC z' := hz
    rw [this]; simp
  rw [e1, e2] at g1
  exact g1

/-- The last row is another. -/
theorem RfAt.last (h : RfAt w r k sl (M ++ [z])) (he : Ext (fun j => ownB sl j ∨ ownB z.s j) w w') (hs : Rows RzR w' sl (M ++ [z']) ((M ++ [z']).map rzC)) (hb : Rows BytR w' z'.s z'.g.recs z'.c) (hn : z'.n = (sumN z'.g.recs : Int))
    (h1 : ∀ j, ownB z'.s j → ownB z.s j ∨ w.heap.size ≤ j) (h2 : ∀ j, footC z'.c j → footC z.c j ∨ w.heap.size ≤ j) :
    RfAt w' r k sl (M ++ [z']) ∧ (∀ j, RfW r sl (M ++ [z']) j → RfW r sl (M ++ [z]) j ∨ w.heap.size ≤ j) ∧ ∀ j, RfY (M ++ [z']) j → RfY (M ++ [z]) j ∨ w.heap.size ≤ j := by
  have lt := h.lt
  have hz : z ∈ M ++ [z] := by simp
  have hM : ∀ y ∈ M, y ∈ M ++ [z] := fun y hy => by simp [hy]
  obtain ⟨p1, _, p3⟩ := List.pairwise_append.1 h.sep
  have ltW : ∀ {j}, RfW r sl (M ++ [z]) j → j < w.heap.size := fun hj => lt.1 _ hj
  have dz : ∀ j, ownB z'.s j → j ≠ r ∧ ¬ ownB sl j := fun j hj => by
    rcases h1 j hj with g | g
    · exact h.ds z hz j g
    · exact ⟨fun e => by have := ltW (.inl e); omega, fun hh => by have := ltW (.inr (.inl hh)); omega⟩
  have dM : ∀ y ∈ M, ∀ j, ownB y.s j → ¬ ownB z'.s j := fun y hy j hj hh => by
    rcases h1 j hh with g | g
    · exact p3 y hy z (by simp) j hj g
    · have := ltW (.inr (.inr ⟨y, hM y hy, hj⟩)); omega
  refine ⟨⟨h.o.ext he (fun hh => hh.elim h.nr (fun g => (h.ds z hz r g).1 rfl)), hs, fun y hy => ?_, fun y hy => ?_, ?_, h.nr, fun y hy j hj => ?_, fun y hy j hj => ?_⟩, ?_, ?_⟩
  · rcases List.mem_append.1 hy with hy | hy
    · refine (h.b y (hM y hy)).ext he (fun j hj hh => ?_) (fun j hj hh => ?_)
      · exact hh.elim (h.ds y (hM y hy) j hj).2 (fun g => p3 y hy z (by simp) j hj g)
      · obtain ⟨v1, v2, v3⟩ := h.bt y (hM y hy) j hj
        exact hh.elim v2 (v3 z hz)
    · rw [List.mem_singleton] at hy; subst hy; exact hb
  · rcases List.mem_append.1 hy with hy | hy
    · exact h.n y (hM y hy)
    · rw [List.mem_singleton] at hy; subst hy; exact hn
  · refine List.pairwise_append.2 ⟨p1, List.pairwise_singleton _ _, fun y hy x hx j hj hh => ?_⟩
    rw [List.mem_singleton] at hx; subst hx
    exact dM y hy j hj hh
  · rcases List.mem_append.1 hy with hy | hy
    · exact h.ds y (hM y hy) j hj
    · rw [List.mem_singleton] at hy; subst hy; exact dz j hj
  · rcases List.mem_append.1 hy with hy' | hy
    · obtain ⟨v1, v2, v3⟩ := h.bt y (hM y hy') j hj
      refine ⟨v1, v2, fun x hx => ?_⟩
      rcases List.mem_append.1 hx with hx | hx
      · exact v3 x (hM x hx)
      · rw [List.mem_singleton] at hx; subst hx
        intro hh
        have hjl := lt.2 j ⟨y, List.mem_append_left _ hy', hj⟩
        rcases h1 j hh with g | g
        · exact v3 z hz g
        · omega
    · rw [List.mem_singleton] at hy; subst hy
      rcases h2 j hj with g | g
      · obtain ⟨v1, v2, v3⟩ := h.bt z hz j g
        refine ⟨v1, v2, fun x hx => ?_⟩
        rcases List.mem_append.1 hx with hx | hx
        · exact v3 x (hM x hx)
        · rw [List.mem_singleton] at hx; subst hx
          exact hb.sep j hj
      · refine ⟨fun e => by have := ltW (.inl e); omega, fun hh => by have := ltW (.inr (.inl hh)); omega, fun x hx => ?_⟩
        rcases List.mem_append.1 hx with hx | hx
        · intro hh
          have := ltW (.inr (.inr ⟨x, hM x hx, hh⟩)); omega
        · rw [List.mem_singleton] at hx; subst hx
          exact hb.sep j hj
  · rintro j (hj | hj | ⟨y, hy, hj⟩)
    · exact .inl (.inl hj)
    · exact .inl (.inr (.inl hj))
    · rcases List.mem_append.1 hy with hy | hy
      · exact .inl (.inr (.inr ⟨y, hM y hy, hj⟩))
      · rw [List.mem_singleton] at hy; subst hy
        rcases h1 j hj with g | g
        · exact .inl (.inr (.inr ⟨z, hz, g⟩))
        · exact .inr g
  · rintro j ⟨y, hy, hj⟩
    rcases List.mem_append.1 hy with hy | hy
    · exact .inl ⟨y, hM y hy, hj⟩
    · rw [List.mem_singleton] at hy; subst hy
      rcases h2 j hj with g | g
      · exact .inl ⟨z, hz, g⟩
      · exact .inr g

/-- What a call of the model does to the heap. -/
def RfTo (r : Nat) (sl sl' : Slc) (zs zs' : List Rz) (w w' : World) : Prop := Ext (RfW r sl zs) w w' ∧ (∀ j, RfW r sl' zs' j → RfW r sl zs j ∨ w.heap.size ≤ j) ∧ ∀ j, RfY zs' j → RfY zs j ∨ w.heap.size ≤ j
theorem RfTo.trans {sl1 sl2 sl3 : Slc} {z1 z2 z3 : List Rz} {a b c : World} (h1 : RfTo r sl1 sl2 z1 z2 a b) (h2 : RfTo r sl2 sl3 z2 z3 b c) : RfTo r sl1 sl3 z1 z3 a c :=
  ⟨h1.1.trans h2.1 (fun _ h => h) (fun j hj => h1.2.1 j hj), fun j hj => (h2.2.1 j hj).elim (h1.2.1 j) (fun h => .inr (Nat.le_trans h1.1.size h)), fun j hj => (h2.2.2 j hj).elim (h1.2.2 j) (fun h => .inr (Nat.le_trans h1.1.size h))⟩
theorem RfTo.keep {w w' : World} (hk : Keep w w') : RfTo r sl sl zs zs w w' := ⟨hk.mono (fun _ h => h.elim), fun j hj => .inl hj, fun j hj => .inl hj⟩
structure RfOk (zs : List Rz) : Prop where
  l : zs.length ≤ 1000
  n : ∀ z ∈ zs, z.g.num ≤ 2 ^ 59
  s : ∀ z ∈ zs, sumN z.g.recs ≤ 100

theorem refAppend_spec8 (h : RfAt w r k sl zs) (hz : RfOk zs) (hk : k ≤ 2 ^ 20) (s : Slc) (b : List UInt8) (hb : bytesAt w s b) (hbl : b.length ≤ 2 ^ 20) (hbs : 0 < s.l → ∀ j, ownB s j → ¬ RfW r sl zs j) :
    Calls Tryz.prog fn_tidewaterref08_Store_Append ⟨[ptrR' r, s.v]⟩ w fun e w' => e = .returned (.tuple ⟨[.int .i64 (appR k (gL zs) b).2.1, .int .i64 (eN (appR k (gL zs) b).1)]⟩) ∧ ∃ sl' zs', gL zs' = (appR k (gL zs) b).2.2 ∧ RfAt w' r k sl' zs' ∧ RfTo r sl sl' zs zs' w w' := by
  refine tidewaterref08_Store_Append_ok _ _ ?_
  unfold tidewaterref08_Store_Append
  have hsl := hb.1
  have form : b.length = 0 ∨ 3968 < b.length → (appR k (gL zs) b) = (some 3, 0, gL zs) := fun hh => by unfold appR; rw [if_pos hh]
  refine ⟨fun w2 => w2 = w ∧ 0 < b.length ∧ b.length ≤ 3968, BIf_dec (fun h0 => ?_) (fun h0 => BIf_dec (fun h1 => ?_) (fun h1 => ⟨rfl, by omega, by omega⟩)), ?_⟩
  · rw [form (by omega)]
    exact ⟨rfl, sl, zs, rfl, h, RfTo.keep (Ext.refl _ _)⟩
  · rw [form (by omega)]
    exact ⟨rfl, sl, zs, rfl, h, RfTo.keep (Ext.refl _ _)⟩
  rintro w4 ⟨rfl, hb0, hb1⟩
  intros
  have happ : appR k (gL zs) b = match baseL k (gL zs) b.length with | none => (some 12, 0, gL zs) | some L0 => (none, lastN L0, addRec L0 b) := by unfold appR; rw [if_neg (by omega)]; try rfl
  refine ⟨fun w2 => ∃ sl2 M z, baseL k (gL zs) b.length = some (gL (M ++ [z])) ∧ z.g.fin ≤ 200 ∧ (M ++ [z]).length ≤ 2000 ∧ RfAt w2 r k sl2 (M ++ [z]) ∧ RfTo r sl sl2 zs (M ++ [z]) w4 w2, (refFits_spec8 h (by have := hz.l; omega) (fun z hzz => by have := hz.s z hzz; omega) s (by omega)).mono ?_, ?_⟩
  · rintro e w17 ⟨rfl, k17⟩
    rw [hsl]
    refine ⟨_, rfl, BIf_mk (fun h2 => ?_) (fun h2 => ?_)⟩
    · have hf : fitsL (gL zs) b.length = false := by simpa using h2
      have hbase : baseL k (gL zs) b.length = (freeP k (gL zs)).map fun p => takeL p (gL zs) := by unfold baseL; rw [hf]; rfl
      refine (refTake_spec8 (h.keep k17) hk (by have := hz.l; omega) (fun z hzz => by have := hz.n z hzz; omega)).mono ?_
      rintro e w20 hR
      cases hfp : freeP k (gL zs) with
      | none =>
        rw [hfp] at hR
        obtain ⟨rfl, k20⟩ := hR
        refine ⟨_, rfl, BIf_mk (fun _ => ?_) (fun h => by cases h)⟩
        rw [happ, hbase, hfp]
        exact ⟨rfl, sl, zs, rfl, (h.keep k17).keep k20, RfTo.keep (k17.trans k20)⟩
      | some p =>
        rw [hfp] at hR
        obtain ⟨rfl, sl', hR', e20, f20⟩ := hR
        refine ⟨_, rfl, BIf_mk (fun h => by cases h) (fun _ => ⟨sl', zs, ⟨⟨p, nextN (gL zs), []⟩, 0, ⟨none, 0, 0⟩, []⟩, by rw [hbase, hfp]; simp, by show 1 + 0 ≤ 200; omega, by have := hz.l; simp; omega, hR', Ext.trans k17 e20 (fun _ h => h.elim) (fun _ h => .inl h), fun j hj => (f20 j hj).imp (fun h => h) (fun h => Nat.le_trans k17.size h), fun j hj => ?_⟩)⟩
        obtain ⟨y, hy, hj⟩ := hj
        rcases List.mem_append.1 hy with hy | hy
        · exact .inl ⟨y, hy, hj⟩
        · rw [List.mem_singleton] at hy; subst hy
          obtain ⟨cs, hc, _⟩ := hj; simp at hc
    · have hf : fitsL (gL zs) b.length = true := by simpa using h2
      have hne : zs ≠ [] := fun e => by subst e; simp [fitsL] at hf
      have hzs : zs = zs.dropLast ++ [zs.getLast hne] := (List.dropLast_concat_getLast hne).symm
      refine ⟨sl, zs.dropLast, zs.getLast hne, by rw [← hzs]; unfold baseL; rw [hf]; rfl, by have := hz.s _ (List.getLast_mem hne); unfold SegS.fin; omega, by rw [← hzs]; have := hz.l; omega, by rw [← hzs]; exact h.keep k17, by rw [← hzs]; exact RfTo.keep k17⟩
  · rintro w22 ⟨sl2, M, z, hbase, hfin, hlen, hA, hT⟩
    intros
    rw [happ, hbase]
    have hgl : gL (M ++ [z]) = gL M ++ [z.g] := by simp
    have e0 : (match some (gL (M ++ [z])) with | none => (some 12, 0, gL zs) | some L0 => (none, lastN L0, addRec L0 b) : Option Nat × Int × List SegS) = (none, (z.g.num : Int), gL M ++ [{ z.g with recs := z.g.recs ++ [b] }]) := by
      show (none, lastN (gL (M ++ [z])), addRec (gL (M ++ [z])) b) = _
      rw [hgl, lastN_snoc, addRec_snoc]
    rw [e0]
    have kd : Keep w22 (World.drew (World.drew w22)) := Keep.trans (Ext.drew _ _) (Ext.drew _ _)
    have hd := hA.keep kd
    have hsl2 := hA.s.sl
    have hlM : (M ++ [z]).length = M.length + 1 := by simp
    obtain ⟨a, ha, hrow⟩ := row_last hd.s
    have e1 : Int.toNat (((sl2.l : Nat) : Int) - 1) = M.length := by omega
    have hzm : z ∈ M ++ [z] := by simp
    have hzn := hA.n z hzm
    refine needSome_mk rfl ⟨_, (hA.keep (Ext.drew _ _)).c1, needSome_mk rfl ⟨_, (hA.keep (Ext.drew _ _)).c1, inR64 (by omega), needSome_mk ha ⟨by omega, by omega, ?_⟩⟩⟩
    rw [e1]
    refine ⟨_, rowAt_c hrow 2 (by simp [rzC]), (need_spec8 s _ (by omega)).mono ?_⟩
    rintro e w41 ⟨rfl, rfl⟩
    have hnl : need s.l ≤ 2 ^ 30 := by unfold need secs; omega
    have hfz : z.g.fin = 1 + sumN z.g.recs := rfl
    have hds := hd.ds z hzm
    have hbz := hd.b z hzm
    obtain ⟨c1, c2⟩ := row_last_set hd.s ha 2 (by omega) (.int .i64 (z.n + (need s.l : Int))) (z' := { z with n := z.n + (need s.l : Int) }) rfl (fun j hj => hbz.lt j hj) (fun j hj => (hds j hj).2)
    refine ⟨_, rfl, ⟨_, rowAt_c hrow 2 (by simp [rzC]), rfl⟩, inR64 (by omega), c1, fun w44 hw44 => ?_⟩
    obtain ⟨r44, e44, z44⟩ := c2 w44 hw44
    have kd44 : Keep w44 (World.drew w44) := Ext.drew _ _
    have rd44 := r44.keep kd44
    obtain ⟨a', ha', hrow44⟩ := row_last rd44
    rw [ha] at ha'; cases ha'
    have c3 : ∀ {w2 : World}, Keep (World.drew w44) w2 → World.cell? w2 ((a.add (M.length * 4)).add 3) = some z.s.v := fun hk => hk.cell (rowAt_c hrow44 3 (by simp [rzC]))
    refine ⟨_, c3 (Ext.refl _ _), newS_mk (fun r46 w47 hr46 hb46 k46 hs46 => ⟨⟨_, c3 k46, rfl⟩, ?_⟩)⟩
    have x44 : Ext (ownB sl2) (World.drew (World.drew w22)) (World.drew w44) := e44.trans kd44 (fun _ h => h) (fun _ h => h.elim)
    have hb22 : bytesAt (World.drew w44) s b := by
      have h1 : bytesAt w22 s b := bytesAt_stayX hb hT.1 hbs
      refine bytesAt_stayX (bytesAt_keep h1 kd) x44 (fun h0 j hj hh => ?_)
      rcases hT.2.1 j (.inr (.inl hh)) with g | g
      · exact hbs h0 j hj g
      · have := bytesAt_ltX hb h0 j hj; omega
    refine append_bytes (vs := []) (w0 := World.drew w44) (Own.new (sz := 1) (n := 0) hb46 (.inl (by simp)) rfl) rfl (Fresh.at (by omega)) k46 (srcAt_bytes (bytesAt_keep hb22 k46)) (by simp only [Src.n]; omega) (fun s49 w50 h49 k50 f49 x50 => ⟨⟨_, c3 k50, rfl⟩, newS_mk (fun r52 w53 hr52 hb52 k52 hs52 => ⟨⟨_, c3 (k50.trans k52), rfl⟩, ?_⟩)⟩)
    rw [List.nil_append] at h49
    have k53 := k50.trans k52
    have hb44 : Rows BytR (World.drew w44) z.s z.g.recs z.c := hbz.ext x44 (fun j hj hh => (hds j hj).2 hh) (fun j hj hh => (hd.bt z hzm j hj).2.1 hh)
    have hb53 := hb44.keep k53
    have hrl := sumN_ge z.g.recs
    refine hb53.snoc (cs := [s49.v]) (x := b) (z := [(⟨none, 0, 0⟩ : Slc).v]) rfl ⟨s49, rfl, (h49.keep k52).bytes⟩ (fun j hj hh => ?_) hb52 (.inl (by simp)) (by omega) (fun s55 w56 q1 q2 q3 => ?_)
    · have h5 := f49 j (foot_byt hj).2
      have h6 := hb44.lt j hh
      omega
    · have r53 := rd44.keep k53
      have r56 : Rows RzR w56 sl2 (M ++ [{ z with n := z.n + (need s.l : Int) }]) ((M ++ [{ z with n := z.n + (need s.l : Int) }]).map rzC) := rz_ext r53 q2 (fun j hj hh => (hds j hh).2 hj)
      have q3' : ∀ j, ownB s55 j → ownB z.s j ∨ (World.drew (World.drew w22)).heap.size ≤ j := fun j hj => (q3 j hj).imp (fun h => h) (fun h => by
        have := k53.size
        have := x44.size
        omega)
      have ltd := hd.lt
      obtain ⟨c5, c6⟩ := row_last_set r56 ha 3 (by omega) s55.v (z' := ⟨{ z.g with recs := z.g.recs ++ [b] }, z.n + (need s.l : Int), s55, z.c ++ [[s49.v]]⟩) rfl (fun j hj => q1.lt j hj) (fun j hj => by
        rcases q3' j hj with g | g
        · exact (hds j g).2
        · intro hh
          have := ltd.1 j (.inr (.inl hh)); omega)
      refine ⟨c5, fun w57 hw57 => ?_⟩
      obtain ⟨r57, e57, z57⟩ := c6 w57 hw57
      obtain ⟨a', ha', hrow57⟩ := row_last r57
      rw [ha] at ha'; cases ha'
      have hb57 : Rows BytR w57 s55 (z.g.recs ++ [b]) (z.c ++ [[s49.v]]) := q1.ext e57 (fun j hj hh => by
        rcases q3' j hj with g | g
        · exact (hds j g).2 hh
        · have := ltd.1 j (.inr (.inl hh)); omega) (fun j hj hh => by
        obtain ⟨cs, hc, hk'⟩ := hj
        rcases List.mem_append.1 hc with hc | hc
        · exact (hd.bt z hzm j ⟨cs, hc, hk'⟩).2.1 hh
        · rw [List.mem_singleton] at hc; subst hc
          have h5 := f49 j (foot_byt hk').2
          have := ltd.1 j (.inr (.inl hh))
          have := x44.size
          omega)
      have xx : Ext (fun j => ownB sl2 j ∨ ownB z.s j) (World.drew (World.drew w22)) w57 := (((x44.mono (fun j hj => Or.inl hj)).trans k53 (fun _ h => h) (fun _ h => h.elim)).trans q2 (fun _ h => h) (fun j hj => .inl (.inr hj))).trans e57 (fun _ h => h) (fun j hj => .inl (.inl hj))
      obtain ⟨F, FW, FY⟩ := hd.last xx r57 hb57 (by
        show z.n + (need s.l : Int) = _
        rw [sumN_snoc, hzn, hsl]; omega) q3' (fun j hj => by
        obtain ⟨cs, hc, hk'⟩ := hj
        rcases List.mem_append.1 hc with hc | hc
        · exact .inl ⟨cs, hc, hk'⟩
        · rw [List.mem_singleton] at hc; subst hc
          have h5 := f49 j (foot_byt hk').2
          have := x44.size
          exact .inr (by omega))
      refine ⟨_, rowAt_c hrow57 1 (by simp [rzC]), rfl, sl2, M ++ [⟨{ z.g with recs := z.g.recs ++ [b] }, z.n + (need s.l : Int), s55, z.c ++ [[s49.v]]⟩], by simp, F, hT.trans ((RfTo.keep kd).trans ⟨?_, FW, FY⟩)⟩
      exact xx.mono (fun j hj => hj.elim (fun h => .inr (.inl h)) (fun h => .inr (.inr ⟨z, hzm, h⟩)))
end
end Go.D

set_option linter.unusedVariables false
set_option linter.unusedSimpArgs false
namespace Go.D
open Go Go.Proofs

section
variable {w w' : World} {r k : Nat} {sl sl' : Slc} {zs zs' : List Rz}
theorem RfAt.sub (h : RfAt w r k sl zs) (hsub : zs'.Sublist zs) (he : Ext (fun j => j = r) w w') (ho : ObjAt w' r [.int .i64 (k : Int), sl'.v]) (hs : Rows RzR w' sl' zs' (zs'.map rzC)) (hf : ∀ j, ownB sl' j → w.heap.size ≤ j) :
    RfAt w' r k sl' zs' ∧ RfTo r sl sl' zs zs' w w' := by
  have lt := h.lt
  have mem : ∀ z ∈ zs', z ∈ zs := fun z hz => hsub.subset hz
  refine ⟨⟨ho, hs, fun z hz => (h.b z (mem z hz)).ext he (fun j hj hh => (h.ds z (mem z hz) j hj).1 hh) (fun j hj hh => (h.bt z (mem z hz) j hj).1 hh), fun z hz => h.n z (mem z hz), h.sep.sublist hsub, fun hh => ?_, fun z hz j hj => ⟨(h.ds z (mem z hz) j hj).1, fun hh => ?_⟩, fun z hz j hj => ?_⟩, he.mono (fun j hj => .inl hj), ?_, ?_⟩
  · have := hf r hh; have := h.o.lt; omega
  · have := hf j hh; have := lt.1 j (.inr (.inr ⟨z, mem z hz, hj⟩)); omega
  · obtain ⟨v1, v2, v3⟩ := h.bt z (mem z hz) j hj
    exact ⟨v1, fun hh => by have := hf j hh; have := lt.2 j ⟨z, mem z hz, hj⟩; omega, fun y hy => v3 y (mem y hy)⟩
  · rintro j (hj | hj | ⟨z, hz, hj⟩)
    · exact .inl (.inl hj)
    · exact .inr (hf j hj)
    · exact .inl (.inr (.inr ⟨z, mem z hz, hj⟩))
  · rintro j ⟨z, hz, hj⟩
    exact .inl ⟨z, mem z hz, hj⟩
theorem rz_lens (l : List Rz) : ∀ cs ∈ l.map rzC, cs.length = 4 := by
  intro cs hc
  obtain ⟨z, _, rfl⟩ := List.mem_map.1 hc
  rfl
theorem rz_one (l : List Rz) : ∀ v ∈ (l.map rzC).flatten, v.oneCell' = true := by
  intro v hv
  obtain ⟨cs, hc, hv⟩ := List.mem_flatten.1 hv
  obtain ⟨z, _, rfl⟩ := List.mem_map.1 hc
  simp [rzC] at hv
  rcases hv with rfl | rfl | rfl | rfl <;> rfl
theorem refDrop_spec8 (h : RfAt w r k sl zs) (hz : zs.length ≤ 2 ^ 20) (n : Int) :
    Calls Tryz.prog fn_tidewaterref08_Store_Drop ⟨[ptrR' r, .int .i64 n]⟩ w fun e w' => e = .returned (.int .i64 (eN (dropR (gL zs) n).1)) ∧ ∃ sl' zs', gL zs' = (dropR (gL zs) n).2 ∧ RfAt w' r k sl' zs' ∧ RfTo r sl sl' zs zs' w w' := by
  refine tidewaterref08_Store_Drop_ok _ _ ?_
  unfold tidewaterref08_Store_Drop
  have hsl := h.s.sl
  have hcap := h.s.cap
  refine needSome_mk rfl ⟨_, h.c1, fun i w2 => ∃ m : Nat, i = m ∧ m ≤ zs.length ∧ Keep w w2 ∧ ∀ j (hj : j < zs.length), j < m → decide ((zs[j].g.num : Int) = n) = false, fun i _ => ((zs.length : Int) - i).toNat, ⟨0, rfl, by omega, Ext.refl _ _, fun j _ hj => by omega⟩, ?_⟩
  rintro i w8 ⟨m, rfl, hm, hkk, hno⟩
  intros
  have hgl : (gL zs).length = zs.length := by simp
  have hgj : ∀ j (hj : j < (gL zs).length), (gL zs)[j] = zs[j].g := fun j hj => List.getElem_map _
  refine BIf_dec (fun h0 => ?_) (fun h0 => ?_)
  · have hml : m < zs.length := by omega
    obtain ⟨a, ha, hrow⟩ := (h.keep hkk).at hml
    refine needSome_mk ha ⟨by omega, h0, _, _, _, _, by rw [Int.toNat_natCast]; exact hrow, var_mk (cs := rzC zs[m]) rfl rfl (fun r53 w55 hr o53 k53 hs => ?_)⟩
    have k55 := hkk.trans k53
    have h55 := h.keep k55
    refine ⟨_, o53.cell 1 (by simp [rzC]), BIf_ndec (fun h1 => ?_) (fun h1 => ?_)⟩
    · refine ⟨inR64 (by omega), ⟨m + 1, rfl, hml, k55, fun j hj hjm => ?_⟩, by dsimp only; omega⟩
      by_cases e : j = m
      · subst e; exact decide_eq_false h1
      · exact hno j hj (by omega)
    · have hseek : seekI (fun g => decide ((g.num : Int) = n)) (gL zs) = m := seekI_some (by omega) (by rw [hgj]; exact decide_eq_true h1) (fun j hj => by rw [hgj]; exact hno j (by omega) hj)
      have hdr := dropR_some hseek
      refine needSome_mk rfl ⟨_, h55.c1, inR64 (by omega), BIf_dec (fun h2 => ?_) (fun h2 => ?_)⟩
      · rw [if_pos (by omega)] at hdr
        rw [hdr]
        exact ⟨rfl, sl, zs, rfl, h55, RfTo.keep k55⟩
      · rw [if_neg (by omega)] at hdr
        rw [hdr]
        have kd : Keep w55 (World.drew w55) := Ext.drew _ _
        have hd := h55.keep kd
        refine needSome_mk rfl ⟨_, hd.c1, by omega, by omega, by omega, by omega, needSome_mk rfl ⟨_, hd.c1, inR64 (by omega), by omega, by omega, by omega, by omega, newS_mk (fun r65 w66 hr65 hb65 k65 hs65 => ?_)⟩⟩
        have h66 := hd.keep k65
        refine ⟨⟨_, h66.c1, rfl⟩, ⟨_, h66.c1, rfl⟩, ?_⟩
        rw [Int.toNat_natCast, show Int.toNat ((m : Int) + 1) = m + 1 by omega]
        have hlen4 := flatM_len (zs.map rzC) (rz_lens zs)
        rw [List.length_map] at hlen4
        obtain ⟨p1, p2⟩ := h66.s.own.part (lo := 0) (hi := m) (c := sl.c) (by omega) (by omega) (by omega)
        have e1 : (((zs.map rzC).flatten.take (m * 4)).drop (0 * 4)) = ((zs.take m).map rzC).flatten := by
          rw [flat_take _ (rz_lens zs), Nat.zero_mul, List.drop_zero, List.map_take]
        have p1' : cellsAt w66 (Slc.sub sl 4 0 m sl.c).p ((zs.take m).map rzC).flatten := by rw [← e1]; exact p1
        have p2' : (((zs.take m).map rzC).flatten).length = (Slc.sub sl 4 0 m sl.c).l * 4 := by rw [← e1]; exact p2
        refine appendS_own (Own.new (sz := 4) (n := 0) hb65 (.inl (by simp)) rfl) (by omega) rfl (srcAt_slc p1' p2') (rz_one _) (by simp only [Src.n, Slc.sub]; omega) (fun s69 w70 g1 g2 g3 g4 => ?_)
        rw [List.nil_append] at g1
        have own65 : ∀ j, ownB (⟨some ⟨r65, 0, none⟩, 0, 0⟩ : Slc) j → j = r65 := by rintro j ⟨a, ha, rfl⟩; cases ha; rfl
        have k70 : Keep (World.drew w55) w70 := k65.ext g2 (fun j hj => by rw [own65 j hj]; omega)
        have h70 := hd.keep k70
        have f69 : ∀ j, ownB s69 j → (World.drew w55).heap.size ≤ j := fun j hj => (g3 j hj).elim (fun h => by rw [own65 j h]; omega) (fun h => by have := k65.size; omega)
        refine ⟨⟨_, h70.c1, rfl⟩, ?_⟩
        obtain ⟨p3, p4⟩ := h70.s.own.part (lo := m + 1) (hi := sl.l) (c := sl.c) (by omega) (by omega) (by omega)
        have e2 : (((zs.map rzC).flatten.take (sl.l * 4)).drop ((m + 1) * 4)) = ((zs.drop (m + 1)).map rzC).flatten := by
          rw [List.take_of_length_le (by rw [hlen4]; show zs.length * 4 ≤ sl.l * 4; rw [hsl]; omega), flat_drop _ (rz_lens zs), List.map_drop]
        have p3' : cellsAt w70 (Slc.sub sl 4 (m + 1) sl.l sl.c).p ((zs.drop (m + 1)).map rzC).flatten := by rw [← e2]; exact p3
        have p4' : (((zs.drop (m + 1)).map rzC).flatten).length = (Slc.sub sl 4 (m + 1) sl.l sl.c).l * 4 := by rw [← e2]; exact p4
        have hs69 := g1.1
        have hl69 : s69.l = m := by
          rw [flatM_len _ (rz_lens (zs.take m)), List.length_map, List.length_take] at hs69
          omega
        refine appendS_own g1 (by omega) rfl (srcAt_slc p3' p4') (rz_one _) (by simp only [Src.n, Slc.sub]; omega) (fun s72 w73 q1 q2 q3 q4 => needSome_mk rfl ?_)
        have k73 : Keep (World.drew w55) w73 := k70.ext q2 (fun j hj => f69 j hj)
        have h73 := hd.keep k73
        have f72 : ∀ j, ownB s72 j → (World.drew w55).heap.size ≤ j := fun j hj => (q3 j hj).elim (fun h => f69 j h) (fun h => by have := k70.size; omega)
        have hdz : (World.drew w55).heap.size = w55.heap.size := rfl
        obtain ⟨c1, c2⟩ := h73.o.setOne 1 (by simp) s72.v
        rw [add_lit]
        refine ⟨c1, fun w75 hw75 => ?_⟩
        obtain ⟨o75, e75, _⟩ := c2 w75 hw75
        have hflat : ((zs.take m).map rzC).flatten ++ ((zs.drop (m + 1)).map rzC).flatten = ((zs.eraseIdx m).map rzC).flatten := by
          rw [List.eraseIdx_eq_take_drop_succ, List.map_append, List.flatten_append]
        rw [hflat] at q1
        have hsub := List.eraseIdx_sublist zs m
        have r72 : ∀ j, ownB s72 j → j ≠ r := fun j hj e => by
          have := f72 j hj; have := hd.o.lt; omega
        have hrows : Rows RzR w73 s72 (zs.eraseIdx m) ((zs.eraseIdx m).map rzC) := by
          refine ⟨q1, by simp, fun i hi hi' => ?_, fun j hj hh => ?_⟩
          · rw [List.getElem_map]
            exact ⟨rfl, fun j hj => h73.lt.1 j (.inr (.inr ⟨_, hsub.subset (List.getElem_mem _), hj⟩))⟩
          · obtain ⟨cs, hc, hk'⟩ := hj
            obtain ⟨z, hzz, rfl⟩ := List.mem_map.1 hc
            have := hd.lt.1 j (.inr (.inr ⟨z, hsub.subset hzz, (foot_rz hk').2⟩))
            have := f72 j hh
            omega
        have x75 : Ext (fun j => j = r) (World.drew w55) w75 := Ext.trans k73 e75 (fun _ h => h.elim) (fun _ h => .inl h)
        obtain ⟨F, FT⟩ := RfAt.sub (zs' := zs.eraseIdx m) (sl' := s72) (w := World.drew w55) (w' := w75) hd hsub x75 o75 (rz_ext hrows e75 (fun j hj hh => r72 j hj hh)) f72
        refine ⟨rfl, s72, zs.eraseIdx m, ?_, F, (RfTo.keep (k55.trans kd)).trans FT⟩
        show (zs.eraseIdx m).map (·.g) = (zs.map (·.g)).eraseIdx m
        rw [map_erase]
  · have hseek : seekI (fun g => decide ((g.num : Int) = n)) (gL zs) = -1 := seekI_none (fun j hj => by rw [hgj]; exact hno j (by omega) (by omega))
    rw [dropR_none hseek]
    exact ⟨rfl, sl, zs, rfl, h.keep hkk, RfTo.keep hkk⟩
end

end Go.D

set_option linter.unusedVariables false
set_option linter.unusedSimpArgs false
namespace Go.D
open Go Go.Proofs

theorem RfAt.push {E T : TypeId} {w : World} {r k c : Nat} {sl : Slc} {zs : List Rz} {z : Rz} {f : Nat × Nat} {K : Slc → World → Prop} (h : RfAt w r k sl zs) (hz : Rows BytR w z.s z.g.recs z.c) (hn : z.n = (sumN z.g.recs : Int)) (hs : ∀ j, ownB z.s j → ¬ RfW r sl zs j ∧ ¬ RfY zs j)
    (hc : ∀ j, footC z.c j → ¬ RfW r sl zs j) (hb : w.heap[c]? = some (.cells ⟨rzC z⟩ T f)) (hcf : clear f 4) (hl : zs.length < 2 ^ 20)
    (hK : ∀ s' w', (canW w' (⟨r, 1, none⟩ : Addr) 1 ∧ ∀ w2 : World, w2 = w'.setCell (⟨r, 1, none⟩ : Addr) s'.v → RfAt w2 r k s' (zs ++ [z]) ∧ Ext (RfW r sl zs) w w2 ∧ ∀ j, RfW r s' (zs ++ [z]) j → RfW r sl zs j ∨ ownB z.s j ∨ w.heap.size ≤ j) → K s' w') :
    appendS 4 E [.int .i64 0, .int .i64 0, .int .i64 0, (⟨none, 0, 0⟩ : Slc).v] w sl (.slc ⟨some ⟨c, 0, none⟩, 1, 1⟩) K := by
  refine h.s.snoc (cs := rzC z) (x := z) rfl ⟨rfl, fun j hj => hz.lt j hj⟩ (fun j hj hh => (hs j (foot_rz hj).2).1 (.inr (.inl hh))) hb hcf (by omega) (fun s' w95 g1' g2' g3' => hK s' w95 ?_)
  have o95 := h.o.ext g2' h.nr
  have hs' : ¬ ownB s' r := fun hh => by
    rcases g3' r hh with h5 | h5
    · exact h.nr h5
    · have := h.o.lt; omega
  obtain ⟨c1, c2⟩ := o95.setOne 1 (by simp) s'.v
  refine ⟨c1, fun w97 hw97 => ?_⟩
  obtain ⟨o97, e97, _⟩ := c2 w97 hw97
  have hmap : zs.map rzC ++ [rzC z] = (zs ++ [z]).map rzC := by simp
  rw [hmap] at g1'
  have lt := h.lt
  have ltz := hz.lt
  have lty := hz.flt
  have old : ∀ j, j < w.heap.size → ¬ ownB sl j → ¬ ownB s' j := fun j h1 h2 hh => (g3' j hh).elim h2 (fun h3 => by omega)
  have dsz : ∀ j, ownB z.s j → j ≠ r ∧ ¬ ownB s' j := fun j hj => ⟨fun e => (hs j hj).1 (.inl e), old j (ltz j hj) (fun hh => (hs j hj).1 (.inr (.inl hh)))⟩
  have dsy : ∀ x ∈ zs, ∀ j, ownB x.s j → j ≠ r ∧ ¬ ownB s' j := fun x hx j hj => ⟨(h.ds x hx j hj).1, old j (lt.1 j (.inr (.inr ⟨x, hx, hj⟩))) (h.ds x hx j hj).2⟩
  refine ⟨⟨o97, rz_ext g1' e97 (fun j hj hh => hs' (by rw [← show j = r from hh]; exact hj)), fun x hx => ?_, fun x hx => ?_, ?_, hs', fun x hx j hj => ?_, fun x hx j hj => ?_⟩, (g2'.mono (fun j hj => .inr (.inl hj))).trans e97 (fun _ h => h) (fun j hj => .inl (.inl hj)), ?_⟩
  · rcases List.mem_append.1 hx with hx | hx
    · exact ((h.b x hx).ext g2' (fun j hj hh => (h.ds x hx j hj).2 hh) (fun j hj hh => (h.bt x hx j hj).2.1 hh)).ext e97 (fun j hj hh => (h.ds x hx j hj).1 hh) (fun j hj hh => (h.bt x hx j hj).1 hh)
    · rw [List.mem_singleton] at hx; subst hx
      exact (hz.ext g2' (fun j hj hh => (hs j hj).1 (.inr (.inl hh))) (fun j hj hh => hc j hj (.inr (.inl hh)))).ext e97 (fun j hj hh => (dsz j hj).1 hh) (fun j hj hh => hc j hj (.inl hh))
  · rcases List.mem_append.1 hx with hx | hx
    · exact h.n x hx
    · rw [List.mem_singleton] at hx; subst hx; exact hn
  · refine List.pairwise_append.2 ⟨h.sep, List.pairwise_singleton _ _, fun y hy x hx j hj hh => ?_⟩
    rw [List.mem_singleton] at hx; subst hx
    exact (hs j hh).1 (.inr (.inr ⟨y, hy, hj⟩))
  · rcases List.mem_append.1 hx with hx | hx
    · exact dsy x hx j hj
    · rw [List.mem_singleton] at hx; subst hx; exact dsz j hj
  · rcases List.mem_append.1 hx with hx' | hx'
    · obtain ⟨v1, v2, v3⟩ := h.bt x hx' j hj
      refine ⟨v1, old j (lt.2 j ⟨x, hx', hj⟩) v2, fun y hy => ?_⟩
      rcases List.mem_append.1 hy with hy' | hy'
      · exact v3 y hy'
      · rw [List.mem_singleton] at hy'
        rw [hy']
        exact fun hh => (hs j hh).2 ⟨x, hx', hj⟩
    · rw [List.mem_singleton] at hx'
      rw [hx'] at hj
      refine ⟨fun e => hc j hj (.inl e), old j (lty j hj) (fun hh => hc j hj (.inr (.inl hh))), fun y hy => ?_⟩
      rcases List.mem_append.1 hy with hy' | hy'
      · exact fun hh => hc j hj (.inr (.inr ⟨y, hy', hh⟩))
      · rw [List.mem_singleton] at hy'
        rw [hy']
        exact hz.sep j hj
  · rintro j (hj | hj | ⟨y, hy, hj⟩)
    · exact .inl (.inl hj)
    · rcases g3' j hj with h5 | h5
      · exact .inl (.inr (.inl h5))
      · exact .inr (.inr h5)
    · rcases List.mem_append.1 hy with hy | hy
      · exact .inl (.inr (.inr ⟨y, hy, hj⟩))
      · rw [List.mem_singleton] at hy; subst hy; exact .inr (.inl hj)

theorem refCopy_spec8 {w : World} {r k : Nat} {sl : Slc} {zs : List Rz} (h : RfAt w r k sl zs) (hz : RfOk zs) :
    Calls Tryz.prog fn_tidewaterref08_Store_Copy ⟨[ptrR' r]⟩ w fun e w' => ∃ r' sl' zs', e = .returned (ptrR' r') ∧ RfAt w' r' k sl' zs' ∧ gL zs' = gL zs ∧ (∀ j, RfW r' sl' zs' j → w.heap.size ≤ j) ∧ (∀ j, RfY zs' j → RfY zs j) ∧ Keep w w' := by
  refine tidewaterref08_Store_Copy_ok _ ?_
  unfold tidewaterref08_Store_Copy
  have hsl := h.s.sl
  have hzl := hz.l
  refine needSome_mk rfl ⟨_, h.c0, newS_mk (fun r4 w5 hr4 hb4 k5 hs5 => needSome_mk rfl ⟨_, (h.keep k5).c1, ?_⟩)⟩
  have R0 : RfAt w5 r4 k ⟨none, 0, 0⟩ [] := ⟨ObjAt.new' hb4, Rows.nil _ _, by simp, by simp, List.Pairwise.nil, (by rintro ⟨a, ha, _⟩; cases ha), by simp, by simp⟩
  refine ⟨fun i w2 => ∃ (n : Nat) (sl' : Slc) (zs' : List Rz), i = n ∧ n ≤ zs.length ∧ RfAt w2 r4 k sl' zs' ∧ gL zs' = (gL zs).take n ∧ zs'.length = n ∧ (∀ j, RfW r4 sl' zs' j → w.heap.size ≤ j) ∧ (∀ j, RfY zs' j → RfY zs j) ∧ Keep w w2, fun i _ => ((zs.length : Int) - i).toNat,
    ⟨0, _, [], rfl, by omega, R0, by simp, rfl, ?_, by rintro j ⟨z, hzz, _⟩; simp at hzz, k5⟩, ?_⟩
  · rintro j (hj | ⟨a, ha, _⟩ | ⟨z, hzz, _⟩)
    · omega
    · cases ha
    · simp at hzz
  rintro i w11 ⟨n, sl', zs', rfl, hn, hR, hg, hzl', hW, hY, hk⟩
  intros
  refine BIf_dec (fun h0 => ?_) (fun h0 => ?_)
  · have hnl : n < zs.length := by omega
    have hw := h.keep hk
    obtain ⟨a, ha, hrow⟩ := hw.at hnl
    have hzm : zs[n] ∈ zs := List.getElem_mem hnl
    refine needSome_mk ha ⟨by omega, h0, _, _, _, _, by rw [Int.toNat_natCast]; exact hrow, var_mk (cs := rzC zs[n]) rfl rfl (fun r37 w39 hr37 o37 k39 hs39 => newS_mk (fun r40 w41 hr40 hb40 k41 hs41 => ⟨_, (o37.keep k41).cell 3 (by simp [rzC]), ?_⟩))⟩
    have k41' := (hk.trans k39).trans k41
    have h41 := h.keep k41'
    have hbz := h41.b _ hzm
    have hrl := sumN_ge zs[n].g.recs
    have hsn := hz.s _ hzm
    have hlt := h.lt
    have z39 := k39.size
    have zk := hk.size
    have n40 : ¬ footC zs[n].c r40 := fun hh => by have := hlt.2 r40 ⟨_, hzm, hh⟩; omega
    refine Rows.clone hbz rfl hb40 n40 (by omega) (fun s43 w44 g1 g2 g3 => ?_)
    have k44 : Keep w w44 := k41'.ext g2 (fun j hj => by omega)
    have k44' : Keep w39 w44 := k41.ext g2 (fun j hj => by omega)
    have o44 := o37.keep k44'
    obtain ⟨c1, c2⟩ := o44.setOne 3 (by simp [rzC]) s43.v
    refine ⟨c1, fun w45 hw45 => ?_⟩
    obtain ⟨o45, e45, z45⟩ := c2 w45 hw45
    have hrw : (rzC zs[n]).set 3 s43.v = rzC ⟨zs[n].g, zs[n].n, s43, zs[n].c⟩ := rfl
    rw [hrw] at o45
    have kd : Keep w45 (World.drew w45) := Ext.drew _ _
    have z41 := k41.size
    have s43f : ∀ j, ownB s43 j → w41.heap.size ≤ j ∨ j = r40 := fun j hj => (g3 j hj).elim .inr .inl
    have g44 := g1.ext e45 (fun j hj hh => by
      have : j = r37 := hh
      rcases s43f j hj with h5 | h5 <;> omega) (fun j hj hh => by
      have h5 : j = r37 := hh
      have := hlt.2 j ⟨_, hzm, hj⟩; omega)
    have hgd := g44.keep kd
    have k11 : Keep w11 (World.drew w45) := ((k39.trans k44').ext e45 (fun j hj => by rw [show j = r37 from hj]; omega)).trans kd
    have hRd := hR.keep k11
    have oR : ObjAt (World.drew w45) r4 [.int .i64 (k : Int), sl'.v] := hRd.o
    have o45d := o45.keep kd
    refine ⟨_, oR.cell 1 (by simp), _, _, _, _, o45d.row, newS_mk (fun r51 w52 hr51 hb51 k52 hs52 => ⟨⟨_, (oR.keep k52).cell 1 (by simp), rfl⟩, ?_⟩)⟩
    have hR52 := hRd.keep k52
    have ltR := hR.lt
    refine RfAt.push (z := ⟨zs[n].g, zs[n].n, s43, zs[n].c⟩) hR52 (hgd.keep k52) (h.n zs[n] hzm) (fun j hj => ⟨fun hh => ?_, fun hh => ?_⟩) (fun j hj hh => ?_) hb51 (.inl (by simp)) (by omega) (fun s' w55 hK => ?_)
    · have := ltR.1 j hh
      rcases s43f j hj with h5 | h5 <;> omega
    · have := ltR.2 j hh
      rcases s43f j hj with h5 | h5 <;> omega
    · have h5 := hW j hh
      have := hlt.2 j ⟨_, hzm, hj⟩; omega
    · obtain ⟨c3, c4⟩ := hK
      refine ⟨c3, fun w56 hw56 => ?_⟩
      obtain ⟨R56, e56, f56⟩ := c4 w56 hw56
      have z11 := k11.size
      have z52 := k52.size
      have kA : Keep w w56 := ((hk.trans k11).trans k52).ext e56 (fun j hj => hW j hj)
      refine ⟨inR64 (by omega), ⟨n + 1, s', _, rfl, hnl, R56, ?_, by simp [hzl'], fun j hj => ?_, fun j hj => ?_, kA⟩, by dsimp only; omega⟩
      · have htk := take_snoc' (gL zs) n (by simpa using hnl)
        rw [htk]
        have h9 : gL (zs' ++ [(⟨zs[n].g, zs[n].n, s43, zs[n].c⟩ : Rz)]) = gL zs' ++ [zs[n].g] := by simp
        rw [h9, hg]
        simp
      · rcases f56 j hj with h5 | h5 | h5
        · exact hW j h5
        · rcases s43f j h5 with h6 | h6 <;> omega
        · omega
      · obtain ⟨y, hy, hj⟩ := hj
        rcases List.mem_append.1 hy with hy | hy
        · exact hY j ⟨y, hy, hj⟩
        · rw [List.mem_singleton] at hy; subst hy
          exact ⟨_, hzm, hj⟩
  · have hne : n = zs.length := by omega
    refine ⟨r4, sl', zs', rfl, hR, ?_, hW, hY, hk⟩
    rw [hg, hne, List.take_of_length_le (by simp)]
end Go.D

set_option linter.unusedVariables false
set_option linter.unusedSimpArgs false
namespace Go.D
open Go Go.Proofs

theorem ref04_Num_specZ : ∀ (n : Nat) (z : Int) (w : World), z = n → n ≤ 9223372036854775807 →
    Calls Tryz.prog fn_tidewaterref04_Num ⟨[.int .i64 z]⟩ w fun e w' => ∃ s : Slc, e = .returned s.v ∧ Own w' s 1 ((encN n).map byteV) ∧ Fresh w s ∧ Keep w w' := by
  intro n
  induction n using Nat.strongRecOn with
  | ind n ih =>
    intro z w hz hn
    refine tidewaterref04_Num_ok _ ?_
    unfold tidewaterref04_Num
    refine BIf_dec (fun h => ?_) (fun h => ?_)
    · refine newS_mk (fun r w3 hr hb hk hs => ?_)
      rw [hz, wrap8] at hb
      refine ⟨_, rfl, ?_, Fresh.at (by omega), hk⟩
      rw [encN_lt (by omega)]
      exact Own.new (sz := 1) hb (.inl (by simp)) rfl
    · refine ⟨by omega, by omega, inR64 (by omega), newS_mk (fun r w5 hr hb hk hs => ?_)⟩
      rw [show (z % 128 + 128) = ((n % 128 + 128 : Nat) : Int) by omega, wrap8] at hb
      refine ⟨by omega, by omega, inR64 (by omega), ?_⟩
      refine (ih (n / 128) (by omega) (z / 128) w5 (by omega) (by omega)).mono ?_
      rintro e w7 ⟨s8, rfl, h8, f8, k8⟩
      have ho : Own w7 ⟨some ⟨r, 0, none⟩, 1, 1⟩ 1 ([UInt8.ofNat (n % 128 + 128)].map byteV) := Own.keep (Own.new (sz := 1) hb (.inl (by simp)) rfl) k8
      have hle := encN_len (n / 128) 9 (by omega)
      have h81 := h8.bytes.1
      refine ⟨s8, rfl, append_bytes (w0 := w) ho rfl (Fresh.at (by omega)) (hk.trans k8) (srcAt_bytes h8.bytes) (by simp only [Src.n]; omega) (fun s9 w10 g1 g2 g3 g4 => ?_)⟩
      refine ⟨s9, rfl, ?_, g3, g2⟩
      rw [encN_ge (by omega)]
      exact g1

theorem ref04_Num_spec (n : Nat) (w : World) (h : n ≤ 9223372036854775807) :
    Calls Tryz.prog fn_tidewaterref04_Num ⟨[.int .i64 (n : Int)]⟩ w fun e w' => ∃ s : Slc, e = .returned s.v ∧ Own w' s 1 ((encN n).map byteV) ∧ Fresh w s ∧ Keep w w' := ref04_Num_specZ n n w rfl h

end Go.D

set_option linter.unusedVariables false
set_option linter.unusedSimpArgs false
namespace Go.D
open Go Go.Proofs

theorem ref04_Text_spec (t : List UInt8) (w : World) (hl : t.length ≤ 2 ^ 20) :
    Calls Tryz.prog fn_tidewaterref04_Text ⟨[strV t]⟩ w fun e w' => ∃ s : Slc, e = .returned s.v ∧ Own w' s 1 ((encN t.length ++ t).map byteV) ∧ Fresh w s ∧ Keep w w' := by
  refine tidewaterref04_Text_ok _ ?_
  unfold tidewaterref04_Text
  refine (ref04_Num_spec t.length w (by omega)).mono ?_
  rintro e w3 ⟨s4, rfl, h4, f4, k4⟩
  have hle := encN_len t.length 9 (by omega)
  have h41 := h4.bytes.1
  refine ⟨s4, rfl, append_bytes (w0 := w) h4 rfl f4 k4 ⟨rfl, rfl⟩ (by simp only [Src.n]; omega) (fun s9 w10 g1 g2 g3 g4 => ?_)⟩
  exact ⟨s9, rfl, g1, g3, g2⟩

end Go.D

set_option linter.unusedVariables false
set_option linter.unusedSimpArgs false
namespace Go.D
open Go Go.Proofs

/-! ### the document's unit in memory -/
structure RuE where
  a : Nat
  t : List UInt8
  n : Nat
structure RuF where
  rs : Nat
  sl : Slc
  zs : List Rz
  sa : Slc
  sp : Slc
  si : Slc
  css : List (List Value)
def RuW (r : Nat) (f : RuF) (j : Nat) : Prop := j = r ∨ RfW f.rs f.sl f.zs j ∨ ownB f.sa j ∨ ownB f.sp j ∨ ownB f.si j
def RuY (f : RuF) (j : Nat) : Prop := RfY f.zs j ∨ footC f.css j
structure RuC (r : Nat) (f : RuF) (c : Nat → Nat) : Prop where
  cr : c r = 0
  cf : ∀ j, RfW f.rs f.sl f.zs j → c j = 1
  ca : ∀ j, ownB f.sa j → c j = 2
  cp : ∀ j, ownB f.sp j → c j = 3
  ci : ∀ j, ownB f.si j → c j = 4
  cy : ∀ j, RuY f j → c j = 5
structure RuAt (w : World) (r k : Nat) (f : RuF) (P : List RuE) (tr ep top : Int) : Prop where
  o : ObjAt w r [ptrR' f.rs, f.sa.v, f.sp.v, f.si.v, .int .i64 tr, .int .i64 ep, .int .i64 top]
  R : RfAt w f.rs k f.sl f.zs
  a : IntsAt w f.sa (P.map fun e => (e.a : Int))
  p : Rows BytR w f.sp (P.map (·.t)) f.css
  i : IntsAt w f.si (P.map fun e => (e.n : Int))
  c : ∃ c, RuC r f c
section
variable {w w' : World} {r k : Nat} {f : RuF} {P : List RuE} {tr ep top : Int}
theorem RuAt.ext {M : Nat → Prop} (h : RuAt w r k f P tr ep top) (he : Ext M w w') (h1 : ∀ j, RuW r f j → ¬ M j) (h2 : ∀ j, RuY f j → ¬ M j) : RuAt w' r k f P tr ep top :=
  ⟨h.o.ext he (h1 _ (.inl rfl)), h.R.ext he (fun j hj => h1 j (.inr (.inl hj))) (fun j hj => h2 j (.inl hj)), h.a.ext he (fun j hj => h1 j (.inr (.inr (.inl hj)))), h.p.ext he (fun j hj => h1 j (.inr (.inr (.inr (.inl hj))))) (fun j hj => h2 j (.inr hj)),
    h.i.ext he (fun j hj => h1 j (.inr (.inr (.inr (.inr hj))))), h.c⟩
theorem RuAt.keep (h : RuAt w r k f P tr ep top) (he : Keep w w') : RuAt w' r k f P tr ep top := h.ext he (fun _ _ h => h) (fun _ _ h => h)
theorem RuAt.lt (h : RuAt w r k f P tr ep top) : (∀ j, RuW r f j → j < w.heap.size) ∧ ∀ j, RuY f j → j < w.heap.size := by
  refine ⟨?_, ?_⟩
  · rintro j (rfl | hj | hj | hj | hj)
    · exact h.o.lt
    · exact h.R.lt.1 j hj
    · exact Rows.lt h.a j hj
    · exact h.p.lt j hj
    · exact Rows.lt h.i j hj
  · rintro j (hj | hj)
    · exact h.R.lt.2 j hj
    · exact h.p.flt j hj
theorem RuAt.cs (h : RuAt w r k f P tr ep top) : w.cell? ⟨r, 0, none⟩ = some (ptrR' f.rs) ∧ w.cell? ((⟨r, 0, none⟩ : Addr).add 1) = some f.sa.v ∧ w.cell? ((⟨r, 0, none⟩ : Addr).add 2) = some f.sp.v ∧ w.cell? ((⟨r, 0, none⟩ : Addr).add 3) = some f.si.v ∧
    w.cell? ((⟨r, 0, none⟩ : Addr).add 4) = some (.int .i64 tr) ∧ w.cell? ((⟨r, 0, none⟩ : Addr).add 5) = some (.int .i64 ep) ∧ w.cell? ((⟨r, 0, none⟩ : Addr).add 6) = some (.int .i64 top) := by
  simp only [add_lit]
  exact ⟨h.o.cell 0 (by simp), h.o.cell 1 (by simp), h.o.cell 2 (by simp), h.o.cell 3 (by simp), h.o.cell 4 (by simp), h.o.cell 5 (by simp), h.o.cell 6 (by simp)⟩
theorem RuAt.w_ne_y (h : RuAt w r k f P tr ep top) : ∀ j, RuW r f j → ¬ RuY f j := by
  obtain ⟨c, hc⟩ := h.c
  intro j hj hy
  have h5 := hc.cy j hy
  rcases hj with rfl | hj | hj | hj | hj
  · have := hc.cr; omega
  · have := hc.cf j hj; omega
  · have := hc.ca j hj; omega
  · have := hc.cp j hj; omega
  · have := hc.ci j hj; omega
/-- The store within is another. -/
theorem RuAt.store (h : RuAt w r k f P tr ep top) {sl' : Slc} {zs' : List Rz} (hR : RfAt w' f.rs k sl' zs') (ht : RfTo f.rs f.sl sl' f.zs zs' w w') : RuAt w' r k { f with sl := sl', zs := zs' } P tr ep top := by
  obtain ⟨c, hc⟩ := h.c
  obtain ⟨t1, t2, t3⟩ := ht
  have lt := h.lt
  have no : ∀ j, c j ≠ 1 → ¬ RfW f.rs f.sl f.zs j := fun j h1 h2 => h1 (hc.cf j h2)
  refine ⟨h.o.ext t1 (no r (by rw [hc.cr]; omega)), hR, h.a.ext t1 (fun j hj => no j (by rw [hc.ca j hj]; omega)), h.p.ext t1 (fun j hj => no j (by rw [hc.cp j hj]; omega)) (fun j hj => no j (by rw [hc.cy j (.inr hj)]; omega)), h.i.ext t1 (fun j hj => no j (by rw [hc.ci j hj]; omega)), ?_⟩
  -- new blocks: those of the store that are written, and those that are read
  have hltR := hR.lt
  have key : ∀ j, RfW f.rs sl' zs' j → ¬ RfY zs' j := by
    intro j hj hy
    rcases hj with rfl | hj | ⟨z, hz, hj⟩
    · obtain ⟨z, hz, hy⟩ := hy; exact (hR.bt z hz _ hy).1 rfl
    · obtain ⟨z, hz, hy⟩ := hy; exact (hR.bt z hz j hy).2.1 hj
    · obtain ⟨y, hy0, hy⟩ := hy; exact (hR.bt y hy0 j hy).2.2 z hz hj
  refine ⟨fun j => if j < w.heap.size then c j else @ite _ (RfW f.rs sl' zs' j) (Classical.propDecidable _) 1 5, ?_, fun j hj => ?_, fun j hj => ?_, fun j hj => ?_, fun j hj => ?_, fun j hj => ?_⟩
  · rw [if_pos h.o.lt]; exact hc.cr
  · rcases t2 j hj with g | g
    · rw [if_pos (lt.1 j (.inr (.inl g)))]; exact hc.cf j g
    · rw [if_neg (by omega)]; exact @if_pos _ (Classical.propDecidable _) hj _ 1 5
  · rw [if_pos (lt.1 j (.inr (.inr (.inl hj))))]; exact hc.ca j hj
  · rw [if_pos (lt.1 j (.inr (.inr (.inr (.inl hj)))))]; exact hc.cp j hj
  · rw [if_pos (lt.1 j (.inr (.inr (.inr (.inr hj)))))]; exact hc.ci j hj
  · rcases hj with hj | hj
    · rcases t3 j hj with g | g
      · rw [if_pos (lt.2 j (.inl g))]; exact hc.cy j (.inl g)
      · rw [if_neg (by omega)]
        exact @if_neg _ (Classical.propDecidable _) (fun hh => key j hh hj) _ 1 5
    · rw [if_pos (lt.2 j (.inr hj))]; exact hc.cy j (.inr hj)

/-! ### questions -/
def findI (P : List RuE) (tr a : Int) : Int := if a < tr then -1 else match P.findIdx? (fun e => decide ((e.a : Int) = a)) with | some i => i | none => -1
theorem find_spec9 (h : RuAt w r k f P tr ep top) (hP : P.length ≤ 2 ^ 20) (a : Int) :
    Calls Tryz.prog fn_tidewaterref09_Unit_find ⟨[ptrR' r, .int .i64 a]⟩ w fun e w' => e = .returned (.int .i64 (findI P tr a)) ∧ w' = w := by
  refine tidewaterref09_Unit_find_ok _ _ ?_
  unfold tidewaterref09_Unit_find
  have hsl := Rows.sl h.a
  rw [List.length_map] at hsl
  refine needSome_mk rfl ⟨_, h.cs.2.1, fun i w2 => ∃ n : Nat, i = n ∧ n ≤ P.length ∧ (tr ≤ a → ∀ j (hj : j < P.length), j < n → (P[j].a : Int) ≠ a) ∧ w2 = w, fun i _ => ((P.length : Int) - i).toNat, ⟨0, rfl, by omega, fun _ j _ hj => by omega, rfl⟩, ?_⟩
  rintro i w8 ⟨n, rfl, hn, hno, rfl⟩
  intros
  refine BIf_dec (fun h0 => ?_) (fun h0 => ⟨?_, rfl⟩)
  · have hnl : n < P.length := by omega
    obtain ⟨a29, ha29, hc29⟩ := h.a.get (i := n) (by simpa using hnl)
    rw [List.getElem_map] at hc29
    refine needSome_mk ha29 ⟨by omega, h0, _, by rw [Int.toNat_natCast]; exact hc29, BIf_dec (fun h1 => needSome_mk rfl ⟨_, h.cs.2.2.2.2.1, BIf_dec (fun h2 => ⟨?_, rfl⟩) (fun h2 => ?_)⟩) (fun h1 => ?_)⟩
    · unfold findI
      rw [if_neg (by omega), (List.findIdx?_eq_some_iff_getElem (xs := P) (i := n)).2 ⟨hnl, by simpa using h1, fun j hj => by simpa using hno h2 j (by omega) hj⟩]
    · exact ⟨inR64 (by omega), ⟨n + 1, rfl, hnl, fun hh => absurd hh h2, rfl⟩, by dsimp only; omega⟩
    · refine ⟨inR64 (by omega), ⟨n + 1, rfl, hnl, fun hh j hj hjn => ?_, rfl⟩, by dsimp only; omega⟩
      by_cases e : j = n
      · subst e; exact h1
      · exact hno hh j hj (by omega)
  · unfold findI
    by_cases e : a < tr
    · rw [if_pos e]
    · rw [if_neg e, List.findIdx?_eq_none_iff.2 (fun x hx => by
        obtain ⟨j, hj, rfl⟩ := List.getElem_of_mem hx
        simpa using hno (by omega) j hj (by omega))]
theorem refHas_spec9 (h : RuAt w r k f P tr ep top) (hP : P.length ≤ 2 ^ 20) (a : Int) :
    Calls Tryz.prog fn_tidewaterref09_Unit_Has ⟨[ptrR' r, .int .i64 a]⟩ w fun e w' => e = .returned (.bool (decide (0 ≤ findI P tr a))) ∧ w' = w := by
  refine tidewaterref09_Unit_Has_ok _ _ ?_
  unfold tidewaterref09_Unit_Has
  refine (find_spec9 h hP a).mono ?_
  rintro e w' ⟨rfl, rfl⟩
  exact ⟨_, rfl, rfl, rfl⟩
theorem refCheck_spec9 (h : RuAt w r k f P tr ep top) (epoch a most : Int) :
    Calls Tryz.prog fn_tidewaterref09_Unit_check ⟨[ptrR' r, .int .i64 epoch, .int .i64 a, .int .i64 most]⟩ w fun e w' => e = .returned (.int .i64 (eN (checkE ep epoch a most))) ∧ w' = w := by
  refine tidewaterref09_Unit_check_ok _ _ _ _ ?_
  unfold tidewaterref09_Unit_check checkE
  refine needSome_mk rfl ⟨_, h.cs.2.2.2.2.2.1, BIf_dec (fun h0 => ⟨?_, rfl⟩) (fun h0 => BIf_dec (fun h1 => ⟨?_, rfl⟩) (fun h1 => BIf_dec (fun h2 => ⟨?_, rfl⟩) (fun h2 => BIf_dec (fun h3 => ⟨?_, rfl⟩) (fun h3 => ⟨?_, rfl⟩))))⟩
  · rw [if_pos (.inl h0)]; rfl
  · rw [if_pos (.inr h1)]; rfl
  · rw [if_neg (by omega), if_pos (.inl h2)]; rfl
  · rw [if_neg (by omega), if_pos (.inr h3)]; rfl
  · rw [if_neg (by omega), if_neg (by omega)]; rfl
theorem refTail_spec9 (h : RuAt w r k f P tr ep top) :
    Calls Tryz.prog fn_tidewaterref09_Unit_Tail ⟨[ptrR' r]⟩ w fun e w' => e = .returned (.int .i64 (max top tr)) ∧ Keep w w' := by
  refine tidewaterref09_Unit_Tail_ok _ ?_
  unfold tidewaterref09_Unit_Tail
  have hd := h.keep (Ext.drew none0 w)
  refine needSome_mk rfl ⟨_, hd.cs.2.2.2.2.2.2, needSome_mk rfl ⟨_, hd.cs.2.2.2.2.1, ?_, Ext.drew _ _⟩⟩
  rw [show (if tr > top then tr else top) = max top tr by split <;> omega]
/-- A row of parts. -/
theorem row_spec9 (s : Slc) (l : List (List UInt8)) (css : List (List Value)) (hr : Rows BytR w s l css) (hl : l.length ≤ 10) (hb : ∀ b ∈ l, b.length ≤ 2 ^ 20) :
    Calls Tryz.prog fn_tidewaterref09_row ⟨[s.v]⟩ w fun e w' => ∃ t : Slc, e = .returned t.v ∧ Own w' t 1 (l.flatten.map byteV) ∧ Fresh w t ∧ Keep w w' := by
  refine tidewaterref09_row_ok _ ?_
  unfold tidewaterref09_row
  have hsl := hr.sl
  refine newS_mk (fun r2 w3 hr2 hb2 k2 hs2 => ?_)
  have hflat : ∀ n, n ≤ l.length → (l.take n).flatten.length ≤ n * 2 ^ 20 := by
    intro n
    induction n with
    | zero => intro _; simp
    | succ n ih =>
      intro hn
      rw [take_snoc' _ _ (by omega), List.flatten_append, List.length_append]
      have := ih (by omega)
      have h2 := hb _ (List.getElem_mem (show n < l.length by omega))
      simp only [List.flatten_cons, List.flatten_nil, List.append_nil]; omega
  refine ⟨fun o i w2 => ∃ n : Nat, i = n ∧ n ≤ l.length ∧ Own w2 o 1 ((l.take n).flatten.map byteV) ∧ Fresh w o ∧ Keep w w2, fun _ i _ => ((l.length : Int) - i).toNat,
    ⟨0, rfl, by omega, Own.new (sz := 1) (n := 0) hb2 (.inl (by simp)) rfl, Fresh.at (by omega), k2⟩, ?_⟩
  rintro o i w8 ⟨n, rfl, hn, ho, hf, hk⟩
  intros
  refine BIf_dec (fun h0 => ?_) (fun h0 => ?_)
  · have hnl : n < l.length := by omega
    have h8 := hr.keep hk
    have hnc : n < css.length := by rw [h8.len]; exact hnl
    obtain ⟨a17, ha17, _, hrow⟩ := h8.get (i := n) hnc
    obtain ⟨s18, hcs, hb18⟩ := h8.row n hnc hnl
    rw [hcs] at hrow
    have hbn := hb _ (List.getElem_mem hnl)
    have hol := ho.1
    have hfl := hflat n (by omega)
    have hb1 := hb18.1
    refine needSome_mk ha17 ⟨by omega, h0, s18, by rw [Int.toNat_natCast]; exact rowAt_c hrow 0 (by simp), ?_⟩
    refine append_bytes ho rfl hf hk (srcAt_bytes hb18) (by simp only [Src.n]; rw [List.length_map] at hol; omega) (fun s' w' g1 g2 g3 g4 => ⟨inR64 (by omega), ⟨n + 1, rfl, hnl, ?_, g3, g2⟩, by dsimp only; omega⟩)
    rw [take_snoc' _ _ hnl, List.flatten_append]
    simpa using g1
  · have hnn : n = l.length := by omega
    subst hnn
    rw [List.take_length] at ho
    exact ⟨o, rfl, ho, hf, hk⟩
theorem flat_sl (ss : List Slc) : (ss.map fun s => [s.v]).flatten = ss.map Slc.v := by
  induction ss with
  | nil => rfl
  | cons s ss ih => simpa using ih
/-- Three parts, or two, in an array. -/
theorem rows_byt {w : World} {T : TypeId} {c : Nat} (ss : List Slc) (bs : List (List UInt8)) (hb : w.heap[c]? = some (.cells ⟨ss.map Slc.v⟩ T)) (hl : ss.length = bs.length) (hs : ∀ i (h : i < ss.length) (h' : i < bs.length), bytesAt w ss[i] bs[i]) (hc : ∀ s ∈ ss, ∀ j, ownB s j → j ≠ c) :
    Rows BytR w ⟨some ⟨c, 0, none⟩, ss.length, ss.length⟩ bs (ss.map fun s => [s.v]) := by
  have e := flat_sl ss
  refine ⟨?_, by simpa using hl, fun i h1 h2 => ?_, fun j hj hh => ?_⟩
  · rw [e]
    exact Own.new (sz := 1) (n := ss.length) hb (.inl (by simp)) (by simp)
  · rw [List.length_map] at h1
    rw [List.getElem_map]
    exact ⟨_, rfl, hs i h1 h2⟩
  · obtain ⟨cs, hcs, s', hs', h0, hj'⟩ := hj
    obtain ⟨s, hs0, rfl⟩ := List.mem_map.1 hcs
    rw [List.mem_singleton] at hs'
    have hjc : j = c := by obtain ⟨a, ha, rfl⟩ := hh; cases ha; rfl
    have e2 : s' = s := by
      obtain ⟨p, l, cc⟩ := s
      obtain ⟨p', l', c'⟩ := s'
      simp [Slc.v] at hs'
      obtain ⟨rfl, rfl, rfl⟩ := hs'
      rfl
    subst e2
    exact hc _ hs0 j hj' hjc
end
end Go.D

set_option linter.unusedVariables false
set_option linter.unusedSimpArgs false
namespace Go.D
open Go Go.Proofs

/-! ### the parts of one statement, in any order -/
structure PWq where
  sa : Slc
  la : List Int
  sp : Slc
  lp : List (List UInt8)
  css : List (List Value)
  si : Slc
  li : List Int
  X : List (Nat × List Value)
  B : List Slc
structure PWC (r : Nat) (f : RuF) (b4 : Slc) (z : PWq) (c : Nat → Nat) : Prop where
  cr : c r = 0
  cf : ∀ j, RfW f.rs f.sl f.zs j → c j = 1
  ca : ∀ j, ownB z.sa j → c j = 2
  cp : ∀ j, ownB z.sp j → c j = 3
  ci : ∀ j, ownB z.si j → c j = 4
  cy : ∀ j, RfY f.zs j ∨ footC z.css j ∨ ownB b4 j → c j = 5
  cx : ∀ v ∈ z.X, c v.1 = if v.2 = [] then 6 else 5
  cb : ∀ s ∈ z.B, ∀ j, ownB s j → c j = 5
structure PW (w0 : World) (r k : Nat) (f : RuF) (tr ep top : Int) (b4 : Slc) (t : List UInt8) (z : PWq) (w : World) : Prop where
  o : ObjAt w r [ptrR' f.rs, f.sa.v, f.sp.v, f.si.v, .int .i64 tr, .int .i64 ep, .int .i64 top]
  R : RfAt w f.rs k f.sl f.zs
  a : IntsAt w z.sa z.la
  p : Rows BytR w z.sp z.lp z.css
  i : IntsAt w z.si z.li
  b : bytesAt w b4 t
  bl : ∀ j, ownB b4 j → j < w.heap.size
  x : ∀ v ∈ z.X, ∃ T, w.heap[v.1]? = some (.cells ⟨v.2⟩ T)
  y : ∀ s ∈ z.B, bytesAt w s t ∧ ∀ j, ownB s j → j < w.heap.size
  c : ∃ c, PWC r f b4 z c
  e : Ext (RuW r f) w0 w
  g : (∀ j, ownB z.sa j → ownB f.sa j ∨ w0.heap.size ≤ j) ∧ (∀ j, ownB z.sp j → ownB f.sp j ∨ w0.heap.size ≤ j) ∧ (∀ j, ownB z.si j → ownB f.si j ∨ w0.heap.size ≤ j) ∧ (∀ j, footC z.css j → footC f.css j ∨ w0.heap.size ≤ j) ∧
    (∀ v ∈ z.X, w0.heap.size ≤ v.1) ∧ ∀ s ∈ z.B, ∀ j, ownB s j → w0.heap.size ≤ j
section
variable {w0 w : World} {r k : Nat} {f : RuF} {tr ep top : Int} {b4 : Slc} {t : List UInt8} {sa sp si : Slc} {la li : List Int} {lp : List (List UInt8)} {css : List (List Value)} {X : List (Nat × List Value)} {B : List Slc}
theorem PW.c1 {z : PWq} (h : PW w0 r k f tr ep top b4 t z w) : w.cell? ((⟨r, 0, none⟩ : Addr).add 1) = some f.sa.v := by rw [add_lit]; exact h.o.cell 1 (by simp)
theorem PW.c2 {z : PWq} (h : PW w0 r k f tr ep top b4 t z w) : w.cell? ((⟨r, 0, none⟩ : Addr).add 2) = some f.sp.v := by rw [add_lit]; exact h.o.cell 2 (by simp)
theorem PW.c3 {z : PWq} (h : PW w0 r k f tr ep top b4 t z w) : w.cell? ((⟨r, 0, none⟩ : Addr).add 3) = some f.si.v := by rw [add_lit]; exact h.o.cell 3 (by simp)
theorem PW.start {P : List RuE} (h : RuAt w r k f P tr ep top) (hb : bytesAt w b4 t) (ht : 0 < t.length) (hs : ∀ j, ownB b4 j → ¬ RuW r f j) :
    PW w r k f tr ep top b4 t ⟨f.sa, P.map fun e => (e.a : Int), f.sp, P.map (·.t), f.css, f.si, P.map fun e => (e.n : Int), [], []⟩ w := by
  obtain ⟨c, hc⟩ := h.c
  have hl := hb.1
  refine ⟨h.o, h.R, h.a, h.p, h.i, hb, fun j hj => bytesAt_ltX hb (by omega) j hj, by simp, by simp, ⟨fun j => @ite _ (ownB b4 j) (Classical.propDecidable _) 5 (c j), ?_, fun j hj => ?_, fun j hj => ?_, fun j hj => ?_, fun j hj => ?_, fun j hj => ?_, by simp, by simp⟩, Ext.refl _ _, fun j hj => .inl hj, fun j hj => .inl hj, fun j hj => .inl hj, fun j hj => .inl hj, by simp, by simp⟩
  · rw [@if_neg _ (Classical.propDecidable _) (fun hh => hs r hh (.inl rfl))]; exact hc.cr
  · rw [@if_neg _ (Classical.propDecidable _) (fun hh => hs j hh (.inr (.inl hj)))]; exact hc.cf j hj
  · rw [@if_neg _ (Classical.propDecidable _) (fun hh => hs j hh (.inr (.inr (.inl hj))))]; exact hc.ca j hj
  · rw [@if_neg _ (Classical.propDecidable _) (fun hh => hs j hh (.inr (.inr (.inr (.inl hj)))))]; exact hc.cp j hj
  · rw [@if_neg _ (Classical.propDecidable _) (fun hh => hs j hh (.inr (.inr (.inr (.inr hj)))))]; exact hc.ci j hj
  · by_cases e : ownB b4 j
    · rw [@if_pos _ (Classical.propDecidable _) e]
    · rw [@if_neg _ (Classical.propDecidable _) e]
      rcases hj with hj | hj | hj
      · exact hc.cy j (.inl hj)
      · exact hc.cy j (.inr hj)
      · exact absurd hj e
/-- What is not written to stays, whatever else is. -/
theorem PW.stay {z : PWq} {w' : World} {M : Nat → Prop} {c : Nat → Nat} {n : Nat} (h : PW w0 r k f tr ep top b4 t z w) (hc : PWC r f b4 z c) (he : Ext M w w') (hM : ∀ j, M j → c j = n) :
    (n ≠ 0 → ObjAt w' r [ptrR' f.rs, f.sa.v, f.sp.v, f.si.v, .int .i64 tr, .int .i64 ep, .int .i64 top]) ∧ (n ≠ 1 → n ≠ 5 → RfAt w' f.rs k f.sl f.zs) ∧ (n ≠ 2 → IntsAt w' z.sa z.la) ∧ (n ≠ 3 → n ≠ 5 → Rows BytR w' z.sp z.lp z.css) ∧ (n ≠ 4 → IntsAt w' z.si z.li) ∧ (n ≠ 5 → bytesAt w' b4 t) ∧
      (∀ j, ownB b4 j → j < w'.heap.size) ∧ (n ≠ 5 → n ≠ 6 → ∀ v ∈ z.X, ∃ T, w'.heap[v.1]? = some (.cells ⟨v.2⟩ T)) ∧ (n ≠ 5 → ∀ v ∈ z.X, v.2 ≠ [] → ∃ T, w'.heap[v.1]? = some (.cells ⟨v.2⟩ T)) ∧ (n ≠ 5 → ∀ s ∈ z.B, bytesAt w' s t ∧ ∀ j, ownB s j → j < w'.heap.size) := by
  have sz := he.size
  refine ⟨fun h0 => h.o.ext he (fun hh => h0 (by rw [← hM r hh, hc.cr])), fun h1 h5 => h.R.ext he (fun j hj hh => h1 (by rw [← hM j hh, hc.cf j hj])) (fun j hj hh => h5 (by rw [← hM j hh, hc.cy j (.inl hj)])), fun h2 => h.a.ext he (fun j hj hh => h2 (by rw [← hM j hh, hc.ca j hj])),
    fun h3 h5 => h.p.ext he (fun j hj hh => h3 (by rw [← hM j hh, hc.cp j hj])) (fun j hj hh => h5 (by rw [← hM j hh, hc.cy j (.inr (.inl hj))])), fun h4 => h.i.ext he (fun j hj hh => h4 (by rw [← hM j hh, hc.ci j hj])), fun h5 => bytesAt_ext h.b he (fun j hj hh => h5 (by rw [← hM j hh, hc.cy j (.inr (.inr hj))])),
    fun j hj => by have := h.bl j hj; omega, fun h5 h6 v hv => ?_, fun h5 v hv hne => ?_, fun h5 s hs => ⟨bytesAt_ext (h.y s hs).1 he (fun j hj hh => h5 (by rw [← hM j hh, hc.cb s hs j hj])), fun j hj => by have := (h.y s hs).2 j hj; omega⟩⟩
  · obtain ⟨T, hT⟩ := h.x v hv
    refine ⟨T, he.heap hT (fun hh => ?_)⟩
    have h1 := hM _ hh
    rw [hc.cx v hv] at h1
    split at h1 <;> omega
  · obtain ⟨T, hT⟩ := h.x v hv
    refine ⟨T, he.heap hT (fun hh => ?_)⟩
    have h1 := hM _ hh
    rw [hc.cx v hv, if_neg hne] at h1
    omega
theorem PW.lt {z : PWq} (h : PW w0 r k f tr ep top b4 t z w) : r < w.heap.size ∧ (∀ j, RfW f.rs f.sl f.zs j → j < w.heap.size) ∧ (∀ j, ownB z.sa j → j < w.heap.size) ∧ (∀ j, ownB z.sp j → j < w.heap.size) ∧ (∀ j, ownB z.si j → j < w.heap.size) ∧
    (∀ j, RfY f.zs j ∨ footC z.css j ∨ ownB b4 j → j < w.heap.size) ∧ (∀ v ∈ z.X, v.1 < w.heap.size) ∧ ∀ s ∈ z.B, ∀ j, ownB s j → j < w.heap.size :=
  ⟨h.o.lt, h.R.lt.1, Rows.lt h.a, h.p.lt, Rows.lt h.i, fun j hj => hj.elim (h.R.lt.2 j) (fun g => g.elim (h.p.flt j) (h.bl j)), fun v hv => by obtain ⟨T, hT⟩ := h.x v hv; exact lt_of_heap hT, fun s hs => (h.y s hs).2⟩
theorem PW.mkC {z z' : PWq} {c : Nat → Nat} (h : PW w0 r k f tr ep top b4 t z w) (hc : PWC r f b4 z c) (n : Nat)
    (h1 : ∀ j, ownB z'.sa j → ownB z.sa j ∨ w.heap.size ≤ j ∧ n = 2) (h2 : ∀ j, ownB z'.sp j → ownB z.sp j ∨ w.heap.size ≤ j ∧ n = 3) (h3 : ∀ j, ownB z'.si j → ownB z.si j ∨ w.heap.size ≤ j ∧ n = 4)
    (h4 : ∀ j, footC z'.css j → footC z.css j ∨ ∃ s ∈ z.B, ownB s j) (h5 : ∀ v ∈ z'.X, v ∈ z.X ∨ w.heap.size ≤ v.1 ∧ n = if v.2 = [] then 6 else 5) (h6 : ∀ s ∈ z'.B, s ∈ z.B) :
    PWC r f b4 z' (fun j => if j < w.heap.size then c j else n) := by
  obtain ⟨l0, l1, l2, l3, l4, l5, l6, l7⟩ := h.lt
  refine ⟨?_, fun j hj => ?_, fun j hj => ?_, fun j hj => ?_, fun j hj => ?_, fun j hj => ?_, fun v hv => ?_, fun s hs j hj => ?_⟩
  · rw [if_pos l0]; exact hc.cr
  · rw [if_pos (l1 j hj)]; exact hc.cf j hj
  · rcases h1 j hj with g | ⟨g, e⟩
    · rw [if_pos (l2 j g)]; exact hc.ca j g
    · rw [if_neg (by omega)]; exact e
  · rcases h2 j hj with g | ⟨g, e⟩
    · rw [if_pos (l3 j g)]; exact hc.cp j g
    · rw [if_neg (by omega)]; exact e
  · rcases h3 j hj with g | ⟨g, e⟩
    · rw [if_pos (l4 j g)]; exact hc.ci j g
    · rw [if_neg (by omega)]; exact e
  · rcases hj with hj | hj | hj
    · rw [if_pos (l5 j (.inl hj))]; exact hc.cy j (.inl hj)
    · rcases h4 j hj with g | ⟨s, hs, g⟩
      · rw [if_pos (l5 j (.inr (.inl g)))]; exact hc.cy j (.inr (.inl g))
      · rw [if_pos (l7 s hs j g)]; exact hc.cb s hs j g
    · rw [if_pos (l5 j (.inr (.inr hj)))]; exact hc.cy j (.inr (.inr hj))
  · rcases h5 v hv with g | ⟨g, e⟩
    · rw [if_pos (l6 v g)]; exact hc.cx v g
    · rw [if_neg (by omega)]; exact e
  · rw [if_pos (l7 s (h6 s hs) j hj)]; exact hc.cb s (h6 s hs) j hj
theorem PW.drew {z : PWq} (h : PW w0 r k f tr ep top b4 t z w) : PW w0 r k f tr ep top b4 t z (World.drew w) := by
  obtain ⟨c, hc⟩ := h.c
  have kd : Keep w (World.drew w) := Ext.drew _ _
  obtain ⟨s1, s2, s3, s4, s5, s6, s7, s8, _, s9⟩ := h.stay (n := 7) hc kd (fun _ h => h.elim)
  exact ⟨s1 (by decide), s2 (by decide) (by decide), s3 (by decide), s4 (by decide) (by decide), s5 (by decide), s6 (by decide), s7, s8 (by decide) (by decide), s9 (by decide), ⟨c, hc⟩, h.e.trans kd (fun _ h => h) (fun _ h => h.elim), h.g⟩
/-- An array more. -/
theorem PW.new (h : PW w0 r k f tr ep top b4 t ⟨sa, la, sp, lp, css, si, li, X, B⟩ w) (vs : List Value) (T : TypeId) {K : Nat → World → Prop} (hK : ∀ r9 w', PW w0 r k f tr ep top b4 t ⟨sa, la, sp, lp, css, si, li, (r9, vs) :: X, B⟩ w' → K r9 w') : newS w (.cells ⟨vs⟩ T) K := by
  refine newS_mk (fun r9 w' hr hb k9 hs => hK r9 w' ?_)
  obtain ⟨c, hc⟩ := h.c
  obtain ⟨s1, s2, s3, s4, s5, s6, s7, s8, _, s9⟩ := h.stay (n := 7) hc k9 (fun _ h => h.elim)
  obtain ⟨g1, g2, g3, g4, g5, g6⟩ := h.g
  have z0 := h.e.size
  refine ⟨s1 (by decide), s2 (by decide) (by decide), s3 (by decide), s4 (by decide) (by decide), s5 (by decide), s6 (by decide), s7, fun v hv => ?_, s9 (by decide), ⟨_, h.mkC (z' := ⟨sa, la, sp, lp, css, si, li, (r9, vs) :: X, B⟩) hc (if vs = [] then 6 else 5) (fun j hj => .inl hj) (fun j hj => .inl hj) (fun j hj => .inl hj) (fun j hj => .inl hj) (fun v hv => ?_) (fun s hs => hs)⟩,
    h.e.trans k9 (fun _ h => h) (fun _ h => h.elim), g1, g2, g3, g4, fun v hv => ?_, g6⟩
  · rcases List.mem_cons.1 hv with rfl | hv
    · exact ⟨T, hb⟩
    · exact s8 (by decide) (by decide) v hv
  · rcases List.mem_cons.1 hv with rfl | hv
    · exact .inr ⟨by show w.heap.size ≤ r9; omega, rfl⟩
    · exact .inl hv
  · rcases List.mem_cons.1 hv with rfl | hv
    · show _ ≤ r9; omega
    · exact g5 v hv
/-- An address more. -/
theorem PW.addA (h : PW w0 r k f tr ep top b4 t ⟨sa, la, sp, lp, css, si, li, X, B⟩ w) {a : Int} {r9 : Nat} (hx : (r9, [Value.int .i64 a]) ∈ X) (hl : la.length < 2 ^ 30) {E : TypeId} {K : Slc → World → Prop} (hK : ∀ s' w', PW w0 r k f tr ep top b4 t ⟨s', la ++ [a], sp, lp, css, si, li, X, B⟩ w' → K s' w') :
    appendS 1 E [Value.int .i64 0] w sa (.slc ⟨some ⟨r9, 0, none⟩, 1, 1⟩) K := by
  obtain ⟨T, hb⟩ := h.x _ hx
  obtain ⟨c, hc⟩ := h.c
  refine Rows.snoc (cs := intC a) (x := a) (z := [.int .i64 0]) h.a rfl rfl (fun k hk => (foot_int hk).elim) hb (.inl (by simp)) hl (fun s' w' q1 q2 q3 => hK s' w' ?_)
  obtain ⟨s1, s2, s3, s4, s5, s6, s7, s8, _, s9⟩ := h.stay (n := 2) hc q2 (fun j hj => hc.ca j hj)
  obtain ⟨g1, g2, g3, g4, g5, g6⟩ := h.g
  have z0 := h.e.size
  refine ⟨s1 (by decide), s2 (by decide) (by decide), IntsAt.of (by simpa using q1), s4 (by decide) (by decide), s5 (by decide), s6 (by decide), s7, s8 (by decide) (by decide), s9 (by decide), ⟨_, h.mkC (z' := ⟨s', la ++ [a], sp, lp, css, si, li, X, B⟩) hc 2 (fun j hj => (q3 j hj).imp (fun h => h) (fun h => ⟨h, rfl⟩)) (fun j hj => .inl hj) (fun j hj => .inl hj) (fun j hj => .inl hj) (fun v hv => .inl hv) (fun s hs => hs)⟩,
    h.e.trans q2 (fun _ h => h) (fun j hj => (g1 j hj).elim (fun g => .inl (.inr (.inr (.inl g)))) .inr), fun j hj => (q3 j hj).elim (g1 j) (fun h => .inr (by omega)), g2, g3, g4, g5, g6⟩
/-- A segment's number more. -/
theorem PW.addI (h : PW w0 r k f tr ep top b4 t ⟨sa, la, sp, lp, css, si, li, X, B⟩ w) {a : Int} {r9 : Nat} (hx : (r9, [Value.int .i64 a]) ∈ X) (hl : li.length < 2 ^ 30) {E : TypeId} {K : Slc → World → Prop} (hK : ∀ s' w', PW w0 r k f tr ep top b4 t ⟨sa, la, sp, lp, css, s', li ++ [a], X, B⟩ w' → K s' w') :
    appendS 1 E [Value.int .i64 0] w si (.slc ⟨some ⟨r9, 0, none⟩, 1, 1⟩) K := by
  obtain ⟨T, hb⟩ := h.x _ hx
  obtain ⟨c, hc⟩ := h.c
  refine Rows.snoc (cs := intC a) (x := a) (z := [.int .i64 0]) h.i rfl rfl (fun k hk => (foot_int hk).elim) hb (.inl (by simp)) hl (fun s' w' q1 q2 q3 => hK s' w' ?_)
  obtain ⟨s1, s2, s3, s4, s5, s6, s7, s8, _, s9⟩ := h.stay (n := 4) hc q2 (fun j hj => hc.ci j hj)
  obtain ⟨g1, g2, g3, g4, g5, g6⟩ := h.g
  have z0 := h.e.size
  refine ⟨s1 (by decide), s2 (by decide) (by decide), s3 (by decide), s4 (by decide) (by decide), IntsAt.of (by simpa using q1), s6 (by decide), s7, s8 (by decide) (by decide), s9 (by decide), ⟨_, h.mkC (z' := ⟨sa, la, sp, lp, css, s', li ++ [a], X, B⟩) hc 4 (fun j hj => .inl hj) (fun j hj => .inl hj) (fun j hj => (q3 j hj).imp (fun h => h) (fun h => ⟨h, rfl⟩)) (fun j hj => .inl hj) (fun v hv => .inl hv) (fun s hs => hs)⟩,
    h.e.trans q2 (fun _ h => h) (fun j hj => (g3 j hj).elim (fun g => .inl (.inr (.inr (.inr (.inr g))))) .inr), g1, g2, fun j hj => (q3 j hj).elim (g3 j) (fun h => .inr (by omega)), g4, g5, g6⟩
/-- A page more. -/
theorem PW.addP (h : PW w0 r k f tr ep top b4 t ⟨sa, la, sp, lp, css, si, li, X, B⟩ w) {s9 : Slc} {r9 : Nat} (hx : (r9, [s9.v]) ∈ X) (hB : s9 ∈ B) (hl : lp.length < 2 ^ 30) {E : TypeId} {K : Slc → World → Prop} (hK : ∀ s' w', PW w0 r k f tr ep top b4 t ⟨sa, la, s', lp ++ [t], css ++ [[s9.v]], si, li, X, B⟩ w' → K s' w') :
    appendS 1 E [(⟨none, 0, 0⟩ : Slc).v] w sp (.slc ⟨some ⟨r9, 0, none⟩, 1, 1⟩) K := by
  obtain ⟨T, hb⟩ := h.x _ hx
  obtain ⟨c, hc⟩ := h.c
  have fs : ∀ j, footV [s9.v] j → ownB s9 j := fun j hj => (foot_byt hj).2
  refine Rows.snoc (cs := [s9.v]) (x := t) (z := [(⟨none, 0, 0⟩ : Slc).v]) h.p rfl ⟨s9, rfl, (h.y s9 hB).1⟩ (fun j hj hh => ?_) hb (.inl (by simp)) hl (fun s' w' q1 q2 q3 => hK s' w' ?_)
  · have e1 := hc.cb s9 hB j (fs j hj)
    have e2 := hc.cp j hh
    omega
  obtain ⟨s1, s2, s3, s4, s5, s6, s7, s8, _, s9'⟩ := h.stay (n := 3) hc q2 (fun j hj => hc.cp j hj)
  obtain ⟨g1, g2, g3, g4, g5, g6⟩ := h.g
  have z0 := h.e.size
  have fc : ∀ j, footC (css ++ [[s9.v]]) j → footC css j ∨ ownB s9 j := by
    rintro j ⟨cs, hcs, hj⟩
    rcases List.mem_append.1 hcs with hcs | hcs
    · exact .inl ⟨cs, hcs, hj⟩
    · rw [List.mem_singleton] at hcs; subst hcs; exact .inr (fs j hj)
  refine ⟨s1 (by decide), s2 (by decide) (by decide), s3 (by decide), q1, s5 (by decide), s6 (by decide), s7, s8 (by decide) (by decide), s9' (by decide), ⟨_, h.mkC (z' := ⟨sa, la, s', lp ++ [t], css ++ [[s9.v]], si, li, X, B⟩) hc 3 (fun j hj => .inl hj) (fun j hj => (q3 j hj).imp (fun h => h) (fun h => ⟨h, rfl⟩)) (fun j hj => .inl hj) (fun j hj => (fc j hj).imp (fun h => h) (fun h => ⟨s9, hB, h⟩)) (fun v hv => .inl hv) (fun s hs => hs)⟩,
    h.e.trans q2 (fun _ h => h) (fun j hj => (g2 j hj).elim (fun g => .inl (.inr (.inr (.inr (.inl g))))) .inr), g1, fun j hj => (q3 j hj).elim (g2 j) (fun h => .inr (by omega)), g3, fun j hj => (fc j hj).elim (g4 j) (fun h => .inr (g6 s9 hB j h)), g5, g6⟩
/-- The page's bytes. -/
theorem PW.addB (h : PW w0 r k f tr ep top b4 t ⟨sa, la, sp, lp, css, si, li, X, B⟩ w) {r9 : Nat} (hx : (r9, []) ∈ X) (hl : t.length ≤ 2 ^ 20) {E : TypeId} {K : Slc → World → Prop} (hK : ∀ s' w', PW w0 r k f tr ep top b4 t ⟨sa, la, sp, lp, css, si, li, X.filter (fun v => !v.2.isEmpty), s' :: B⟩ w' → K s' w') :
    appendS 1 E [Value.int .u8 0] w ⟨some ⟨r9, 0, none⟩, 0, 0⟩ (.slc b4) K := by
  obtain ⟨T, hb⟩ := h.x _ hx
  obtain ⟨c, hc⟩ := h.c
  have hbl := h.b.1
  have how : Own w ⟨some ⟨r9, 0, none⟩, 0, 0⟩ 1 [] := Own.new (sz := 1) (n := 0) hb (.inl (by simp)) rfl
  have hc9 : c r9 = 6 := hc.cx _ hx
  refine appendS_own how (by omega) rfl (srcAt_bytes h.b) (one_bytes t) (by simp only [Src.n]; omega) (fun s' w' q1 q2 q3 _ => hK s' w' ?_)
  have o9 : ∀ j, ownB (⟨some ⟨r9, 0, none⟩, 0, 0⟩ : Slc) j → j = r9 := by rintro j ⟨a, ha, rfl⟩; cases ha; rfl
  obtain ⟨s1, s2, s3, s4, s5, s6, s7, _, s8, s9⟩ := h.stay (n := 6) hc q2 (fun j hj => by rw [o9 j hj]; exact hc9)
  obtain ⟨g1, g2, g3, g4, g5, g6⟩ := h.g
  obtain ⟨l0, l1, l2, l3, l4, l5, l6, l7⟩ := h.lt
  have z0 := h.e.size
  have hr9 := g5 _ hx
  have hlt' : ∀ j, ownB s' j → j < w'.heap.size := OwnLt q1
  have memX : ∀ v, v ∈ X.filter (fun v => !v.2.isEmpty) → v ∈ X ∧ v.2 ≠ [] := fun v hv => by
    obtain ⟨h1, h2⟩ := List.mem_filter.1 hv
    exact ⟨h1, by simpa using h2⟩
  refine ⟨s1 (by decide), s2 (by decide) (by decide), s3 (by decide), s4 (by decide) (by decide), s5 (by decide), s6 (by decide), s7, fun v hv => s8 (by decide) v (memX v hv).1 (memX v hv).2, fun s hs => ?_, ⟨fun j => if j < w.heap.size then (if c j = 6 then 5 else c j) else 5, ?_, fun j hj => ?_, fun j hj => ?_, fun j hj => ?_, fun j hj => ?_, fun j hj => ?_, fun v hv => ?_, fun s hs j hj => ?_⟩,
    h.e.trans q2 (fun _ h => h) (fun j hj => .inr (by rw [o9 j hj]; exact hr9)), g1, g2, g3, g4, fun v hv => g5 v (memX v hv).1, fun s hs j hj => ?_⟩
  · rcases List.mem_cons.1 hs with rfl | hs
    · exact ⟨Own.bytes (by simpa using q1), hlt'⟩
    · exact s9 (by decide) s hs
  · have := hc.cr
    rw [if_pos l0, if_neg (by omega)]; exact this
  · have := hc.cf j hj
    rw [if_pos (l1 j hj), if_neg (by omega)]; exact this
  · have := hc.ca j hj
    rw [if_pos (l2 j hj), if_neg (by omega)]; exact this
  · have := hc.cp j hj
    rw [if_pos (l3 j hj), if_neg (by omega)]; exact this
  · have := hc.ci j hj
    rw [if_pos (l4 j hj), if_neg (by omega)]; exact this
  · have := hc.cy j hj
    rw [if_pos (l5 j hj), if_neg (by omega)]; exact this
  · obtain ⟨v1, v2⟩ := memX v hv
    have := hc.cx v v1
    rw [if_neg v2] at this ⊢
    rw [if_pos (l6 v v1), if_neg (by omega)]; exact this
  · rcases List.mem_cons.1 hs with rfl | hs
    · rcases q3 j hj with g | g
      · rw [o9 j g, if_pos (l6 _ hx), if_pos hc9]
      · rw [if_neg (by omega)]
    · have := hc.cb s hs j hj
      rw [if_pos (l7 s hs j hj), if_neg (by omega)]; exact this
  · rcases List.mem_cons.1 hs with rfl | hs
    · rcases q3 j hj with g | g
      · rw [o9 j g]; exact hr9
      · omega
    · exact g6 s hs j hj
/-- What the document's unit has done. -/
def RuTo (r : Nat) (f f' : RuF) (w w' : World) : Prop := Ext (RuW r f) w w' ∧ (∀ j, RuW r f' j → RuW r f j ∨ w.heap.size ≤ j) ∧ ∀ j, RuY f' j → RuY f j ∨ w.heap.size ≤ j
theorem RuTo.refl (r : Nat) (f : RuF) (w : World) : RuTo r f f w w := ⟨Ext.refl _ _, fun j hj => .inl hj, fun j hj => .inl hj⟩
theorem RuTo.trans {r : Nat} {f1 f2 f3 : RuF} {a b c : World} (h1 : RuTo r f1 f2 a b) (h2 : RuTo r f2 f3 b c) : RuTo r f1 f3 a c :=
  ⟨h1.1.trans h2.1 (fun _ h => h) (fun j hj => h1.2.1 j hj), fun j hj => (h2.2.1 j hj).elim (h1.2.1 j) (fun h => .inr (Nat.le_trans h1.1.size h)), fun j hj => (h2.2.2 j hj).elim (h1.2.2 j) (fun h => .inr (Nat.le_trans h1.1.size h))⟩
theorem RuTo.keep {r : Nat} {f : RuF} {w w' : World} (hk : Keep w w') : RuTo r f f w w' := ⟨hk.mono (fun _ h => h.elim), fun j hj => .inl hj, fun j hj => .inl hj⟩
/-- The cells of the object are set anew. -/
theorem PW.fin {P : List RuE} {a n : Nat} (h : PW w0 r k f tr ep top b4 t ⟨sa, (P.map fun e => (e.a : Int)) ++ [(a : Int)], sp, (P.map (·.t)) ++ [t], css, si, (P.map fun e => (e.n : Int)) ++ [(n : Int)], X, B⟩ w) (ha : a ≤ 2 ^ 40) {K : Value → World → Prop}
    (hK : ∀ w', RuAt w' r k { f with sa := sa, sp := sp, si := si, css := css } (P ++ [(⟨a, t, n⟩ : RuE)]) tr ep (max top ((a : Int) + 1)) → RuTo r f { f with sa := sa, sp := sp, si := si, css := css } w0 w' → K (.int .i64 0) w') :
    needSome (some (⟨r, 0, none⟩ : Addr)) fun a87 => canW w (a87.add 1) 1 ∧ ∀ w88 : World, w88 = World.setCell w (a87.add 1) (Slc.v sa) →
      needSome (some (⟨r, 0, none⟩ : Addr)) fun a89 => canW w88 (a89.add 2) 1 ∧ ∀ w90 : World, w90 = World.setCell w88 (a89.add 2) (Slc.v sp) →
      needSome (some (⟨r, 0, none⟩ : Addr)) fun a91 => canW w90 (a91.add 3) 1 ∧ ∀ w92 : World, w92 = World.setCell w90 (a91.add 3) (Slc.v si) →
      inR .i64 ((a : Int) + (1 : Int)) ∧ needSome (some (⟨r, 0, none⟩ : Addr)) fun a93 => ∃ n94 : Int, World.cell? w92 (a93.add 6) = some (Value.int .i64 n94) ∧
      BIf (decide (n94 < ((a : Int) + (1 : Int)))) (inR .i64 ((a : Int) + (1 : Int)) ∧ needSome (some (⟨r, 0, none⟩ : Addr)) fun a95 =>
        canW w92 (a95.add 6) 1 ∧ ∀ w96 : World, w96 = World.setCell w92 (a95.add 6) (Value.int .i64 ((a : Int) + (1 : Int))) → K (Value.int .i64 (0 : Int)) w96) (K (Value.int .i64 (0 : Int)) w92) := by
  obtain ⟨c, hc⟩ := h.c
  obtain ⟨g1, g2, g3, g4, g5, g6⟩ := h.g
  obtain ⟨c1, d1⟩ := h.o.setOne 1 (by simp) sa.v
  refine needSome_mk rfl ?_
  rw [add_lit]
  refine ⟨c1, fun w88 hw88 => ?_⟩
  obtain ⟨o88, e88, _⟩ := d1 w88 hw88
  obtain ⟨c2, d2⟩ := o88.setOne 2 (by simp) sp.v
  refine needSome_mk rfl ?_
  rw [add_lit]
  refine ⟨c2, fun w90 hw90 => ?_⟩
  obtain ⟨o90, e90, _⟩ := d2 w90 hw90
  obtain ⟨c3, d3⟩ := o90.setOne 3 (by simp) si.v
  refine needSome_mk rfl ?_
  rw [add_lit]
  refine ⟨c3, fun w92 hw92 => ?_⟩
  obtain ⟨o92, e92, _⟩ := d3 w92 hw92
  have fin : ∀ (w9 : World) (top' : Int), Ext (fun j => j = r) w w9 → ObjAt w9 r [ptrR' f.rs, sa.v, sp.v, si.v, .int .i64 tr, .int .i64 ep, .int .i64 top'] → max top ((a : Int) + 1) = top' → K (.int .i64 0) w9 := by
    intro w9 top' x9 o9 et
    subst et
    obtain ⟨_, s2, s3, s4, s5, _⟩ := h.stay (n := 0) hc x9 (fun j hj => by rw [hj]; exact hc.cr)
    refine hK w9 ⟨o9, s2 (by decide) (by decide), by rw [List.map_append]; exact s3 (by decide), by rw [List.map_append]; exact s4 (by decide) (by decide), by rw [List.map_append]; exact s5 (by decide), c, hc.cr, hc.cf, hc.ca, hc.cp, hc.ci, fun j hj => hc.cy j (hj.imp (fun h => h) .inl)⟩ ⟨h.e.trans x9 (fun _ h => h) (fun j hj => .inl (.inl hj)), ?_, ?_⟩
    · rintro j (hj | hj | hj | hj | hj)
      · exact .inl (.inl hj)
      · exact .inl (.inr (.inl hj))
      · exact (g1 j hj).imp (fun h => .inr (.inr (.inl h))) (fun h => h)
      · exact (g2 j hj).imp (fun h => .inr (.inr (.inr (.inl h)))) (fun h => h)
      · exact (g3 j hj).imp (fun h => .inr (.inr (.inr (.inr h)))) (fun h => h)
    · rintro j (hj | hj)
      · exact .inl (.inl hj)
      · exact (g4 j hj).imp .inr (fun h => h)
  have x92 : Ext (fun j => j = r) w w92 := (e88.trans e90 (fun _ h => h) (fun _ h => .inl h)).trans e92 (fun _ h => h) (fun _ h => .inl h)
  refine ⟨inR64 (by omega), needSome_mk rfl ⟨_, by rw [add_lit]; exact o92.cell 6 (by simp), BIf_dec (fun h0 => ⟨inR64 (by omega), needSome_mk rfl ?_⟩) (fun h0 => fin w92 top x92 o92 (by omega))⟩⟩
  obtain ⟨c6, d6⟩ := o92.setOne 6 (by simp) (.int .i64 ((a : Int) + 1))
  rw [add_lit]
  refine ⟨c6, fun w96 hw96 => ?_⟩
  obtain ⟨o96, e96, _⟩ := d6 w96 hw96
  exact fin w96 _ (x92.trans e96 (fun _ h => h) (fun _ h => .inl h)) o96 (by omega)
end
end Go.D

set_option linter.unusedVariables false
set_option linter.unusedSimpArgs false
namespace Go.D
open Go

/-! ### the document's unit and the plain one -/
structure RefOk (P : List RuE) (top : Int) (s : UnS) : Prop where
  ok : ∀ e ∈ P, e.a < 4096 ∧ e.t.length ≤ 2048
  fd : ∀ a : Nat, s.tr ≤ a → (P.find? (fun e => decide ((e.a : Int) = (a : Int)))).map (·.t) = pageAt (pgU s.U) a
  t : 0 ≤ top ∧ max top (s.tr : Int) = s.T
  nn : ∀ e ∈ P, e.n < nextN (sU s.U)
  ins : ∀ g ∈ s.U, ∀ a : Nat, (∃ e ∈ P, e.n = g.num ∧ e.a = a) ↔ ∃ y ∈ pagesOf g.rs, y.1 = a
theorem find_cases (P : List RuE) (a : Int) : (P.findIdx? (fun e => decide ((e.a : Int) = a)) = none ∧ P.find? (fun e => decide ((e.a : Int) = a)) = none) ∨ ∃ (i : Nat) (hi : i < P.length), P.findIdx? (fun e => decide ((e.a : Int) = a)) = some i ∧ P.find? (fun e => decide ((e.a : Int) = a)) = some P[i] := by
  cases h : P.findIdx? (fun e => decide ((e.a : Int) = a)) with
  | none =>
    refine .inl ⟨rfl, List.find?_eq_none.2 (fun x hx => ?_)⟩
    have := List.findIdx?_eq_none_iff.1 h x hx
    simpa using this
  | some i =>
    obtain ⟨hi, h1, h2⟩ := List.findIdx?_eq_some_iff_getElem.1 h
    refine .inr ⟨i, hi, rfl, ?_⟩
    rw [List.find?_eq_some_iff_getElem]
    exact ⟨h1, i, hi, rfl, fun j hj => by simpa using h2 j hj⟩
section
variable {P : List RuE} {top : Int} {s : UnS}
theorem RefOk.get (h : RefOk P top s) (a : Nat) : (findI P s.tr a = -1 ∧ pgM s.U s.tr (a : Int) = none) ∨ ∃ (i : Nat) (hi : i < P.length), findI P s.tr a = i ∧ pgM s.U s.tr (a : Int) = some P[i].t := by
  unfold findI pgM
  by_cases e : (a : Int) < (s.tr : Int)
  · rw [if_pos e, if_pos e]; exact .inl ⟨rfl, rfl⟩
  · rw [if_neg e, if_neg e, Int.toNat_natCast, ← h.fd a (by omega)]
    rcases find_cases P (a : Int) with ⟨h1, h2⟩ | ⟨i, hi, h1, h2⟩
    · rw [h1, h2]; exact .inl ⟨rfl, rfl⟩
    · rw [h1, h2]; exact .inr ⟨i, hi, rfl, rfl⟩
theorem RefOk.has (h : RefOk P top s) (a : Nat) : decide (0 ≤ findI P s.tr (a : Int)) = (pgM s.U s.tr (a : Int)).isSome := by
  rcases h.get a with ⟨h1, h2⟩ | ⟨i, hi, h1, h2⟩
  · rw [h1, h2]; rfl
  · rw [h1, h2]; simp
theorem nextU_snoc (U : List USeg) (g : USeg) : nextN (sU (U ++ [g])) = g.num + 1 := by
  have e : sU (U ++ [g]) = sU U ++ [g.s] := by simp
  unfold nextN
  rw [e, lastN_snoc]
  show ((g.num : Int) + 1).toNat = _
  omega
/-- The segment that takes a record, and those ahead of it. -/
theorem app_cases {k n : Nat} {U V : List USeg} {x : Rc} (ha : appU k U x = some (n, V)) (hso : U.Pairwise fun g h => g.num < h.num) : ∃ M g, V = M ++ [{ g with rs := g.rs ++ [x] }] ∧ g.num = n ∧ (∀ y ∈ M, y ∈ U ∧ y.num < n) ∧ (g ∈ U ∨ g.rs = [] ∧ n = nextN (sU U)) ∧ nextN (sU V) = n + 1 ∧ nextN (sU U) ≤ n + 1 := by
  obtain ⟨h1, h2, M, g, rfl, hM⟩ := appU_qs ha
  have hn : g.num = n := by simpa using h2
  have hV : nextN (sU (M ++ [{ g with rs := g.rs ++ [x] }])) = n + 1 := by rw [nextU_snoc]; show g.num + 1 = _; omega
  refine ⟨M, g, rfl, hn, fun y hy => ?_, ?_, hV, ?_⟩
  · rcases hM with rfl | ⟨p, _, rfl, rfl⟩
    · refine ⟨by simp [hy], ?_⟩
      have := (List.pairwise_append.1 hso).2.2 y hy g (by simp); omega
    · refine ⟨hy, ?_⟩
      have h3 : nextN (sU M) = n := hn
      rw [← h3]
      exact num_le_last (L := sU M) (by rw [List.pairwise_map]; exact hso) y.s (List.mem_map.2 ⟨y, hy, rfl⟩)
  · rcases hM with rfl | ⟨p, _, rfl, rfl⟩
    · exact .inl (by simp)
    · exact .inr ⟨rfl, hn.symm⟩
  · rcases hM with rfl | ⟨p, _, rfl, rfl⟩
    · rw [nextU_snoc]; omega
    · have h3 : nextN (sU M) = n := hn
      omega
theorem RefOk.write (h : RefOk P top s) {k n a : Nat} {V : List USeg} {t : List UInt8} (ha : appU k s.U (.page a t) = some (n, V)) (hso : s.U.Pairwise fun g h => g.num < h.num) (h1 : s.tr ≤ a) (h4 : a < 4096) (hn : pgM s.U s.tr (a : Int) = none) (ht : t.length ≤ 2048) :
    RefOk (P ++ [⟨a, t, n⟩]) (max top ((a : Int) + 1)) ⟨V, s.tr, s.ep, max s.T (a + 1)⟩ := by
  have hal := allR_qs (appU_qs ha).1
  have hpg : pgU V = pgU s.U ++ [(a, t)] := by unfold pgU; rw [hal, pagesOf_append]; rfl
  have hn' : pageAt (pgU s.U) a = none := by
    unfold pgM at hn
    rw [if_neg (by omega)] at hn
    exact hn
  have htt := h.t
  obtain ⟨M, g, hV, hgn, hM, hg, hx1, hx2⟩ := app_cases ha hso
  refine ⟨fun e he => ?_, fun b hb => ?_, ⟨by omega, by show max (max top ((a : Int) + 1)) (s.tr : Int) = ((max s.T (a + 1) : Nat) : Int); omega⟩, fun e he => ?_, fun y hy b => ?_⟩
  · rcases List.mem_append.1 he with he | he
    · exact h.ok e he
    · rw [List.mem_singleton] at he; subst he; exact ⟨h4, ht⟩
  · show _ = pageAt (pgU V) b
    have hb' : s.tr ≤ b := hb
    have h0 := h.fd b hb'
    rw [hpg, pageAt_snoc, List.find?_append]
    by_cases e : a = b
    · subst e
      rw [hn'] at h0 ⊢
      have h9 : P.find? (fun e => decide ((e.a : Int) = (a : Int))) = none := by simpa using h0
      rw [h9]; simp
    · rw [← h0]
      cases P.find? (fun e => decide ((e.a : Int) = (b : Int))) with
      | some y => rfl
      | none =>
        have h8 : ¬ ((a : Int) = (b : Int)) := by omega
        simp [List.find?_cons, h8, e]
  · show e.n < nextN (sU V)
    rw [hx1]
    rcases List.mem_append.1 he with he | he
    · have := h.nn e he; omega
    · rw [List.mem_singleton] at he; subst he
      show n < n + 1; omega
  · have hy' : y ∈ V := hy
    rw [hV] at hy'
    rcases List.mem_append.1 hy' with hy | hy
    · have hyn := (hM y hy).2
      rw [← h.ins y (hM y hy).1 b]
      constructor
      · rintro ⟨e, he, e1, e2⟩
        rcases List.mem_append.1 he with he | he
        · exact ⟨e, he, e1, e2⟩
        · rw [List.mem_singleton] at he; subst he
          exact absurd (show n = y.num from e1) (by omega)
      · rintro ⟨e, he, e1, e2⟩
        exact ⟨e, by simp [he], e1, e2⟩
    · rw [List.mem_singleton] at hy; subst hy
      simp only
      have hold : (∃ e ∈ P, e.n = g.num ∧ e.a = b) ↔ ∃ y ∈ pagesOf g.rs, y.1 = b := by
        rcases hg with hg | ⟨hg1, hg2⟩
        · exact h.ins g hg b
        · rw [hg1]
          constructor
          · rintro ⟨e, he, e1, e2⟩
            have := h.nn e he
            omega
          · rintro ⟨y, hy, _⟩; simp [pagesOf] at hy
      rw [pagesOf_append]
      constructor
      · rintro ⟨e, he, e1, e2⟩
        rcases List.mem_append.1 he with he | he
        · obtain ⟨y, hy, e3⟩ := hold.1 ⟨e, he, e1, e2⟩
          exact ⟨y, by simp [hy], e3⟩
        · rw [List.mem_singleton] at he; subst he
          exact ⟨(a, t), by simp [pagesOf], e2⟩
      · rintro ⟨y, hy, e3⟩
        rcases List.mem_append.1 hy with hy | hy
        · obtain ⟨e, he, e1, e2⟩ := hold.2 ⟨y, hy, e3⟩
          exact ⟨e, by simp [he], e1, e2⟩
        · simp [pagesOf] at hy; subst hy
          exact ⟨⟨a, t, n⟩, by simp, hgn.symm, e3⟩
/-- A record that tells of no page. -/
theorem RefOk.note (h : RefOk P top s) {k n tr ep T : Nat} {V : List USeg} {x : Rc} (ha : appU k s.U x = some (n, V)) (hso : s.U.Pairwise fun g h => g.num < h.num) (hx : ∀ a t, x ≠ .page a t) (htr : s.tr ≤ tr) (hT : max top (tr : Int) = (T : Int)) :
    RefOk P top ⟨V, tr, ep, T⟩ := by
  have hal := allR_qs (appU_qs ha).1
  have hp0 : pagesOf [x] = [] := by
    cases x with
    | page a t => exact absurd rfl (hx a t)
    | trim t e => rfl
    | shut e => rfl
  have hpg : pgU V = pgU s.U := by unfold pgU; rw [hal, pagesOf_append, hp0, List.append_nil]
  obtain ⟨M, g, hV, hgn, hM, hg, hx1, hx2⟩ := app_cases ha hso
  refine ⟨h.ok, fun b hb => ?_, ⟨h.t.1, hT⟩, fun e he => ?_, fun y hy b => ?_⟩
  · show _ = pageAt (pgU V) b
    have hb' : tr ≤ b := hb
    rw [hpg]
    exact h.fd b (by omega)
  · show e.n < nextN (sU V)
    have := h.nn e he; omega
  · have hy' : y ∈ V := hy
    rw [hV] at hy'
    rcases List.mem_append.1 hy' with hy | hy
    · exact h.ins y (hM y hy).1 b
    · rw [List.mem_singleton] at hy; subst hy
      simp only
      rw [pagesOf_append, hp0, List.append_nil]
      rcases hg with hg | ⟨hg1, hg2⟩
      · exact h.ins g hg b
      · rw [hg1]
        constructor
        · rintro ⟨e, he, e1, e2⟩
          have := h.nn e he
          omega
        · rintro ⟨y, hy, _⟩; simp [pagesOf] at hy
theorem lastN_cons (g h : USeg) (t : List USeg) : nextN (sU (g :: h :: t)) = nextN (sU (h :: t)) := by
  unfold nextN lastN
  simp [List.getLast?_cons_cons]
theorem RefOk.drop {g h' : USeg} {t : List USeg} {tr ep T : Nat} (h : RefOk P top ⟨g :: h' :: t, tr, ep, T⟩) (hp : ∀ a, tr ≤ a → pageAt (pgU (h' :: t)) a = pageAt (pgU (g :: h' :: t)) a) : RefOk P top ⟨h' :: t, tr, ep, T⟩ :=
  ⟨h.ok, fun b hb => by rw [h.fd b hb, hp b hb], h.t, fun e he => by have := h.nn e he; rw [lastN_cons] at this; exact this, fun y hy b => h.ins y (List.mem_cons_of_mem _ hy) b⟩
/-- The document's test, whether a segment may be given back. -/
theorem RefOk.all {g : USeg} {U : List USeg} {tr ep T : Nat} (h : RefOk P top ⟨g :: U, tr, ep, T⟩) (to : Nat) : (pagesOf g.rs).all (fun y => decide (y.1 < to)) = P.all fun e => decide (e.n = g.num → e.a < to) := by
  rw [Bool.eq_iff_iff, List.all_eq_true, List.all_eq_true]
  constructor
  · intro h1 e he
    rw [decide_eq_true_eq]
    intro e1
    obtain ⟨y, hy, e2⟩ := (h.ins g (by simp) e.a).1 ⟨e, he, e1, rfl⟩
    have := h1 y hy
    rw [decide_eq_true_eq] at this
    omega
  · intro h1 y hy
    obtain ⟨e, he, e1, e2⟩ := (h.ins g (by simp) y.1).2 ⟨y, hy, rfl⟩
    have := h1 e he
    rw [decide_eq_true_eq] at this ⊢
    have := this e1
    omega
theorem RefOk.nil : RefOk [] 0 ⟨[], 0, 0, 0⟩ := ⟨by simp, fun a _ => rfl, by simp, by simp, by simp⟩
end
end Go.D

