/-
  WHAT IS PROVED: contracts of functions, and the plain law, for this proof. No further conditions.
-/
import Derived.Test.YtbeciidagekppaaDoorAll2
import Derived.Test.YtbeciidagekppaaDoorVClaw09
import Derived.Test.YtbeciidagekppaaDoorVCref09
set_option linter.unusedVariables false
set_option linter.unusedSimpArgs false
namespace Go.D
open Go Go.Proofs

def kindR : Rc → Int
  | .page _ _ => 1
  | .trim _ _ => 2
  | .shut _ => 3
def numR : Rc → Int
  | .page a _ => a
  | .trim t _ => t
  | .shut e => e
def textR : Rc → List UInt8
  | .page _ t => t
  | _ => []
/-- A record is written: what Append makes of it. -/
theorem record_spec9 {w : World} {n0 r st rd m : Nat} {u : StP} {q : DevP} {d : DevS} {L : List SegS} {x : UnP} {tr ep top : Int} {pg : Int → Option (List UInt8)} {ins : Int → List Int} (A : Nat → Addr) (hS : Sys w n0 st rd u q d L m) (h : UnM w r st x tr ep top pg ins) (hE : ErrsB A n0 w) (hm : m ≤ 2 ^ 60)
    (c : Rc) (hc : okR c) (hep : ∀ t e, c = .trim t e → ep = (e : Int)) (s : Slc) (hb : (∃ a t, c = .page a t) → bytesAt w s (textR c)) :
    Calls Tryd.prog fn_unit_Unit_record ⟨[ptrR' r, .int .i64 (kindR c), .int .i64 (numR c), s.v]⟩ w fun e w' => ∃ (n : Int) (e' : Option Nat) (w1 : World), e = .returned (.tuple ⟨[.int .i64 n, errO A e']⟩) ∧ Keep w w1 ∧ AppPost A w1 n0 st rd u q d L m (encR c) n e' w' := by
  refine unit_Unit_record_ok _ _ _ _ ?_
  unfold unit_Unit_record
  have hel := encR_len hc
  refine newS_mk (fun r5 w6 hr5 hb5 k6 hs5 => ?_)
  have hO : OutK A w w6 r5 ⟨none, 0, 0⟩ [] := ⟨OutS.new A hb5, fun k hk => by rw [OutM_nil hk]; omega, k6⟩
  have hk3 : 0 ≤ kindR c ∧ kindR c ≤ 3 := by cases c <;> simp [kindR]
  have hn3 : 0 ≤ numR c ∧ numR c ≤ 2 ^ 31 := by
    cases c with
    | page a t => obtain ⟨v1, _⟩ := hc; simp only [numR]; omega
    | trim t e => obtain ⟨v1, _⟩ := hc; simp only [numR]; omega
    | shut e => have v1 : e ≤ 2 ^ 30 := hc; simp only [numR]; omega
  have hl1 := numB_len (kindR c) (by omega)
  have hl2 := numB_len (numR c) (by omega)
  refine (outNum hO (by omega) (by simp) hE).mono ?_
  rintro e w8 ⟨rfl, s8, h8, _⟩
  refine ⟨rfl, (outNum h8 (by omega) (by simp; omega) hE).mono ?_⟩
  rintro e w10 ⟨rfl, s10, h10, _⟩
  refine ⟨rfl, fun w2 => ∃ s2, OutK A w w2 r5 s2 (encR c), ?_, ?_⟩
  · cases c with
    | page a t =>
      obtain ⟨v1, v2, v3⟩ := hc
      refine BIf_dec (fun _ => ⟨t, bytesAt_keep (hb ⟨a, t, rfl⟩) h10.k, (outText h10 (by omega) (by simp [kindR, numR] at hl1 hl2 ⊢; omega) hE).mono ?_⟩) (fun hh => absurd rfl hh)
      rintro e w14 ⟨rfl, s14, h14, _⟩
      exact ⟨rfl, s14, by simpa [encR, kindR, numR] using h14⟩
    | trim t e0 =>
      obtain ⟨v1, v2⟩ := hc
      have he := hep t e0 rfl
      subst he
      refine BIf_dec (fun hh => absurd hh (by simp [kindR])) (fun _ => BIf_dec (fun _ => needSome_mk rfl ⟨_, (h.keep h10.k).c.2.2.2.2.1, (outNum h10 (by omega) (by simp [kindR, numR] at hl1 hl2 ⊢; omega) hE).mono ?_⟩) (fun hh => absurd rfl hh))
      rintro e w18 ⟨rfl, s18, h18, _⟩
      exact ⟨rfl, s18, by simpa [encR, kindR, numR] using h18⟩
    | shut e0 =>
      refine BIf_dec (fun hh => absurd hh (by simp [kindR])) (fun _ => BIf_dec (fun hh => absurd hh (by simp [kindR])) (fun _ => ⟨s10, by simpa [encR, kindR, numR] using h10⟩))
  · rintro w19 ⟨s19, h19⟩
    intros
    refine (outDoneK h19 (by omega) hE).mono ?_
    rintro e w36 ⟨t, rfl, ht, htf, k36, _⟩
    have hS36 := hS.keep k36
    refine ⟨t, _, rfl, trivial, BIf_mk (fun hh => by cases hh) (fun _ => needSome_mk rfl ⟨_, (h.keep k36).c.1, ?_⟩)⟩
    refine Calls.mono (R := fun e w' => ∃ n e', e = .returned (.tuple ⟨[.int .i64 n, errO A e']⟩) ∧ AppPost A w36 n0 st rd u q d L m (encR c) n e' w') (segs_Store_Append_ok _ _ (Append_gen8 hS36 ((hE.keep k36).g.sub segG_sub) hm ht.bytes (ht.le (by omega)) (by omega) (fun _ k hk hh => ?_) (fun n e' w' hp => ⟨n, e', rfl, hp⟩))) ?_
    · have := htf k hk
      have := hS.B.lt k hh
      omega
    · rintro e w42 ⟨n, e', rfl, hp⟩
      exact ⟨n, _, rfl, n, e', w36, rfl, k36, hp⟩
end Go.D

set_option linter.unusedVariables false
set_option linter.unusedSimpArgs false
namespace Go.D
open Go

/-! ### a unit that is told its records, one after the other -/
structure UV where
  tr : Int
  ep : Int
  top : Int
  pg : Int → Option (List UInt8)
  ins : Int → List Int
def stepV (v : UV) (x : Int × Rc) : UV := ⟨tellTr v.tr x.2, tellEp v.ep x.2, tellTop v.top x.2, tellPg v.pg x.2, tellIn v.ins x.1 x.2⟩
def initV : UV := ⟨0, 0, 0, fun _ => none, fun _ => []⟩
def foldV (Q : List (Int × Rc)) : UV := Q.foldl stepV initV
theorem foldV_snoc (Q : List (Int × Rc)) (x : Int × Rc) : foldV (Q ++ [x]) = stepV (foldV Q) x := by simp [foldV]
theorem pagesOf_mem {R : List Rc} {y : Nat × List UInt8} : y ∈ pagesOf R ↔ Rc.page y.1 y.2 ∈ R := by
  induction R with
  | nil => simp [pagesOf]
  | cons c R ih => cases c <;> simp [pagesOf, ih, Prod.ext_iff]
theorem fold_inv {P : List (Int × Rc) → Prop} (h0 : P []) (hs : ∀ Q x, P Q → P (Q ++ [x])) : ∀ Q, P Q := by
  intro Q
  have key : ∀ n, P (Q.take n) := by
    intro n
    induction n with
    | zero => simpa using h0
    | succ n ih =>
      by_cases hn : n < Q.length
      · rw [List.take_succ_eq_append_getElem hn]; exact hs _ _ ih
      · rw [List.take_of_length_le (by omega)]
        rwa [List.take_of_length_le (by omega)] at ih
  have := key Q.length
  rwa [List.take_length] at this
theorem foldV_pg (Q : List (Int × Rc)) : ∀ a : Int, (∀ y ∈ pagesOf (Q.map (·.2)), (y.1 : Int) ≠ a) → (foldV Q).pg a = none := by
  refine fold_inv (P := fun Q => ∀ a : Int, (∀ y ∈ pagesOf (Q.map (·.2)), (y.1 : Int) ≠ a) → (foldV Q).pg a = none) (fun a _ => rfl) (fun Q x ih a h => ?_) Q
  rw [foldV_snoc]
  rw [List.map_append, pagesOf_append] at h
  have ih' := ih a (fun y hy => h y (by simp [hy]))
  obtain ⟨seg, c⟩ := x
  cases c with
  | page b t =>
    have hb := h (b, t) (by simp [pagesOf])
    simp only [stepV, tellPg, updI]
    rw [if_neg (fun e => hb e.symm)]
    exact ih'
  | trim t e => exact ih'
  | shut e => exact ih'
theorem foldV_top (Q : List (Int × Rc)) (hq : ∀ x ∈ Q, okR x.2) : 0 ≤ (foldV Q).top ∧ (foldV Q).top ≤ 4096 := by
  refine fold_inv (P := fun Q => (∀ x ∈ Q, okR x.2) → 0 ≤ (foldV Q).top ∧ (foldV Q).top ≤ 4096) (fun _ => by simp [foldV, initV]) (fun Q x ih h => ?_) Q hq
  rw [foldV_snoc]
  have ih' := ih (fun y hy => h y (by simp [hy]))
  have hx := h x (by simp)
  obtain ⟨seg, c⟩ := x
  cases c with
  | page b t =>
    obtain ⟨v1, _⟩ := hx
    simp only [stepV, tellTop]
    omega
  | trim t e => exact ih'
  | shut e => exact ih'
theorem foldV_ins (Q : List (Int × Rc)) : ∀ n, ((foldV Q).ins n).length ≤ Q.length := by
  refine fold_inv (P := fun Q => ∀ n, ((foldV Q).ins n).length ≤ Q.length) (fun n => by simp [foldV, initV]) (fun Q x ih n => ?_) Q
  rw [foldV_snoc, List.length_append, List.length_singleton]
  have ih' := ih n
  obtain ⟨seg, c⟩ := x
  cases c with
  | page b t =>
    simp only [stepV, tellIn, updI]
    by_cases e : n = seg
    · rw [if_pos e, List.length_append, List.length_singleton]
      subst e; omega
    · rw [if_neg e]; omega
  | trim t e => simp only [stepV, tellIn]; omega
  | shut e => simp only [stepV, tellIn]; omega
end Go.D

set_option linter.unusedVariables false
set_option linter.unusedSimpArgs false
namespace Go.D
open Go Go.Proofs

def qs1 (g : USeg) : List (Int × Rc) := g.rs.map fun c => ((g.num : Int), c)
def qsU (U : List USeg) : List (Int × Rc) := U.flatMap qs1
theorem qsU_snd (U : List USeg) : (qsU U).map (·.2) = allR U := by
  induction U with
  | nil => rfl
  | cons g U ih =>
    simp only [qsU, allR, List.flatMap_cons, List.map_append] at ih ⊢
    rw [ih]
    congr 1
    unfold qs1
    rw [List.map_map]
    exact List.map_id _
theorem qsU_take (U : List USeg) (j : Nat) (hj : j < U.length) : qsU (U.take (j + 1)) = qsU (U.take j) ++ qs1 U[j] := by
  unfold qsU
  rw [List.take_succ_eq_append_getElem hj, List.flatMap_append, List.flatMap_cons, List.flatMap_nil, List.append_nil]
/-- The records ahead of one, and behind it. -/
theorem qsU_split (U : List USeg) (j n : Nat) (hj : j < U.length) (hn : n < U[j].rs.length) : ∃ R, qsU U = (qsU (U.take j) ++ (qs1 U[j]).take n) ++ (((U[j].num : Int), U[j].rs[n]) :: R) := by
  have e : U = U.take j ++ (U[j] :: U.drop (j + 1)) := by
    rw [← List.drop_eq_getElem_cons hj, List.take_append_drop]
  have hq : n < (qs1 U[j]).length := by simpa [qs1] using hn
  have e2 : qs1 U[j] = (qs1 U[j]).take n ++ ((qs1 U[j])[n] :: (qs1 U[j]).drop (n + 1)) := by
    rw [← List.drop_eq_getElem_cons hq, List.take_append_drop]
  have e3 : (qs1 U[j])[n] = ((U[j].num : Int), U[j].rs[n]) := by simp [qs1]
  refine ⟨(qs1 U[j]).drop (n + 1) ++ qsU (U.drop (j + 1)), ?_⟩
  have h1 : qsU U = qsU (U.take j) ++ (qs1 U[j] ++ qsU (U.drop (j + 1))) := by
    conv => lhs; rw [e]
    unfold qsU
    rw [List.flatMap_append, List.flatMap_cons]
  rw [h1]
  conv => lhs; rw [e2]
  rw [e3]
  simp
/-- A page that is told is not there yet. -/
theorem new_page {Q R : List (Int × Rc)} {seg : Int} {a : Nat} {t : List UInt8} (hn : ((pagesOf ((Q ++ ((seg, Rc.page a t) :: R)).map (·.2))).map (·.1)).Nodup) : (foldV Q).pg (a : Int) = none := by
  refine foldV_pg Q _ (fun y hy e => ?_)
  rw [List.map_append, pagesOf_append, List.map_append] at hn
  have h1 := (List.nodup_append.1 hn).2.2 y.1 (List.mem_map.2 ⟨y, hy, rfl⟩) a (by simp [pagesOf])
  omega
end Go.D

set_option linter.unusedVariables false
set_option linter.unusedSimpArgs false
namespace Go.D
open Go

/-! ### what a unit holds, plainly -/
def pgM (U : List USeg) (tr : Nat) (a : Int) : Option (List UInt8) := if a < (tr : Int) then none else pageAt (pgU U) a.toNat
def insU (U : List USeg) (n : Int) : List Int := (pagesOf (((qsU U).filter fun x => decide (x.1 = n)).map (·.2))).map fun y => (y.1 : Int)
theorem foldV_te (Q : List (Int × Rc)) : (foldV Q).tr = ((teOf (Q.map (·.2))).1 : Int) ∧ (foldV Q).ep = ((teOf (Q.map (·.2))).2 : Int) := by
  refine fold_inv (P := fun Q => (foldV Q).tr = ((teOf (Q.map (·.2))).1 : Int) ∧ (foldV Q).ep = ((teOf (Q.map (·.2))).2 : Int)) (by simp [foldV, initV, teOf]) (fun Q x ih => ?_) Q
  obtain ⟨seg, c⟩ := x
  rw [foldV_snoc, List.map_append, List.map_cons, List.map_nil, teOf_snoc]
  cases c with
  | page b t => exact ih
  | trim t e => exact ⟨rfl, rfl⟩
  | shut e => exact ⟨ih.1, rfl⟩
theorem foldV_topOf (Q : List (Int × Rc)) : (foldV Q).top = ((topOf (pagesOf (Q.map (·.2)))) : Int) := by
  refine fold_inv (P := fun Q => (foldV Q).top = ((topOf (pagesOf (Q.map (·.2)))) : Int)) (by simp [foldV, initV, topOf, pagesOf]) (fun Q x ih => ?_) Q
  obtain ⟨seg, c⟩ := x
  rw [foldV_snoc, List.map_append, List.map_cons, List.map_nil, pagesOf_append]
  cases c with
  | page b t =>
    simp only [stepV, tellTop, pagesOf]
    rw [topOf_snoc, ih]; omega
  | trim t e => simpa [stepV, tellTop, pagesOf] using ih
  | shut e => simpa [stepV, tellTop, pagesOf] using ih
theorem foldV_pgAt (Q : List (Int × Rc)) (hn : ((pagesOf (Q.map (·.2))).map (·.1)).Nodup) (a : Nat) : (foldV Q).pg (a : Int) = pageAt (pagesOf (Q.map (·.2))) a := by
  revert hn
  refine fold_inv (P := fun Q => ((pagesOf (Q.map (·.2))).map (·.1)).Nodup → (foldV Q).pg (a : Int) = pageAt (pagesOf (Q.map (·.2))) a) (fun _ => by simp [foldV, initV, pageAt, pagesOf]) (fun Q x ih hn => ?_) Q
  obtain ⟨seg, c⟩ := x
  rw [List.map_append, List.map_cons, List.map_nil, pagesOf_append] at hn ⊢
  rw [foldV_snoc]
  have hq : ((pagesOf (Q.map (·.2))).map (·.1)).Nodup := by rw [List.map_append] at hn; exact (List.nodup_append.1 hn).1
  have ih' := ih hq
  cases c with
  | page b t =>
    simp only [stepV, tellPg, pagesOf, updI]
    rw [pageAt_snoc]
    by_cases e : (a : Int) = (b : Int)
    · have e2 : b = a := by omega
      subst e2
      rw [if_pos rfl]
      have : pageAt (pagesOf (Q.map (·.2))) b = none := pageAt_none.2 (fun y hy e => by
        rw [List.map_append] at hn
        exact (List.nodup_append.1 hn).2.2 y.1 (List.mem_map.2 ⟨y, hy, rfl⟩) b (by simp [pagesOf]) e)
      rw [this]; simp
    · rw [if_neg e, ih']
      cases pageAt (pagesOf (Q.map (·.2))) a with
      | some y => rfl
      | none => simp only; rw [if_neg (by omega)]
  | trim t e => simpa [stepV, tellPg, pagesOf] using ih'
  | shut e => simpa [stepV, tellPg, pagesOf] using ih'
theorem foldV_insAt (Q : List (Int × Rc)) (n : Int) : (foldV Q).ins n = (pagesOf ((Q.filter fun x => decide (x.1 = n)).map (·.2))).map fun y => (y.1 : Int) := by
  refine fold_inv (P := fun Q => (foldV Q).ins n = (pagesOf ((Q.filter fun x => decide (x.1 = n)).map (·.2))).map fun y => (y.1 : Int)) (by simp [foldV, initV, pagesOf]) (fun Q x ih => ?_) Q
  obtain ⟨seg, c⟩ := x
  rw [foldV_snoc, List.filter_append, List.map_append, pagesOf_append, List.map_append, ← ih]
  by_cases e : seg = n
  · subst e
    cases c with
    | page b t => simp [stepV, tellIn, updI, pagesOf]
    | trim t e => simp [stepV, tellIn, pagesOf]
    | shut e => simp [stepV, tellIn, pagesOf]
  · have e' : ¬ n = seg := fun h => e h.symm
    cases c with
    | page b t => simp [stepV, tellIn, updI, pagesOf, e, e']
    | trim t e1 => simp [stepV, tellIn, pagesOf, e]
    | shut e1 => simp [stepV, tellIn, pagesOf, e]
/-- Opened: what the records tell is what the unit holds. -/
theorem foldV_unit {U : List USeg} {tr ep T : Nat} (h : UnOk U tr ep T) : (foldV (qsU U)).tr = (tr : Int) ∧ (foldV (qsU U)).ep = (ep : Int) ∧ max (foldV (qsU U)).top (tr : Int) = (T : Int) ∧ cutPg (tr : Int) (foldV (qsU U)).pg = pgM U tr ∧ (foldV (qsU U)).ins = insU U := by
  have h1 := foldV_te (qsU U)
  have h2 := foldV_topOf (qsU U)
  have hte := h.te
  have htl := h.tl
  rw [qsU_snd] at h1 h2
  rw [hte] at h1
  refine ⟨h1.1, h1.2, ?_, ?_, funext fun n => foldV_insAt _ n⟩
  · rw [h2]; show max ((topOf (pgU U) : Nat) : Int) (tr : Int) = T
    omega
  · funext a
    unfold cutPg pgM
    split
    · rfl
    · rename_i ha
      obtain ⟨b, rfl⟩ : ∃ b : Nat, a = b := ⟨a.toNat, by omega⟩
      rw [foldV_pgAt _ (by rw [qsU_snd]; exact h.nd), qsU_snd]; rfl

/-! ### a record more, and a segment less -/
theorem qsU_append (U V : List USeg) : qsU (U ++ V) = qsU U ++ qsU V := by simp [qsU]
theorem qsU_one (g : USeg) : qsU [g] = qs1 g := by simp [qsU]
theorem qsU_add (M : List USeg) (g : USeg) (x : Rc) : qsU (M ++ [{ g with rs := g.rs ++ [x] }]) = qsU (M ++ [g]) ++ [((g.num : Int), x)] := by
  rw [qsU_append, qsU_append, qsU_one, qsU_one, List.append_assoc]
  simp [qs1]
theorem qsU_new (U : List USeg) (p n : Nat) : qsU (U ++ [⟨p, n, []⟩]) = qsU U := by rw [qsU_append, qsU_one]; simp [qs1]
theorem insU_qs {U V : List USeg} {n : Int} {x : Rc} (h : qsU V = qsU U ++ [(n, x)]) : insU V = tellIn (insU U) n x := by
  funext k
  have e0 : insU V k = insU U k ++ (pagesOf (([(n, x)].filter fun x => decide (x.1 = k)).map (·.2))).map fun y => (y.1 : Int) := by
    unfold insU
    rw [h, List.filter_append, List.map_append, pagesOf_append, List.map_append]
  rw [e0]
  by_cases e : k = n
  · subst e
    cases x <;> simp [tellIn, updI, pagesOf]
  · have e' : ¬ n = k := fun h => e h.symm
    cases x <;> simp [tellIn, updI, pagesOf, e, e']
theorem insU_new (U : List USeg) (p n : Nat) : insU (U ++ [⟨p, n, []⟩]) = insU U := by funext k; unfold insU; rw [qsU_new]
theorem filter_none {g : USeg} {n : Int} (h : (g.num : Int) ≠ n) : (qs1 g).filter (fun x => decide (x.1 = n)) = [] := by
  rw [List.filter_eq_nil_iff]
  intro x hx
  obtain ⟨c, _, rfl⟩ := List.mem_map.1 hx
  simpa using h
theorem filter_all (g : USeg) : (qs1 g).filter (fun x => decide (x.1 = (g.num : Int))) = qs1 g := by
  rw [List.filter_eq_self]
  intro x hx
  obtain ⟨c, _, rfl⟩ := List.mem_map.1 hx
  simp
theorem filter_noneU {U : List USeg} {n : Int} (h : ∀ g ∈ U, (g.num : Int) ≠ n) : (qsU U).filter (fun x => decide (x.1 = n)) = [] := by
  induction U with
  | nil => rfl
  | cons g U ih =>
    rw [show g :: U = [g] ++ U from rfl, qsU_append, qsU_one, List.filter_append, filter_none (h g (by simp)), ih (fun g' hg' => h g' (by simp [hg']))]; rfl
theorem insU_head {g : USeg} {U : List USeg} (h : ∀ g' ∈ U, g'.num ≠ g.num) : insU (g :: U) (g.num : Int) = (pagesOf g.rs).map fun y => (y.1 : Int) := by
  unfold insU
  rw [show g :: U = [g] ++ U from rfl, qsU_append, qsU_one, List.filter_append, filter_all, filter_noneU (fun g' hg' e => h g' hg' (by omega)), List.append_nil]
  congr 2
  unfold qs1
  rw [List.map_map]
  exact List.map_id _
theorem insU_drop {g : USeg} {U : List USeg} (h : ∀ g' ∈ U, g'.num ≠ g.num) : insU U = updI (insU (g :: U)) (g.num : Int) [] := by
  funext k
  unfold updI
  by_cases e : k = (g.num : Int)
  · rw [if_pos e]
    unfold insU
    rw [e, filter_noneU (fun g' hg' e => h g' hg' (by omega))]; rfl
  · rw [if_neg e]
    unfold insU
    rw [show g :: U = [g] ++ U from rfl, qsU_append, qsU_one, List.filter_append, filter_none (fun h => e h.symm), List.nil_append]
theorem insU_len (U : List USeg) (n : Int) : (insU U n).length ≤ (pgU U).length := by
  unfold insU pgU
  rw [← qsU_snd, List.length_map]
  have key : ∀ Q : List (Int × Rc), (pagesOf ((Q.filter fun x => decide (x.1 = n)).map (·.2))).length ≤ (pagesOf (Q.map (·.2))).length := by
    intro Q
    induction Q with
    | nil => simp
    | cons x Q ih =>
      obtain ⟨s, c⟩ := x
      by_cases e : s = n
      · rw [List.filter_cons_of_pos (by simpa using e)]
        cases c <;> simp only [List.map_cons, pagesOf, List.length_cons] <;> omega
      · rw [List.filter_cons_of_neg (by simpa using e)]
        cases c <;> simp only [List.map_cons, pagesOf, List.length_cons] <;> omega
  exact key _

/-! ### what a unit does, plainly -/
def appU (k : Nat) (U : List USeg) (x : Rc) : Option (Nat × List USeg) :=
  if fitsL (sU U) (encR x).length then (if h : U ≠ [] then some ((U.getLast h).num, U.dropLast ++ [{ U.getLast h with rs := (U.getLast h).rs ++ [x] }]) else none)
  else match freeP k (sU U) with
    | none => none
    | some p => some (nextN (sU U), U ++ [⟨p, nextN (sU U), [x]⟩])
def baseU (k : Nat) (U : List USeg) (n : Nat) : List USeg :=
  if fitsL (sU U) n then U else match freeP k (sU U) with
    | none => U
    | some p => U ++ [⟨p, nextN (sU U), []⟩]
theorem fits_ne {U : List USeg} {n : Nat} (h : fitsL (sU U) n = true) : U ≠ [] := fun e => by subst e; simp [fitsL] at h
theorem appU_ok {k : Nat} {U : List USeg} {x : Rc} (h : okR x) : appR k (sU U) (encR x) = match appU k U x with | none => (some 12, 0, sU U) | some (n, V) => (none, (n : Int), sU V) := by
  have hl := encR_len h
  have hap : appR k (sU U) (encR x) = match baseL k (sU U) (encR x).length with | none => (some 12, 0, sU U) | some L0 => (none, lastN L0, addRec L0 (encR x)) := by
    unfold appR; rw [if_neg (by omega)]; try rfl
  rw [hap]
  unfold appU baseL
  by_cases hf : fitsL (sU U) (encR x).length = true
  · have hne := fits_ne hf
    rw [if_pos hf, if_pos hf, dif_pos hne]
    have e : U.dropLast ++ [U.getLast hne] = U := List.dropLast_concat_getLast hne
    have e1 : sU U = sU U.dropLast ++ [(U.getLast hne).s] := by rw [show sU U = sU (U.dropLast ++ [U.getLast hne]) by rw [e]]; simp
    have e2 : sU (U.dropLast ++ [{ U.getLast hne with rs := (U.getLast hne).rs ++ [x] }]) = sU U.dropLast ++ [{ (U.getLast hne).s with recs := (U.getLast hne).s.recs ++ [encR x] }] := by simp [USeg.s]
    simp only
    rw [e1, lastN_snoc, addRec_snoc, e2]; rfl
  · rw [if_neg hf, if_neg hf]
    cases hp : freeP k (sU U) with
    | none => rfl
    | some p =>
      simp only [Option.map_some]
      unfold takeL
      rw [lastN_snoc, addRec_snoc]
      simp [USeg.s]
/-- What an append makes: the records' order, and the segment. -/
theorem appU_qs {k : Nat} {U V : List USeg} {x : Rc} {n : Nat} (h : appU k U x = some (n, V)) : qsU V = qsU U ++ [((n : Int), x)] ∧ (V.getLast?.map (·.num)) = some n ∧ (∃ M g, V = M ++ [{ g with rs := g.rs ++ [x] }] ∧ (M ++ [g] = U ∨ ∃ p, freeP k (sU U) = some p ∧ M = U ∧ g = ⟨p, nextN (sU U), []⟩)) := by
  unfold appU at h
  by_cases hf : fitsL (sU U) (encR x).length = true
  · have hne := fits_ne hf
    rw [if_pos hf, dif_pos hne] at h
    cases h
    have e : U.dropLast ++ [U.getLast hne] = U := List.dropLast_concat_getLast hne
    refine ⟨?_, by simp, U.dropLast, U.getLast hne, rfl, .inl e⟩
    rw [qsU_add, e]
  · rw [if_neg hf] at h
    cases hp : freeP k (sU U) with
    | none => rw [hp] at h; cases h
    | some p =>
      rw [hp] at h
      cases h
      refine ⟨?_, by simp, U, ⟨p, nextN (sU U), []⟩, by simp, .inr ⟨p, hp.symm ▸ rfl, rfl, rfl⟩⟩
      rw [qsU_append, qsU_one]; simp [qs1]
theorem allR_qs {U V : List USeg} {n : Int} {x : Rc} (h : qsU V = qsU U ++ [(n, x)]) : allR V = allR U ++ [x] := by
  rw [← qsU_snd, h, List.map_append, qsU_snd]; rfl
theorem appU_ok2 {k : Nat} {U V : List USeg} {x : Rc} {n : Nat} (h : appU k U x = some (n, V)) (hU : okU U) (hx : okR x) : okU V := by
  obtain ⟨_, _, M, g, rfl, hM⟩ := appU_qs h
  refine okU_add ?_ hx
  rcases hM with rfl | ⟨p, _, rfl, rfl⟩
  · exact hU
  · intro y hy z hz
    rcases List.mem_append.1 hy with hy | hy
    · exact hU y hy z hz
    · rw [List.mem_singleton] at hy; subst hy; simp at hz
end Go.D

set_option linter.unusedVariables false
set_option linter.unusedSimpArgs false
namespace Go.D
open Go Go.Proofs

/-! ### a unit, its store and its device -/
structure UnS where
  U : List USeg
  tr : Nat
  ep : Nat
  T : Nat
structure UnF where
  st : Nat
  x : UnP
  u : StP
  q : DevP
  top : Int
def UB (r rd : Nat) (f : UnF) (k : Nat) : Prop := UnW r f.x k ∨ SysB f.st f.u rd f.q k
structure UAt (w : World) (n0 r rd : Nat) (f : UnF) (d : DevS) (s : UnS) (m : Nat) : Prop where
  S : Sys w n0 f.st rd f.u f.q d (sU s.U) m
  M : UnM w r f.st f.x s.tr s.ep f.top (pgM s.U s.tr) (insU s.U)
  O : UnOk s.U s.tr s.ep s.T
  t : 0 ≤ f.top ∧ max f.top (s.tr : Int) = s.T
  T : s.T ≤ 4096 ∧ s.ep ≤ 2 ^ 30
  sep : ∀ k, UnW r f.x k → ¬ SysB f.st f.u rd f.q k
  ysep : ∀ k, UnY f.x k → ¬ UB r rd f k
  n : ∀ k, UnW r f.x k → n0 ≤ k
section
variable {w w' : World} {n0 r rd m : Nat} {f : UnF} {d : DevS} {s : UnS}
theorem UAt.ext {M : Nat → Prop} (h : UAt w n0 r rd f d s m) (he : Ext M w w') (h1 : ∀ k, UB r rd f k → ¬ M k) (h2 : ∀ k, UnY f.x k → ¬ M k) : UAt w' n0 r rd f d s m :=
  ⟨h.S.ext he (fun k hk => h1 k (.inr hk)), h.M.ext he (fun k hk => h1 k (.inl hk)) h2, h.O, h.t, h.T, h.sep, h.ysep, h.n⟩
theorem UAt.keep (h : UAt w n0 r rd f d s m) (he : Keep w w') : UAt w' n0 r rd f d s m := h.ext he (fun _ _ h => h) (fun _ _ h => h)
theorem UAt.lt (h : UAt w n0 r rd f d s m) : (∀ k, UB r rd f k → k < w.heap.size) ∧ ∀ k, UnY f.x k → k < w.heap.size :=
  ⟨fun k hk => hk.elim (h.M.lt.1 k) (h.S.B.lt k), h.M.lt.2⟩
theorem UAt.ge (h : UAt w n0 r rd f d s m) : ∀ k, UB r rd f k → n0 ≤ k := fun k hk => hk.elim (h.n k) (SysB_ge h.S k)
theorem UAt.up (h : UAt w n0 r rd f d s m) {m' : Nat} (hm : m ≤ m') : UAt w n0 r rd f d s m' := ⟨h.S.up hm, h.M, h.O, h.t, h.T, h.sep, h.ysep, h.n⟩
end
theorem pairwise_sU {R : Nat → Nat → Prop} {U : List USeg} (h : (sU U).Pairwise fun g h => R g.num h.num) : U.Pairwise fun g h => R g.num h.num := by
  rw [List.pairwise_map] at h
  exact h
theorem recsOf_mem9 {U : List USeg} (h : U.Pairwise fun g h => g.num < h.num) {g : USeg} (hg : g ∈ U) : recsOf (g.num : Int) (sU U) = g.rs.map encR := by
  unfold recsOf
  rcases seek_cases (fun x => decide ((x.num : Int) = (g.num : Int))) (sU U) with ⟨_, h2, _⟩ | ⟨i, hi, _, h2, h3, _⟩
  · have := h2 g.s (List.mem_map.2 ⟨g, hg, rfl⟩)
    simp [USeg.s] at this
  · rw [h3]
    obtain ⟨j, hj, rfl⟩ := List.getElem_of_mem hg
    have hi' : i < U.length := by simpa using hi
    have e1 : (sU U)[i] = U[i].s := List.getElem_map _
    rw [e1] at h2 ⊢
    have h4 : (U[i].num : Int) = (U[j].num : Int) := of_decide_eq_true h2
    have hp := List.pairwise_iff_getElem.1 h
    rcases Nat.lt_trichotomy i j with h5 | h5 | h5
    · have := hp i j hi' hj h5; omega
    · subst h5; rfl
    · have := hp j i hj hi' h5; omega
theorem recs_small9 {S : Nat → List UInt8} {k : Nat} {L : List SegS} (h : ImgOk S k L) : ∀ g ∈ L, g.recs.length ≤ 2 ^ 20 ∧ ∀ b ∈ g.recs, b.length ≤ 2 ^ 20 := by
  intro g hg
  have hon := h.on g hg
  have hf := hon.fin
  have h1 := sumN_ge g.recs
  unfold SegS.fin at hf
  exact ⟨by omega, fun b hb => by have := (recsOn_bytes hon.2 b hb).2; omega⟩
theorem nodup_4096 {l : List Nat} (hn : l.Nodup) (hl : ∀ x ∈ l, x < 4096) : l.length ≤ 4096 := by
  have := nodup_len9 hn (b := List.range 4096) (fun x hx => List.mem_range.2 (hl x hx))
  rwa [List.length_range] at this
theorem pages_ok {R : List Rc} (h : ∀ x ∈ R, okR x) : ∀ y ∈ pagesOf R, y.1 < 4096 ∧ 1 ≤ y.2.length ∧ y.2.length ≤ 2048 := fun y hy => h _ (pagesOf_mem.1 hy)
theorem UnOk.pages {U : List USeg} {tr ep T : Nat} (h : UnOk U tr ep T) : ∀ y ∈ pgU U, y.1 < 4096 ∧ 1 ≤ y.2.length ∧ y.2.length ≤ 2048 :=
  pages_ok (fun x hx => by
    obtain ⟨g, hg, hx⟩ := List.mem_flatMap.1 hx
    exact h.ok g hg x hx)
theorem UnOk.few {U : List USeg} {tr ep T : Nat} (h : UnOk U tr ep T) : (pgU U).length ≤ 4096 := by
  have := nodup_4096 h.nd (fun x hx => by
    obtain ⟨y, hy, rfl⟩ := List.mem_map.1 hx
    exact (h.pages y hy).1)
  rwa [List.length_map] at this
theorem UnOk.ins_few {U : List USeg} {tr ep T : Nat} (h : UnOk U tr ep T) (n : Int) : (insU U n).length ≤ 4096 := Nat.le_trans (insU_len U n) h.few

/-- A unit is opened. -/
theorem Open_spec9 {w1 : World} {n0 rd m : Nat} {q : DevP} {d : DevS} {U : List USeg} {tr ep T : Nat} (A : Nat → Addr) (hE : ErrsB A n0 w1) (hD : DevAt w1 rd q d) (hp : d.pend = []) (hI : ImgOk (secI d.img) (d.n / 64) (sU U)) (hO : UnOk U tr ep T) (hT : T ≤ 4096 ∧ ep ≤ 2 ^ 30)
    (hk : 1 ≤ d.n / 64 ∧ d.n / 64 < 20) (hN : ∀ g ∈ sU U, g.num < m) (hm : m ≤ 2 ^ 60) (hdn : ∀ k, DevB rd q k → n0 ≤ k) (hz : n0 ≤ w1.heap.size) :
    Calls Tryd.prog fn_unit_Open ⟨[ptrR' rd]⟩ w1 fun e w2 => ∃ (r : Nat) (f : UnF), e = .returned (.tuple ⟨[ptrR' r, .nilIface]⟩) ∧ UAt w2 n0 r rd f d ⟨U, tr, ep, T⟩ m ∧ f.q = q ∧ (∀ k, UB r rd f k → DevB rd q k ∨ w1.heap.size ≤ k) ∧ (∀ k, UnY f.x k → w1.heap.size ≤ k) ∧ Keep w1 w2 := by
  refine unit_Open_ok _ ?_
  unfold unit_Open
  refine (open_sys8 A (hE.g.sub segG_sub) hD hp hI hk hN hm hdn hz).mono ?_
  rintro e w3 ⟨st, u, rfl, hS, hfr, k3⟩
  refine ⟨_, _, rfl, trivial, BIf_mk (fun h => by cases h) (fun _ => newS_mk (fun r6 w7 hr6 hb6 k7 hs7 => newS_mk (fun r8 w9 hr8 hb8 k9 hs9 => newS_mk (fun r10 w11 hr10 hb10 k11 hs11 => ?_))))⟩
  have p6 : MapB KS w11 r6 [] := ((MapB.new hb6).keep k9).keep k11
  have p8 : MapB KS w11 r8 [] := (MapB.new hb8).keep k11
  have k311 : Keep w3 w11 := (k7.trans k9).trans k11
  have hUL := hS.len
  have hULe : (sU U).length = U.length := by simp
  have z3 := k3.size
  have U0 : UnM w11 r10 st ⟨r6, r8, [], []⟩ initV.tr initV.ep initV.top initV.pg initV.ins := by
    refine ⟨ObjAt.new hb10 (clear0 _), p6, p8, by show r6 ≠ r8; omega, fun a => ⟨fun s hs => by simp [lookL] at hs, fun _ => rfl⟩, fun n => by simpa [lookL, initV] using IntsAt.nil w11, fun n m s t hs => by simp [lookL] at hs, fun n s hs => by simp [lookL] at hs, fun a s hs => by simp [lookL] at hs⟩
  have hnd := hO.nd
  have hso := pairwise_sU (R := fun a b => a < b) hI.so
  refine (Segments_spec8 (hS.keep k311).B.S (by omega)).mono ?_
  rintro e w13 ⟨s14, rfl, hI14, hf14, k13⟩
  have W0 : ∀ k, UnW r10 ⟨r6, r8, [], []⟩ k → w3.heap.size ≤ k ∧ k < w11.heap.size := by
    rintro k (hk | hk | hk | ⟨n, s, hs, _⟩)
    · omega
    · have hk' : k = r6 := hk; omega
    · have hk' : k = r8 := hk; omega
    · simp [lookL] at hs
  have hl14 : s14.l = U.length := by
    have := Rows.sl hI14
    simpa using this
  have hid : ∀ w2, Keep w3 w2 → ErrsB A n0 w2 := fun w2 hk2 => (hE.keep k3).keep hk2
  have n3 : n0 ≤ w3.heap.size := by omega
  refine ⟨s14, rfl, fun i w2 => ∃ (j : Nat) (x : UnP), i = j ∧ j ≤ U.length ∧ UnM w2 r10 st x (foldV (qsU (U.take j))).tr (foldV (qsU (U.take j))).ep (foldV (qsU (U.take j))).top (foldV (qsU (U.take j))).pg (foldV (qsU (U.take j))).ins ∧
      Keep w3 w2 ∧ (∀ k, UnW r10 x k → w3.heap.size ≤ k ∧ ¬ ownB s14 k) ∧ (∀ k, UnY x k → w3.heap.size ≤ k) ∧ IntsAt w2 s14 ((sU U).map fun g => (g.num : Int)), fun i _ => ((U.length : Int) - i).toNat,
    ⟨0, _, rfl, by omega, by simpa [qsU, foldV] using U0.keep k13, k311.trans k13, fun k hk => ⟨(W0 k hk).1, fun hh => by have := hf14 k hh; have := (W0 k hk).2; omega⟩, (by rintro k ⟨a, s, hs, _⟩; simp [lookL] at hs), hI14⟩, ?_⟩
  rintro i w18 ⟨j, x, rfl, hj, hU, hk18, hW, hY, hI18⟩
  intros
  have z18 := hk18.size
  refine BIf_dec (fun h0 => ?_) (fun h0 => ?_)
  · have hjl : j < U.length := by omega
    obtain ⟨a44, ha44, hc44⟩ := hI18.get (i := j) (by simpa using hjl)
    have hnum : (((sU U).map fun g => (g.num : Int))[j]'(by simpa using hjl)) = (U[j].num : Int) := by simp [USeg.s]
    rw [hnum] at hc44
    refine needSome_mk ha44 ⟨by omega, h0, _, by rw [Int.toNat_natCast]; exact hc44, (Records_specF (hS.keep hk18).B.S (U[j].num : Int) (by omega) (recs_small9 hI)).mono ?_⟩
    rintro e w47 ⟨s48, css, rfl, hR47, k47, hf48, hfc⟩
    rw [recsOf_mem9 hso (List.getElem_mem hjl)] at hR47
    have hl48 : s48.l = U[j].rs.length := by
      have := hR47.sl
      simpa using this
    have ltU := hU.lt
    have hfew : U[j].rs.length ≤ 2 ^ 20 := by
      have := (recs_small9 hI U[j].s (List.mem_map.2 ⟨_, List.getElem_mem hjl, rfl⟩)).1
      simpa [USeg.s] using this
    refine ⟨s48, rfl, fun i w2 => ∃ (n : Nat) (x : UnP), i = n ∧ n ≤ U[j].rs.length ∧ UnM w2 r10 st x (foldV (qsU (U.take j) ++ (qs1 U[j]).take n)).tr (foldV (qsU (U.take j) ++ (qs1 U[j]).take n)).ep (foldV (qsU (U.take j) ++ (qs1 U[j]).take n)).top (foldV (qsU (U.take j) ++ (qs1 U[j]).take n)).pg (foldV (qsU (U.take j) ++ (qs1 U[j]).take n)).ins ∧
      Keep w3 w2 ∧ (∀ k, UnW r10 x k → w3.heap.size ≤ k ∧ ¬ ownB s14 k ∧ ¬ ownB s48 k ∧ ¬ footC css k) ∧ (∀ k, UnY x k → w3.heap.size ≤ k) ∧ IntsAt w2 s14 ((sU U).map fun g => (g.num : Int)) ∧ Rows BytR w2 s48 (U[j].rs.map encR) css, fun i _ => ((U[j].rs.length : Int) - i).toNat,
      ⟨0, x, rfl, by omega, by simpa using hU.keep k47, hk18.trans k47, fun k hk => ⟨(hW k hk).1, (hW k hk).2, fun hh => ?_, fun hh => ?_⟩, hY, hI18.keep k47, hR47⟩, ?_⟩
    · have := hf48 k hh; have := ltU.1 k hk; omega
    · have := hfc k hh; have := ltU.1 k hk; omega
    rintro i w52 ⟨n, x, rfl, hn, hU, hk52, hW, hY, hI52, hR52⟩
    intros
    refine BIf_dec (fun h1 => ?_) (fun h1 => ?_)
    · have hnl : n < U[j].rs.length := by omega
      have hnc : n < css.length := by rw [hR52.len]; simpa using hnl
      obtain ⟨a68, ha68, _, hrow⟩ := hR52.get (i := n) hnc
      obtain ⟨s69, hcs, hb69⟩ := hR52.row n hnc (by simpa using hnl)
      rw [hcs] at hrow
      have hb69' : bytesAt w52 s69 (encR U[j].rs[n]) := by simpa using hb69
      obtain ⟨R, hsp⟩ := qsU_split U j n hjl hnl
      have hok : okR U[j].rs[n] := hO.ok _ (List.getElem_mem hjl) _ (List.getElem_mem hnl)
      have hndQ := hnd
      have hQok : ∀ y ∈ qsU (U.take j) ++ (qs1 U[j]).take n, okR y.2 := fun y hy => by
        have h9 : y ∈ qsU U := by rw [hsp]; exact List.mem_append_left _ hy
        obtain ⟨g, hg, hy'⟩ := List.mem_flatMap.1 h9
        obtain ⟨c, hc, rfl⟩ := List.mem_map.1 hy'
        exact hO.ok g hg c hc
      have hlenI : ((foldV (qsU (U.take j) ++ (qs1 U[j]).take n)).ins (U[j].num : Int)).length < 2 ^ 20 := by
        rw [foldV_insAt]
        have e1 : ∀ Q Q2 : List (Int × Rc), (pagesOf (((Q.filter fun x => decide (x.1 = (U[j].num : Int)))).map (·.2))).length ≤ (insU U (U[j].num : Int)).length ∨ ¬ (qsU U = Q ++ Q2) := fun Q Q2 => by
          by_cases e : qsU U = Q ++ Q2
          · left
            unfold insU
            rw [e, List.filter_append, List.map_append, pagesOf_append, List.map_append, List.length_append, List.length_map]; omega
          · exact .inr e
        have e2 := (e1 (qsU (U.take j) ++ (qs1 U[j]).take n) _).resolve_right (fun hh => hh hsp)
        have e3 := hO.ins_few (U[j].num : Int)
        rw [List.length_map]; omega
      have htop := foldV_top _ hQok
      have z52 := hk52.size
      refine needSome_mk ha68 ⟨by omega, h1, s69, by rw [Int.toNat_natCast]; exact rowAt_c hrow 0 (by simp), (tell_spec9 A hU (U[j].num : Int) U[j].rs[n] hok s69 hb69' (hid w52 hk52) (by omega) (fun a t hc => ?_) (by omega) hlenI).mono ?_⟩
      · refine new_page (R := R) (seg := (U[j].num : Int)) (t := t) ?_
        rw [← hc, ← hsp, qsU_snd]; exact hnd
      · rintro e w71 ⟨rfl, x', hU', hT1, hT2, hT3⟩
        have hnew : Keep w3 w71 := hk52.ext hT1 (fun k hk => (hW k hk).1)
        have ltO := hU.lt
        have z71 := hT1.size
        have hr1 := hI52.lt
        have hr2 := hR52.lt
        have hr3 := hR52.flt
        refine ⟨_, rfl, trivial, BIf_mk (fun h => by cases h) (fun _ => ⟨inR64 (by omega), ⟨n + 1, x', rfl, hnl, ?_, hnew, fun k hk => ?_, fun k hk => ?_, hI52.ext hT1 (fun k hk hh => (hW k hh).2.1 hk), hR52.ext hT1 (fun k hk hh => (hW k hh).2.2.1 hk) (fun k hk hh => (hW k hh).2.2.2 hk)⟩, by dsimp only; omega⟩)⟩
        · have hq : n < (qs1 U[j]).length := by simpa [qs1] using hnl
          have e3 : (qs1 U[j])[n] = ((U[j].num : Int), U[j].rs[n]) := by simp [qs1]
          rw [List.take_succ_eq_append_getElem hq, ← List.append_assoc, e3, foldV_snoc]
          exact hU'
        · rcases hT2 k hk with g | g
          · exact hW k g
          · exact ⟨by omega, fun hh => by have := hr1 k hh; omega, fun hh => by have := hr2 k hh; omega, fun hh => by have := hr3 k hh; omega⟩
        · rcases hT3 k hk with g | g | g
          · exact hY k g
          · exact g.elim
          · omega
    · have hnn : n = U[j].rs.length := by omega
      subst hnn
      refine ⟨inR64 (by omega), ⟨j + 1, x, rfl, hjl, ?_, hk52, fun k hk => ⟨(hW k hk).1, (hW k hk).2.1⟩, hY, hI52⟩, by dsimp only; omega⟩
      have e4 : (qs1 U[j]).take U[j].rs.length = qs1 U[j] := List.take_of_length_le (by simp [qs1])
      rw [e4] at hU
      rw [qsU_take U j hjl]
      exact hU
  · have hjj : j = U.length := by omega
    subst hjj
    rw [List.take_length] at hU
    obtain ⟨v1, v2, v3, v4, v5⟩ := foldV_unit hO
    have hQok : ∀ y ∈ qsU U, okR y.2 := fun y hy => by
      obtain ⟨g, hg, hy'⟩ := List.mem_flatMap.1 hy
      obtain ⟨c, hc, rfl⟩ := List.mem_map.1 hy'
      exact hO.ok g hg c hc
    have htop := foldV_top _ hQok
    refine (forget_spec9 hU).mono ?_
    rintro e w74 ⟨rfl, x', hU', hT1, hT2, hT3⟩
    rw [v1, v2, v4, v5] at hU'
    have ltO := hU.lt
    have hk74 : Keep w3 w74 := hk18.ext hT1 (fun k hk => (hW k hk).1)
    have hW' : ∀ k, UnW r10 x' k → w3.heap.size ≤ k := fun k hk => by
      rcases hT2 k hk with g | g
      · exact (hW k g).1
      · omega
    have hY' : ∀ k, UnY x' k → w3.heap.size ≤ k := fun k hk => by
      rcases hT3 k hk with g | g | g
      · exact hY k g
      · exact g.elim
      · omega
    have hSlt := hS.B.lt
    refine ⟨rfl, r10, ⟨st, x', u, q, (foldV (qsU U)).top⟩, rfl, ⟨hS.keep hk74, hU', hO, ⟨htop.1, v3⟩, hT, fun k hk hh => ?_, fun k hk hh => ?_, fun k hk => ?_⟩, rfl, fun k hk => ?_, fun k hk => ?_, k3.trans hk74⟩
    · have := hSlt k hh; have := hW' k hk; omega
    · rcases hh with hh | hh
      · obtain ⟨b, s0, hs0, h00, hk0⟩ := hk
        obtain ⟨y1, y2⟩ := hU'.pb b s0 hs0 h00 k hk0
        obtain ⟨t0, _, hb0, _⟩ := (hU'.pv b).1 s0 hs0
        rcases hh with hh | hh | hh | ⟨n, s1, hs1, hk1⟩
        · exact y1 hh
        · obtain ⟨_, _, hp1, _⟩ := hU'.p.at'
          exact bytes_ne_map hb0 h00 hk0 (by rw [hh]; exact hp1)
        · obtain ⟨_, _, hp1, _⟩ := hU'.i.at'
          exact bytes_ne_map hb0 h00 hk0 (by rw [hh]; exact hp1)
        · exact y2 n s1 hs1 hk1
      · have := hSlt k hh; have := hY' k hk; omega
    · have := hW' k hk; omega
    · rcases hk with hk | hk | hk
      · have := hW' k hk; exact .inr (by omega)
      · exact .inr (hfr k hk)
      · exact .inl hk
    · have := hY' k hk; omega
end Go.D

set_option linter.unusedVariables false
set_option linter.unusedSimpArgs false
namespace Go.D
open Go Go.Proofs

/-! ### what the calls come to, plainly -/
def writeP (k : Nat) (s : UnS) (epoch a : Int) (t : List UInt8) : Option Nat × UnS :=
  match checkE s.ep epoch a 4095 with
  | some c => (some c, s)
  | none => if t.length = 0 ∨ 2048 < t.length then (some 2, s) else if a < (s.tr : Int) then (some 10, s) else if (pgM s.U s.tr a).isSome then (some 8, s)
    else match appU k s.U (.page a.toNat t) with
      | none => (some 12, s)
      | some (n, V) => (none, ⟨V, s.tr, s.ep, max s.T (a.toNat + 1)⟩)
def sealP (k : Nat) (s : UnS) (epoch : Int) : Option Nat × UnS :=
  if epoch < 0 ∨ 1073741824 < epoch then (some 13, s) else if epoch < (s.ep : Int) then (some 7, s) else if epoch = (s.ep : Int) then (none, s)
  else match appU k s.U (.shut epoch.toNat) with
    | none => (some 12, s)
    | some (n, V) => (none, ⟨V, s.tr, epoch.toNat, s.T⟩)
def reclaimU (tr : Nat) : List USeg → List USeg
  | [] => []
  | [g] => [g]
  | g :: h :: t => if (pagesOf g.rs).all (fun y => decide (y.1 < tr)) then reclaimU tr (h :: t) else g :: h :: t
def trimP (k : Nat) (s : UnS) (epoch to : Int) : Option Nat × UnS :=
  match checkE s.ep epoch to 4096 with
  | some c => (some c, s)
  | none => if to ≤ (s.tr : Int) then (none, s)
    else match appU k s.U (.trim to.toNat s.ep) with
      | none => (some 12, s)
      | some (n, V) => (none, ⟨reclaimU to.toNat V, to.toNat, s.ep, max s.T to.toNat⟩)

/-- What a unit opened on these segments would tell. -/
def Tells (U : List USeg) (s : UnS) : Prop := UnOk U s.tr s.ep s.T ∧ ∀ a, pgM U s.tr a = pgM s.U s.tr a
def UCr (d : DevS) (k m : Nat) (Ss : List UnS) : Prop := d.pend.length ≤ 100 ∧ ∀ kept torn cut : Int, ∃ U, ImgOk (secI (crashL kept torn cut 0 d.pend d.img)) k (sU U) ∧ (∀ g ∈ sU U, g.num < m) ∧ ∃ s ∈ Ss, Tells U s
def UFoot (r rd : Nat) (f f' : UnF) (w w' : World) : Prop := Foot (UB r rd f) (UB r rd f') w w' ∧ ∀ k, UnY f'.x k → UnY f.x k ∨ w.heap.size ≤ k
theorem UFoot.refl (r rd : Nat) (f : UnF) (w : World) : UFoot r rd f f w w := ⟨Foot.refl _ _, fun k hk => .inl hk⟩
theorem UFoot.trans {r rd : Nat} {f f1 f2 : UnF} {a b c : World} (h1 : UFoot r rd f f1 a b) (h2 : UFoot r rd f1 f2 b c) : UFoot r rd f f2 a c :=
  ⟨h1.1.trans h2.1, fun k hk => (h2.2 k hk).elim (h1.2 k) (fun h => .inr (Nat.le_trans h1.1.1.size h))⟩
theorem UFoot.keep {r rd : Nat} {f f' : UnF} {a b c : World} (h1 : UFoot r rd f f' a b) (h2 : Keep b c) : UFoot r rd f f' a c := ⟨h1.1.keep h2, h1.2⟩
theorem Keep.ufoot {r rd : Nat} {f f' : UnF} {a b c : World} (h1 : Keep a b) (h2 : UFoot r rd f f' b c) : UFoot r rd f f' a c :=
  ⟨h1.foot h2.1, fun k hk => (h2.2 k hk).imp (fun h => h) (fun h => Nat.le_trans h1.size h)⟩
/-- What a call that writes comes to: all is done, or the device is down. -/
def Outc (w : World) (n0 r rd : Nat) (f : UnF) (d : DevS) (s : UnS) (m : Nat) (p : Option Nat × UnS) (e' : Option Nat) (w' : World) : Prop :=
  (e' = p.1 ∧ ∃ f' d', UAt w' n0 r rd f' d' p.2 (m + 1) ∧ d'.n = d.n ∧ d'.stops = d.stops ∧ UFoot r rd f f' w w') ∨
  (e' = some 11 ∧ d.stops = true ∧ ∃ q' d', DevAt w' rd q' d' ∧ d'.n = d.n ∧ d'.stops = d.stops ∧ UCr d' (d.n / 64) (m + 1) [s, p.2] ∧ Foot (UB r rd f) (DevB rd q') w w')

theorem baseU_ok (k : Nat) (U : List USeg) (n : Nat) : (baseL k (sU U) n).getD (sU U) = sU (baseU k U n) := by
  unfold baseL baseU
  split
  · rfl
  · cases freeP k (sU U) with
    | none => rfl
    | some p => simp [takeL, USeg.s]
theorem allR_base (k : Nat) (U : List USeg) (n : Nat) : allR (baseU k U n) = allR U := by
  unfold baseU
  split
  · rfl
  · split
    · rfl
    · exact allR_new _ _ _
theorem okU_base (k : Nat) {U : List USeg} (n : Nat) (h : okU U) : okU (baseU k U n) := by
  unfold baseU
  split
  · exact h
  · split
    · exact h
    · intro y hy z hz
      rcases List.mem_append.1 hy with hy | hy
      · exact h y hy z hz
      · rw [List.mem_singleton] at hy; subst hy; simp at hz
theorem UnOk.of_all {U V : List USeg} {tr ep T : Nat} (h : UnOk U tr ep T) (ho : okU V) (ha : allR V = allR U) : UnOk V tr ep T :=
  ⟨ho, by rw [ha]; exact h.te, by unfold pgU; rw [ha]; exact h.nd, by unfold pgU; rw [ha]; exact h.tl⟩
theorem pgM_all {U V : List USeg} (ha : allR V = allR U) (tr : Nat) : pgM V tr = pgM U tr := by
  unfold pgM pgU
  rw [ha]
theorem nums_base {k m n : Nat} {U : List USeg} (h : ∀ g ∈ sU U, g.num < m) : ∀ g ∈ sU (baseU k U n), g.num < m + 1 := by
  intro g hg
  have hnx := nextN_le h
  unfold baseU at hg
  split at hg
  · have := h g hg; omega
  · split at hg
    · have := h g hg; omega
    · obtain ⟨y, hy, rfl⟩ := List.mem_map.1 hg
      rcases List.mem_append.1 hy with hy | hy
      · have := h _ (List.mem_map.2 ⟨y, hy, rfl⟩); omega
      · rw [List.mem_singleton] at hy; subst hy
        show nextN (sU U) < m + 1; omega
theorem nums_app {k m n : Nat} {U V : List USeg} {x : Rc} (h : ∀ g ∈ sU U, g.num < m) (ha : appU k U x = some (n, V)) : ∀ g ∈ sU V, g.num < m + 1 := by
  intro g hg
  have hnx := nextN_le h
  obtain ⟨_, _, M, g0, rfl, hM⟩ := appU_qs ha
  obtain ⟨y, hy, rfl⟩ := List.mem_map.1 hg
  have key : ∀ z ∈ M ++ [g0], z.num < m + 1 := by
    intro z hz
    rcases hM with rfl | ⟨p, _, rfl, rfl⟩
    · have := h _ (List.mem_map.2 ⟨z, hz, rfl⟩)
      have h2 : z.num < m := this
      omega
    · rcases List.mem_append.1 hz with hz | hz
      · have := h _ (List.mem_map.2 ⟨z, hz, rfl⟩)
        have h2 : z.num < m := this
        omega
      · rw [List.mem_singleton] at hz; subst hz
        show nextN (sU M) < m + 1; omega
  rcases List.mem_append.1 hy with hy | hy
  · exact key y (by simp [hy])
  · rw [List.mem_singleton] at hy; subst hy
    exact key g0 (by simp)
/-- A record is written, of a unit. -/
theorem AppPost.unit {A : Nat → Addr} {w w' : World} {n0 st rd m : Nat} {u : StP} {q : DevP} {d : DevS} {U : List USeg} {c : Rc} (hc : okR c) {n : Int} {e' : Option Nat} (h : AppPost A w n0 st rd u q d (sU U) m (encR c) n e' w') :
    (appU (d.n / 64) U c = none ∧ e' = some 12 ∧ DevAt w' rd q d ∧ Keep w w') ∨
    (∃ n' V, appU (d.n / 64) U c = some (n', V) ∧ n = (n' : Int) ∧ e' = none ∧ ∃ u' q' d', Sys w' n0 st rd u' q' d' (sU V) (m + 1) ∧ d'.n = d.n ∧ d'.stops = d.stops ∧ Foot (SysB st u rd q) (SysB st u' rd q') w w') ∨
    (∃ n' V, appU (d.n / 64) U c = some (n', V) ∧ e' = some 11 ∧ d.stops = true ∧ ∃ q' d', DevAt w' rd q' d' ∧ d'.n = d.n ∧ d'.stops = d.stops ∧ CrOk d' (d.n / 64) [sU U, sU (baseU (d.n / 64) U (encR c).length), sU V] ∧ Foot (SysB st u rd q) (DevB rd q') w w') := by
  obtain ⟨q', d', hD, hn, hs, hcase⟩ := h
  have hok := appU_ok (k := d.n / 64) (U := U) hc
  cases ha : appU (d.n / 64) U c with
  | none =>
    rw [ha] at hok
    simp only at hok
    rw [hok] at hcase
    rcases hcase with ⟨_, h2, _, rfl, rfl, hk⟩ | ⟨h1, _⟩ | ⟨h1, _⟩
    · exact .inl ⟨rfl, h2, hD, hk⟩
    · cases h1
    · cases h1
  | some p =>
    obtain ⟨n', V⟩ := p
    rw [ha] at hok
    simp only at hok
    rw [hok] at hcase
    rcases hcase with ⟨h1, _⟩ | ⟨_, h2, h3, u', hS, ft⟩ | ⟨_, h2, h3, h4, ft⟩
    · exact absurd rfl h1
    · exact .inr (.inl ⟨n', V, rfl, h3, h2, u', q', d', hS, hn, hs, ft⟩)
    · rw [baseU_ok] at h4
      exact .inr (.inr ⟨n', V, rfl, h2, h3, q', d', hD, hn, hs, h4, ft⟩)
theorem CrOk.unit {d' : DevS} {k m n n' : Nat} {U V : List USeg} {c : Rc} {s s1 : UnS} (h : CrOk d' k [sU U, sU (baseU k U n), sU V]) (hN : ∀ g ∈ sU U, g.num < m) (ha : appU k U c = some (n', V)) (h0 : s.U = U) (hO : UnOk U s.tr s.ep s.T) (h1 : Tells V s1) : UCr d' k (m + 1) [s, s1] := by
  refine ⟨h.1, fun a b c => ?_⟩
  obtain ⟨L, hL, hI⟩ := h.2 a b c
  simp only [List.mem_cons, List.not_mem_nil, or_false] at hL
  rcases hL with rfl | rfl | rfl
  · exact ⟨U, hI, fun g hg => by have := hN g hg; omega, s, by simp, hO, fun a => by rw [h0]⟩
  · exact ⟨_, hI, nums_base hN, s, by simp, hO.of_all (okU_base k n hO.ok) (allR_base k U n), fun a => by rw [h0, pgM_all (allR_base k U n)]⟩
  · exact ⟨V, hI, nums_app hN ha, s1, by simp, h1⟩
theorem pgM_page {U V : List USeg} {tr a : Nat} {t : List UInt8} (h : allR V = allR U ++ [.page a t]) (ha : tr ≤ a) (hn : pgM U tr (a : Int) = none) : pgM V tr = updI (pgM U tr) (a : Int) (some t) := by
  funext b
  have hn' : pageAt (pgU U) a = none := by
    unfold pgM at hn
    rw [if_neg (by omega)] at hn
    exact hn
  unfold updI pgM pgU
  rw [h, pagesOf_append]
  by_cases e : b = (a : Int)
  · subst e
    rw [if_neg (by omega), if_pos rfl]
    simp only [pagesOf]
    rw [pageAt_snoc, Int.toNat_natCast]
    unfold pgU at hn'
    rw [hn']; simp
  · rw [if_neg e]
    by_cases e2 : b < (tr : Int)
    · rw [if_pos e2, if_pos e2]
    · rw [if_neg e2, if_neg e2]
      simp only [pagesOf]
      rw [pageAt_snoc]
      cases pageAt (pagesOf (allR U)) b.toNat with
      | some y => rfl
      | none => simp only; rw [if_neg (by omega)]
theorem pgM_same {U V : List USeg} {x : Rc} (h : allR V = allR U ++ [x]) (hx : ∀ a t, x ≠ .page a t) (tr : Nat) : pgM V tr = pgM U tr := by
  unfold pgM pgU
  rw [h, pagesOf_append]
  cases x with
  | page a t => exact absurd rfl (hx a t)
  | trim t e => simp [pagesOf]
  | shut e => simp [pagesOf]
theorem pgM_none {U : List USeg} {tr a : Nat} (ha : tr ≤ a) (hn : pgM U tr (a : Int) = none) : ∀ y ∈ pgU U, y.1 ≠ a := by
  unfold pgM at hn
  rw [if_neg (by omega)] at hn
  exact pageAt_none.1 hn
def tailR (T tt : Nat) : Rc → Nat
  | .page a _ => max T (a + 1)
  | .trim t _ => max tt t
  | .shut _ => T
theorem addOk {k n : Nat} {U V : List USeg} {x : Rc} {tr ep T : Nat} (h : UnOk U tr ep T) (hx : okR x) (ha : appU k U x = some (n, V)) (hp : ∀ a t, x = .page a t → ∀ y ∈ pgU U, y.1 ≠ a) :
    UnOk V (teStep (tr, ep) x).1 (teStep (tr, ep) x).2 (tailR T (topOf (pgU U)) x) := by
  have hV := appU_ok2 ha h.ok hx
  obtain ⟨_, _, M, g, rfl, hM⟩ := appU_qs ha
  have hR : allR (M ++ [g]) = allR U := by
    rcases hM with rfl | ⟨p, _, rfl, rfl⟩
    · rfl
    · exact allR_new _ _ _
  have hok : okU (M ++ [g]) := by
    intro y hy z hz
    rcases List.mem_append.1 hy with hy | hy
    · exact hV y (by simp [hy]) z hz
    · rw [List.mem_singleton] at hy; subst hy
      exact hV _ (List.mem_append_right _ (List.mem_singleton.2 rfl)) z (List.mem_append_left _ hz)
  cases x <;> exact h.add hok hR hx hp

section
variable {w w' : World} {n0 r rd m : Nat} {f : UnF} {d : DevS} {s : UnS}
theorem UAt.ins (h : UAt w n0 r rd f d s m) (n : Int) : (insU s.U n).length < 2 ^ 20 := by have := h.O.ins_few n; omega
theorem UAt.outc (h : UAt w n0 r rd f d s m) {e' : Option Nat} (hk : Keep w w') : Outc w n0 r rd f d s m (e', s) e' w' :=
  .inl ⟨rfl, f, d, (h.keep hk).up (by omega), rfl, rfl, hk.ufoot (UFoot.refl _ _ _ _)⟩

theorem Write_spec9 (A : Nat → Addr) (h : UAt w n0 r rd f d s m) (hE : ErrsB A n0 w) (hm : m ≤ 2 ^ 60) (epoch a : Int) (sl : Slc) (t : List UInt8) (hb : bytesAt w sl t) (ht : t.length ≤ 2 ^ 20) (hs : ∀ k, ownB sl k → ¬ UB r rd f k) :
    Calls Tryd.prog fn_unit_Unit_Write ⟨[ptrR' r, .int .i64 epoch, .int .i64 a, sl.v]⟩ w fun e w' => ∃ e', e = .returned (errO A e') ∧ Outc w n0 r rd f d s m (writeP (d.n / 64) s epoch a t) e' w' := by
  refine unit_Unit_Write_ok _ _ _ _ ?_
  unfold unit_Unit_Write
  have hG : ErrsG uniG A n0 w := hE.g.sub uniG_sub
  have hbl := hb.1
  refine (check_spec9 A h.M epoch a 4095 hG).mono ?_
  rintro e w6 ⟨rfl, rfl⟩
  unfold writeP
  cases hc : checkE s.ep epoch a 4095 with
  | some c => exact ⟨_, rfl, errO_isI A _, BIf_mk (fun _ => ⟨_, rfl, h.outc (Ext.refl _ _)⟩) (fun hh => by cases hh)⟩
  | none =>
    have ha : 0 ≤ a ∧ a ≤ 4095 := by
      unfold checkE at hc
      split at hc
      · cases hc
      · split at hc
        · cases hc
        · omega
    obtain ⟨es, g1, g2⟩ := h.M.p.get
    refine ⟨_, rfl, errO_isI A _, BIf_mk (fun hh => by cases hh) (fun _ => needSome_mk rfl ⟨_, h.M.c.2.1, es, g1, lookL f.x.pl a, g2 a, fun w2 => ¬ (t.length = 0 ∨ 2048 < t.length) ∧ ¬ a < (s.tr : Int) ∧ (pgM s.U s.tr a).isSome = false ∧ w2 = w6,
      ⟨fun b w2 => b = decide (t.length = 0 ∨ 2048 < t.length) ∧ w2 = w6, BIf_dec (fun h0 => ⟨(decide_eq_true (.inl (by omega))).symm, rfl⟩) (fun h0 => ⟨by rw [decide_eq_decide]; omega, rfl⟩), ?_⟩, ?_⟩)⟩
    · rintro b w15 ⟨rfl, rfl⟩
      intros
      refine BIf_dec (fun h1 => ?_) (fun h1 => needSome_mk rfl ⟨_, h.M.c.2.2.2.1, BIf_dec (fun h2 => ?_) (fun h2 => ?_)⟩)
      · rw [if_pos h1]
        exact ⟨_, errG_at hG 2 gl_ErrLong rfl (by decide), _, rfl, h.outc (Ext.refl _ _)⟩
      · rw [if_neg h1, if_pos h2]
        exact ⟨_, errG_at hG 10 gl_ErrTrimmed rfl (by decide), _, rfl, h.outc (Ext.refl _ _)⟩
      · rw [if_neg h1, if_neg h2]
        refine BIf_mk (fun h3 => ?_) (fun h3 => ?_)
        · rw [h.M.has] at h3
          rw [if_pos h3]
          exact ⟨_, errG_at hG 8 gl_ErrWritten rfl (by decide), _, rfl, h.outc (Ext.refl _ _)⟩
        · rw [h.M.has] at h3
          exact ⟨h1, h2, h3, rfl⟩
    · rintro w29 ⟨h1, h2, h3, rfl⟩
      intros
      rw [if_neg h1, if_neg h2, if_neg (by rw [h3]; decide)]
      obtain ⟨an, rfl⟩ : ∃ an : Nat, a = an := ⟨a.toNat, by omega⟩
      rw [Int.toNat_natCast]
      have hok : okR (.page an t) := ⟨by omega, by omega, by omega⟩
      have hpn : pgM s.U s.tr (an : Int) = none := by simpa using h3
      refine (record_spec9 A h.S h.M hE hm (.page an t) hok (fun _ _ hh => by cases hh) sl (fun _ => hb)).mono ?_
      rintro e w53 ⟨n, e', w1, rfl, k1, hp⟩
      rcases hp.unit hok with ⟨ha1, rfl, hD, hk⟩ | ⟨n', V, ha1, rfl, rfl, u', q', d', hS', hn', hst', ft⟩ | ⟨n', V, ha1, rfl, hst, q', d', hD', hn', hst', hcr, ft⟩
      · rw [ha1]
        exact ⟨_, _, rfl, errO_isI A _, BIf_mk (fun hh => by cases hh) (fun _ => ⟨_, rfl, h.outc (k1.trans hk)⟩)⟩
      · rw [ha1]
        have ft' : Foot (SysB f.st f.u rd f.q) (SysB f.st u' rd q') w29 w53 := k1.foot ft
        have hqs := (appU_qs ha1).1
        have hal := allR_qs hqs
        have hM53 := h.M.ext ft'.1 h.sep (fun k hk hh => h.ysep k hk (.inr hh))
        refine ⟨_, _, rfl, errO_isI A _, BIf_mk (fun _ => ?_) (fun hh => by cases hh)⟩
        have hb53 : bytesAt w53 sl t := bytesAt_stayX hb ft'.1 (fun _ k hk hh => hs k hk (.inr hh))
        refine (CloneB_own sl t w53 hb53 (by omega)).mono ?_
        rintro e w57 ⟨s58, rfl, ho58, hf58, k57⟩
        have hM57 := hM53.keep k57
        have ht4 := h.T.1
        have htt := h.t
        have z53 := ft'.1.size
        have z57 := k57.size
        have lt53 := hM53.lt
        refine ⟨s58, rfl, (take_spec9 hM57 (n' : Int) (an : Int) s58 t ho58.bytes (by omega) (fun _ k hk hh => ?_) hpn (by omega) (by omega) (h.ins _)).mono ?_⟩
        · have := hf58 k hk; have := lt53.1 k hh; omega
        · rintro e w60 ⟨rfl, x', hM60, t1, t2, t3⟩
          have hpg : pgM V s.tr = updI (pgM s.U s.tr) (an : Int) (some t) := pgM_page hal (by omega) hpn
          have hin : insU V = updI (insU s.U) (n' : Int) (insU s.U (n' : Int) ++ [(an : Int)]) := insU_qs hqs
          rw [← hpg, ← hin] at hM60
          have hSlt := hS'.B.lt
          have sys57 := hS'.keep k57
          have sepW : ∀ k, UnW r f.x k → ¬ SysB f.st u' rd q' k := fun k hk hh => (ft'.2 k hh).elim (h.sep k hk) (fun hh => by have := h.M.lt.1 k hk; omega)
          have sys60 := sys57.ext t1 (fun k hk hh => sepW k hh hk)
          have x60 : Ext (UB r rd f) w29 w60 := (Ext.trans (ft'.1.mono (fun k hk => Or.inr hk)) k57 (fun _ h => h) (fun _ h => h.elim)).trans t1 (fun _ h => h) (fun k hk => .inl (.inl hk))
          have z60 := t1.size
          have hO' := addOk h.O hok ha1 (fun a' t' he y hy => by cases he; exact pgM_none (by omega) hpn y hy)
          refine ⟨rfl, none, rfl, .inl ⟨rfl, ⟨f.st, x', u', q', max f.top (an + 1)⟩, d', ⟨sys60, hM60, hO', ⟨by show 0 ≤ max f.top ((an : Int) + 1); omega, by show max (max f.top ((an : Int) + 1)) (s.tr : Int) = ((max s.T (an + 1) : Nat) : Int); omega⟩, ⟨by show max s.T (an + 1) ≤ 4096; omega, h.T.2⟩, fun k hk hh => ?_, fun k hk hh => ?_, fun k hk => ?_⟩, hn', hst', ⟨⟨x60, fun k hk => ?_⟩, fun k hk => ?_⟩⟩⟩
          · rcases t2 k hk with g | g
            · exact sepW k g hh
            · have := hSlt k hh; omega
          · rcases hh with hh | hh
            · obtain ⟨b, s0, hs0, h00, hk0⟩ := hk
              obtain ⟨y1, y2⟩ := hM60.pb b s0 hs0 h00 k hk0
              obtain ⟨t0, _, hb0, _⟩ := (hM60.pv b).1 s0 hs0
              rcases hh with hh | hh | hh | ⟨n, s1, hs1, hk1⟩
              · exact y1 hh
              · obtain ⟨_, _, hp1, _⟩ := hM60.p.at'
                exact bytes_ne_map hb0 h00 hk0 (by rw [hh]; exact hp1)
              · obtain ⟨_, _, hp1, _⟩ := hM60.i.at'
                exact bytes_ne_map hb0 h00 hk0 (by rw [hh]; exact hp1)
              · exact y2 n s1 hs1 hk1
            · have hl := hSlt k hh
              rcases t3 k hk with g | ⟨_, g⟩ | g
              · rcases ft'.2 k hh with g2 | g2
                · exact h.ysep k g (.inr g2)
                · have := h.M.lt.2 k g; omega
              · have := hf58 k g; omega
              · omega
          · rcases t2 k hk with g | g
            · exact h.n k g
            · have := h.S.B.z; omega
          · rcases hk with hk | hk
            · rcases t2 k hk with g | g
              · exact .inl (.inl g)
              · exact .inr (by omega)
            · exact (ft'.2 k hk).imp .inr (fun g => g)
          · rcases t3 k hk with g | ⟨_, g⟩ | g
            · exact .inl g
            · have := hf58 k g; exact .inr (by omega)
            · exact .inr (by omega)
      · rw [ha1]
        have hal := allR_qs (appU_qs ha1).1
        have hO' := addOk h.O hok ha1 (fun a' t' he y hy => by cases he; exact pgM_none (by omega) hpn y hy)
        exact ⟨_, _, rfl, errO_isI A _, BIf_mk (fun hh => by cases hh) (fun _ => ⟨some 11, rfl, .inr ⟨rfl, hst, q', d', hD', hn', hst', hcr.unit h.S.N ha1 rfl h.O ⟨hO', fun _ => rfl⟩, ⟨(k1.foot ft).1.mono (fun k hk => .inr hk), fun k hk => ((k1.foot ft).2 k hk).imp .inr (fun g => g)⟩⟩⟩)⟩
end
end Go.D

set_option linter.unusedVariables false
set_option linter.unusedSimpArgs false
namespace Go.D
open Go Go.Proofs

section
variable {w w' : World} {n0 r rd m : Nat} {f : UnF} {d : DevS} {s : UnS}
/-- A unit whose store has grown by a record that tells of no page. -/
theorem UAt.noted (h : UAt w n0 r rd f d s m) {V : List USeg} {n : Nat} {c : Rc} {u' : StP} {q' : DevP} {d' : DevS} (hc : okR c) (hnp : ∀ a t, c ≠ .page a t) (ha : appU (d.n / 64) s.U c = some (n, V)) (hS : Sys w' n0 f.st rd u' q' d' (sU V) (m + 1)) (ft : Foot (SysB f.st f.u rd f.q) (SysB f.st u' rd q') w w') :
    UnM w' r f.st f.x s.tr s.ep f.top (pgM V s.tr) (insU V) ∧ (∀ k, UnW r f.x k → ¬ SysB f.st u' rd q' k) ∧ (∀ k, UnY f.x k → ¬ UB r rd ⟨f.st, f.x, u', q', f.top⟩ k) := by
  have hqs := (appU_qs ha).1
  have hal := allR_qs hqs
  have hM := h.M.ext ft.1 h.sep (fun k hk hh => h.ysep k hk (.inr hh))
  have hin : insU V = insU s.U := by
    rw [insU_qs hqs]
    cases c with
    | page a t => exact absurd rfl (hnp a t)
    | trim t e => rfl
    | shut e => rfl
  rw [pgM_same hal hnp, hin]
  refine ⟨hM, fun k hk hh => (ft.2 k hh).elim (h.sep k hk) (fun hh => by have := h.M.lt.1 k hk; omega), fun k hk hh => ?_⟩
  rcases hh with hh | hh
  · exact h.ysep k hk (.inl hh)
  · rcases ft.2 k hh with g | g
    · exact h.ysep k hk (.inr g)
    · have := h.M.lt.2 k hk; omega

theorem Seal_spec9 (A : Nat → Addr) (h : UAt w n0 r rd f d s m) (hE : ErrsB A n0 w) (hm : m ≤ 2 ^ 60) (epoch : Int) :
    Calls Tryd.prog fn_unit_Unit_Seal ⟨[ptrR' r, .int .i64 epoch]⟩ w fun e w' => ∃ (n : Int) (e' : Option Nat), e = .returned (.tuple ⟨[.int .i64 n, errO A e']⟩) ∧ Outc w n0 r rd f d s m (sealP (d.n / 64) s epoch) e' w' ∧ (e' = (sealP (d.n / 64) s epoch).1 → n = if e' = none then ((sealP (d.n / 64) s epoch).2.T : Int) else 0) := by
  refine unit_Unit_Seal_ok _ _ ?_
  unfold unit_Unit_Seal
  have hG : ErrsG uniG A n0 w := hE.g.sub uniG_sub
  have hep := h.T.2
  have kd : Keep w (World.drew w) := Ext.drew _ _
  unfold sealP
  refine ⟨fun b w2 => b = decide (epoch < 0 ∨ 1073741824 < epoch) ∧ w2 = w, BIf_dec (fun h0 => ⟨(decide_eq_true (.inl h0)).symm, rfl⟩) (fun h0 => ⟨by rw [decide_eq_decide]; omega, rfl⟩), ?_⟩
  rintro b w5 ⟨rfl, rfl⟩
  intros
  refine BIf_dec (fun h1 => ?_) (fun h1 => needSome_mk rfl ⟨_, h.M.c.2.2.2.2.1, BIf_dec (fun h2 => ?_) (fun h2 => needSome_mk rfl ⟨_, h.M.c.2.2.2.2.1, ?_⟩)⟩)
  · rw [if_pos h1]
    exact ⟨_, errG_at (hG.keep kd) 13 gl_ErrEpoch rfl (by decide), 0, _, rfl, h.outc kd, fun _ => rfl⟩
  · rw [if_neg h1, if_pos h2]
    exact ⟨_, errG_at (hG.keep kd) 7 gl_ErrSealed rfl (by decide), 0, _, rfl, h.outc kd, fun _ => rfl⟩
  rw [if_neg h1, if_neg h2]
  refine BIf_dec (fun h3 => ?_) (fun h3 => ?_)
  · rw [if_neg (by omega)]
    obtain ⟨en, rfl⟩ : ∃ en : Nat, epoch = en := ⟨epoch.toNat, by omega⟩
    rw [Int.toNat_natCast]
    have hok : okR (.shut en) := show en ≤ 2 ^ 30 by omega
    refine (record_spec9 A h.S h.M hE hm (.shut en) hok (fun _ _ hh => by cases hh) ⟨none, 0, 0⟩ (fun ⟨_, _, hh⟩ => by cases hh)).mono ?_
    rintro e w53 ⟨n, e', w1, rfl, k1, hp⟩
    rcases hp.unit hok with ⟨ha1, rfl, hD, hk⟩ | ⟨n', V, ha1, rfl, rfl, u', q', d', hS', hn', hst', ft⟩ | ⟨n', V, ha1, rfl, hst, q', d', hD', hn', hst', hcr, ft⟩
    · rw [ha1]
      exact ⟨_, _, rfl, errO_isI A _, BIf_mk (fun _ => ⟨_, _, rfl, h.outc (k1.trans hk), fun _ => rfl⟩) (fun hh => by cases hh)⟩
    · rw [ha1]
      have ft' : Foot (SysB f.st f.u rd f.q) (SysB f.st u' rd q') w5 w53 := k1.foot ft
      obtain ⟨hM53, sepW, ysep⟩ := h.noted hok (fun _ _ hh => by cases hh) ha1 hS' ft'
      obtain ⟨c1, c2⟩ := hM53.o.setOne 4 (by simp) (.int .i64 (en : Int))
      refine ⟨_, _, rfl, errO_isI A _, BIf_mk (fun hh => by cases hh) (fun _ => needSome_mk rfl ?_)⟩
      rw [add_lit]
      refine ⟨c1, fun w23 hw23 => ?_⟩
      obtain ⟨o23, e23, _⟩ := c2 w23 hw23
      have hM23 := hM53.seto e23 o23
      have hO' := addOk h.O hok ha1 (fun a' t' he y hy => by cases he)
      have x23 : Ext (UB r rd f) w5 w23 := (ft'.1.mono (fun k hk => Or.inr hk)).trans e23 (fun _ h => h) (fun k hk => .inl (.inl (.inl hk)))
      have hS23 := hS'.ext e23 (fun k hk hh => sepW r (.inl rfl) (by rw [← show k = r from hh]; exact hk))
      have fin : ∀ {w25}, Keep w23 w25 → Outc w5 n0 r rd f d s m (none, ⟨V, s.tr, en, s.T⟩) none w25 := fun k25 =>
        .inl ⟨rfl, ⟨f.st, f.x, u', q', f.top⟩, d', ⟨hS23.keep k25, hM23.keep k25, hO', h.t, ⟨h.T.1, by show en ≤ 2 ^ 30; omega⟩, sepW, ysep, h.n⟩, hn', hst', ⟨⟨x23.trans k25 (fun _ h => h) (fun _ h => h.elim), fun k hk => hk.elim (fun h => .inl (.inl h)) (fun h => (ft'.2 k h).imp .inr (fun h => h))⟩, fun k hk => .inl hk⟩⟩
      refine (Tail_spec9 hM23).mono ?_
      rintro e w25 ⟨rfl, k25⟩
      exact ⟨_, rfl, _, none, rfl, fin k25, fun _ => h.t.2⟩
    · rw [ha1]
      have hO' := addOk h.O hok ha1 (fun a' t' he y hy => by cases he)
      have hal := allR_qs (appU_qs ha1).1
      exact ⟨_, _, rfl, errO_isI A _, BIf_mk (fun _ => ⟨_, some 11, rfl, .inr ⟨rfl, hst, q', d', hD', hn', hst', hcr.unit h.S.N ha1 rfl h.O ⟨hO', fun _ => rfl⟩, ⟨(k1.foot ft).1.mono (fun k hk => .inr hk), fun k hk => ((k1.foot ft).2 k hk).imp .inr (fun g => g)⟩⟩, fun hh => by cases hh⟩) (fun hh => by cases hh)⟩
  · rw [if_pos (by omega)]
    refine (Tail_spec9 h.M).mono ?_
    rintro e w28 ⟨rfl, k28⟩
    exact ⟨_, rfl, _, none, rfl, h.outc k28, fun _ => h.t.2⟩

/-! ### segments are given back -/
theorem UnM.delI {st : Nat} {x : UnP} {tr ep top : Int} {pg : Int → Option (List UInt8)} {ins : Int → List Int} (h : UnM w r st x tr ep top pg ins) (n : Int) (hp : MapB KS w' x.mi (delL x.il n)) (he : Ext (fun j => j = x.mi) w w') : UnM w' r st { x with il := delL x.il n } tr ep top pg (updI ins n []) := by
  have lk : ∀ b, lookL (delL x.il n) b = if b = n then none else lookL x.il b := fun b => look_del n b h.i.nd
  obtain ⟨_, _, hi1, _⟩ := h.i.at'
  have rmi := h.ne_maps.2
  refine ⟨h.o.ext he (fun hh => rmi hh), h.p.ext he (fun hh => h.ne hh), hp, h.ne, fun a => ⟨fun s hs => ?_, (h.pv a).2⟩, fun b => ?_, fun a b s t ha hb hne => ?_, fun a s ha => ?_, fun a s hs h0 j hj => ?_⟩
  · obtain ⟨t, g1, g2, g3⟩ := (h.pv a).1 s hs
    exact ⟨t, g1, bytesAt_stayX g2 he (fun h0 j hj hh => bytes_ne_map g2 h0 (show ownB s x.mi from hh ▸ hj) hi1), g3⟩
  · dsimp only
    rw [lk]
    unfold updI
    by_cases e : b = n
    · rw [if_pos e, if_pos e]; exact IntsAt.nil _
    · rw [if_neg e, if_neg e]
      refine (h.iv b).ext he (fun j hj hh => ?_)
      obtain ⟨c, T, f, hc⟩ := Own.ne (h.iv b).own hj
      rw [hh, hi1] at hc; cases hc
  · dsimp only at ha hb
    rw [lk] at ha hb
    by_cases e : a = n
    · rw [if_pos e] at ha; cases ha
    · by_cases e2 : b = n
      · rw [if_pos e2] at hb; cases hb
      · rw [if_neg e] at ha; rw [if_neg e2] at hb
        exact h.sep a b s t ha hb hne
  · dsimp only at ha
    rw [lk] at ha
    by_cases e : a = n
    · rw [if_pos e] at ha; cases ha
    · rw [if_neg e] at ha
      exact h.ir a s ha
  · obtain ⟨y1, y2⟩ := h.pb a s hs h0 j hj
    refine ⟨y1, fun b t hb => ?_⟩
    dsimp only at hb
    rw [lk] at hb
    by_cases e : b = n
    · rw [if_pos e] at hb; cases hb
    · rw [if_neg e] at hb
      exact y2 b t hb
theorem Contains_spec9 {x : UnP} {st : Nat} {tr ep top : Int} {pg : Int → Option (List UInt8)} {ins : Int → List Int} {r2 : Nat} (h : UnM w r st x tr ep top pg ins) (o2 : ObjAt w r2 [ptrR' r]) (sl : Slc) (l : List Int) (hl : IntsAt w sl l) (hlen : l.length ≤ 2 ^ 40) :
    Calls Tryd.prog fn_slices_ContainsFunc_int ⟨[sl.v, .func (.func fn_unit_Unit_reclaim_1) ⟨[]⟩ ⟨[ptrR' r2]⟩]⟩ w fun e w' => e = .returned (.bool (!l.all fun a => decide (a < tr))) ∧ w' = w := by
  refine slices_ContainsFunc_int_unit_Unit_reclaim_1_ok _ _ ?_
  unfold slices_ContainsFunc_int_unit_Unit_reclaim_1
  have hsl := Rows.sl hl
  refine Calls.mono (R := fun e w' => ∃ n : Int, e = .returned (.int .i64 n) ∧ (decide ((0 : Int) ≤ n)) = (!l.all fun a => decide (a < tr)) ∧ w' = w) (slices_IndexFunc_int_unit_Unit_reclaim_1_ok _ _ ?_) ?_
  · unfold slices_IndexFunc_int_unit_Unit_reclaim_1
    refine ⟨fun i w2 => ∃ k : Nat, i = k ∧ k ≤ l.length ∧ (l.take k).all (fun a => decide (a < tr)) = true ∧ w2 = w, fun i _ => ((l.length : Int) - i).toNat, ⟨0, rfl, by omega, by simp, rfl⟩, ?_⟩
    rintro i w6 ⟨k, rfl, hk, hall, rfl⟩
    intros
    refine BIf_dec (fun h0 => ?_) (fun h0 => ⟨-1, rfl, ?_, rfl⟩)
    · have hkl : k < l.length := by omega
      obtain ⟨a, ha, hc⟩ := hl.get hkl
      refine needSome_mk ha ⟨by omega, h0, _, by rw [Int.toNat_natCast]; exact hc, ?_⟩
      refine Calls.mono (R := fun e w' => e = .returned (.bool (decide (tr ≤ l[k]))) ∧ w' = w6) (unit_Unit_reclaim_1_ok _ _ ?_) ?_
      · unfold unit_Unit_reclaim_1
        exact needSome_mk rfl ⟨_, o2.cell 0 (by simp), needSome_mk rfl ⟨_, h.c.2.2.2.1, rfl, rfl⟩⟩
      · rintro e w22 ⟨rfl, rfl⟩
        refine ⟨_, rfl, BIf_dec (fun h1 => ⟨_, rfl, ?_, rfl⟩) (fun h1 => ⟨inR64 (by omega), ⟨k + 1, rfl, hkl, ?_, rfl⟩, by dsimp only; omega⟩)⟩
        · have : l.all (fun a => decide (a < tr)) = false := by
            rw [Bool.eq_false_iff]
            intro hh
            have := List.all_eq_true.1 hh _ (List.getElem_mem hkl)
            have h3 : l[k] < tr := by simpa using this
            omega
          rw [this]
          exact decide_eq_true (by omega)
        · rw [take_snoc' _ _ hkl, List.all_append, hall]
          simp; omega
    · have : k = l.length := by omega
      subst this
      rw [List.take_length] at hall
      rw [hall]; rfl
  · rintro e w' ⟨n, rfl, hn, rfl⟩
    exact ⟨n, rfl, by rw [hn], rfl⟩
end
theorem dropR_head {g h : USeg} {t : List USeg} : dropR (sU (g :: h :: t)) (g.num : Int) = (none, sU (h :: t)) := by
  unfold dropR
  have : (sU (g :: h :: t)).findIdx? (fun x => decide ((x.num : Int) = (g.num : Int))) = some 0 := by
    simp [List.findIdx?_cons, USeg.s]
  rw [this]
  simp
def EndsT (U : List USeg) (tr ep : Nat) : Prop := ∃ M p n rs, U = M ++ [⟨p, n, rs ++ [.trim tr ep]⟩]
theorem EndsT.tail {g h : USeg} {t : List USeg} {tr ep : Nat} (hh : EndsT (g :: h :: t) tr ep) : EndsT (h :: t) tr ep := by
  obtain ⟨M, p, n, rs, e⟩ := hh
  cases M with
  | nil => simp at e
  | cons x M =>
    simp only [List.cons_append, List.cons.injEq] at e
    exact ⟨M, p, n, rs, e.2⟩
theorem EndsT.all {U : List USeg} {tr ep : Nat} (hh : EndsT U tr ep) : ∃ R, allR U = R ++ [.trim tr ep] := by
  obtain ⟨M, p, n, rs, rfl⟩ := hh
  rw [allR_snoc]
  exact ⟨allR M ++ rs, by simp⟩
theorem pgM_drop {g : USeg} {U : List USeg} {tr : Nat} (h : ∀ a, tr ≤ a → pageAt (pgU U) a = pageAt (pgU (g :: U)) a) : pgM U tr = pgM (g :: U) tr := by
  funext a
  unfold pgM
  split
  · rfl
  · rw [h _ (by omega)]
end Go.D

set_option linter.unusedVariables false
set_option linter.unusedSimpArgs false
namespace Go.D
open Go Go.Proofs

section
variable {w w' : World} {n0 r rd m : Nat} {f : UnF} {d : DevS} {s : UnS}
theorem UnM.y_out {st : Nat} {x : UnP} {tr ep top : Int} {pg : Int → Option (List UInt8)} {ins : Int → List Int} (h : UnM w r st x tr ep top pg ins) : ∀ k, UnY x k → ¬ UnW r x k := by
  rintro k ⟨b, s0, hs0, h00, hk0⟩ hh
  obtain ⟨y1, y2⟩ := h.pb b s0 hs0 h00 k hk0
  obtain ⟨t0, _, hb0, _⟩ := (h.pv b).1 s0 hs0
  rcases hh with hh | hh | hh | ⟨n, s1, hs1, hk1⟩
  · exact y1 hh
  · obtain ⟨_, _, hp1, _⟩ := h.p.at'
    exact bytes_ne_map hb0 h00 hk0 (by rw [hh]; exact hp1)
  · obtain ⟨_, _, hp1, _⟩ := h.i.at'
    exact bytes_ne_map hb0 h00 hk0 (by rw [hh]; exact hp1)
  · exact y2 n s1 hs1 hk1
theorem all_map9 (P : List (Nat × List UInt8)) (tr : Nat) : (P.map fun y => (y.1 : Int)).all (fun a => decide (a < (tr : Int))) = P.all fun y => decide (y.1 < tr) := by
  rw [List.all_map]
  congr 1
  funext y
  simp [decide_eq_decide]

theorem reclaim_pg {tr ep T : Nat} : ∀ U : List USeg, UnOk U tr ep T → EndsT U tr ep → pgM (reclaimU tr U) tr = pgM U tr
  | [], _, _ => rfl
  | [g], _, _ => rfl
  | g :: h :: t, hO, hend => by
    show pgM (if _ then _ else _) tr = _
    split
    · rename_i hall
      obtain ⟨hO3, hpgA⟩ := UnOk.drop hO hend.tail.all (fun y hy => by
        have := List.all_eq_true.1 hall y hy
        simpa using this)
      rw [reclaim_pg (h :: t) hO3 hend.tail, pgM_drop hpgA]
    · rfl

theorem reclaim_spec9 (A : Nat → Addr) (h : UAt w n0 r rd f d s (m + 1)) (hE : ErrsB A n0 w) (hm : m + 1 ≤ 2 ^ 60) (hend : EndsT s.U s.tr s.ep) :
    Calls Tryd.prog fn_unit_Unit_reclaim ⟨[ptrR' r]⟩ w fun e w' => ∃ e', e = .returned (errO A e') ∧ Outc w n0 r rd f d s m (none, ⟨reclaimU s.tr s.U, s.tr, s.ep, s.T⟩) e' w' := by
  refine unit_Unit_reclaim_ok _ ?_
  unfold unit_Unit_reclaim
  have hUL := h.S.len
  have hk19 := h.S.k
  have hULe : (sU s.U).length = s.U.length := by simp
  have hso := pairwise_sU (R := fun a b => a < b) h.S.I.so
  refine newS_mk (fun r2 w3 hr2 hb2 k2 hs2 => ?_)
  have o2 := ObjAt.new' hb2
  have lt := h.lt
  refine ⟨_, o2.cell 0 (by simp), needSome_mk rfl ⟨_, (h.keep k2).M.c.1, (Segments_spec8 (h.keep k2).S.B.S (by omega)).mono ?_⟩⟩
  rintro e w8 ⟨s9, rfl, hI9, hf9, k8⟩
  have z3 := k2.size
  have z8 := k8.size
  have hl9 : s9.l = s.U.length := by
    have := Rows.sl hI9
    simpa using this
  have hne : s.U ≠ [] := by
    obtain ⟨M, p, n, rs, e⟩ := hend
    rw [e]; simp
  have hpos : 0 < s.U.length := List.length_pos_iff.2 hne
  refine ⟨s9, rfl, fun i w2 => ∃ (j : Nat) (f2 : UnF) (d2 : DevS) (s2 : UnS), i = j ∧ j < s.U.length ∧ UAt w2 n0 r rd f2 d2 s2 (m + 1) ∧ s2.U = s.U.drop j ∧ s2.tr = s.tr ∧ s2.ep = s.ep ∧ s2.T = s.T ∧ pgM s2.U s.tr = pgM s.U s.tr ∧ reclaimU s.tr s2.U = reclaimU s.tr s.U ∧ EndsT s2.U s.tr s.ep ∧
      d2.n = d.n ∧ d2.stops = d.stops ∧ UFoot r rd f f2 w w2 ∧ IntsAt w2 s9 ((sU s.U).map fun g => (g.num : Int)) ∧ (∀ k, UB r rd f2 k → ¬ ownB s9 k ∧ k ≠ r2) ∧ ObjAt w2 r2 [ptrR' r], fun i _ => ((s.U.length : Int) - i).toNat,
    ⟨0, f, d, s, rfl, hpos, (h.keep k2).keep k8, by simp, rfl, rfl, rfl, rfl, rfl, hend, rfl, rfl, (k2.trans k8).ufoot (UFoot.refl _ _ _ _), hI9, fun k hk => ⟨fun hh => ?_, ?_⟩, o2.keep k8⟩, ?_⟩
  · have := hf9 k hh; have := lt.1 k hk; omega
  · have := lt.1 k hk; omega
  rintro i w13 ⟨j, f2, d2, s2, rfl, hj, h2, e1, e2, e3, e4, e5, e6, hend2, hdn, hds, uf, hI13, hap, o13⟩
  intros
  have z13 := uf.1.1.size
  -- what there is
  have hdrop : s.U.drop j = s.U[j] :: s.U.drop (j + 1) := List.drop_eq_getElem_cons hj
  have same : ∀ U, Tells U s2 → Tells U s := fun U ⟨t1, t2⟩ => by
    rw [e2, e3, e4] at t1
    refine ⟨t1, fun a => ?_⟩
    have := t2 a
    rw [e2] at this
    rw [this, e5]
  have done : ∀ {w5}, Keep w13 w5 → reclaimU s.tr s2.U = s2.U → Outc w n0 r rd f d s m (none, ⟨reclaimU s.tr s.U, s.tr, s.ep, s.T⟩) none w5 := fun k5 hr => by
    refine .inl ⟨rfl, f2, d2, ?_, hdn, hds, uf.keep k5⟩
    have := h2.keep k5
    rw [hr] at e6
    have e7 : s2 = ⟨reclaimU s.tr s.U, s.tr, s.ep, s.T⟩ := by
      cases s2
      simp only at e2 e3 e4 e6 ⊢
      rw [e2, e3, e4, e6]
    rw [← e7]; exact this
  refine BIf_dec (fun h0 => ?_) (fun h0 => absurd h0 (by omega))
  obtain ⟨a52, ha52, hc52⟩ := hI13.get (i := j) (by simpa using hj)
  have hnum : (((sU s.U).map fun g => (g.num : Int))[j]'(by simpa using hj)) = (s.U[j].num : Int) := by simp [USeg.s]
  rw [hnum] at hc52
  refine needSome_mk ha52 ⟨by omega, h0, _, by rw [Int.toNat_natCast]; exact hc52, ?_⟩
  refine ⟨fun w2 => Keep w13 w2 ∧ ∃ g' t', s2.U = s.U[j] :: g' :: t' ∧ (pagesOf s.U[j].rs).all (fun y => decide (y.1 < s.tr)) = true, ⟨_, o13.cell 0 (by simp), needSome_mk rfl ⟨_, h2.M.c.1, (Last_spec8 h2.S.B.S (by have := h2.S.len; omega)).mono ?_⟩⟩, ?_⟩
  · rintro e w59 ⟨rfl, k59⟩
    have h59 := h2.keep k59
    have hlen2 : (sU s2.U).length = s.U.length - j := by rw [e1]; simp
    have hlast := lastN_get (L := sU s2.U) (by omega)
    have hso2 := pairwise_sU (R := fun a b => a < b) h2.S.I.so
    have e0 : s2.U = s.U[j] :: s.U.drop (j + 1) := by rw [e1, hdrop]
    refine ⟨_, rfl, BIf_dec (fun h3 => ?_) (fun h3 => ?_)⟩
    · refine ⟨none, rfl, done k59 ?_⟩
      cases ht : s.U.drop (j + 1) with
      | nil => rw [e0, ht]; rfl
      | cons g' t' =>
        exfalso
        rw [hlast] at h3
        have hl : (s2.U).length = t'.length + 2 := by rw [e0, ht]; simp
        have e8 : ((sU s2.U)[(sU s2.U).length - 1]'(by omega)).num = (s2.U[s2.U.length - 1]'(by omega)).num := by simp [USeg.s]
        rw [e8] at h3
        have := List.pairwise_iff_getElem.1 hso2 0 (s2.U.length - 1) (by omega) (by omega) (by omega)
        have e9 : s2.U[0]'(by omega) = s.U[j] := by simp [e0]
        rw [e9] at this
        omega
    · cases ht : s.U.drop (j + 1) with
      | nil =>
        exfalso
        rw [hlast] at h3
        have hl : (s2.U).length = 1 := by rw [e0, ht]; simp
        have e8 : ((sU s2.U)[(sU s2.U).length - 1]'(by omega)).num = (s2.U[s2.U.length - 1]'(by omega)).num := by simp [USeg.s]
        rw [e8] at h3
        have e9 : s2.U[s2.U.length - 1]'(by omega) = s.U[j] := by simp [e0, ht]
        rw [e9] at h3
        omega
      | cons g' t' =>
        rw [ht] at e0
        have hdist : ∀ y ∈ g' :: t', y.num ≠ s.U[j].num := fun y hy => by
          rw [e0] at hso2
          have := (List.pairwise_cons.1 hso2).1 y hy; omega
        obtain ⟨es, g1, g2⟩ := h59.M.i.get
        have hiv := h59.M.iv (s.U[j].num : Int)
        have hfew := h2.O.ins_few (s.U[j].num : Int)
        have hin : insU s2.U (s.U[j].num : Int) = (pagesOf s.U[j].rs).map fun y => (y.1 : Int) := by rw [e0]; exact insU_head hdist
        refine ⟨_, (o13.keep k59).cell 0 (by simp), needSome_mk rfl ⟨_, h59.M.c.2.2.1, es, g1, lookL f2.x.il (s.U[j].num : Int), g2 _, (Contains_spec9 h59.M (o13.keep k59) _ _ hiv (by omega)).mono ?_⟩⟩
        rintro e w67 ⟨rfl, rfl⟩
        rw [hin, e2, all_map9]
        refine ⟨_, rfl, BIf_mk (fun h4 => ⟨none, rfl, done k59 ?_⟩) (fun h4 => ⟨k59, g', t', e0, by simpa using h4⟩)⟩
        have h5 : (pagesOf s.U[j].rs).all (fun y => decide (y.1 < s.tr)) = false := by simpa using h4
        rw [e0]
        show (if _ then _ else _) = _
        rw [h5, if_neg (by simp)]
  · rintro w69 ⟨k69, g', t', e0, hall⟩
    intros
    have h69 := h2.keep k69
    have z69 := k69.size
    have hG : ErrsB A n0 w69 := ((hE.ext uf.1.1 h.ge).keep k69)
    have hso2 := pairwise_sU (R := fun a b => a < b) h2.S.I.so
    refine ⟨_, (o13.keep k69).cell 0 (by simp), needSome_mk rfl ⟨_, h69.M.c.1, (Drop_spec8 A h69.S (hG.g.sub segG_sub) hm (s.U[j].num : Int)).mono ?_⟩⟩
    rintro e w92 ⟨e', rfl, q', d', hD', hdn', hds', hcase⟩
    rw [e0, dropR_head] at hcase
    have hok2 := h2.O
    rw [e0] at hok2
    have hend3 : EndsT (g' :: t') s.tr s.ep := by rw [e0] at hend2; exact hend2.tail
    obtain ⟨hO3, hpgA⟩ := UnOk.drop (tr := s2.tr) (ep := s2.ep) (T := s2.T) hok2 (by rw [e2, e3]; exact hend3.all) (fun y hy => by
      have := List.all_eq_true.1 hall y hy
      rw [e2]; simpa using this)
    have hpgD := pgM_drop hpgA
    have hdist : ∀ y ∈ g' :: t', y.num ≠ s.U[j].num := fun y hy => by
      rw [e0] at hso2
      have := (List.pairwise_cons.1 hso2).1 y hy; omega
    rcases hcase with ⟨h5, _⟩ | ⟨_, rfl, u', hS', ft⟩ | ⟨_, rfl, hst, hcr, ft⟩
    · exact absurd rfl h5
    · refine ⟨_, rfl, errO_isI A _, BIf_mk (fun hh => by cases hh) (fun _ => ?_)⟩
      have hM92 := h69.M.ext ft.1 h69.sep (fun k hk hh => h69.ysep k hk (.inr hh))
      have sepW : ∀ k, UnW r f2.x k → ¬ SysB f2.st u' rd q' k := fun k hk hh => (ft.2 k hh).elim (h2.sep k hk) (fun hh => by have := h69.M.lt.1 k hk; omega)
      have hb92 : ∀ k, SysB f2.st u' rd q' k → ¬ ownB s9 k ∧ k ≠ r2 := fun k hk => by
        rcases ft.2 k hk with g | g
        · exact hap k (.inr g)
        · refine ⟨fun hh => ?_, fun hh => ?_⟩
          · have := Rows.lt hI13 k hh; omega
          · have := o13.lt; omega
      have I92 := (hI13.keep k69).ext ft.1 (fun k hk hh => (hap k (.inr hh)).1 hk)
      have o92 := (o13.keep k69).ext ft.1 (fun hh => (hap _ (.inr hh)).2 rfl)
      obtain ⟨es1, ck1, es2, m1, m2, m3⟩ := hM92.i.del (s.U[j].num : Int)
      refine ⟨_, o92.cell 0 (by simp), needSome_mk rfl ⟨_, hM92.c.2.2.1, f2.x.mi, es1, ck1, es2, rfl, m1, m2, fun w101 hw101 => ?_⟩⟩
      obtain ⟨i101, e101, z101⟩ := m3 w101 hw101
      have hM101 := hM92.delI (s.U[j].num : Int) i101 e101
      have hin : insU (g' :: t') = updI (insU s2.U) (s.U[j].num : Int) [] := by rw [e0]; exact insU_drop hdist
      rw [← hin] at hM101
      have hpg : pgM s2.U s2.tr = pgM (g' :: t') s2.tr := by rw [e0]; exact hpgD.symm
      rw [hpg] at hM101
      have hS101 := hS'.ext e101 (fun k hk hh => sepW f2.x.mi (.inr (.inr (.inl rfl))) (by rw [← show k = f2.x.mi from hh]; exact hk))
      have jlt : j + 1 < s.U.length := by
        have : (s.U.drop j).length = t'.length + 2 := by rw [← e1, e0]; simp
        rw [List.length_drop] at this; omega
      have subW : ∀ k, UnW r { f2.x with il := delL f2.x.il (s.U[j].num : Int) } k → UnW r f2.x k := by
        rintro k (hk | hk | hk | ⟨b, s1, hs1, hk⟩)
        · exact .inl hk
        · exact .inr (.inl hk)
        · exact .inr (.inr (.inl hk))
        · dsimp only at hs1
          rw [look_del _ b h2.M.i.nd] at hs1
          by_cases e : b = (s.U[j].num : Int)
          · rw [if_pos e] at hs1; cases hs1
          · rw [if_neg e] at hs1
            exact .inr (.inr (.inr ⟨b, s1, hs1, hk⟩))
      have x101 : Ext (UB r rd f2) w13 w101 := (Ext.trans k69 (ft.1.mono (fun k hk => Or.inr hk)) (fun _ h => h.elim) (fun _ h => .inl h)).trans e101 (fun _ h => h) (fun k hk => .inl (.inl (.inr (.inr (.inl hk)))))
      have uf101 : UFoot r rd f2 ⟨f2.st, { f2.x with il := delL f2.x.il (s.U[j].num : Int) }, u', q', f2.top⟩ w13 w101 := by
        refine ⟨⟨x101, fun k hk => ?_⟩, fun k hk => .inl hk⟩
        rcases hk with hk | hk
        · exact .inl (.inl (subW k hk))
        · exact (ft.2 k hk).elim (fun g => .inl (.inr g)) (fun g => .inr (by omega))
      refine ⟨inR64 (by omega), ⟨j + 1, ⟨f2.st, { f2.x with il := delL f2.x.il (s.U[j].num : Int) }, u', q', f2.top⟩, d', ⟨g' :: t', s2.tr, s2.ep, s2.T⟩, rfl, jlt, ⟨hS101, hM101, hO3, h2.t, h2.T, fun k hk hh => sepW k (subW k hk) hh, fun k hk hh => ?_, fun k hk => h2.n k (subW k hk)⟩, ?_, e2, e3, e4, ?_, ?_, hend3, by rw [hdn', hdn], by rw [hds', hds], uf.trans uf101, ?_, ?_, ?_⟩, by dsimp only; omega⟩
      · rcases hh with hh | hh
        · exact h2.ysep k hk (.inl (subW k hh))
        · rcases ft.2 k hh with g | g
          · exact h2.ysep k hk (.inr g)
          · have := h69.M.lt.2 k hk; omega
      · show g' :: t' = s.U.drop (j + 1)
        have : (s.U.drop j).tail = (s2.U).tail := by rw [e1]
        rw [hdrop, e0] at this
        exact this.symm
      · show pgM (g' :: t') s.tr = _
        rw [← e5, ← e2, hpg]
      · show reclaimU s.tr (g' :: t') = _
        rw [← e6, e0]
        show _ = (if _ then _ else _)
        rw [hall, if_pos rfl]
      · exact I92.ext e101 (fun k hk hh => (hap k (.inl (.inr (.inr (.inl hh))))).1 hk)
      · rintro k (hk | hk)
        · exact hap k (.inl (subW k hk))
        · exact hb92 k hk
      · exact o92.ext e101 (fun hh => (hap r2 (.inl (.inr (.inr (.inl hh))))).2 rfl)
    · refine ⟨_, rfl, errO_isI A _, BIf_mk (fun _ => ⟨some 11, rfl, .inr ⟨rfl, by rw [← hds]; exact hst, q', d', hD', by rw [hdn', hdn], by rw [hds', hds], ⟨hcr.1, fun a b c => ?_⟩, ?_⟩⟩) (fun hh => by cases hh)⟩
      · obtain ⟨L, hL, hI⟩ := hcr.2 a b c
        rw [hdn] at hI
        simp only [List.mem_cons, List.not_mem_nil, or_false] at hL
        rcases hL with rfl | rfl
        · refine ⟨s.U[j] :: g' :: t', hI, fun g hg => h2.S.N g (by rw [e0]; exact hg), s, by simp, same _ ⟨hok2, fun a => by rw [e0]⟩⟩
        · refine ⟨g' :: t', hI, fun g hg => h2.S.N g (by rw [e0]; exact List.mem_cons_of_mem _ hg), s, by simp, same _ ⟨hO3, fun a => by rw [hpgD, e0]⟩⟩
      · have f1 : Foot (UB r rd f2) (DevB rd q') w13 w92 := ⟨Ext.trans k69 (ft.1.mono (fun k hk => Or.inr hk)) (fun _ h => h.elim) (fun _ h => .inl h), fun k hk => (ft.2 k hk).elim (fun g => .inl (.inr g)) (fun g => .inr (by omega))⟩
        exact uf.1.trans f1

theorem Tells.trans {U : List USeg} {s1 s2 : UnS} (h : Tells U s1) (e1 : s2.tr = s1.tr) (e2 : s2.ep = s1.ep) (e3 : s2.T = s1.T) (e4 : ∀ a, pgM s1.U s1.tr a = pgM s2.U s1.tr a) : Tells U s2 := by
  obtain ⟨t1, t2⟩ := h
  refine ⟨by rw [e1, e2, e3]; exact t1, fun a => ?_⟩
  rw [e1, t2 a, e4 a]
theorem Trim_spec9 (A : Nat → Addr) (h : UAt w n0 r rd f d s m) (hE : ErrsB A n0 w) (hm : m + 1 ≤ 2 ^ 60) (epoch to : Int) :
    Calls Tryd.prog fn_unit_Unit_Trim ⟨[ptrR' r, .int .i64 epoch, .int .i64 to]⟩ w fun e w' => ∃ e', e = .returned (errO A e') ∧ Outc w n0 r rd f d s m (trimP (d.n / 64) s epoch to) e' w' := by
  refine unit_Unit_Trim_ok _ _ _ ?_
  unfold unit_Unit_Trim
  have hG : ErrsG uniG A n0 w := hE.g.sub uniG_sub
  refine (check_spec9 A h.M epoch to 4096 hG).mono ?_
  rintro e w6 ⟨rfl, rfl⟩
  unfold trimP
  cases hc : checkE s.ep epoch to 4096 with
  | some c => exact ⟨_, rfl, errO_isI A _, BIf_mk (fun _ => ⟨_, rfl, h.outc (Ext.refl _ _)⟩) (fun hh => by cases hh)⟩
  | none =>
    have ha : 0 ≤ to ∧ to ≤ 4096 := by
      unfold checkE at hc
      split at hc
      · cases hc
      · split at hc
        · cases hc
        · omega
    refine ⟨_, rfl, errO_isI A _, BIf_mk (fun hh => by cases hh) (fun _ => needSome_mk rfl ⟨_, h.M.c.2.2.2.1, BIf_dec (fun h0 => ?_) (fun h0 => ?_)⟩)⟩
    · dsimp only
      rw [if_pos h0]
      exact ⟨none, rfl, h.outc (Ext.refl _ _)⟩
    dsimp only
    rw [if_neg h0]
    obtain ⟨tn, rfl⟩ : ∃ tn : Nat, to = tn := ⟨to.toNat, by omega⟩
    rw [Int.toNat_natCast]
    have hok : okR (.trim tn s.ep) := ⟨by omega, h.T.2⟩
    have ht4 := h.T.1
    have htt := h.t
    have htl := h.O.tl
    refine (record_spec9 A h.S h.M hE (by omega) (.trim tn s.ep) hok (fun _ _ hh => by cases hh; rfl) ⟨none, 0, 0⟩ (fun ⟨_, _, hh⟩ => by cases hh)).mono ?_
    rintro e w53 ⟨n, e', w1, rfl, k1, hp⟩
    rcases hp.unit hok with ⟨ha1, rfl, hD, hk⟩ | ⟨n', V, ha1, rfl, rfl, u', q', d', hS', hn', hst', ft⟩ | ⟨n', V, ha1, rfl, hst, q', d', hD', hn', hst', hcr, ft⟩
    · rw [ha1]
      exact ⟨_, _, rfl, errO_isI A _, BIf_mk (fun _ => ⟨_, rfl, h.outc (k1.trans hk)⟩) (fun hh => by cases hh)⟩
    · rw [ha1]
      have hO' := addOk h.O hok ha1 (fun a' t' he y hy => by cases he)
      have eT : max (topOf (pgU s.U)) tn = max s.T tn := by omega
      have ft' : Foot (SysB f.st f.u rd f.q) (SysB f.st u' rd q') w6 w53 := k1.foot ft
      obtain ⟨hM53, sepW, ysep⟩ := h.noted hok (fun _ _ hh => by cases hh) ha1 hS' ft'
      obtain ⟨c1, c2⟩ := hM53.o.setOne 3 (by simp) (.int .i64 (tn : Int))
      refine ⟨_, _, rfl, errO_isI A _, BIf_mk (fun hh => by cases hh) (fun _ => needSome_mk rfl ?_)⟩
      rw [add_lit]
      refine ⟨c1, fun w14 hw14 => ?_⟩
      obtain ⟨o14, e14, _⟩ := c2 w14 hw14
      have hM14 := hM53.seto e14 o14
      have hS14 := hS'.ext e14 (fun k hk hh => sepW r (.inl rfl) (by rw [← show k = r from hh]; exact hk))
      have x14 : Ext (UB r rd f) w6 w14 := (ft'.1.mono (fun k hk => Or.inr hk)).trans e14 (fun _ h => h) (fun k hk => .inl (.inl (.inl hk)))
      refine (forget_spec9 hM14).mono ?_
      rintro e w16 ⟨rfl, x', hM16, t1, t2, t3⟩
      have z53 := ft'.1.size
      have z14 := e14.size
      have z16 := t1.size
      have hcut : cutPg (tn : Int) (pgM V s.tr) = pgM V tn := by
        funext a
        unfold cutPg pgM
        by_cases e : a < (tn : Int)
        · rw [if_pos e, if_pos e]
        · rw [if_neg e, if_neg e, if_neg (by omega)]
      rw [hcut] at hM16
      have hSlt := hS'.B.lt
      have x16 : Ext (UB r rd f) w6 w16 := x14.trans t1 (fun _ h => h) (fun k hk => .inl (.inl hk))
      have hO1 : UnOk V tn s.ep (max s.T tn) := by
        have := hO'
        simp only [teStep, tailR] at this
        rw [eT] at this; exact this
      have h16 : UAt w16 n0 r rd ⟨f.st, x', u', q', f.top⟩ d' ⟨V, tn, s.ep, max s.T tn⟩ (m + 1) := by
        refine ⟨hS14.ext t1 (fun k hk hh => sepW k hh hk), hM16, hO1, ⟨htt.1, by show max f.top (tn : Int) = ((max s.T tn : Nat) : Int); omega⟩, ⟨by show max s.T tn ≤ 4096; omega, h.T.2⟩, fun k hk hh => ?_, fun k hk hh => ?_, fun k hk => ?_⟩
        · rcases t2 k hk with g | g
          · exact sepW k g hh
          · have := hSlt k hh; omega
        · rcases hh with hh | hh
          · exact hM16.y_out k hk hh
          · have hl := hSlt k hh
            rcases t3 k hk with g | g | g
            · exact ysep k g (.inr hh)
            · exact g
            · omega
        · rcases t2 k hk with g | g
          · exact h.n k g
          · have := h.S.B.z; omega
      have uf16 : UFoot r rd f ⟨f.st, x', u', q', f.top⟩ w6 w16 := by
        refine ⟨⟨x16, fun k hk => ?_⟩, fun k hk => ?_⟩
        · rcases hk with hk | hk
          · rcases t2 k hk with g | g
            · exact .inl (.inl g)
            · exact .inr (by omega)
          · exact (ft'.2 k hk).imp .inr (fun g => g)
        · rcases t3 k hk with g | g | g
          · exact .inl g
          · exact g.elim
          · exact .inr (by omega)
      have hend : EndsT V tn s.ep := by
        obtain ⟨_, _, M, g, rfl, _⟩ := appU_qs ha1
        exact ⟨M, g.place, g.num, g.rs, rfl⟩
      refine ⟨rfl, (reclaim_spec9 A h16 (hE.ext x16 h.ge) hm hend).mono ?_⟩
      rintro e w18 ⟨e', rfl, hcase⟩
      refine ⟨_, rfl, e', rfl, ?_⟩
      rcases hcase with ⟨rfl, f2, d2, h2, hd1, hd2, uf⟩ | ⟨rfl, hst, q2, d2, hD2, hd1, hd2, hcr, ft2⟩
      · exact .inl ⟨rfl, f2, d2, h2, by rw [hd1, hn'], by rw [hd2, hst'], uf16.trans uf⟩
      · refine .inr ⟨rfl, by rw [← hst']; exact hst, q2, d2, hD2, by rw [hd1, hn'], by rw [hd2, hst'], ⟨hcr.1, fun a b c => ?_⟩, uf16.1.trans ft2⟩
        obtain ⟨U2, g1, g2, s2, g3, g4⟩ := hcr.2 a b c
        rw [hn'] at g1
        refine ⟨U2, g1, g2, _, List.mem_cons_of_mem _ (List.mem_singleton.2 rfl), ?_⟩
        simp only [List.mem_cons, List.not_mem_nil, or_false] at g3
        rcases g3 with rfl | rfl
        · exact g4.trans rfl rfl rfl (fun a => by rw [reclaim_pg V hO1 hend])
        · exact g4
    · rw [ha1]
      have hO' := addOk h.O hok ha1 (fun a' t' he y hy => by cases he)
      have eT : max (topOf (pgU s.U)) tn = max s.T tn := by omega
      have hO1 : UnOk V tn s.ep (max s.T tn) := by
        have := hO'
        simp only [teStep, tailR] at this
        rw [eT] at this; exact this
      have hend : EndsT V tn s.ep := by
        obtain ⟨_, _, M, g, rfl, _⟩ := appU_qs ha1
        exact ⟨M, g.place, g.num, g.rs, rfl⟩
      exact ⟨_, _, rfl, errO_isI A _, BIf_mk (fun _ => ⟨some 11, rfl, .inr ⟨rfl, hst, q', d', hD', hn', hst', hcr.unit h.S.N ha1 rfl h.O ⟨hO1, fun a => by rw [reclaim_pg V hO1 hend]⟩, ⟨(k1.foot ft).1.mono (fun k hk => .inr hk), fun k hk => ((k1.foot ft).2 k hk).imp .inr (fun g => g)⟩⟩⟩) (fun hh => by cases hh)⟩
end
end Go.D

set_option linter.unusedVariables false
set_option linter.unusedSimpArgs false
namespace Go.D
open Go

/-! ### what a unit holds stays -/
structure SLe (s s' : UnS) : Prop where
  ep : s.ep ≤ s'.ep
  T : s.T ≤ s'.T
  tr : s.tr ≤ s'.tr
  pg : ∀ (a : Int) (t : List UInt8), pgM s.U s.tr a = some t → a < (s'.tr : Int) ∨ pgM s'.U s'.tr a = some t
theorem SLe.refl (s : UnS) : SLe s s := ⟨Nat.le_refl _, Nat.le_refl _, Nat.le_refl _, fun a t h => .inr h⟩
theorem writeP_le {k : Nat} {s : UnS} {epoch a : Int} {t : List UInt8} (ho : UnOk s.U s.tr s.ep s.T) : SLe s (writeP k s epoch a t).2 := by
  unfold writeP
  cases hc : checkE s.ep epoch a 4095 with
  | some c => exact SLe.refl s
  | none =>
    simp only
    split
    · exact SLe.refl s
    · split
      · exact SLe.refl s
      · split
        · exact SLe.refl s
        · rename_i h1 h2 h3
          have ha : 0 ≤ a ∧ a ≤ 4095 := by
            unfold checkE at hc
            split at hc
            · cases hc
            · split at hc
              · cases hc
              · omega
          obtain ⟨an, rfl⟩ : ∃ an : Nat, a = an := ⟨a.toNat, by omega⟩
          rw [Int.toNat_natCast]
          have hn : pgM s.U s.tr (an : Int) = none := by simpa using h3
          cases hap : appU k s.U (.page an t) with
          | none => exact SLe.refl s
          | some p =>
            obtain ⟨n, V⟩ := p
            refine ⟨Nat.le_refl _, Nat.le_max_left _ _, Nat.le_refl _, fun b t' hb => .inr ?_⟩
            show pgM V s.tr b = some t'
            rw [pgM_page (allR_qs (appU_qs hap).1) (by omega) hn]
            unfold updI
            by_cases e : b = (an : Int)
            · subst e; rw [hn] at hb; cases hb
            · rw [if_neg e]; exact hb
theorem sealP_le {k : Nat} {s : UnS} {epoch : Int} : SLe s (sealP k s epoch).2 := by
  unfold sealP
  split
  · exact SLe.refl s
  · split
    · exact SLe.refl s
    · split
      · exact SLe.refl s
      · rename_i h1 h2 h3
        cases hap : appU k s.U (.shut epoch.toNat) with
        | none => exact SLe.refl s
        | some p =>
          obtain ⟨n, V⟩ := p
          refine ⟨by show s.ep ≤ epoch.toNat; omega, Nat.le_refl _, Nat.le_refl _, fun b t' hb => .inr ?_⟩
          show pgM V s.tr b = some t'
          rw [pgM_same (allR_qs (appU_qs hap).1) (fun _ _ hh => by cases hh)]
          exact hb
theorem trimP_le {k : Nat} {s : UnS} {epoch to : Int} (ho : UnOk s.U s.tr s.ep s.T) (he : s.ep ≤ 2 ^ 30) : SLe s (trimP k s epoch to).2 := by
  unfold trimP
  cases hc : checkE s.ep epoch to 4096 with
  | some c => exact SLe.refl s
  | none =>
    simp only
    split
    · exact SLe.refl s
    · rename_i h1
      have ha : 0 ≤ to ∧ to ≤ 4096 := by
        unfold checkE at hc
        split at hc
        · cases hc
        · split at hc
          · cases hc
          · omega
      obtain ⟨tn, rfl⟩ : ∃ tn : Nat, to = tn := ⟨to.toNat, by omega⟩
      rw [Int.toNat_natCast]
      cases hap : appU k s.U (.trim tn s.ep) with
      | none => exact SLe.refl s
      | some p =>
        obtain ⟨n, V⟩ := p
        have hok : okR (.trim tn s.ep) := ⟨by omega, he⟩
        have hO := addOk ho hok hap (fun _ _ hh => by cases hh)
        have hend : EndsT V tn s.ep := by
          obtain ⟨_, _, M, g, rfl, _⟩ := appU_qs hap
          exact ⟨M, g.place, g.num, g.rs, rfl⟩
        refine ⟨Nat.le_refl _, Nat.le_max_left _ _, by show s.tr ≤ tn; omega, fun b t' hb => ?_⟩
        show b < (tn : Int) ∨ pgM (reclaimU tn V) tn b = some t'
        by_cases e : b < (tn : Int)
        · exact .inl e
        · right
          have hO2 : UnOk V tn s.ep _ := hO
          rw [reclaim_pg V hO2 hend]
          have h2 := pgM_same (tr := s.tr) (allR_qs (appU_qs hap).1) (fun _ _ hh => by cases hh)
          rw [← h2] at hb
          unfold pgM at hb ⊢
          rw [if_neg (by omega)] at hb
          rw [if_neg e]; exact hb

/-- Lower epochs are refused. -/
theorem checkE_low {ep epoch a most : Int} (h : epoch < ep) : checkE ep epoch a most = some 7 := by unfold checkE; rw [if_pos (.inl h)]
theorem writeP_low {k : Nat} {s : UnS} {epoch a : Int} {t : List UInt8} (h : epoch < (s.ep : Int)) : (writeP k s epoch a t).1 ≠ none := by
  unfold writeP; rw [checkE_low h]; simp
theorem trimP_low {k : Nat} {s : UnS} {epoch a : Int} (h : epoch < (s.ep : Int)) : (trimP k s epoch a).1 ≠ none := by
  unfold trimP; rw [checkE_low h]; simp
theorem sealP_low {k : Nat} {s : UnS} {epoch : Int} (h : epoch < (s.ep : Int)) : (sealP k s epoch).1 ≠ none := by
  unfold sealP
  by_cases h0 : epoch < 0 ∨ 1073741824 < epoch
  · rw [if_pos h0]; simp
  · rw [if_neg h0, if_pos h]; simp
/-- What is read at an address below 14. -/
theorem readE_own {U : List USeg} {tr ep : Nat} {a : Nat} (he : ep ≤ 2 ^ 30) (ha : a < 14) : readE tr ep (pgM U tr) ep a = if (a : Int) < (tr : Int) then some 10 else if (pgM U tr (a : Int)).isSome then none else some 9 := by
  unfold readE
  have : checkE ep ep a 4095 = none := by unfold checkE; rw [if_neg (by omega), if_neg (by omega)]
  rw [this]
theorem page_long {U : List USeg} {tr ep T : Nat} (h : UnOk U tr ep T) {a : Int} {t : List UInt8} (hp : pgM U tr a = some t) : 1 ≤ t.length := by
  unfold pgM at hp
  split at hp
  · cases hp
  · unfold pageAt at hp
    rw [Option.map_eq_some_iff] at hp
    obtain ⟨y, hy, rfl⟩ := hp
    exact (h.pages y (List.mem_of_find?_eq_some hy)).2.1
end Go.D

set_option linter.unusedVariables false
set_option linter.unusedSimpArgs false
namespace Go.D
open Go Go.Proofs

def lenP (n : Int) : Nat := if n < 0 ∨ 2050 < n then 2050 else n.toNat
def pageA (n : Int) (b : UInt8) : List UInt8 := List.replicate (lenP n) b
theorem lenP_le (n : Int) : lenP n ≤ 2050 := by unfold lenP; split <;> omega
theorem pageA_le (n : Int) (b : UInt8) : (pageA n b).length ≤ 2 ^ 20 := by have := lenP_le n; simp [pageA]; omega
theorem repl_set9 {α : Type} {j : Nat} {l : List α} (hj : j < l.length) (x : α) (h : l.take j = List.replicate j x) : l.set j x = List.replicate (j + 1) x ++ l.drop (j + 1) := by
  rw [List.set_eq_take_append_cons_drop, if_pos hj, h, List.replicate_succ', List.append_assoc]; rfl
theorem page_spec9 (x1 x2 x3 n : Int) (b : UInt8) (w : World) :
    Calls Tryd.prog fn_tidewaterlaw09_Act_page ⟨[.agg ⟨[.int .i64 x1, .int .i64 x2, .int .i64 x3, .int .i64 n, .int .u8 (b.toNat : Int)]⟩]⟩ w fun e w' => ∃ t : Slc, e = .returned t.v ∧ Own w' t 1 ((pageA n b).map byteV) ∧ Fresh w t ∧ Keep w w' := by
  refine tidewaterlaw09_Act_page_ok _ _ _ _ _ ?_
  unfold tidewaterlaw09_Act_page
  refine newS_mk (fun r6 w7 hr hb k7 hs => ?_)
  have o6 := ObjAt.new' hb
  have hle := lenP_le n
  refine ⟨_, o6.cell 3 (by simp), fun i w2 => i = (lenP n : Int) ∧ w2 = w7, BIf_dec (fun h => ⟨by unfold lenP; rw [if_pos (.inl h)]; rfl, rfl⟩) (fun h => BIf_dec (fun h1 => ⟨by unfold lenP; rw [if_pos (.inr h1)]; rfl, rfl⟩) (fun h1 => ⟨by unfold lenP; rw [if_neg (by omega)]; omega, rfl⟩)), ?_⟩
  rintro n10 w11 ⟨rfl, rfl⟩
  intros
  refine ⟨by omega, by omega, by omega, newS_mk (fun r18 w19 hr18 hb18 k18 hs18 => ?_)⟩
  rw [Int.toNat_natCast] at hb18 ⊢
  rw [repl_bytes] at hb18
  have o18 := ObjAt.new' hb18
  refine ⟨fun i w2 => ∃ j : Nat, i = j ∧ j ≤ lenP n ∧ ObjAt w2 r18 ((List.replicate j b ++ List.replicate (lenP n - j) 0).map byteV) ∧ ObjAt w2 r6 [.int .i64 x1, .int .i64 x2, .int .i64 x3, .int .i64 n, .int .u8 (b.toNat : Int)] ∧ Keep w w2, fun i _ => ((lenP n : Int) - i).toNat,
    ⟨0, rfl, by omega, by simpa using o18, o6.keep k18, k7.trans k18⟩, ?_⟩
  rintro i w23 ⟨j, rfl, hj, ho, ho6, hk⟩
  intros
  have hlen : ((List.replicate j b ++ List.replicate (lenP n - j) 0).map byteV).length = lenP n := by simp; omega
  refine BIf_dec (fun h => ?_) (fun h => ?_)
  · rw [Int.toNat_natCast, Nat.mul_one, add_lit, Nat.zero_add]
    obtain ⟨c1, c2⟩ := ho.setOne j (by omega) (.int .u8 (b.toNat : Int))
    refine ⟨_, ho6.cell 4 (by simp), by omega, by omega, c1, fun w34 hw => ?_⟩
    obtain ⟨g1, g2, g3⟩ := c2 w34 hw
    refine ⟨inR64 (by omega), ⟨j + 1, rfl, by omega, ?_, ho6.ext g2 (fun hh => by omega), hk.ext g2 (fun k hk => by have := k7.size; omega)⟩, by dsimp only; omega⟩
    have e9 : (List.replicate j b ++ List.replicate (lenP n - j) 0).set j b = List.replicate (j + 1) b ++ List.replicate (lenP n - (j + 1)) 0 := by
      rw [repl_set9 (by simp; omega) b (by rw [List.take_append_of_le_length (by simp), List.take_of_length_le (by simp)])]
      congr 1
      rw [List.drop_append, List.drop_of_length_le (by simp), List.length_replicate, List.drop_replicate, List.nil_append]
      congr 1; omega
    rw [show Value.int .u8 (b.toNat : Int) = byteV b from rfl, ← List.map_set, e9] at g1
    exact g1
  · have hje : j = lenP n := by omega
    subst hje
    rw [Nat.sub_self] at ho
    obtain ⟨T, f, g4, g5⟩ := ho
    refine ⟨_, rfl, Own.new (sz := 1) (n := lenP n) (by simpa [pageA] using g4) (by simpa [pageA] using g5) (by simp [pageA]), Fresh.at (by have := k7.size; omega), hk⟩

/-! ### the codes of errors -/
theorem checkE_lt {ep epoch a most : Int} : ∀ j, checkE ep epoch a most = some j → j < 19 := by
  intro j hj
  unfold checkE at hj
  split at hj
  · cases hj; omega
  · split at hj
    · cases hj; omega
    · cases hj
theorem writeP_lt {k : Nat} {s : UnS} {epoch a : Int} {t : List UInt8} : ∀ j, (writeP k s epoch a t).1 = some j → j < 19 := by
  intro j hj
  unfold writeP at hj
  split at hj
  · rename_i c hc; cases hj; exact checkE_lt _ hc
  · split at hj
    · cases hj; omega
    · split at hj
      · cases hj; omega
      · split at hj
        · cases hj; omega
        · split at hj
          · cases hj; omega
          · cases hj
theorem sealP_lt {k : Nat} {s : UnS} {epoch : Int} : ∀ j, (sealP k s epoch).1 = some j → j < 19 := by
  intro j hj
  unfold sealP at hj
  split at hj
  · cases hj; omega
  · split at hj
    · cases hj; omega
    · split at hj
      · cases hj
      · split at hj
        · cases hj; omega
        · cases hj
theorem trimP_lt {k : Nat} {s : UnS} {epoch a : Int} : ∀ j, (trimP k s epoch a).1 = some j → j < 19 := by
  intro j hj
  unfold trimP at hj
  split at hj
  · rename_i c hc; cases hj; exact checkE_lt _ hc
  · split at hj
    · cases hj
    · split at hj
      · cases hj; omega
      · cases hj
theorem readE_lt {tr ep : Int} {pg : Int → Option (List UInt8)} {epoch a : Int} : ∀ j, readE tr ep pg epoch a = some j → j < 19 := by
  intro j hj
  unfold readE at hj
  split at hj
  · rename_i c hc; cases hj; exact checkE_lt _ hc
  · split at hj
    · cases hj; omega
    · split at hj
      · cases hj
      · cases hj; omega

theorem Outc.live {w w' : World} {n0 r rd m : Nat} {f : UnF} {d : DevS} {s : UnS} {p : Option Nat × UnS} {e' : Option Nat} (h : Outc w n0 r rd f d s m p e' w') (hst : d.stops = false) :
    e' = p.1 ∧ ∃ f' d', UAt w' n0 r rd f' d' p.2 (m + 1) ∧ d'.n = d.n ∧ d'.stops = false ∧ UFoot r rd f f' w w' := by
  rcases h with ⟨h1, f', d', h2, h3, h4, h5⟩ | ⟨_, h2, _⟩
  · exact ⟨h1, f', d', h2, h3, by rw [h4]; exact hst, h5⟩
  · rw [hst] at h2; cases h2

/-- A new device. -/
theorem first_spec9 (A : Nat → Addr) (n : Nat) (hn : 1 ≤ n ∧ n < 20) (w0 w : World) (hE : Errs A w0) (hk : Keep w0 w) :
    Calls Tryd.prog fn_disk_New ⟨[.int .i64 ((64 * n : Nat) : Int)]⟩ w fun e w' => ∃ rd q d, e = .returned (.tuple ⟨[ptrR' rd, .nilIface]⟩) ∧ Keep w w' ∧ d.n / 64 = n ∧ d.stops = false ∧
      ∀ w2, Keep w' w2 → Calls Tryd.prog fn_unit_Open ⟨[ptrR' rd]⟩ w2 fun e w3 => ∃ r f, e = .returned (.tuple ⟨[ptrR' r, .nilIface]⟩) ∧ UAt w3 w0.heap.size r rd f d ⟨[], 0, 0, 0⟩ 0 ∧ f.q = q ∧ Keep w2 w3 ∧ (∀ j, UB r rd f j → w.heap.size ≤ j) ∧ (∀ j, UnY f.x j → w.heap.size ≤ j) := by
  have hB : ErrsB A w0.heap.size w0 := hE.b
  refine (New_spec7 A _ w ((hB.g.keep hk).sub (fun g hg => segG_sub g (segG_dsk g hg)))).mono ?_
  rintro e w3 ⟨k3, hc⟩
  rw [if_neg (by omega)] at hc
  obtain ⟨rd, q, rfl, hD, hDf⟩ := hc
  have hn' : (newD (Int.toNat ((64 * n : Nat) : Int))).n = 64 * n := by rw [newD_n]; omega
  refine ⟨rd, q, _, rfl, k3, by rw [hn']; omega, rfl, fun w2 k2 => ?_⟩
  have z0 := hk.size
  have z3 := k3.size
  have z2 := k2.size
  refine (Open_spec9 A (hB.keep ((hk.trans k3).trans k2)) (hD.keep k2) rfl (U := []) (tr := 0) (ep := 0) (T := 0) (init_img _ _) UnOk.nil (by omega) (by rw [hn']; omega) (m := 0) (by simp) (by omega) (fun j hj => by have := hDf j hj; omega) (by omega)).mono ?_
  rintro e w4 ⟨r, f, rfl, hU, hq, hUB, hUY, k4⟩
  exact ⟨r, f, rfl, hU, hq, k4, fun j hj => (hUB j hj).elim (hDf j) (fun g => by omega), fun j hj => by have := hUY j hj; omega⟩
/-- The chapter's example. -/
theorem alive_spec9 (A : Nat → Addr) (w : World) (hE : Errs A w) : Calls Tryd.prog fn_tidewaterlaw09_alive ⟨[]⟩ w fun e w' => e = .returned (.bool true) ∧ Keep w w' := by
  refine tidewaterlaw09_alive_ok ?_
  unfold tidewaterlaw09_alive
  have hB : ErrsB A w.heap.size w := hE.b
  refine (first_spec9 A 1 (by omega) w w hE (Ext.refl _ _)).mono ?_
  rintro e w2 ⟨rd, q, d, rfl, k2, hdn, hds, hop⟩
  refine ⟨_, _, rfl, fun w3 => w3 = w2, ⟨trivial, BIf_mk (fun h => by cases h) (fun _ => BIf_mk (fun h => by cases h) (fun _ => rfl))⟩, ?_⟩
  rintro w6 rfl
  intros
  refine (hop _ (Ext.refl _ _)).mono ?_
  rintro e w15 ⟨r, f, rfl, hU, hq, k15, hUB, hUY⟩
  refine ⟨_, _, rfl, fun w3 => w3 = w15, ⟨trivial, BIf_mk (fun h => by cases h) (fun _ => BIf_mk (fun h => by cases h) (fun _ => rfl))⟩, ?_⟩
  rintro w19 rfl
  intros
  have lit : ∀ {w1 w2 : World} {r1 : Nat} {c : UInt8}, w2.heap[r1]? = some (.cells ⟨[Value.int .u8 (c.toNat : Int)]⟩ 5) → bytesAt (markW w2 r1) (⟨some ⟨r1, 0, none⟩, 1, 1⟩ : Slc) [c] ∧ Ext (fun k => k = r1) w2 (markW w2 r1) := by
    intro w1 w2 r1 c hb
    obtain ⟨hb30, e30⟩ := markW_heap hb
    refine ⟨⟨rfl, .inr ⟨_, rfl, fun i hi => ?_⟩⟩, e30⟩
    have : i = 0 := by simp at hi; omega
    subst this
    rw [add_lit, cell_of hb30]
    rfl
  refine newS_mk (fun r27 w28 hr hb k28 hs => ?_)
  rintro w30 rfl
  obtain ⟨hb30, e30⟩ := lit (w1 := w28) (c := 97) hb
  have k30 : Keep w19 (markW w28 r27) := k28.ext e30 (fun k hk => by omega)
  have kk := (k2.trans k15).trans k30
  have lt19 := hU.lt
  have ob : ∀ {r1 : Nat} {j : Nat}, ownB (⟨some ⟨r1, 0, none⟩, 1, 1⟩ : Slc) j → j = r1 := by rintro r1 j ⟨a, ha, rfl⟩; cases ha; rfl
  refine (Write_spec9 A (hU.keep k30) (hB.keep kk) (by omega) 0 3 _ _ hb30 (by simp) (fun j hj hh => by have := ob hj; have := lt19.1 j hh; omega)).mono ?_
  rintro e w32 ⟨e', rfl, hout⟩
  obtain ⟨rfl, f', d', hU', hn', hs', uf⟩ := hout.live hds
  have hw1 : writeP (d.n / 64) ⟨[], 0, 0, 0⟩ 0 3 [97] = (none, ⟨[⟨0, 0, [.page 3 [97]]⟩], 0, 0, 4⟩) := by rw [hdn]; rfl
  rw [hw1] at hU' ⊢
  have kk32 : Keep w w32 := kk.ext uf.1.1 (hU.keep k30).ge
  refine ⟨_, rfl, trivial, BIf_mk (fun _ => ?_) (fun hh => by cases hh)⟩
  refine newS_mk (fun r34 w35 hr hb k35 hs => ?_)
  rintro w37 rfl
  obtain ⟨hb37, e37⟩ := lit (w1 := w35) (c := 98) hb
  have k37 : Keep w32 (markW w35 r34) := k35.ext e37 (fun k hk => by omega)
  have kk37 := kk32.trans k37
  have lt32 := hU'.lt
  refine (Write_spec9 A (hU'.keep k37) (hB.keep kk37) (by omega) 0 3 _ _ hb37 (by simp) (fun j hj hh => by have := ob hj; have := lt32.1 j hh; omega)).mono ?_
  rintro e w39 ⟨e', rfl, hout⟩
  obtain ⟨rfl, f2, d2, hU2, hn2, hs2, uf2⟩ := hout.live hs'
  have hw2 : writeP (d'.n / 64) ⟨[⟨0, 0, [.page 3 [97]]⟩], 0, 0, 4⟩ 0 3 [98] = (some 8, ⟨[⟨0, 0, [.page 3 [97]]⟩], 0, 0, 4⟩) := by rfl
  rw [hw2] at hU2 ⊢
  have kk39 : Keep w w39 := kk37.ext uf2.1.1 (hU'.keep k37).ge
  refine ⟨_, rfl, (numO_spec8 A (some 8) (fun j hj => by cases hj; omega) _ (hE.keep kk39)).mono ?_⟩
  rintro e w42 ⟨rfl, k42⟩
  refine ⟨_, rfl, BIf_dec (fun _ => (Tail_spec9 (hU2.keep k42).M).mono ?_) (fun hh => absurd rfl hh)⟩
  rintro e w45 ⟨rfl, k45⟩
  refine ⟨_, rfl, ?_, (kk39.trans k42).trans k45⟩
  have := hU2.t.2
  rw [this]; rfl
end Go.D

set_option linter.unusedVariables false
set_option linter.unusedSimpArgs false
namespace Go.D
open Go Go.Proofs

/-! ### the acts -/
abbrev Act09 := Int × Int × Int × Int × Int
abbrev rdAct09 : Rd Act09 := Rd.pair (Rd.int .i64) (Rd.pair (Rd.int .i64) (Rd.pair (Rd.int .i64) (Rd.pair (Rd.int .i64) (Rd.int .u8))))
def actC09 (a : Act09) : List Value := [.int .i64 a.1, .int .i64 a.2.1, .int .i64 a.2.2.1, .int .i64 a.2.2.2.1, .int .u8 a.2.2.2.2]
def ActsAt09 (w : World) (s : Slc) (xs : List Act09) : Prop := s.l = xs.length ∧ s.l ≤ s.c ∧ ∀ i (h : i < xs.length), inR .u8 xs[i].2.2.2.2 ∧ ∃ a, s.p = some a ∧ rowAt w (a.add (i * 5)) 0 (actC09 xs[i])
theorem acts_of09 {w : World} {s : Slc} {xs : List Act09} (h : rowsR rdAct09 w s xs) : ActsAt09 w s xs := by
  obtain ⟨h1, h2, _, h3⟩ := h
  refine ⟨h1, h2, fun i hi => ?_⟩
  obtain ⟨a, cs, ha, ⟨_, _, hcs, ⟨rfl, _⟩, ⟨_, _, rfl, ⟨rfl, _⟩, ⟨_, _, rfl, ⟨rfl, _⟩, ⟨_, _, rfl, ⟨rfl, _⟩, ⟨rfl, hu⟩⟩⟩⟩⟩, hrow⟩ := h3 i hi
  subst hcs
  exact ⟨hu, a, ha, hrow⟩
theorem u8_of9 {x : Int} (h : inR .u8 x) : ∃ b : UInt8, (b.toNat : Int) = x := by
  have h0 : 0 ≤ x := h.1
  have h1 : x ≤ 255 := h.2
  refine ⟨UInt8.ofNat x.toNat, ?_⟩
  rw [UInt8.toNat_ofNat']
  omega
end Go.D

set_option linter.unusedVariables false
set_option linter.unusedSimpArgs false
namespace Go.D
open Go Go.Proofs

theorem begin_once (A : Nat → Addr) (n : Int) (w0 w : World) (hE : Errs A w0) (hk : Keep w0 w) :
    Calls Tryd.prog fn_tidewaterlaw09_begin ⟨[.int .i64 n]⟩ w fun e w' => ∃ rd r r2 f d, e = .returned (.tuple ⟨[ptrR' rd, ptrR' r, ptrR' r2]⟩) ∧ UAt w' w0.heap.size r rd f d ⟨[], 0, 0, 0⟩ 0 ∧ d.stops = false ∧ Keep w0 w' := by
  refine tidewaterlaw09_begin_ok _ ?_
  unfold tidewaterlaw09_begin
  obtain ⟨a, ha, hwa', hua⟩ := mod_wrap8 n 4 (by omega) (by omega)
  have hwa : IntKind.wrap .i64 ((IntKind.wrap .u64 n) % (4 : Int)) = (a : Int) := hwa'
  simp only [hwa]
  have e1 : (64 : Int) * ((1 : Int) + (a : Int)) = ((64 * (a + 1) : Nat) : Int) := by omega
  rw [e1]
  refine ⟨hua, by omega, inR64 (by omega), inR64 (by omega), (first_spec9 A (a + 1) (by omega) w0 w hE hk).mono ?_⟩
  rintro e w3 ⟨rd, q, d, rfl, k3, hdn, hds, hop⟩
  refine ⟨_, _, rfl, trivial, BIf_mk (fun h => by cases h) (fun _ => (hop w3 (Ext.refl _ _)).mono ?_)⟩
  rintro e w7 ⟨r, f, rfl, hU, hq, k7, hUB, hUY⟩
  refine ⟨_, _, rfl, trivial, BIf_mk (fun h => by cases h) (fun _ => ?_)⟩
  refine Calls.mono (R := fun e w' => ∃ r2, e = .returned (ptrR' r2) ∧ Keep w7 w') (tidewaterref09_New_ok _ ?_) ?_
  · unfold tidewaterref09_New
    exact newS_mk (fun r2 w3 hr2 hb2 k2 hs2 => newS_mk (fun r4 w5 hr4 hb4 k4 hs4 => ⟨_, rfl, k2.trans k4⟩))
  · rintro e w11 ⟨r2, rfl, k11⟩
    exact ⟨_, rfl, rd, r, r2, f, d, rfl, hU.keep k11, hds, ((hk.trans k3).trans k7).trans k11⟩
theorem UnitOnce_walk (A : Nat → Addr) (sl0 : Slc) (l : List Act09) (a : Int) (w : World) (hl : ActsAt09 w sl0 l) (hE : Errs A w) :
    Calls Tryd.prog fn_tidewaterlaw09_UnitOnce ⟨[sl0.v, .int .i64 a]⟩ w fun e w' => e = .returned (.bool true) ∧ Keep w w' := by
  refine tidewaterlaw09_UnitOnce_ok _ _ ?_
  unfold tidewaterlaw09_UnitOnce
  have hll := hl.1
  have hB : ErrsB A w.heap.size w := hE.b
  refine (alive_spec9 A w hE).mono ?_
  rintro e w4 ⟨rfl, k4⟩
  refine ⟨_, rfl, BIf_mk (fun h => by cases h) (fun _ => BIf_dec (fun h0 => ⟨rfl, k4⟩) (fun h0 => (begin_once A 3 w w4 hE k4).mono ?_))⟩
  rintro e w7 ⟨rd, r, r2, f, d, rfl, h7, hst, kp7⟩
  refine ⟨_, _, _, rfl, fun w2 => w2 = w7, BIf_mk (fun h => by cases h) (fun _ => BIf_mk (fun h => by cases h) (fun _ => rfl)), ?_⟩
  rintro w12 rfl
  intros
  obtain ⟨an, han, hwa', hua⟩ := mod_wrap8 a 14 (by omega) (by omega)
  have hwa : IntKind.wrap .i64 ((IntKind.wrap .u64 a) % (14 : Int)) = (an : Int) := hwa'
  refine ⟨hua, by omega, fun x seen tm top i w2 => ∃ (t r : Nat) (f : UnF) (d : DevS) (s : UnS), i = t ∧ t ≤ l.length ∧ x = some ⟨r, 0, none⟩ ∧ UAt w2 w.heap.size r rd f d s t ∧ d.stops = false ∧ Keep w w2 ∧ top ≤ (s.T : Int) ∧ (seen ≠ [] → (an : Int) < (s.tr : Int) ∨ pgM s.U s.tr (an : Int) = some seen) ∧ (tm = true → (an : Int) < (s.tr : Int)), fun _ _ _ _ i _ => ((l.length : Int) - i).toNat,
    ⟨0, r, f, d, _, rfl, by omega, rfl, h7, hst, kp7, by simp, fun h => absurd rfl h, fun h => by cases h⟩, ?_⟩
  rintro x seen tm top i w27 ⟨t, r, f, d, s, rfl, ht, rfl, hU, hst, hkp, htop, hseen, htm⟩
  intros
  refine BIf_dec (fun h1 => ?_) (fun h1 => ⟨rfl, hkp⟩)
  have htl : t < l.length := by omega
  obtain ⟨hu, a1, ha1, hrow⟩ := hl.2.2 t htl
  obtain ⟨b, hbx⟩ := u8_of9 hu
  generalize hact : l[t] = act at hrow hbx
  obtain ⟨x1, x2, x3, x4, x5⟩ := act
  subst hbx
  refine needSome_mk ha1 ⟨by omega, h1, _, _, _, _, _, by rw [Int.toNat_natCast]; exact rowAt_keep hrow hkp, ?_⟩
  refine var_mk (cs := actC09 (x1, x2, x3, x4, (b.toNat : Int))) rfl rfl (fun r9 w175 hr9 o9 k9 hs9 => (Epoch_spec9 (hU.keep k9).M).mono ?_)
  rintro e w177 ⟨rfl, k177⟩
  have kk := k9.trans k177
  have o177 := o9.keep k177
  have hU177 := hU.keep kk
  have kp177 := hkp.trans kk
  have ltU := hU.lt
  have n9 : ∀ j, UB r rd f j → j ≠ r9 := fun j hj => by have := ltU.1 j hj; omega
  have hep := hU.T.2
  refine ⟨_, rfl, fun x err w2 => ∃ (r' : Nat) (f' : UnF) (d' : DevS) (s' : UnS) (e' : Option Nat), x = some ⟨r', 0, none⟩ ∧ err = errO A e' ∧ UAt w2 w.heap.size r' rd f' d' s' (t + 1) ∧ d'.stops = false ∧ Keep w w2 ∧ SLe s s' ∧ ObjAt w2 r9 (actC09 (x1, x2, x3, x4, (b.toNat : Int))) ∧ (x1 ≠ 1 → 0 ≤ x1 → x1 ≤ 3 → x2 < (s.ep : Int) → e' ≠ none),
    ⟨_, o177.cell 0 (by simp [actC09]), BIf_dec (fun g0 => ?_) (fun g0 => BIf_dec (fun g2 => ?_) (fun g2 => BIf_dec (fun g3 => ?_) (fun g3 => ?_)))⟩, ?_⟩
  · -- Write
    have kd : Keep w177 (World.drew w177) := Ext.drew _ _
    have od := o177.keep kd
    refine ⟨_, od.cell 1 (by simp [actC09]), _, od.cell 2 (by simp [actC09]), _, _, _, _, _, od.row, (page_spec9 x1 x2 x3 x4 b _).mono ?_⟩
    rintro e w189 ⟨t2, rfl, ho, hf, k189⟩
    have kk2 := kd.trans k189
    have o189 := od.keep k189
    have zd := kd.size
    have zk := kk.size
    refine ⟨t2, rfl, ⟨_, o189.cell 2 (by simp [actC09]), rfl⟩, ⟨_, o189.cell 1 (by simp [actC09]), rfl⟩, (Write_spec9 A (hU177.keep kk2) (hB.keep (kp177.trans kk2)) (by omega) x2 x3 t2 _ ho.bytes (pageA_le _ _) (fun j hj hh => by have := hf j hj; have := ltU.1 j hh; omega)).mono ?_⟩
    rintro e w194 ⟨e', rfl, hout⟩
    obtain ⟨rfl, f', d', hU', hn', hs', uf⟩ := hout.live hst
    exact ⟨_, rfl, r, f', d', _, _, rfl, rfl, hU', hs', (kp177.trans kk2).ext uf.1.1 hU.ge, writeP_le hU.O, o189.ext uf.1.1 (fun hh => n9 _ hh rfl), fun _ _ _ h => writeP_low h⟩
  · -- Trim
    refine ⟨_, o177.cell 1 (by simp [actC09]), _, o177.cell 2 (by simp [actC09]), (Trim_spec9 A hU177 (hB.keep kp177) (by omega) x2 x3).mono ?_⟩
    rintro e w199 ⟨e', rfl, hout⟩
    obtain ⟨rfl, f', d', hU', hn', hs', uf⟩ := hout.live hst
    exact ⟨_, rfl, r, f', d', _, _, rfl, rfl, hU', hs', kp177.ext uf.1.1 hU.ge, trimP_le hU.O hep, o177.ext uf.1.1 (fun hh => n9 _ hh rfl), fun _ _ _ h => trimP_low h⟩
  · -- Seal
    refine ⟨_, o177.cell 1 (by simp [actC09]), (Seal_spec9 A hU177 (hB.keep kp177) (by omega) x2).mono ?_⟩
    rintro e w203 ⟨n, e', rfl, hout, _⟩
    obtain ⟨rfl, f', d', hU', hn', hs', uf⟩ := hout.live hst
    exact ⟨_, _, rfl, r, f', d', _, _, rfl, rfl, hU', hs', kp177.ext uf.1.1 hU.ge, sealP_le, o177.ext uf.1.1 (fun hh => n9 _ hh rfl), fun _ _ _ h => sealP_low h⟩
  · -- the device is opened anew
    refine (Open_spec9 A (hB.keep kp177) hU177.S.B.D hU177.S.p hU177.S.I hU.O hU.T hU.S.k hU.S.N (by omega) hU.S.B.dn hU177.S.B.z).mono ?_
    rintro e w207 ⟨r', f', rfl, hU', hq, hUB, hUY, k207⟩
    refine ⟨_, _, rfl, trivial, BIf_mk (fun h => by cases h) (fun _ => (Epoch_spec9 hU'.M).mono ?_)⟩
    rintro e w211 ⟨rfl, k211⟩
    refine ⟨_, rfl, BIf_ndec (fun hh => absurd rfl hh) (fun _ => ?_)⟩
    exact ⟨r', f', d, s, none, rfl, rfl, (hU'.keep k211).up (by omega), hst, (kp177.trans k207).trans k211, SLe.refl s, (o177.keep k207).keep k211, fun v1 v2 v3 _ => by omega⟩
  rintro x err w215 ⟨r', f', d', s', e', rfl, rfl, hU', hst', hkp', hle, o', hlow⟩
  intros
  have l1 := hle.ep
  have l2 := hle.T
  have l3 := hle.tr
  have tl : ∀ {F : World → Prop}, Calls Tryd.prog fn_unit_Unit_Epoch ⟨[ptrR' r']⟩ w215 fun e w1 => ∃ n : Int, e = .returned (.int .i64 n) ∧ BIf (decide (n < (s.ep : Int))) (F w1) (Calls Tryd.prog fn_unit_Unit_Tail ⟨[ptrR' r']⟩ w1 fun e w2 => ∃ n2 : Int, e = .returned (.int .i64 n2) ∧ BIf (decide (n2 < top)) (F w2) (Keep w215 w2)) := by
    intro F
    refine (Epoch_spec9 hU'.M).mono ?_
    rintro e w1 ⟨rfl, k1⟩
    refine ⟨_, rfl, BIf_dec (fun h => by omega) (fun _ => (Tail_spec9 (hU'.keep k1).M).mono ?_)⟩
    rintro e w2 ⟨rfl, k2⟩
    have := hU'.t.2
    exact ⟨_, rfl, BIf_dec (fun h => by omega) (fun _ => k1.trans k2)⟩
  refine ⟨fun w2 => Keep w215 w2, ⟨_, o'.cell 0 (by simp [actC09]), BIf_dec (fun g0 => ⟨_, o'.cell 0 (by simp [actC09]), BIf_dec (fun g1 => ⟨_, o'.cell 0 (by simp [actC09]), BIf_ndec (fun g2 => ⟨_, o'.cell 1 (by simp [actC09]), BIf_dec (fun g3 => ⟨errO_isI A _, BIf_mk (fun g4 => ?_) (fun _ => tl)⟩) (fun _ => tl)⟩) (fun _ => tl)⟩) (fun _ => tl)⟩) (fun _ => tl)⟩, ?_⟩
  · rw [errO_nil] at g4
    have : e' = none := by simpa using g4
    exact absurd this (hlow g2 g0 g1 g3)
  rintro w294 k294
  intros
  refine (Tail_spec9 (hU'.keep k294).M).mono ?_
  rintro e w332 ⟨rfl, k332⟩
  have kA := k294.trans k332
  refine ⟨_, rfl, (Epoch_spec9 (hU'.keep kA).M).mono ?_⟩
  rintro e w335 ⟨rfl, k335⟩
  have kB := kA.trans k335
  refine ⟨_, rfl, ?_⟩
  rw [hwa]
  refine (Read_spec9 A (hU'.keep kB).M (s'.ep : Int) (an : Int) (((hB.keep hkp').keep kB).g.sub uniG_sub)).mono ?_
  rintro e w338 ⟨t2, rfl, ho, hf, k338⟩
  have kC := kB.trans k338
  have htt := hU'.t.2
  rw [readE_own hU'.T.2 han] at ho ⊢
  have hEC : Errs A w338 := hE.keep (hkp'.trans kC)
  have hUC := hU'.keep kC
  -- what was seen is there, or it is trimmed
  have hseen' : seen ≠ [] → (an : Int) < (s'.tr : Int) ∨ pgM s'.U s'.tr (an : Int) = some seen := fun hh => by
    rcases hseen hh with g | g
    · exact .inl (by omega)
    · exact hle.pg _ _ g
  have htm' : tm = true → (an : Int) < (s'.tr : Int) := fun hh => by have := htm hh; omega
  refine ⟨t2, _, rfl, fun x w2 => x = false ∧ w2 = w338, ?_, ?_⟩
  · refine ⟨errO_isI A _, ?_⟩
    by_cases c1 : (an : Int) < (s'.tr : Int)
    · rw [if_pos c1]
      exact BIf_mk (fun hh => by cases hh) (fun _ => ⟨rfl, rfl⟩)
    · rw [if_neg c1] at ho ⊢
      cases hp : pgM s'.U s'.tr (an : Int) with
      | none => exact BIf_mk (fun hh => by cases hh) (fun _ => ⟨rfl, rfl⟩)
      | some tt =>
        rw [hp] at ho
        have hlen := page_long hU'.O hp
        have hol := ho.1
        have h20 : t2.l = tt.length := by simp at hol; omega
        have zf : decide (((t2.l : Nat) : Int) = (0 : Int)) = false := decide_eq_false (by omega)
        refine BIf_mk (fun _ => BIf_mk (fun g => absurd (htm' g) c1) (fun _ => BIf_ndec (fun g => ⟨tt, Own.bytes (by simpa using ho), BIf_ndec (fun g2 => ?_) (fun _ => ⟨zf, rfl⟩)⟩) (fun _ => ⟨zf, rfl⟩))) (fun hh => by cases hh)
        rcases hseen' g with g3 | g3
        · exact absurd g3 c1
        · rw [hp] at g3
          exact absurd (Option.some.inj g3).symm g2
  · rintro x w344 ⟨rfl, rfl⟩
    intros
    refine BIf_mk (fun hh => by cases hh) (fun _ => ⟨errO_isI A _, ?_⟩)
    have next : ∀ {w9 : World} {seen' : List UInt8} {tm' : Bool}, Keep w344 w9 → (seen' ≠ [] → (an : Int) < (s'.tr : Int) ∨ pgM s'.U s'.tr (an : Int) = some seen') → (tm' = true → (an : Int) < (s'.tr : Int)) →
        ∃ (t' r : Nat) (f : UnF) (d : DevS) (s : UnS), ((t : Int) + 1) = t' ∧ t' ≤ l.length ∧ (some (⟨r', 0, none⟩ : Addr)) = some ⟨r, 0, none⟩ ∧ UAt w9 w.heap.size r rd f d s t' ∧ d.stops = false ∧ Keep w w9 ∧ max f'.top (s'.tr : Int) ≤ (s.T : Int) ∧ (seen' ≠ [] → (an : Int) < (s.tr : Int) ∨ pgM s.U s.tr (an : Int) = some seen') ∧ (tm' = true → (an : Int) < (s.tr : Int)) :=
      fun k9 q1 q2 => ⟨t + 1, r', f', d', s', rfl, htl, rfl, hUC.keep k9, hst', (hkp'.trans kC).trans k9, by omega, q1, q2⟩
    by_cases c1 : (an : Int) < (s'.tr : Int)
    · rw [if_pos c1]
      refine BIf_mk (fun hh => by cases hh) (fun _ => (numO_spec8 A (some 10) (fun j hj => by cases hj; omega) _ hEC).mono ?_)
      rintro e w367 ⟨rfl, k367⟩
      exact ⟨_, rfl, BIf_dec (fun _ => ⟨inR64 (by omega), next k367 hseen' (fun _ => c1), by dsimp only; omega⟩) (fun hh => absurd rfl hh)⟩
    · rw [if_neg c1] at ho ⊢
      cases hp : pgM s'.U s'.tr (an : Int) with
      | none =>
        have hs0 : seen = [] := by
          by_cases e0 : seen = []
          · exact e0
          · rcases hseen' e0 with g | g
            · exact absurd g c1
            · rw [hp] at g; cases g
        refine BIf_mk (fun hh => by cases hh) (fun _ => (numO_spec8 A (some 9) (fun j hj => by cases hj; omega) _ hEC).mono ?_)
        rintro e w367 ⟨rfl, k367⟩
        refine ⟨_, rfl, BIf_dec (fun hh => absurd hh (by decide)) (fun _ => (numO_spec8 A (some 9) (fun j hj => by cases hj; omega) _ (hEC.keep k367)).mono ?_)⟩
        rintro e w370 ⟨rfl, k370⟩
        refine ⟨_, rfl, BIf_ndec (fun hh => absurd rfl hh) (fun _ => BIf_ndec (fun hh => absurd hs0 hh) (fun _ => BIf_mk (fun hh => absurd (htm' hh) c1) (fun _ => ⟨inR64 (by omega), next (k367.trans k370) hseen' htm', by dsimp only; omega⟩)))⟩
      | some tt =>
        rw [hp] at ho
        exact BIf_mk (fun _ => ⟨tt, Own.bytes (by simpa using ho), inR64 (by omega), next (Ext.refl _ _) (fun _ => .inr hp) htm', by dsimp only; omega⟩) (fun hh => by cases hh)
theorem UnitOnce_fin (sl0 : Slc) (l : List Act09) (a : Int) (w : World) (hl : rowsR rdAct09 w sl0 l) (A : Nat → Addr) (hE : Errs A w) :
    Calls Tryd.prog fn_tidewaterlaw09_UnitOnce ⟨[sl0.v, .int .i64 a]⟩ w fun e w' => e = .returned (.bool true) ∧ Keep w w' := UnitOnce_walk A sl0 l a w (acts_of09 hl) hE
end Go.D

