/-
  WHAT IS PROVED: the engine: verification conditions of the code, with their soundness. No further conditions.
-/
import Derived.Test.YtfnibbccnbmkoaaDoorEng9
set_option linter.unusedSimpArgs false
namespace Go.D
open Go
set_option linter.unusedVariables false
def BIf (b : Bool) (X Y : Prop) : Prop := match b with | true => X | false => Y
theorem aN {b : Bool} {X Y : Prop} (h1 : b = true -> X) (h2 : b = false -> Y) : BIf b X Y := by cases b <;> simp [BIf, h1, h2]
theorem aa {p : Prop} [Decidable p] {X Y : Prop} (h1 : p -> X) (h2 : ¬ p -> Y) : BIf (decide p) X Y :=
 aN (fun h => h1 (of_decide_eq_true h)) (fun h => h2 (of_decide_eq_false h))
theorem aR {p : Prop} [Decidable p] {X Y : Prop} (h1 : ¬ p -> X) (h2 : p -> Y) : BIf (!decide p) X Y :=
 aN (fun h => h1 (by simpa using h)) (fun h => h2 (by simpa using h))
def cd (ds : List Nat) (l l' : List Value) : Prop := l'.length = l.length /\ ∀ s, s ∉ ds -> l'[s]? = l[s]?
theorem aJ (ds : List Nat) (l : List Value) : cd ds l l := ⟨rfl, fun _ _ => rfl⟩
theorem cK {ds : List Nat} {l l1 l2 : List Value} (h1 : cd ds l l1) (h2 : cd ds l1 l2) : cd ds l l2 :=
 ⟨h2.1.trans h1.1, fun s hs => (h2.2 s hs).trans (h1.2 s hs)⟩
theorem aB {ds ds' : List Nat} {l l' : List Value} (h : ∀ s ∈ ds, s ∈ ds') (h1 : cd ds l l') : cd ds' l l' :=
 ⟨h1.1, fun s hs => h1.2 s (fun h2 => hs (h s h2))⟩
def dstsOf (ops : List Oper) : List Nat := ops.filterMap (·.dst)
theorem cU {ds : List Nat} {l0 l : List Value} {d : Option Tmp} {v : Value} (h : cd ds l0 l) (hd : ∀ x, d = some x -> x ∈ ds) : cd ds l0 (put l d v) := by
 cases d with
 | none => exact h
 | some x =>
  refine ⟨by simp [put, h.1], fun s hs => ?_⟩
  have : x ≠ s := fun e => hs (e ▸ hd x rfl)
  simp [put, List.getElem?_set_ne this, h.2 s hs]
def q9 (ops : List Oper) (j : Nat) : Option Tmp := (ops[j]?).bind (·.dst)
def guardK (ops : List Oper) (g : Option (Nat × Bool)) (l : List Value) (run skip : List Value -> Prop) : Prop :=
  match g with
  | none => run l
  | some (j, want) =>
    (match q9 ops j with
     | none => False
     | some d =>
       (match l.getD d undef with
        | .bool b => BIf b (match want with | true => run (l.set d (.bool true)) | false => skip (l.set d (.bool true)))
            (match want with | true => skip (l.set d (.bool false)) | false => run (l.set d (.bool false)))
        | .tuple _ => skip l
        | _ => False))
theorem pR {l : List Value} {d : Nat} {v : Value} (h : l.getD d undef = v) (hv : ∀ a, v ≠ .tuple a) : l.set d v = l /\ l[d]? = some v := by
 rw [List.getD_eq_getElem?_getD] at h
 rcases Nat.lt_or_ge d l.length with hd | hd
 ·rw [List.getElem?_eq_getElem hd] at h ⊢
  simp only [Option.getD_some] at h
  subst h
  exact ⟨List.set_getElem_self hd, rfl⟩
 ·rw [List.getElem?_eq_none hd] at h
  exact absurd h.symm (hv _)
theorem gG {ops : Array Oper} {o : Oper} {l : List Value} {run skip : List Value -> Prop} (h : guardK ops.toList o.guard l run skip) :
  (Region.wanted o (yielded ops ⟨l⟩) = true /\ run l) \/ (Region.wanted o (yielded ops ⟨l⟩) = false /\ skip l) := by
 unfold guardK at h
 unfold Region.wanted
 split at h
 ·rename_i hg; left; exact ⟨by simp [hg], h⟩
 ·rename_i j want hg
  simp only [hg]
  split at h
  ·exact h.elim
  ·rename_i d hd
   have hd' : (ops[j]?).bind (·.dst) = some d := by simpa [q9] using hd
   split at h
   ·rename_i b hb
    obtain ⟨h1, h2⟩ := pR hb (by simp)
    have hy : yielded ops ⟨l⟩ j = some b := by simp [yielded, hd', h2]
    rw [hy]
    cases b <;> simp only [BIf, h1] at h <;> cases want <;> simp_all
   ·rename_i t ht
    have hy : yielded ops ⟨l⟩ j = none := by
     simp only [yielded, hd', Option.bind_some]
     rw [List.getD_eq_getElem?_getD] at ht
     cases hl : l[d]? with
     | none => simp [hl]
     | some x => rw [hl] at ht; simp only [Option.getD_some] at ht; subst ht; simp [hl]
    rw [hy]; right; exact ⟨by simp, h⟩
   ·exact h.elim
def qK (P : Program) (L : Nat -> Bool) (ra : List Nat) (ops : List Oper) : List Oper -> Nat -> (List Value -> World -> Prop) -> List Value -> World -> Prop
 | [], _, Q, l, w => Q l w
 | o :: rest, i, Q, l, w =>
  guardK ops o.guard l
   (fun l => opK P L (ra.contains i) o (ev l) w fun v w' => qK P L ra ops rest (i + 1) Q (put l o.dst v) w')
   (fun l => qK P L ra ops rest (i + 1) Q (put l o.dst undef) w)
def hat (ds : List Nat) (l0 : List Value) (Q : List Value -> World -> Prop) (e : Exit) (a : Act) (w : World) : Prop :=
 match e with
 | .normal => ∃ l', a = ⟨⟨l'⟩, []⟩ /\ cd ds l0 l' /\ Q l' w
 | _ => False
theorem lA {P : Program} {L : Nat -> Bool} (hL : bO P L) {ra : List Nat} {ops : Array Oper} {ds : List Nat} {l0 : List Value} {Q : List Value -> World -> Prop} :
  ∀ (rest : List Oper) (i : Nat) (l : List Value) (w : World), (∀ o ∈ rest, ∀ x, o.dst = some x -> x ∈ ds) -> cd ds l0 l -> qK P L ra ops.toList rest i Q l w ->
   wpList P ops (hat ds l0 Q) rest ⟨⟨l⟩, []⟩ w
 | [], i, l, w, _, ha, h => ⟨l, rfl, ha, h⟩
 | o :: rest, i, l, w, hd, ha, h => by
  have hdo := hd o (by simp)
  have hdr : ∀ o ∈ rest, ∀ x, o.dst = some x -> x ∈ ds := fun o ho => hd o (List.mem_cons_of_mem _ ho)
  unfold wpList
  rcases gG h with ⟨hw, h1⟩ | ⟨hw, h1⟩
  ·rw [if_pos hw]
   left
   rw [<- gE] at h1
   refine pP hL (fun v w' hk => ?_) h1
   rw [eM]
   exact lA hL rest (i + 1) _ w' hdr (cU ha hdo) hk
  ·rw [if_neg (by simp [hw]), eM]
   exact lA hL rest (i + 1) _ w hdr (cU ha hdo) h1
def pS : List Nat -> (Nat -> Prop) -> Prop
 | [], _ => True
 | [j], K => K j
 | j :: r, K => K j /\ pS r K
theorem mr : ∀ {js : List Nat} {K : Nat -> Prop}, pS js K -> ∀ j ∈ js, K j
 | [], _, _, j, h => by simp at h
 | [j], _, hk, i, h => by simp at h; subst h; exact hk
 | j :: k :: r, K, hk, i, h => by
  rcases List.mem_cons.1 h with rfl | h
  ·exact hk.1
  ·exact mr (js := k :: r) hk.2 i h
def stays : mn -> (Nat -> Bool) -> World -> Prop -> Prop
 | [], _, _, X => X
 | (i, s) :: r, skip, w, X => (match skip i with | true => stays r skip w X | false => s w /\ stays r skip w X)
theorem jO : ∀ {p : mn} {skip : Nat -> Bool} {w : World} {X : Prop}, stays p skip w X -> (∀ q ∈ p, skip q.1 = false -> q.2 w) /\ X
 | [], _, _, _, h => ⟨by simp, h⟩
 | (i, s) :: r, skip, w, X, h => by
  simp only [stays] at h
  split at h
  ·rename_i hs
   obtain ⟨h1, h2⟩ := jO h
   refine ⟨fun q hq hq2 => ?_, h2⟩
   rcases List.mem_cons.1 hq with rfl | hq
   ·rw [hs] at hq2; cases hq2
   ·exact h1 q hq hq2
  ·obtain ⟨h1, h2⟩ := jO h.2
   refine ⟨fun q hq hq2 => ?_, h2⟩
   rcases List.mem_cons.1 hq with rfl | hq
   ·exact h.1
   ·exact h1 q hq hq2
def readyB (ops : List Oper) (done : List Nat) (i : Nat) : Bool :=
 !done.contains i && (match ops[i]? with | some o => o.after.toList.all (fun e => !Region.binds .any e || done.contains e.on) | none => false)
def ru (P : Program) (ops : List Oper) (i : Nat) : Bool := match ops[i]? with | some o => !Nat.beq (cls P o.op) 2 | none => false
def G (P : Program) (L : Nat -> Bool) (ra : List Nat) (ops : List Oper) (ms : List Nat) : Nat -> List Nat -> mn -> (List Value -> World -> Prop) -> List Value -> World -> Prop
  | 0, done, _, Q, l, w => (match ((List.range ops.length).all fun i => done.contains i) with | true => Q l w | false => False)
  | fuel + 1, done, pend, Q, l, w =>
    (match (List.range ops.length).find? (fun i => readyB ops done i && ru P ops i) with
     | some i => (match ops[i]? with
        | some o => guardK ops o.guard l
            (fun l => (match cls P o.op with
              | 0 => pureK P (ra.contains i) o (ev l) fun v => G P L ra ops ms fuel (i :: done) pend Q (put l o.dst v) w
              | _ => readK P o (ev l) w fun v => G P L ra ops ms fuel (i :: done) ((i, fun w' => readK P o (ev l) w' fun v' => v' = v) :: pend) Q (put l o.dst v) w))
            (fun l => G P L ra ops ms fuel (i :: done) pend Q (put l o.dst undef) w)
        | none => False)
     | none => (match (List.range ops.length).filter (readyB ops done) with
        | [] => False
        | js => pS js fun j => (match ops[j]? with
            | some o => guardK ops o.guard l
                (fun l => effK P L o (ev l) w fun v w' => stays pend (fun i => jK ms i j) w'
                  (G P L ra ops ms fuel (j :: done) (pend.filter fun p => !jK ms p.1 j) Q (put l o.dst v) w'))
                (fun l => G P L ra ops ms fuel (j :: done) (pend.filter fun p => !jK ms p.1 j) Q (put l o.dst undef) w)
            | none => False)))
theorem lB : ∀ {l : List Sh} {A : List Value -> Prop} {K : List Value -> Prop}, exV l (fun vs => A vs /\ K vs) -> ∃ vs, K vs /\ exV l (fun us => A us /\ us = vs)
 | [], _, _, h => ⟨[], h.2, h.1, rfl⟩
 | s :: l, A, K, ⟨x, h⟩ => by
  obtain ⟨vs, h1, h2⟩ := lB (A := fun vs => A (s.v x :: vs)) (K := fun vs => K (s.v x :: vs)) h
  exact ⟨s.v x :: vs, h1, x, hZ (fun us hu => ⟨hu.1, by rw [hu.2]⟩) h2⟩
theorem mu {w : World} {a : Addr} {l : List Sh} {K K' : List Value -> Prop} (hk : ∀ vs, K vs -> K' vs) (h : iN w a l K) : iN w a l K' :=
 hZ (fun vs hv => ⟨hv.1, hk _ hv.2⟩) h
theorem nv {w : World} {a : Addr} {l : List Sh} {K : List Value -> Prop} (h : iN w a l K) : ∃ vs, K vs /\ iN w a l (fun us => us = vs) := lB h
theorem oP {P : Program} {t : TypeId} {p : Value} {w : World} {K : Value -> Prop} (h : loadK P t p w K) : ∃ v, K v /\ loadK P t p w (fun u => u = v) := by
 unfold loadK at h ⊢
 split at h
 ·rename_i q
  cases q with
  | none => exact h.elim
  | some a =>
   simp only [needSome] at h ⊢
   split at h
   ·rename_i hag
    split at h
    ·rename_i shs n hf hn
     split at h
     ·rename_i hl
      obtain ⟨vs, h1, h2⟩ := nv h
      refine ⟨_, h1, ?_⟩
      rw [hl] at *
      simp only [if_true]
      exact mu (fun us hu => by rw [hu]) h2
     ·exact h.elim
    ·exact h.elim
   ·rename_i hag
    split at h
    ·rename_i s hs
     obtain ⟨x, hx, h⟩ := h
     exact ⟨_, h, x, hx, rfl⟩
    ·exact h.elim
 ·exact h.elim
theorem oQ {P : Program} {t : TypeId} {m k : Value} {ok : Bool} {w : World} {K : Value -> Prop} (h : lookK P t m k ok w K) : ∃ v, K v /\ lookK P t m k ok w (fun u => u = v) := by
 unfold lookK at h ⊢
 split at h
 ·split at h
  ·split at h
   ·split at h
    ·rename_i hc
     obtain ⟨es, hm, q, hq, h⟩ := h
     exact ⟨_, h, by rw [if_pos hc]; exact ⟨es, hm, q, hq, rfl⟩⟩
    ·rename_i hn
     split at h
     ·rename_i hc
      obtain ⟨es, hm, hkk, q, hq, h⟩ := h
      exact ⟨_, h, by rw [if_neg hn, if_pos hc]; exact ⟨es, hm, hkk, q, hq, rfl⟩⟩
     ·exact h.elim
   ·exact h.elim
  ·split at h
   ·split at h
    ·rename_i hc
     obtain ⟨es, hm, ⟨hq, h⟩ | h⟩ := h
     ·exact ⟨_, h, by rw [if_pos hc]; exact ⟨es, hm, .inl ⟨hq, rfl⟩⟩⟩
     ·obtain ⟨vs, h1, h2⟩ := lB h
      exact ⟨_, h1, by rw [if_pos hc]; exact ⟨es, hm, .inr (hZ (fun us hu => ⟨hu.1, by rw [hu.2]⟩) h2)⟩⟩
    ·exact h.elim
   ·exact h.elim
  ·exact h.elim
 ·exact h.elim
theorem oR {P : Program} {o : Oper} {ρ : Operand -> Value} {w : World} {K : Value -> Prop} (h : readK P o ρ w K) : ∃ v, K v /\ readK P o ρ w (fun u => u = v) := by
 unfold readK at h ⊢
 split at h
 ·exact oP h
 ·exact oQ h
 ·split at h
  ·obtain ⟨b, hb, h⟩ := h
   exact ⟨_, h, b, hb, rfl⟩
  ·exact h.elim
 ·split at h
  ·unfold lenMapK at h ⊢
   split at h
   ·split at h
    ·obtain ⟨es, hm, h⟩ := h
     exact ⟨_, h, es, hm, rfl⟩
    ·exact h.elim
   ·exact h.elim
  ·exact h.elim
 ·exact h.elim
def lC (ops : Array Oper) (ms : List Nat) : Bool :=
 (List.range ops.size).all fun i => (List.range ops.size).all fun j =>
  Nat.beq i j || jK ms i j || jK ms j i || (match ops[i]?, ops[j]? with | some x, some y => x.apart ops y | _, _ => false)
section
variable {P : Program} {L : Nat -> Bool} {ra : List Nat} {ops : Array Oper} {ds : List Nat} {l0 : List Value} {Q : List Value -> World -> Prop}
def Rel (ops : Array Oper) (listed : Array Bool) (done : List Nat) : Prop := listed.size = ops.size /\ ∀ i, listed.getD i false = done.contains i
theorem Rel.set {listed : Array Bool} {done : List Nat} {j : Nat} (h : Rel ops listed done) (hj : j < ops.size) : Rel ops (listed.setIfInBounds j true) (j :: done) := by
 refine ⟨by simp [h.1], fun i => ?_⟩
 by_cases hij : j = i
 ·subst hij; simp [h.1, hj]
 ·rw [getD_set_ne false hij, h.2 i]
  simp only [List.contains_cons]
  have : (i == j) = false := by simp [Ne.symm hij]
  rw [this, Bool.false_or]
theorem Rel.ready {listed : Array Bool} {done : List Nat} (h : Rel ops listed done) (j : Nat) : j ∈ Region.ready .any ops listed ↔ readyB ops.toList done j = true := by
 rw [mem_ready]
 unfold readyB
 constructor
 ·rintro ⟨h1, o, ho, h2⟩
  have hlt : j < ops.size := (Array.getElem?_eq_some_iff.1 ho).1
  have h3 : listed.getD j false = false := by
   have h4 : j < listed.size := by rw [h.1]; exact hlt
   simp [h4] at h1 ⊢; exact h1
  rw [h.2 j] at h3
  have ho' : ops.toList[j]? = some o := by simpa using ho
  simp only [h3, Bool.not_false, Bool.true_and, ho', List.all_eq_true]
  intro e he
  cases hb : Region.binds .any e with
  | false => simp
  | true => have := h2 e (by simpa using he) hb; rw [h.2] at this; simpa using this
 ·intro h1
  simp only [Bool.and_eq_true, Bool.not_eq_true'] at h1
  obtain ⟨h1, h2⟩ := h1
  split at h2
  ·rename_i o ho
   have ho' : ops[j]? = some o := by simpa using ho
   have hlt : j < ops.size := (Array.getElem?_eq_some_iff.1 ho').1
   refine ⟨?_, o, ho', fun e he hb => ?_⟩
   ·have h3 := h.2 j
    rw [h1] at h3
    have h4 : j < listed.size := by rw [h.1]; exact hlt
    simp [h4] at h3 ⊢; exact h3
   ·rw [List.all_eq_true] at h2
    have := h2 e (by simpa using he)
    rw [hb] at this
    rw [h.2]; simpa using this
  ·cases h2
theorem rZ (hL : bO P L) (hsel : Region.noSelect ops = true) (hpairs : lC ops (masks ops.toList []) = true) (hds : ∀ o ∈ ops.toList, ∀ x, o.dst = some x -> x ∈ ds) :
  ∀ (fuel : Nat) (done : List Nat) (listed : Array Bool) (pend : mn) (l : List Value) (w : World), Rel ops listed done -> Valid ops listed -> (∀ p ∈ pend, p.2 w) -> cd ds l0 l ->
   G P L ra ops.toList (masks ops.toList []) fuel done pend Q l w -> gV P ops (hat ds l0 Q) (jK (masks ops.toList [])) fuel listed pend ⟨⟨l⟩, []⟩ w := by
 intro fuel
 induction fuel with
 | zero =>
  intro done listed pend l w hr hv hp ha h
  simp only [G] at h
  split at h
  ·rename_i hall
   refine ⟨?_, l, rfl, ha, h⟩
   cases hrd : Region.ready .any ops listed with
   | nil => rfl
   | cons j r =>
    have hj : j ∈ Region.ready .any ops listed := by rw [hrd]; simp
    have h1 := (hr.ready j).1 hj
    obtain ⟨_, o, ho, _⟩ := mem_ready.1 hj
    have hlt : j < ops.size := (Array.getElem?_eq_some_iff.1 ho).1
    rw [List.all_eq_true] at hall
    have h2 := hall j (by simpa using hlt)
    simp only [readyB, h2, Bool.not_true, Bool.false_and] at h1
    cases h1
  ·exact h.elim
 | succ fuel ih =>
  intro done listed pend l w hr hv hp ha h
  simp only [G] at h
  split at h
  ·rename_i i hi
   have hi2 := List.find?_some hi
   simp only [Bool.and_eq_true] at hi2
   obtain ⟨hrd, hq⟩ := hi2
   have hmem : i ∈ Region.ready .any ops listed := (hr.ready i).2 hrd
   split at h
   ·rename_i o ho
    have ho' : ops[i]? = some o := by simpa using ho
    have hlt : i < ops.size := (Array.getElem?_eq_some_iff.1 ho').1
    have hdo := hds o (List.mem_of_getElem? ho)
    have hap : ∀ j oj, ops[j]? = some oj -> j ≠ i -> jK (masks ops.toList []) i j = false -> jK (masks ops.toList []) j i = false -> o.apart ops oj = true := by
     intro j oj hj hne h1 h2
     have hjlt : j < ops.size := (Array.getElem?_eq_some_iff.1 hj).1
     unfold lC at hpairs
     rw [List.all_eq_true] at hpairs
     have h3 := hpairs i (by simpa using hlt)
     rw [List.all_eq_true] at h3
     have h4 := h3 j (by simpa using hjlt)
     simp only [h1, h2, ho', hj, Bool.or_false, Bool.or_eq_true] at h4
     rcases h4 with h4 | h4
     ·exact absurd (Nat.eq_of_beq_eq_true h4).symm hne
     ·exact h4
    have first := fun C v => lz (P := P) (Q := hat ds l0 Q) (C := C) (v := v) ho' hsel (rr) hap (fun c a w => id) fuel listed pend ⟨⟨l⟩, []⟩ w hv hmem
    have hv' := hv.set hmem
    have hr' := hr.set hlt
    rcases gG h with ⟨hw, h1⟩ | ⟨hw, h1⟩
    ·split at h1
     ·obtain ⟨v, hy, hk⟩ := l9 (fun v => rfl) h1
      refine first (fun _ => True) v (.inl ⟨hw, fun w _ => by rw [gE]; exact hy w⟩) trivial hp ?_
      rw [eM]
      exact eN _ _ pend _ _ _ (fun p hp1 => by
       rcases List.mem_cons.1 hp1 with rfl | hp1
       ·exact .inr fun _ => trivial
       ·exact .inl hp1) (ih _ _ pend _ w hr' hv' hp (cU ha hdo) hk)
     ·obtain ⟨v, hk, hnow⟩ := oR h1
      have hstay : ∀ w', readK P o (ev l) w' (fun v' => v' = v) -> (execOp (ev l) o).run P w' = .ok (.value v) w' := by
       intro w' hw'
       obtain ⟨v', h2, rfl⟩ := mb hw'
       exact h2
      refine first (fun w' => readK P o (ev l) w' fun v' => v' = v) v (.inl ⟨hw, fun w' hw' => by rw [gE]; exact hstay w' hw'⟩) hnow hp ?_
      rw [eM]
      exact ih _ _ _ _ w hr' hv' (fun p hp1 => by
       rcases List.mem_cons.1 hp1 with rfl | hp1
       ·exact hnow
       ·exact hp p hp1) (cU ha hdo) hk
    ·refine first (fun _ => True) undef (.inr ⟨hw, rfl⟩) trivial hp ?_
     rw [eM]
     exact eN _ _ pend _ _ _ (fun p hp1 => by
      rcases List.mem_cons.1 hp1 with rfl | hp1
      ·exact .inr fun _ => trivial
      ·exact .inl hp1) (ih _ _ pend _ w hr' hv' hp (cU ha hdo) h1)
   ·exact h.elim
  ·rename_i hnone
   split at h
   ·exact h.elim
   ·rename_i js hjs
    refine ⟨fun h0 => ?_, fun j hj => ?_⟩
    ·exfalso
     cases hjl : (List.range ops.toList.length).filter (readyB ops.toList done) with
     | nil => exact hjs hjl
     | cons j r =>
      have hj : j ∈ (List.range ops.toList.length).filter (readyB ops.toList done) := by rw [hjl]; simp
      have := (hr.ready j).2 (List.mem_filter.1 hj).2
      rw [h0] at this; cases this
    ·have hrb := (hr.ready j).1 hj
     obtain ⟨_, o, ho, _⟩ := mem_ready.1 hj
     have hlt : j < ops.size := (Array.getElem?_eq_some_iff.1 ho).1
     have ho' : ops.toList[j]? = some o := by simpa using ho
     have hdo := hds o (List.mem_of_getElem? ho')
     have h1 := mr h j (List.mem_filter.2 ⟨by simpa using hlt, hrb⟩)
     simp only [ho'] at h1
     have hv' := hv.set hj
     have hr' := hr.set hlt
     unfold wpOp
     simp only [ho]
     rcases gG h1 with ⟨hw, h1⟩ | ⟨hw, h1⟩
     ·rw [if_pos hw]
      left
      rw [<- gE] at h1
      refine om hL (fun v w' hk => ?_) h1
      obtain ⟨hs, hk⟩ := jO hk
      refine ⟨hs, ?_⟩
      rw [eM]
      refine ih _ _ _ _ w' hr' hv' (fun p hp1 => ?_) (cU ha hdo) hk
      rw [List.mem_filter] at hp1
      exact hs p hp1.1 (by simpa using hp1.2)
     ·rw [if_neg (by simp [hw]), eM]
      refine ⟨fun p hp1 _ => hp p hp1, ih _ _ _ _ w hr' hv' (fun p hp1 => ?_) (cU ha hdo) h1⟩
      rw [List.mem_filter] at hp1
      exact hp p hp1.1
end
end Go.D

