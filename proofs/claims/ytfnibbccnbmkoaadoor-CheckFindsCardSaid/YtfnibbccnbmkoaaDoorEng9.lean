/-
  WHAT IS PROVED: the engine: verification conditions of the code, with their soundness. No further conditions.
-/
import Derived.Test.YtfnibbccnbmkoaaDoorEng8
import Derived.Orders
set_option linter.unusedSimpArgs false
namespace Go.D
open Go
set_option linter.unusedVariables false
section
variable {P : Program} {ops : Array Oper} {Q : Exit -> Act -> World -> Prop}
def nu (o : Oper) (a a' : Act) : Prop := ∃ u ds, a' = ({ a with defers := ds } : Act).put o.dst u
theorem ml {j : Nat} {oj : Oper} (hj : ops[j]? = some oj) {K : Act -> World -> Prop} {a : Act} {w : World} (h : wpOp P ops Q j K a w) :
  wpOp P ops Q j (fun a' w' => nu oj a a' /\ K a' w') a w := by
 have b0 : ∀ u, nu oj a (a.put oj.dst u) := fun u => ⟨u, a.defers, rfl⟩
 unfold wpOp at *
 simp only [hj] at *
 split
 ·rename_i hw
  simp only [hw, if_true] at h
  rcases h with h | h
  case inr => exact .inr h
  refine .inl ?_
  unfold Oper.wp at h ⊢
  generalize (execOp a.eval oj).run P w = r at h ⊢
  cases r with
  | ok n w' =>
   cases n <;> simp only [Oper.upon] at h ⊢
   case value u => exact ⟨b0 u, h⟩
   case skip => exact ⟨b0 _, h⟩
   case defer d => exact ⟨⟨_, _, rfl⟩, h⟩
   case enter f args => exact Calls.mono h fun e w'' he => by cases e <;> first | exact ⟨b0 _, he⟩ | exact he
   case row row args => exact Rows.mono h fun u w'' he => ⟨b0 u, he⟩
  | halt x w' => cases x <;> simp only [Oper.upon] at h ⊢ <;> exact h
 ·rename_i hw
  simp only [hw] at h
  exact ⟨b0 _, h⟩
def fA (P : Program) (ops : Array Oper) (C : World -> Prop) (o : Oper) (v : Value) (a : Act) : Prop :=
 (Region.wanted o (yielded ops a.tmps) = true /\ ∀ w, C w -> (execOp a.eval o).run P w = .ok (.value v) w) \/
 (Region.wanted o (yielded ops a.tmps) = false /\ v = undef)
theorem fA.behind {C : World -> Prop} {oi oj : Oper} {v : Value} {a a' : Act} (hs : ∀ cs b, oi.op ≠ .select cs b) (hap : oi.apart ops oj = true)
  (hy : fA P ops C oi v a) (hb : nu oj a a') : fA P ops C oi v a' := by
 obtain ⟨u, ds, rfl⟩ := hb
 obtain ⟨_, _, h3⟩ := Oper.apart_spec hap
 have e1 : execOp (({ a with defers := ds } : Act).put oj.dst u).eval oi = execOp a.eval oi := execOp_put oi hs _ oj.dst u h3
 have e2 : Region.wanted oi (yielded ops (({ a with defers := ds } : Act).put oj.dst u).tmps) = Region.wanted oi (yielded ops a.tmps) := wanted_put oi _ oj.dst u h3
 unfold fA at *
 rw [e1, e2]
 exact hy
theorem fA.wpOp {C : World -> Prop} {i : Nat} {o : Oper} {v : Value} {a : Act} {w : World} (hC : C w) (hi : ops[i]? = some o) (hy : fA P ops C o v a)
  {K : Act -> World -> Prop} (h : K (a.put o.dst v) w) : wpOp P ops Q i K a w := by
 unfold Go.wpOp
 simp only [hi]
 rcases hy with ⟨hw, hv⟩ | ⟨hw, rfl⟩
 ·simp only [hw, if_true, Oper.wp, hv w hC, Oper.upon]; exact .inl h
 ·simp only [hw, Bool.false_eq_true, if_false]; exact h
abbrev mn := List (Nat × (World -> Prop))
def gV (P : Program) (ops : Array Oper) (Q : Exit -> Act -> World -> Prop) (anc : Nat -> Nat -> Bool) : Nat -> Array Bool -> mn -> Act -> World -> Prop
 | 0, listed, _, a, w => Region.ready .any ops listed = [] /\ Q .normal a w
 | fuel + 1, listed, pend, a, w =>
  (Region.ready .any ops listed = [] -> Q .normal a w) /\
  ∀ j ∈ Region.ready .any ops listed, wpOp P ops Q j (fun a' w' => (∀ p ∈ pend, anc p.1 j = false -> p.2 w') /\
   gV P ops Q anc fuel (listed.setIfInBounds j true) (pend.filter fun p => !anc p.1 j) a' w') a w
variable {anc : Nat -> Nat -> Bool}
theorem jJ : ∀ (fuel : Nat) (listed : Array Bool) (pend : mn) (a : Act) (w : World), gV P ops Q anc fuel listed pend a w -> wpAny P .any ops Q fuel listed a w
 | 0, _, _, _, _, h => h
 | fuel + 1, _, _, _, _, h => ⟨h.1, fun j hj => wpOp_mono (fun a' w' h' => jJ fuel _ _ a' w' h'.2) (h.2 j hj)⟩
theorem eN : ∀ (fuel : Nat) (listed : Array Bool) (p1 p2 : mn) (a : Act) (w : World), (∀ p ∈ p2, p ∈ p1 \/ ∀ w, p.2 w) ->
    gV P ops Q anc fuel listed p1 a w -> gV P ops Q anc fuel listed p2 a w
  | 0, _, _, _, _, _, _, h => h
  | fuel + 1, _, p1, p2, _, _, hp, h => ⟨h.1, fun j hj => wpOp_mono (fun a' w' h' =>
      ⟨fun p hp2 hanc => (hp p hp2).elim (fun h1 => h'.1 p h1 hanc) (fun h1 => h1 w'),
       eN fuel _ _ _ a' w' (fun p hp2 => by
        rw [List.mem_filter] at hp2
        rcases hp p hp2.1 with h1 | h1
        · exact .inl (List.mem_filter.2 ⟨h1, hp2.2⟩)
        · exact .inr h1) h'.2⟩) (h.2 j hj)⟩
def Valid (ops : Array Oper) (listed : Array Bool) : Prop :=
 ∀ j oj, ops[j]? = some oj -> listed.getD j false = true -> ∀ e ∈ oj.after, Region.binds .any e = true -> listed.getD e.on false = true
theorem Valid.set {listed : Array Bool} {j : Nat} (hv : Valid ops listed) (hj : j ∈ Region.ready .any ops listed) : Valid ops (listed.setIfInBounds j true) := by
 intro k ok hk hl e he hb
 by_cases hkj : j = k
 ·subst hkj
  obtain ⟨_, o, ho, h⟩ := mem_ready.1 hj
  rw [ho] at hk; cases hk
  exact getD_set_true (h e he hb)
 ·rw [getD_set_ne false hkj] at hl
  exact getD_set_true (hv k ok hk hl e he hb)
theorem lz {C : World -> Prop} {i : Nat} {oi : Oper} {v : Value} (hi : ops[i]? = some oi) (hsel : Region.noSelect ops = true)
  (hanc : ∀ i j listed, Valid ops listed -> j ∈ Region.ready .any ops listed -> listed.getD i true = false -> anc i j = false)
  (hap : ∀ j oj, ops[j]? = some oj -> j ≠ i -> anc i j = false -> anc j i = false -> oi.apart ops oj = true)
  (hQ : ∀ c a w, ¬ Q (.panic c) a w) :
  ∀ (fuel : Nat) (listed : Array Bool) (pend : mn) (a : Act) (w : World), Valid ops listed -> i ∈ Region.ready .any ops listed -> fA P ops C oi v a -> C w ->
   (∀ p ∈ pend, p.2 w) -> gV P ops Q anc fuel (listed.setIfInBounds i true) ((i, C) :: pend) (a.put oi.dst v) w -> gV P ops Q anc (fuel + 1) listed pend a w := by
 have hsi : ∀ cs b, oi.op ≠ .select cs b := fun cs b => Region.noSelect_spec hsel i oi cs b hi
 intro fuel
 induction fuel with
 | zero =>
  intro listed pend a w hv hr hy hC hp H
  refine ⟨fun h => (by rw [h] at hr; cases hr), fun j hj => ?_⟩
  by_cases hji : j = i
  ·subst hji
   exact hy.wpOp hC hi ⟨fun p hp1 _ => hp p hp1, H⟩
  ·have := ready_mono hj hji
   rw [H.1] at this
   cases this
 | succ fuel ih =>
  intro listed pend a w hv hr hy hC hp H
  refine ⟨fun h => (by rw [h] at hr; cases hr), fun j hj => ?_⟩
  by_cases hji : j = i
  ·subst hji
   exact hy.wpOp hC hi ⟨fun p hp1 _ => hp p hp1, eN _ _ _ _ _ _ (fun p hp1 => .inl (by
    rw [List.mem_filter] at hp1; exact List.mem_cons_of_mem _ hp1.1)) H⟩
  ·have h1 := H.2 j (ready_mono hj hji)
   obtain ⟨hjun, oj, hoj, hall⟩ := mem_ready.1 hj
   have hiun := (mem_ready.1 hr).1
   have ha1 := hanc i j listed hv hj hiun
   have ha2 := hanc j i listed hv hr hjun
   have hapj := hap j oj hoj hji ha1 ha2
   -- a stand-in for operation i that leaves v in every world
   let oi' : Oper := { oi with op := .move (.const v), guard := none }
   have hap' : oi'.apart ops oj = true := by
    unfold Oper.apart at hapj ⊢
    simp only [Bool.and_eq_true] at hapj ⊢
    refine ⟨hapj.1, ?_⟩
    cases hd : oj.dst with
    | none => rfl
    | some d => simp [Oper.looksAt, oi', Op.operands]
   have hy' : Go.Yields P ops oi' v a := .inl ⟨rfl, fun w => by simp [oi', execOp, Act.eval]⟩
   have h2 := Go.wpOp_put (oi := oi') hoj hap' (fun cs b => by simp [oi']) (fun cs b => Region.noSelect_spec hsel j oj cs b hoj) (fun c a w h => (hQ c _ w h).elim) hy' h1
   have h3 := ml hoj h2
   refine wpOp_mono (fun a' w' h4 => ?_) h3
   obtain ⟨hb, _, h5, h6⟩ := h4
   have hCi : C w' := h5 (i, C) (by simp) ha1
   refine ⟨fun p hp1 hpa => h5 p (List.mem_cons_of_mem _ hp1) hpa, ?_⟩
   refine ih (listed.setIfInBounds j true) _ a' w' (hv.set hj) (ready_mono hr (Ne.symm hji)) (hy.behind hsi hapj hb) hCi (fun p hp1 => ?_) ?_
   ·rw [List.mem_filter] at hp1
    exact h5 p (List.mem_cons_of_mem _ hp1.1) (by simpa using hp1.2)
   ·rw [Array.setIfInBounds_comm _ _ hji]
    have e : ((i, C) :: pend).filter (fun p => !anc p.1 j) = (i, C) :: pend.filter (fun p => !anc p.1 j) := by
     simp [ha1]
    rw [<- e]
    exact h6
end
def maskOf (acc : List Nat) (es : List Edge) : Nat :=
 match es with
 | [] => 0
 | e :: r => (match Region.binds .any e with | true => (2 ^ e.on) ||| acc.getD e.on 0 | false => 0) ||| maskOf acc r
def masks : List Oper -> List Nat -> List Nat
 | [], acc => acc
 | o :: r, acc => masks r (acc ++ [maskOf acc o.after.toList])
def jK (ms : List Nat) (i j : Nat) : Bool := (ms.getD j 0).testBit i
theorem jL {acc : List Nat} {i : Nat} : ∀ {es : List Edge}, (maskOf acc es).testBit i = true -> ∃ e ∈ es, Region.binds .any e = true /\ (i = e.on \/ (acc.getD e.on 0).testBit i = true)
 | [], h => by simp [maskOf] at h
 | e :: r, h => by
  simp only [maskOf, Nat.testBit_or, Bool.or_eq_true] at h
  rcases h with h | h
  ·cases hb : Region.binds .any e with
   | false => rw [hb] at h; simp at h
   | true =>
    rw [hb] at h
    simp only [Nat.testBit_or, Bool.or_eq_true, Nat.testBit_two_pow] at h
    refine ⟨e, by simp, hb, ?_⟩
    rcases h with h | h
    ·left; simp at h; exact h.symm
    ·right; exact h
  ·obtain ⟨e', he, h2⟩ := jL h
   exact ⟨e', List.mem_cons_of_mem _ he, h2⟩
def jM (ops : Array Oper) (acc : List Nat) : Prop :=
 ∀ j oj, j < acc.length -> ops[j]? = some oj -> ∀ i, (acc.getD j 0).testBit i = true -> ∀ listed, Valid ops listed ->
  (∀ e ∈ oj.after, Region.binds .any e = true -> listed.getD e.on false = true) -> listed.getD i false = true
theorem mq {ops : Array Oper} {acc : List Nat} {o : Oper} (h : jM ops acc) (ho : ops[acc.length]? = some o) : jM ops (acc ++ [maskOf acc o.after.toList]) := by
 intro j oj hj hoj i hb listed hv he
 by_cases hlt : j < acc.length
 ·have e : (acc ++ [maskOf acc o.after.toList]).getD j 0 = acc.getD j 0 := by
   simp [List.getElem?_append_left hlt]
  rw [e] at hb
  exact h j oj hlt hoj i hb listed hv he
 ·have hje : j = acc.length := by simp at hj; omega
  subst hje
  rw [ho] at hoj; cases hoj
  have e : (acc ++ [maskOf acc o.after.toList]).getD acc.length 0 = maskOf acc o.after.toList := by simp
  rw [e] at hb
  obtain ⟨x, hx, hbx, h1 | h1⟩ := jL hb
  ·rw [h1]; exact he x (by simpa using hx) hbx
  ·have hl := he x (by simpa using hx) hbx
   by_cases hxl : x.on < acc.length
   ·cases hox : ops[x.on]? with
    | none =>
     have := (Array.getElem?_eq_none_iff.1 hox)
     have := (Array.getElem?_eq_some_iff.1 ho).1
     omega
    | some ox => exact h x.on ox hxl hox i h1 listed hv (fun e he hb => hv x.on ox hox hl e he hb)
   ·rw [List.getD_eq_getElem?_getD, List.getElem?_eq_none (by omega)] at h1
    simp at h1
theorem jN {ops : Array Oper} : ∀ (l : List Oper) (acc : List Nat), jM ops acc -> (∀ j, l[j]? = ops[acc.length + j]?) -> jM ops (masks l acc)
 | [], acc, h, _ => h
 | o :: r, acc, h, hl => by
  have h0 : ops[acc.length]? = some o := by have := hl 0; simpa using this.symm
  refine jN r _ (mq h h0) (fun j => ?_)
  have := hl (j + 1)
  simp only [List.getElem?_cons_succ, List.length_append, List.length_singleton] at this ⊢
  rw [this]; congr 1; omega
theorem pQ (ops : Array Oper) : jM ops (masks ops.toList []) :=
 jN ops.toList [] (fun j oj hj => by simp at hj) (fun j => by simp)
theorem ij : ∀ (l : List Oper) (acc : List Nat), (masks l acc).length = acc.length + l.length
 | [], acc => by simp [masks]
 | o :: r, acc => by simp [masks, ij r]; omega
theorem rr {ops : Array Oper} (i j : Nat) (listed : Array Bool) (hv : Valid ops listed) (hj : j ∈ Region.ready .any ops listed) (hi : listed.getD i true = false) :
  jK (masks ops.toList []) i j = false := by
 cases h : jK (masks ops.toList []) i j with
 | false => rfl
 | true =>
  obtain ⟨hju, oj, hoj, he⟩ := mem_ready.1 hj
  have hlt : j < ops.size := (Array.getElem?_eq_some_iff.1 hoj).1
  have := pQ ops j oj (by rw [ij]; simpa using hlt) hoj i h listed hv he
  rcases Nat.lt_or_ge i listed.size with h1 | h1
  ·simp [h1] at hi this; rw [hi] at this; cases this
  ·simp [Array.getElem?_eq_none h1] at hi
end Go.D

