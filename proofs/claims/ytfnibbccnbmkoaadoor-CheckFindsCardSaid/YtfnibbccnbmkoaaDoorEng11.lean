/-
  WHAT IS PROVED: the engine: verification conditions of the code, with their soundness. No further conditions.
-/
import Derived.Test.YtfnibbccnbmkoaaDoorEng10
import Derived.OrdersIn
set_option linter.unusedSimpArgs false
namespace Go.D
open Go
set_option linter.unusedVariables false
inductive Ex where
 | normal
 | exit (id : Nat)
 | ret
 | goto (l : Nat)
abbrev eW := Ex -> List Value -> World -> Prop
def ik (next : List Value -> World -> Prop) (Q : eW) : eW
 | .normal, l, w => next l w
 | e, l, w => Q e l w
def blockQ (id : Nat) (Q : eW) : eW
 | .exit i, l, w => (match Nat.beq i id with | true => Q .normal l w | false => Q (.exit i) l w)
 | e, l, w => Q e l w
def Cur : List Sh -> Type
 | [] => World -> Prop
 | s :: r => s.T -> Cur r
def mv : List Sh -> Type
 | [] => World -> Nat
 | s :: r => s.T -> mv r
def decC : (shs : List Sh) -> Cur shs -> List Value -> World -> Prop
 | [], (J : World -> Prop), _, w => J w
 | s :: r, J, vs, w => s.dec (vs.headD undef) fun x => decC r (J x) vs.tail w
def oS : (shs : List Sh) -> Cur shs -> mv shs -> List Value -> World -> Nat -> Prop
 | [], (J : World -> Prop), (μ : World -> Nat), _, w, m => J w /\ μ w < m
 | s :: r, J, μ, vs, w, m => s.dec (vs.headD undef) fun x => oS r (J x) (μ x) vs.tail w m
def qL : (shs : List Sh) -> Cur shs -> (List Value -> (World -> Prop) -> Prop) -> Prop
 | [], (J : World -> Prop), K => K [] J
 | s :: r, J, K => ∀ x : s.T, qL r (J x) fun vs X => K (s.v x :: vs) X
def allM : (shs : List Sh) -> Cur shs -> mv shs -> (List Value -> (World -> Prop) -> (World -> Nat) -> Prop) -> Prop
 | [], (J : World -> Prop), (μ : World -> Nat), K => K [] J μ
 | s :: r, J, μ, K => ∀ x : s.T, allM r (J x) (μ x) fun vs X m => K (s.v x :: vs) X m
def oT : List Nat -> (List Value -> Prop) -> Prop
 | [], K => K []
 | _ :: r, K => ∀ u : Value, oT r fun us => K (u :: us)
def setMany (l : List Value) : List Nat -> List Value -> List Value
 | [], _ => l
 | d :: ds, vs => setMany (l.set d (vs.headD undef)) ds vs.tail
def bl (l : List Value) (ds : List Nat) : List Value := ds.map fun d => l.getD d undef
inductive PSh where
 | one (s : Sh)
 | agg (l : List Sh)
inductive Ann where
 | none
 | two (x y : Ann)
 | one (x : Ann)
 | cut (live : List (Nat × Sh)) (dead : List Nat) (x y : Ann)
 | loop (live : List (Nat × Sh)) (dead : List Nat) (x : Ann)
 | reg (wr : List Nat)
 | range (ps : List PSh) (ex : List Ex) (x y : Ann)
 | scope (lab : Nat) (live : List (Nat × Sh)) (dead : List Nat) (x y : Ann)
def codeDsts : Code -> List Nat
 | .region _ ops _ => dstsOf ops.toList
 | .seq a b => codeDsts a ++ codeDsts b
 | .cond _ a b => codeDsts a ++ codeDsts b
 | .block _ a => codeDsts a
 | .loop a => codeDsts a
 | .rangeFunc _ _ a b => codeDsts a ++ codeDsts b
 | .scope a => codeDsts a
 | _ => []
def oU (a b : List Nat) : Bool := a.all fun x => b.contains x
def regionD (P : Program) (L : Nat -> Bool) (wr : List Nat) (ops : Array Oper) (dr : Bool) (Q : List Value -> World -> Prop) (l : List Value) (w : World) : Prop :=
 match dr with
 | false => qK P L wr ops.toList ops.toList 0 Q l w
 | true => (match Region.noSelect ops && lC ops (masks ops.toList []) with
   | true => G P L wr ops.toList (masks ops.toList []) ops.toList.length [] [] Q l w.drew
   | false => False)
def je : Ann -> Ann
 | .two x _ => x
 | .cut _ _ x _ => x
 | .one x => x
 | .loop _ _ x => x
 | _ => .none
def jP : Ann -> Ann
 | .two _ y => y
 | .cut _ _ _ y => y
 | _ => .none
abbrev Rg := List Nat -> Array Oper -> Bool -> (List Value -> World -> Prop) -> List Value -> World -> Prop
def den (P : Program) (rg : Rg) (ann : Ann) : Code -> eW -> List Value -> World -> Prop
  | .skip, Q, l, w => Q .normal l w
  | .label _, Q, l, w => Q .normal l w
  | .goto n, Q, l, w => Q (.goto n) l w
  | .ret, Q, l, w => Q .ret l w
  | .exit id, Q, l, w => Q (.exit id) l w
  | .seq x y, Q, l, w =>
    (match ann with
     | .cut live dead ax ay =>
       (match oU (codeDsts x) (live.map (·.1) ++ dead) with
        | true => ∃ J : Cur (live.map (·.2)), den P rg ax x (ik (fun l' w' => decC _ J (bl l' (live.map (·.1))) w') Q) l w /\
            qL _ J fun vs X => ∀ w', X w' -> oT dead fun us => den P rg ay y Q (setMany (setMany l (live.map (·.1)) vs) dead us) w'
        | false => False)
     | _ => den P rg (je ann) x (ik (den P rg (jP ann) y Q) Q) l w)
  | .cond c x y, Q, l, w =>
    (match ev l c with
     | .bool b => BIf b (den P rg (je ann) x Q l w) (den P rg (jP ann) y Q l w)
     | _ => False)
  | .block id x, Q, l, w => den P rg (je ann) x (blockQ id Q) l w
  | .loop x, Q, l, w =>
    (match ann with
     | .loop live dead ax =>
       (match oU (codeDsts x) (live.map (·.1) ++ dead) with
        | true => ∃ (J : Cur (live.map (·.2))) (μ : mv (live.map (·.2))), decC _ J (bl l (live.map (·.1))) w /\
            allM _ J μ fun vs X m => ∀ w', X w' -> oT dead fun us =>
              den P rg ax x (ik (fun l2 w2 => oS _ J μ (bl l2 (live.map (·.1))) w2 (m w')) Q) (setMany (setMany l (live.map (·.1)) vs) dead us) w'
        | false => False)
     | _ => False)
  | .region _ ops dr, Q, l, w => rg (match ann with | .reg wr => wr | _ => []) ops dr (Q .normal) l w
  | _, _, _, _ => False
def gj (df : List Deferred) (ds : List Nat) (l0 : List Value) (Q : eW) (e : Exit) (a : Act) (w : World) : Prop :=
 ∃ l', a = ⟨⟨l'⟩, df⟩ /\ cd ds l0 l' /\ (match e with | .normal => Q .normal l' w | .exit id => Q (.exit id) l' w | .ret => Q .ret l' w | .goto n => Q (.goto n) l' w | _ => False)
theorem dC {df : List Deferred} {ds ds' : List Nat} {l0 l1 : List Value} {Q : eW} {e : Exit} {a : Act} {w : World} (h : ∀ s ∈ ds, s ∈ ds') (ha : cd ds' l0 l1) (hh : gj df ds l1 Q e a w) : gj df ds' l0 Q e a w := by
 obtain ⟨l', h1, h2, h3⟩ := hh
 exact ⟨l', h1, cK ha (aB h h2), h3⟩
theorem jw {a b : List Nat} (h : oU a b = true) : ∀ s ∈ a, s ∈ b := by
 intro s hs
 unfold oU at h
 rw [List.all_eq_true] at h
 simpa using h s hs
theorem gk : ∀ (ds : List Nat) (l vs : List Value), (setMany l ds vs).length = l.length
 | [], _, _ => rfl
 | d :: ds, l, vs => by simp [setMany, gk ds]
theorem eX : ∀ (ds : List Nat) (l l' : List Value), l'.length = l.length -> ∀ s, (setMany l ds (bl l' ds))[s]? = if s ∈ ds then l'[s]? else l[s]?
 | [], l, l', hl, s => by simp [setMany]
 | d :: ds, l, l', hl, s => by
  simp only [setMany, bl, List.map_cons, List.headD_cons, List.tail_cons]
  have := eX ds (l.set d (l'.getD d undef)) l' (by simp [hl]) s
  rw [bl] at this
  rw [this]
  by_cases h1 : s ∈ ds
  ·simp [h1]
  ·simp only [h1, if_false, List.mem_cons, or_false]
   by_cases h2 : s = d
   ·subst h2
    rw [if_pos rfl]
    rcases Nat.lt_or_ge s l.length with h3 | h3
    ·have h4 : s < l'.length := by omega
     simp [h3, h4]
    ·rw [List.getElem?_eq_none (by simpa using h3), List.getElem?_eq_none (by omega)]
   ·rw [if_neg h2, List.getElem?_set_ne (Ne.symm h2)]
theorem fB {l l' : List Value} {ds d1 d2 : List Nat} (ha : cd ds l l') (hs : ∀ s ∈ ds, s ∈ d1 ++ d2) :
  setMany (setMany l d1 (bl l' d1)) d2 (bl l' d2) = l' := by
 apply List.ext_getElem?
 intro s
 rw [eX d2 _ l' (by rw [gk]; exact ha.1) s]
 by_cases h2 : s ∈ d2
 ·rw [if_pos h2]
 ·rw [if_neg h2, eX d1 l l' ha.1 s]
  by_cases h1 : s ∈ d1
  ·rw [if_pos h1]
  ·rw [if_neg h1]
   exact (ha.2 s (fun h => by have := hs s h; simp [h1, h2] at this)).symm
theorem jQ : ∀ {shs : List Sh} {J : Cur shs} {vs : List Value} {w : World} {K : List Value -> (World -> Prop) -> Prop}, vs.length = shs.length -> decC shs J vs w -> qL shs J K -> ∃ X, X w /\ K vs X
 | [], J, vs, w, K, hl, h, ha => by
  have : vs = [] := by simpa using hl
  subst this
  exact ⟨J, h, ha⟩
 | s :: r, J, vs, w, K, hl, h, ha => by
  cases vs with
  | nil => simp at hl
  | cons v vs =>
   obtain ⟨x, hx, h⟩ := Sh.ln h
   simp only [List.headD_cons] at hx
   obtain ⟨X, h1, h2⟩ := jQ (by simpa using hl) h (ha x)
   exact ⟨X, h1, by rw [hx]; exact h2⟩
def Sh.un : (s : Sh) -> Value -> Option s.T
 | .int k, v => match v with | .int _ n => some n | _ => none
 | .bool, v => match v with | .bool b => some b | _ => none
 | .str, v => match v with | .string s => some s.data.toList | _ => none
 | .ptr, v => match v with | .pointer p => some p | _ => none
 | .slc, v => match v with | .slice p l c => some ⟨p, l, c⟩ | _ => none
 | .map, v => match v with | .map r => some r | _ => none
 | .any, v => some v
theorem Sh.rQ (s : Sh) (x : s.T) : s.un (s.v x) = some x := by cases s <;> rfl
def meas : (shs : List Sh) -> mv shs -> List Value -> World -> Nat
 | [], (μ : World -> Nat), _, w => μ w
 | s :: r, μ, vs, w => match s.un (vs.headD undef) with | some x => meas r (μ x) vs.tail w | none => 0
theorem jR : ∀ {shs : List Sh} {J : Cur shs} {μ : mv shs} {vs : List Value} {w : World} {m : Nat}, oS shs J μ vs w m -> decC shs J vs w /\ meas shs μ vs w < m
 | [], J, μ, vs, w, m, h => h
 | s :: r, J, μ, vs, w, m, h => by
  obtain ⟨x, hx, h⟩ := Sh.ln h
  obtain ⟨h1, h2⟩ := jR h
  simp only [decC, meas, hx, Sh.rQ]
  exact ⟨Sh.q8 h1, h2⟩
theorem jS : ∀ {shs : List Sh} {J : Cur shs} {μ : mv shs} {vs : List Value} {w : World} {K : List Value -> (World -> Prop) -> (World -> Nat) -> Prop}, vs.length = shs.length -> decC shs J vs w -> allM shs J μ K ->
  ∃ X m, X w /\ m w = meas shs μ vs w /\ K vs X m
 | [], J, μ, vs, w, K, hl, h, ha => by
  have : vs = [] := by simpa using hl
  subst this
  exact ⟨J, μ, h, rfl, ha⟩
 | s :: r, J, μ, vs, w, K, hl, h, ha => by
  cases vs with
  | nil => simp at hl
  | cons v vs =>
   obtain ⟨x, hx, h⟩ := Sh.ln h
   simp only [List.headD_cons] at hx
   obtain ⟨X, m, h1, h2, h3⟩ := jS (by simpa using hl) h (ha x)
   refine ⟨X, m, h1, ?_, by rw [hx]; exact h3⟩
   simp only [meas, List.headD_cons, List.tail_cons, hx, Sh.rQ]
   exact h2
theorem gl : ∀ {ds : List Nat} {us : List Value} {K : List Value -> Prop}, us.length = ds.length -> oT ds K -> K us
 | [], us, K, hl, h => by
  have : us = [] := by simpa using hl
  subst this; exact h
 | d :: ds, us, K, hl, h => by
  cases us with
  | nil => simp at hl
  | cons u us => exact gl (K := fun us => K (u :: us)) (by simpa using hl) (h u)
def WR (r : Option Nat) : Fence := { Fence.wide with round := r }
theorem fC {r : Option Nat} {n : Nat} {P : Program} {f : FuncId} {args : Array Value} {w : World} {R : Ending -> World -> Prop} : CallsIn (WR r) n P f args w R ↔ Calls P f args w R :=
 callsIn_wide (n := n) (P := P) (f := f) (args := args) (w := w) (R := R)
theorem kO {r : Option Nat} {n : Nat} {P : Program} {row : String} {args : Array Value} {w : World} {R : Value -> World -> Prop} (h : Rows P row args w R) : RowsIn (WR r) n P row args w R :=
 fun c cs _ => let ⟨v, w', hr, s⟩ := h c cs; ⟨v, w', hr, stepsIn_wide.2 s⟩
theorem fD {n : Nat} {P : Program} {c : Code} {Q : Exit -> Act -> World -> Prop} {a : Act} {w : World} : c.wpIn (WR none) n P Q a w ↔ c.wp P Q a w := wpIn_wide
def eO (o : Oper) : Bool := match o.op with | .defer _ => false | _ => true
theorem mw {r : Option Nat} {o : Oper} (h : r = none \/ eO o = true) (ρ : Operand -> Value) : o.semAt r ρ = execOp ρ o := by
 rcases h with rfl | h
 ·rfl
 ·refine Oper.semAt_eq r ρ o (fun c hc => ?_)
  unfold eO at h
  rw [hc] at h
  cases h
def r9 (t : Array Value) (d : Option Tmp) (v : Value) : Array Value := match d with | some d => t.setIfInBounds d v | none => t
theorem fE (t : Array Value) (ds : List Deferred) (d : Option Tmp) (v : Value) : (Act.mk t ds).put d v = Act.mk (r9 t d v) ds := by cases d <;> rfl
theorem jT {P : Program} {ops : Array Oper} {r : Option Nat} {n : Nat} {Q Q' : Exit -> Act -> World -> Prop} {df : List Deferred} (hp : ∀ o ∈ ops.toList, r = none \/ eO o = true) (hout : ¬ LetsOut Q)
  (hQ : ∀ e t d w, Q e ⟨t, d⟩ w -> Q' e ⟨t, d ++ df⟩ w) :
  ∀ (l : List Nat) (t : Array Value) (d : List Deferred) (w : World), wpOps P ops Q l ⟨t, d⟩ w -> wpOpsIn (WR r) n P ops Q' l ⟨t, d ++ df⟩ w
 | [], t, d, w, h => hQ _ _ _ _ h
 | i :: rest, t, d, w, h => by
  have ih := jT (P := P) (n := n) hp hout hQ rest
  simp only [wpOps] at h
  simp only [wpOpsIn]
  cases ho : ops[i]? with
  | none => simp only [ho] at h ⊢; exact ih _ _ _ h
  | some o =>
   simp only [ho] at h ⊢
   have hpo := hp o (List.mem_of_getElem? (by simpa using ho))
   by_cases hw : Region.wanted o (yielded ops t) = true
   ·simp only [hw, if_true] at h ⊢
    rcases h with h | ⟨_, h⟩
    ·refine ⟨fun f _ => trivial, ?_⟩
     have e1 : o.semAt (WR r).round (Act.mk t (d ++ df)).eval = execOp (Act.mk t d).eval o := by
      rw [show (Act.mk t (d ++ df)).eval = (Act.mk t d).eval from rfl]
      exact mw hpo _
     rw [e1]
     unfold Oper.wp at h
     generalize (execOp (Act.mk t d).eval o).run P w = res at h ⊢
     cases res with
     | ok nx w' =>
      cases nx <;> simp only [Oper.upon, Oper.uponIn] at h ⊢
      case value v => rw [fE] at h ⊢; exact ih _ _ _ h
      case skip => rw [fE] at h ⊢; exact ih _ _ _ h
      case defer x => rw [fE] at h ⊢; exact ih _ (x :: d) _ h
      case enter f args =>
       refine ⟨fun h => by simp [WR, Fence.wide] at h, fC.2 (Calls.mono h fun e w'' he => ?_)⟩
       cases e with
       | returned v => simp only [fE] at he ⊢; exact ih _ _ _ he
       | panicked c => exact hQ _ _ _ _ he
       | outgrown => exact absurd he hout
      case row row args =>
       refine ⟨fun h => by simp [WR, Fence.wide] at h, kO (Rows.mono h fun v w'' he => ?_)⟩
       simp only [fE] at he ⊢; exact ih _ _ _ he
     | halt x w' =>
      cases x <;> simp only [Oper.upon, Oper.uponIn] at h ⊢
      case panic v => exact hQ _ _ _ _ h
    ·exact absurd h hout
   ·simp only [hw, if_false, Bool.false_eq_true] at h ⊢
    rw [fE] at h ⊢
    exact ⟨fun f _ => trivial, ih _ _ _ h⟩
def plainC : Code -> Bool
 | .skip => true
 | .ret => true
 | .exit _ => true
 | .label _ => true
 | .goto _ => true
 | .region _ ops _ => ops.toList.all eO
 | .seq a b => plainC a && plainC b
 | .cond _ a b => plainC a && plainC b
 | .block _ a => plainC a
 | .loop a => plainC a
 | _ => false
def pT (P : Program) (rg : Rg) (r : Option Nat) : Prop :=
 ∀ (n : Nat) (df : List Deferred) (id : Nat) (wr : List Nat) (ops : Array Oper) (dr : Bool) (Q : eW) (l : List Value) (w : World), (r = none \/ ops.toList.all eO = true) -> rg wr ops dr (Q .normal) l w ->
  (Code.region id ops dr).wpIn (WR r) n P (gj df (dstsOf ops.toList) l Q) ⟨⟨l⟩, df⟩ w
theorem cL {P : Program} {L : Nat -> Bool} (hL : bO P L) (hm : P.follows .mixedOrders = true) (r : Option Nat) : pT P (regionD P L) r := by
 intro n df id wr ops dr Q l w hp h
 have hds : ∀ o ∈ ops.toList, ∀ x, o.dst = some x -> x ∈ dstsOf ops.toList := fun o ho x hx => List.mem_filterMap.2 ⟨o, ho, hx⟩
 have hp' : ∀ o ∈ ops.toList, r = none \/ eO o = true := fun o ho => hp.imp (fun h => h) fun h => (List.all_eq_true.1 h) o ho
 have hout : ¬ LetsOut (hat (dstsOf ops.toList) l (Q .normal)) := by rintro ⟨a, w, h⟩; exact h
 have hQ : ∀ e t d w, hat (dstsOf ops.toList) l (Q .normal) e ⟨t, d⟩ w -> gj df (dstsOf ops.toList) l Q e ⟨t, d ++ df⟩ w := by
  intro e t d w h
  cases e with
  | normal =>
   obtain ⟨l', h1, h2, h3⟩ := h
   cases h1
   exact ⟨l', rfl, h2, h3⟩
  | _ => exact h.elim
 unfold regionD at h
 split at h
 ·refine wpIn_region ?_
  have h1 := lA hL ops.toList 0 l w hds (aJ _ _) h
  have h2 : wpOps P ops (hat (dstsOf ops.toList) l (Q .normal)) (List.range ops.size) ⟨⟨l⟩, []⟩ w := by
   rw [List.range_eq_range', <- Array.length_toList, wpOps_eq_wpList ops.toList 0 (by simp)]; exact h1
  exact jT hp' hout hQ _ _ [] _ h2
 ·split at h
  ·rename_i hc
   simp only [Bool.and_eq_true] at hc
   refine wpIn_region_draw fun t => ?_
   have h1 := rZ (P := P) (L := L) (ra := wr) (ops := ops) (ds := dstsOf ops.toList) (l0 := l) (Q := Q .normal) hL hc.1 hc.2 hds ops.toList.length [] (Array.replicate ops.size false) [] l w.drew
    ⟨by simp, fun i => by simp; rcases Nat.lt_or_ge i ops.size with h | h <;> simp [h]⟩
    (fun j oj hj hl => by
     exfalso
     rcases Nat.lt_or_ge j ops.size with h | h
     ·simp [h] at hl
     ·simp [Array.getElem?_eq_none (xs := Array.replicate ops.size false) (i := j) (by simpa using h)] at hl) (by simp) (aJ _ _) h
   have h2 := jJ (anc := jK (masks ops.toList [])) _ _ [] _ _ h1
   simp only [Region.schedule, hm, Bool.true_or, if_true]
   have h3 := wpAny_sound (md := .any) _ t _ _ _ h2
   rw [show ops.toList.length = ops.size from Array.length_toList] at h3
   exact jT hp' hout hQ _ _ [] _ h3
  ·exact h.elim
theorem ew {P : Program} {rg : Rg} {r : Option Nat} (hrg : pT P rg r) {n : Nat} {df : List Deferred} : ∀ (c : Code) (ann : Ann) (Q : eW) (l : List Value) (w : World), (r = none \/ plainC c = true) ->
  den P rg ann c Q l w -> c.wpIn (WR r) n P (gj df (codeDsts c) l Q) ⟨⟨l⟩, df⟩ w := by
 intro c
 induction c with
 | skip => intro ann Q l w hpl h; exact wpIn_skip ⟨l, rfl, aJ _ _, h⟩
 | label n => intro ann Q l w hpl h; exact wpIn_label ⟨l, rfl, aJ _ _, h⟩
 | goto n => intro ann Q l w hpl h; exact wpIn_goto ⟨l, rfl, aJ _ _, h⟩
 | ret => intro ann Q l w hpl h; exact wpIn_ret ⟨l, rfl, aJ _ _, h⟩
 | exit id => intro ann Q l w hpl h; exact wpIn_exit ⟨l, rfl, aJ _ _, h⟩
 | region id ops dr => intro ann Q l w hpl h; exact hrg _ _ _ _ _ _ _ _ _ hpl h
 | seq x y ihx ihy =>
  intro ann Q l w hpl h
  have hpx : r = none \/ plainC x = true := hpl.imp id fun h => by simp only [plainC, Bool.and_eq_true] at h; exact h.1
  have hpy : r = none \/ plainC y = true := hpl.imp id fun h => by simp only [plainC, Bool.and_eq_true] at h; exact h.2
  simp only [den] at h
  have plain : den P rg (je ann) x (ik (den P rg (jP ann) y Q) Q) l w -> (Code.seq x y).wpIn (WR r) n P (gj df (codeDsts (.seq x y)) l Q) ⟨⟨l⟩, df⟩ w := by
   intro h
   refine wpIn_seq (wpIn_mono (ihx _ _ l w hpx h) (fun e a w' hq => ?_))
   obtain ⟨l', rfl, ha, hq⟩ := hq
   cases e with
   | normal =>
    refine wpIn_mono (ihy _ _ l' w' hpy hq) (fun e a w h => ?_)
    exact dC (fun s hs => by simp [codeDsts, hs]) (aB (fun s hs => by simp [codeDsts, hs]) ha) h
   | exit id => exact ⟨l', rfl, aB (fun s hs => by simp [codeDsts, hs]) ha, hq⟩
   | ret => exact ⟨l', rfl, aB (fun s hs => by simp [codeDsts, hs]) ha, hq⟩
   | goto l => exact ⟨l', rfl, aB (fun s hs => by simp [codeDsts, hs]) ha, hq⟩
   | panic c => exact hq.elim
   | outgrown => exact hq.elim
  split at h
  ·rename_i live dead ax ay
   split at h
   ·rename_i hsub
    obtain ⟨J, h1, h2⟩ := h
    have hsub' := jw hsub
    refine wpIn_seq (wpIn_mono (ihx _ _ l w hpx h1) (fun e a w' hq => ?_))
    obtain ⟨l', rfl, ha, hq⟩ := hq
    cases e with
    | normal =>
     obtain ⟨X, hX, hK⟩ := jQ (by simp [bl]) hq h2
     have hU := gl (us := bl l' dead) (by simp [bl]) (hK w' hX)
     rw [fB ha hsub'] at hU
     refine wpIn_mono (ihy _ _ l' w' hpy hU) (fun e a w h => ?_)
     exact dC (fun s hs => by simp [codeDsts, hs]) (aB (fun s hs => by simp [codeDsts, hs]) ha) h
    | exit id => exact ⟨l', rfl, aB (fun s hs => by simp [codeDsts, hs]) ha, hq⟩
    | ret => exact ⟨l', rfl, aB (fun s hs => by simp [codeDsts, hs]) ha, hq⟩
    | goto l => exact ⟨l', rfl, aB (fun s hs => by simp [codeDsts, hs]) ha, hq⟩
    | panic c => exact hq.elim
    | outgrown => exact hq.elim
   ·exact h.elim
  ·exact plain h
 | cond c x y ihx ihy =>
  intro ann Q l w hpl h
  have hpx : r = none \/ plainC x = true := hpl.imp id fun h => by simp only [plainC, Bool.and_eq_true] at h; exact h.1
  have hpy : r = none \/ plainC y = true := hpl.imp id fun h => by simp only [plainC, Bool.and_eq_true] at h; exact h.2
  simp only [den] at h
  split at h
  ·rename_i b hb
   refine wpIn_cond (t := b) (by rw [show (Act.mk ⟨l⟩ df).eval c = (Act.mk ⟨l⟩ []).eval c from rfl, nk]; exact hb) ?_
   cases b with
   | true => exact wpIn_mono (ihx _ _ l w hpx h) (fun e a w h => dC (fun s hs => by simp [codeDsts, hs]) (aJ _ _) h)
   | false => exact wpIn_mono (ihy _ _ l w hpy h) (fun e a w h => dC (fun s hs => by simp [codeDsts, hs]) (aJ _ _) h)
  ·exact h.elim
 | block id x ihx =>
  intro ann Q l w hpl h
  have hpx : r = none \/ plainC x = true := hpl
  simp only [den] at h
  refine wpIn_block (wpIn_mono (ihx _ _ l w hpx h) (fun e a w' hq => ?_))
  obtain ⟨l', rfl, ha, hq⟩ := hq
  cases e with
  | normal => exact ⟨l', rfl, ha, hq⟩
  | exit i =>
   simp only [blockQ] at hq
   simp only [Exit.inBlock]
   by_cases hi : i = id
   ·rw [if_pos hi]
    subst hi
    have : Nat.beq i i = true := Nat.beq_refl i
    rw [this] at hq
    exact ⟨l', rfl, ha, hq⟩
   ·rw [if_neg hi]
    have : Nat.beq i id = false := by
     cases hb : Nat.beq i id with
     | false => rfl
     | true => exact absurd (Nat.eq_of_beq_eq_true hb) hi
    rw [this] at hq
    exact ⟨l', rfl, ha, hq⟩
  | ret => exact ⟨l', rfl, ha, hq⟩
  | goto l => exact ⟨l', rfl, ha, hq⟩
  | panic c => exact hq.elim
  | outgrown => exact hq.elim
 | loop x ihx =>
  intro ann Q l w hpl h
  have hpx : r = none \/ plainC x = true := hpl
  simp only [den] at h
  split at h
  ·rename_i live dead ax
   split at h
   ·rename_i hsub
    have hsub' := jw hsub
    obtain ⟨J, μ, h1, h2⟩ := h
    refine wpIn_loop (fun a w => ∃ l', a = ⟨⟨l'⟩, df⟩ /\ cd (codeDsts x) l l' /\ decC _ J (bl l' (live.map (·.1))) w)
     (fun a w => meas _ μ (bl a.tmps.toList (live.map (·.1))) w) ⟨l, rfl, aJ _ _, h1⟩ (fun a w hI => ?_)
    obtain ⟨l', rfl, ha, hJ⟩ := hI
    obtain ⟨X, m, hX, hmm, hK⟩ := jS (by simp [bl]) hJ h2
    have hU := gl (us := bl l' dead) (by simp [bl]) (hK w hX)
    rw [fB ha hsub'] at hU
    refine wpIn_mono (ihx _ _ l' w hpx hU) (fun e a w' hq => ?_)
    obtain ⟨l2, rfl, ha2, hq⟩ := hq
    cases e with
    | normal =>
     obtain ⟨h3, h4⟩ := jR hq
     refine ⟨⟨l2, rfl, cK ha ha2, h3⟩, ?_⟩
     rw [hmm] at h4
     exact h4
    | exit id => exact ⟨l2, rfl, cK ha ha2, hq⟩
    | ret => exact ⟨l2, rfl, cK ha ha2, hq⟩
    | goto l => exact ⟨l2, rfl, cK ha ha2, hq⟩
    | panic c => exact hq.elim
    | outgrown => exact hq.elim
   ·exact h.elim
  ·exact h.elim
 | rangeFunc f ps a b _ _ => intro ann Q l w hpl h; exact h.elim
 | scope b _ => intro ann Q l w hpl h; exact h.elim
 | refuse s => intro ann Q l w hpl h; exact h.elim
theorem ry {P : Program} {rg : Rg} (hrg : pT P rg none) (c : Code) (ann : Ann) (Q : eW) (l : List Value) (w : World) (h : den P rg ann c Q l w) : c.wp P (gj [] (codeDsts c) l Q) ⟨⟨l⟩, []⟩ w :=
 (fD (n := 0)).1 (ew hrg c ann Q l w (.inl rfl) h)
def nw (P : Program) : List ResultVar -> List Value -> World -> (List Value -> Prop) -> Prop
 | [], l, w, K => K []
 | .tmp t :: r, l, w, K => nw P r l w fun vs => K (l.getD t undef :: vs)
 | .cell a t :: r, l, w, K => loadK P t (l.getD a undef) w fun v => nw P r l w fun vs => K (v :: vs)
def resV (vs : List Value) : Value := match vs with | [v] => v | vs => .tuple ⟨vs⟩
def rR (P : Program) (rs : List ResultVar) (K : Value -> World -> Prop) : eW
 | .exit _, _, _ => False
 | .goto _, _, _ => False
 | _, l, w => nw P rs l w fun vs => K (resV vs) w
def repU : Nat -> List Value
 | 0 => []
 | n + 1 => undef :: repU n
theorem lD : ∀ n, repU n = List.replicate n undef
 | 0 => rfl
 | n + 1 => by rw [repU, lD n, List.replicate_succ]
def denG (P : Program) (rg : Rg) (fn : Func) (ann : Ann) (args : List Value) (w : World) (K : Value -> World -> Prop) : Prop :=
 match fn.body with
 | some c => den P rg ann c (rR P fn.results.toList K) (args ++ repU (fn.ntmps - args.length)) w
 | none => False
def sa (P : Program) (L : Nat -> Bool) (fn : Func) (ann : Ann) (args : List Value) (w : World) (K : Value -> World -> Prop) : Prop := denG P (regionD P L) fn ann args w K
theorem resL_ok {P : Program} {l : List Value} {w : World} : ∀ {rs : List ResultVar} {K : List Value -> Prop}, nw P rs l w K ->
  ∃ vs, (rs.mapM (fun
   | .tmp t => pure ((⟨l⟩ : Array Value).getD t undef)
   | .cell a t => do loadVar t (<- asAddr ((⟨l⟩ : Array Value).getD a undef)) : ResultVar -> Sem Value)).run P w = .ok vs w /\ K vs
 | [], K, h => ⟨[], by simp, h⟩
 | .tmp t :: r, K, h => by
  obtain ⟨vs, h1, h2⟩ := resL_ok (rs := r) h
  refine ⟨_, ?_, h2⟩
  simp only [List.mapM_cons, Sem.run_bind, Sem.run_pure, Result.andThen_ok, h1]
  simp
 | .cell a t :: r, K, h => by
  obtain ⟨v, hv, h⟩ := lV h
  obtain ⟨vs, h1, h2⟩ := resL_ok (rs := r) h
  refine ⟨_, ?_, h2⟩
  have e : (⟨l⟩ : Array Value).getD a undef = l.getD a undef := by simp
  have : (do loadVar t (<- asAddr ((⟨l⟩ : Array Value).getD a undef)) : Sem Value).run P w = .ok v w := by
   rw [e]
   simp only [Instr.loadAt] at hv
   cases hp : l.getD a undef <;> rw [hp] at hv <;> try (simp [Instr.sureAddr] at hv; done)
   rename_i p
   cases p with
   | none => simp [Instr.sureAddr] at hv
   | some x => simpa [Instr.sureAddr, asAddr] using hv
  simp only [List.mapM_cons, Sem.run_bind] at this ⊢
  rw [this]
  simp only [Result.andThen_ok, h1, Sem.run_pure]
theorem gm {P : Program} {fn : Func} {l : List Value} {w : World} {K : List Value -> Prop} (h : nw P fn.results.toList l w K) :
  ∃ vs, (results fn ⟨l⟩).run P w = .ok (resV vs) w /\ K vs := by
 obtain ⟨vs, h1, h2⟩ := resL_ok h
 refine ⟨vs, ?_, h2⟩
 unfold results
 simp only [Sem.run_bind]
 rw [Array.mapM_eq_mapM_toList]
 simp only [Sem.run_map]
 erw [h1]
 simp only [Result.andThen_ok, Sem.run_pure]
 congr 1
 cases vs with
 | nil => rfl
 | cons v r => cases r with
  | nil => rfl
  | cons u r => simp [resV]
theorem gQ {P : Program} {rg : Rg} (hrg : pT P rg none) {f : FuncId} {fn : Func} {ann : Ann} {args : List Value} {w : World} {R : Ending -> World -> Prop}
  (hf : P.funcs[f]? = some fn) (h : denG P rg fn ann args w fun v w' => R (.returned v) w') : Calls P f ⟨args⟩ w R := by
 unfold denG at h
 split at h
 ·rename_i c hc
  refine calls_of_wp hf hc (Code.wp_mono (Q := gj [] (codeDsts c) (args ++ repU (fn.ntmps - args.length)) (rR P fn.results.toList fun v w' => R (.returned v) w')) (fun e a w' hq => ?_) ?_)
  ·obtain ⟨l', rfl, ha, hq⟩ := hq
   cases e with
   | normal => obtain ⟨vs, h1, h2⟩ := gm hq; exact ⟨rfl, _, h1, h2⟩
   | ret => obtain ⟨vs, h1, h2⟩ := gm hq; exact ⟨rfl, _, h1, h2⟩
   | exit id => exact hq.elim
   | goto l => exact hq.elim
   | panic c => exact hq.elim
   | outgrown => exact hq.elim
  ·have := ry hrg c ann _ _ w h
   have e : ((⟨args⟩ : Array Value) ++ Array.replicate (fn.ntmps - (⟨args⟩ : Array Value).size) undef) = ⟨args ++ repU (fn.ntmps - args.length)⟩ := by
    rw [lD]; simp
   rw [e]
   exact this
 ·exact h.elim
theorem ae {P : Program} {L : Nat -> Bool} (hL : bO P L) (hm : P.follows .mixedOrders = true) {f : FuncId} {fn : Func} {ann : Ann} {args : List Value} {w : World} {R : Ending -> World -> Prop}
  (hf : P.funcs[f]? = some fn) (h : sa P L fn ann args w fun v w' => R (.returned v) w') : Calls P f ⟨args⟩ w R := gQ (cL hL hm none) hf h
end Go.D

