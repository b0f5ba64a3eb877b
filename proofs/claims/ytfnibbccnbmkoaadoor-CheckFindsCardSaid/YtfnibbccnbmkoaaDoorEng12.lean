/-
  WHAT IS PROVED: the engine: verification conditions of the code, with their soundness. No further conditions.
-/
import Derived.Test.YtfnibbccnbmkoaaDoorEng11
import Derived.TacticsIn
import Derived.RangeFuncLeaves
import Derived.RangeFuncRecord
import Derived.RangeFuncSeq
import Derived.ScopeJumps
set_option linter.unusedSimpArgs false
namespace Go.D
open Go
set_option linter.unusedVariables false
def dD (P : Program) (l : Nat) (args : Array Value) (W : World) (R : Ending -> World -> Prop) : Prop := ∀ m, YieldAt Fence.wide m P l args W R
theorem dD.mono {P : Program} {l : Nat} {args : Array Value} {W : World} {R R' : Ending -> World -> Prop} (h : dD P l args W R) (hr : ∀ e w, R e w -> R' e w) : dD P l args W R' := by
 intro m
 obtain ⟨fn, tmps, assign, body, h1, h2⟩ := h m
 exact ⟨fn, tmps, assign, body, h1, h2.mono hr⟩
def yieldOf (o : Oper) (ρ : Operand -> Value) : Option (Nat × Array Value) :=
  match o.op with
  | .call c => (match c.callee with
     | .value f => (match ρ f with
        | .func (.yield l) first _ => some (l, first ++ c.args.map ρ)
        | _ => none)
     | _ => none)
  | _ => none
theorem my {P : Program} {o : Oper} {ρ : Operand -> Value} {l : Nat} {args : Array Value} (h : yieldOf o ρ = some (l, args)) : execOp ρ o = Instr.yield l args /\ eO o = true := by
 unfold yieldOf at h
 split at h
 ·rename_i c ho
  split at h
  ·rename_i f hc
   split at h
   ·rename_i l' first cap hf
    simp only [Option.some.injEq, Prod.mk.injEq] at h
    obtain ⟨rfl, rfl⟩ := h
    refine ⟨?_, by simp [eO, ho]⟩
    simp only [execOp, ho, resolve, hc, hf, Deferred.ofValue]
    rfl
   ·cases h
  ·cases h
 ·cases h
def opKY (P : Program) (L : Nat -> Bool) (wr : Bool) (o : Oper) (ρ : Operand -> Value) (w : World) (K : Value -> World -> Prop) : Prop :=
 match yieldOf o ρ with
 | some (l, args) => dD P l args w fun e w' => ∃ b : Bool, e = .returned (.bool b) /\ K (.bool b) w'
 | none => opK P L wr o ρ w K
def oo (P : Program) (L : Nat -> Bool) (ra : List Nat) (ops : List Oper) : List Oper -> Nat -> (List Value -> World -> Prop) -> List Value -> World -> Prop
 | [], _, Q, l, w => Q l w
 | o :: rest, i, Q, l, w =>
  guardK ops o.guard l
   (fun l => opKY P L (ra.contains i) o (ev l) w fun v w' => oo P L ra ops rest (i + 1) Q (put l o.dst v) w')
   (fun l => oo P L ra ops rest (i + 1) Q (put l o.dst undef) w)
theorem rS {P : Program} {o : Oper} {n : Nat} {a : Act} {w : World} {K K' : Act -> World -> Prop} {Q Q' : Exit -> Act -> World -> Prop} (h : o.wp P a w K Q) (hK : ∀ a w, K a w -> K' a w)
  (hQ : ∀ e a w, Q e a w -> Q' e a w) : o.wpIn (WR none) n P a w K' Q' := by
 refine ⟨fun f _ => trivial, ?_⟩
 rw [show (o.semAt (WR none).round a.eval) = execOp a.eval o from rfl]
 unfold Oper.wp at h
 generalize (execOp a.eval o).run P w = res at h ⊢
 cases res with
 | ok nx w' =>
  cases nx <;> simp only [Oper.upon, Oper.uponIn] at h ⊢
  case value v => exact hK _ _ h
  case skip => exact hK _ _ h
  case defer x => exact hK _ _ h
  case enter f args =>
   refine ⟨fun h => by simp [WR, Fence.wide] at h, fC.2 (Calls.mono h fun e w'' he => ?_)⟩
   cases e with
   | returned v => exact hK _ _ he
   | panicked c => exact hQ _ _ _ he
   | outgrown => obtain ⟨a, w, he⟩ := he; exact ⟨a, w, hQ _ _ _ he⟩
  case row row args =>
   exact ⟨fun h => by simp [WR, Fence.wide] at h, kO (Rows.mono h fun v w'' he => hK _ _ he)⟩
 | halt x w' =>
  cases x <;> simp only [Oper.upon, Oper.uponIn] at h ⊢
  case panic v => exact hQ _ _ _ h
theorem qM {P : Program} {L : Nat -> Bool} (hL : bO P L) {wr : Bool} {o : Oper} {n : Nat} {a : Act} {w : World} {K : Value -> World -> Prop} {next : Act -> World -> Prop} {Q : Exit -> Act -> World -> Prop}
  (hn : ∀ v w', K v w' -> next (a.put o.dst v) w') (h : opKY P L wr o a.eval w K) : o.wpIn (WR none) n P a w next Q := by
 unfold opKY at h
 split at h
 ·rename_i l args hy
  refine ⟨fun f _ => trivial, ?_⟩
  obtain ⟨h1, h2⟩ := my (P := P) hy
  rw [show (o.semAt (WR none).round a.eval) = execOp a.eval o from rfl, h1]
  obtain ⟨fn, tmps, assign, body, h3, h4⟩ := h (n - 1)
  rw [h3]
  refine ⟨fun h => by simp [WR, Fence.wide] at h, RoundIn.mono (F := Fence.wide) h4 fun e w' he => ?_⟩
  obtain ⟨b, rfl, hk⟩ := he
  exact hn _ _ hk
 ·exact rS (pP (Q := Q) hL (fun v w' hk => hn v w' hk) h) (fun _ _ h => h) (fun _ _ _ h => h)
theorem jU {P : Program} {L : Nat -> Bool} (hL : bO P L) {ra : List Nat} {n : Nat} {ops : Array Oper} {df : List Deferred} {ds : List Nat} {l0 : List Value} {Q : eW} :
  ∀ (rest : List Oper) (i : Nat) (l : List Value) (w : World), (∀ o ∈ rest, ∀ x, o.dst = some x -> x ∈ ds) -> cd ds l0 l -> oo P L ra ops.toList rest i (Q .normal) l w ->
   wpListIn (WR none) n P ops (gj df ds l0 Q) rest ⟨⟨l⟩, df⟩ w
 | [], i, l, w, _, ha, h => ⟨l, rfl, ha, h⟩
 | o :: rest, i, l, w, hd, ha, h => by
  have hdo := hd o (by simp)
  have hdr : ∀ o ∈ rest, ∀ x, o.dst = some x -> x ∈ ds := fun o ho => hd o (List.mem_cons_of_mem _ ho)
  have hput : ∀ v, (Act.mk ⟨l⟩ df).put o.dst v = Act.mk ⟨put l o.dst v⟩ df := fun v => by
   have := eM l o.dst v
   rw [fE] at this ⊢
   simp only [Act.mk.injEq, and_true] at this ⊢
   exact this
  unfold wpListIn
  rcases gG h with ⟨hw, h1⟩ | ⟨hw, h1⟩
  ·rw [if_pos hw]
   rw [<- gE, show (Act.mk ⟨l⟩ []).eval = (Act.mk ⟨l⟩ df).eval from rfl] at h1
   refine qM hL (fun v w' hk => ?_) h1
   rw [hput]
   exact jU hL rest (i + 1) _ w' hdr (cU ha hdo) hk
  ·rw [if_neg (by simp [hw]), hput]
   exact ⟨fun f _ => trivial, jU hL rest (i + 1) _ w hdr (cU ha hdo) h1⟩
def oq (P : Program) (L : Nat -> Bool) : Rg := fun wr ops dr Q l w =>
 match dr with
 | false => oo P L wr ops.toList ops.toList 0 Q l w
 | true => regionD P L wr ops true Q l w
theorem ny {P : Program} {L : Nat -> Bool} (hL : bO P L) (hm : P.follows .mixedOrders = true) : pT P (oq P L) none := by
 intro n df id wr ops dr Q l w hp h
 cases dr with
 | true => exact cL hL hm none n df id wr ops true Q l w hp h
 | false =>
  have hds : ∀ o ∈ ops.toList, ∀ x, o.dst = some x -> x ∈ dstsOf ops.toList := fun o ho x hx => List.mem_filterMap.2 ⟨o, ho, hx⟩
  exact wpIn_region_list (jU hL ops.toList 0 l w hds (aJ _ _) h)
def sb (P : Program) (L : Nat -> Bool) (fn : Func) (ann : Ann) (args : List Value) (w : World) (K : Value -> World -> Prop) : Prop := denG P (oq P L) fn ann args w K
theorem gR {P : Program} {L : Nat -> Bool} (hL : bO P L) (hm : P.follows .mixedOrders = true) {f : FuncId} {fn : Func} {ann : Ann} {args : List Value} {w : World} {R : Ending -> World -> Prop}
  (hf : P.funcs[f]? = some fn) (h : sb P L fn ann args w fun v w' => R (.returned v) w') : Calls P f ⟨args⟩ w R := gQ (ny hL hm) hf h
def qN : List PSh -> (List Value -> Prop) -> Prop
 | [], K => K []
 | .one s :: r, K => ∀ x : s.T, qN r fun vs => K (s.v x :: vs)
 | .agg l :: r, K => rj l fun cs => qN r fun vs => K (.agg ⟨cs⟩ :: vs)
theorem ou : ∀ {l : List Sh} {K : List Value -> Prop}, (∀ vs, K vs) -> rj l K
 | [], _, h => h _
 | _ :: l, _, h => fun x => ou (l := l) fun vs => h _
theorem lE : ∀ {l : List PSh} {K : List Value -> Prop}, (∀ vs, vs.length = l.length -> K vs) -> qN l K
 | [], _, h => h _ rfl
 | .one _ :: l, _, h => fun x => lE (l := l) fun vs hv => h _ (by simp [hv])
 | .agg _ :: l, _, h => ou fun cs => lE (l := l) fun vs hv => h _ (by simp [hv])
abbrev Rec := LoopState -> Option Code -> Loop
def sf (lr : Nat) (rc : Rec) (R : Ending -> World -> Prop) : eW
 | .normal, _, w => w.heap[lr]? = some (.loop (rc .busy none)) /\ ∀ w' : World, w' = w.putObj lr (.loop (rc .ready none)) -> R (.returned (.bool true)) w'
 | .exit id, _, w => w.heap[lr]? = some (.loop (rc .busy none)) /\ ∀ w' : World, w' = w.putObj lr (.loop (rc .done (some (.exit id)))) -> R (.returned (.bool false)) w'
 | .ret, _, w => w.heap[lr]? = some (.loop (rc .busy none)) /\ ∀ w' : World, w' = w.putObj lr (.loop (rc .done (some .ret))) -> R (.returned (.bool false)) w'
 | .goto n, _, w => False
def rz (P : Program) (L : Nat -> Bool) (axB : Ann) (body : Code) (lr : Nat) (rc : Rec) (R : Ending -> World -> Prop) : eW
 | .normal, l, w => w.heap[lr]? = some (.loop (rc .ready none)) /\ ∀ w' : World, w' = w.putObj lr (.loop (rc .busy none)) -> den P (regionD P L) axB body (sf lr rc R) l w'
 | _, _, _ => False
def pU (P : Program) (L : Nat -> Bool) (axA axB : Ann) (assign body : Code) (lr : Nat) (rc : Rec) (l : List Value) (w : World) (R : Ending -> World -> Prop) : Prop :=
 den P (regionD P L) axA assign (rz P L axB body lr rc R) l w
abbrev dt := Ex -> List Nat -> List Value -> World -> Prop
def jV (Q : dt) (ds : List Nat) (l : List Value) (lr : Nat) (rc : Rec) : List Ex -> World -> Prop
 | [], w => w.heap[lr]? = some (.loop (rc .ready none)) /\ ∀ w' : World, w' = w.putObj lr (.loop (rc .exhausted none)) -> Q .normal ds l w'
 | .exit id :: r, w => (w.heap[lr]? = some (.loop (rc .done (some (.exit id)))) /\ ∀ w' : World, w' = w.putObj lr (.loop (rc .exhausted (some (.exit id)))) -> Q (.exit id) ds l w') \/ jV Q ds l lr rc r w
 | .ret :: r, w => (w.heap[lr]? = some (.loop (rc .done (some .ret))) /\ ∀ w' : World, w' = w.putObj lr (.loop (rc .exhausted (some .ret))) -> Q .ret ds l w') \/ jV Q ds l lr rc r w
 | _ :: r, w => jV Q ds l lr rc r w
def rangeD (P : Program) (L : Nat -> Bool) (ann : Ann) (g : Operand) (ps : Array Tmp) (assign body : Code) (Q : dt) (ds : List Nat) (l : List Value) (w : World) : Prop :=
  match ann with
  | .range pshs exits axA axB =>
    (match Nat.beq pshs.length ps.size && plainC assign && plainC body with
     | true => ∃ (gf : Nat) (first cap : List Value), ev l g = .func (.func gf) ⟨first⟩ ⟨cap⟩ /\ L gf = true /\
         ∀ (D lr : Nat) (rc : Rec) (w1 : World), D = w.heap.size -> lr = D + 1 -> w1 = (w.alloc (.deferred (some []))).alloc (.loop (rc .ready none)) ->
           (qN pshs fun vs => ∀ (W : World) (R : Ending -> World -> Prop), W.heap[lr]? = some (.loop (rc .ready none)) -> pU P L axA axB assign body lr rc (setMany l ps.toList vs) W R -> dD P lr ⟨vs⟩ W R) ->
           Calls P gf ⟨first ++ .func (.yield lr) #[] #[] :: cap⟩ w1 fun e W => (∃ v, e = .returned v) /\ jV Q (D :: ds) l lr rc exits W
     | false => False)
  | _ => False
def mk (D : Nat) : Deferred := { target := .collected D, args := #[] }
def eP (ds : List Nat) (l0 : List Value) (Q : dt) (e : Exit) (a : Act) (w : World) : Prop :=
 ∃ l' ms, a = ⟨⟨l'⟩, ms.map mk⟩ /\ cd ds l0 l' /\ (match e with | .normal => Q .normal ms l' w | .exit id => Q (.exit id) ms l' w | .ret => Q .ret ms l' w | .goto n => Q (.goto n) ms l' w | _ => False)
theorem fF {ds ds' : List Nat} {l0 l1 : List Value} {Q : dt} {e : Exit} {a : Act} {w : World} (h : ∀ s ∈ ds, s ∈ ds') (ha : cd ds' l0 l1) (hh : eP ds l1 Q e a w) : eP ds' l0 Q e a w := by
 obtain ⟨l', ms, h1, h2, h3⟩ := hh
 exact ⟨l', ms, h1, cK ha (aB h h2), h3⟩
theorem rA {df ds : List Nat} {l0 : List Value} {Q : dt} {e : Exit} {a : Act} {w : World} (h : gj (df.map mk) ds l0 (fun e l w => Q e df l w) e a w) : eP ds l0 Q e a w := by
 obtain ⟨l', h1, h2, h3⟩ := h
 refine ⟨l', df, h1, h2, ?_⟩
 cases e <;> exact h3
theorem kP : ∀ (ps : List Tmp) (vs l : List Value), vs.length = ps.length -> (ps.zip vs).foldl (fun (t : Array Value) (x : Tmp × Value) => t.setIfInBounds x.1 x.2) ⟨l⟩ = ⟨setMany l ps vs⟩
 | [], [], l, _ => rfl
 | p :: ps, v :: vs, l, h => by
  simp only [List.zip_cons_cons, List.foldl_cons, setMany, List.headD_cons, List.tail_cons]
  have : (Array.mk l).setIfInBounds p v = ⟨l.set p v⟩ := by simp
  rw [this]
  exact kP ps vs _ (by simpa using h)
section
variable {P : Program} {L : Nat -> Bool} (hL : bO P L) (hm : P.follows .mixedOrders = true)
include hL hm
theorem pV {axA axB : Ann} {assign body : Code} {lr : Nat} {fn : FuncId} {tmps : Array Value} {ps : Array Tmp} {dfr : Nat} {l : List Value} {W : World} {R : Ending -> World -> Prop} {m : Nat} {rc : Rec}
  (hrc : rc = fun st pe => { state := st, pending := pe, fn, tmps, params := ps, assign, body, defers := dfr }) (hA : plainC assign = true) (hB : plainC body = true)
  (h : pU P L axA axB assign body lr rc l W R) : RoundIn Fence.wide m P lr fn ⟨l⟩ assign body W R := by
 refine roundIn_of_wpIn trivial ?_
 have h1 := ew (cL hL hm (some lr)) (n := m) (df := []) assign axA _ l W (.inr hA) h
 refine wpIn_mono (F := WR (some lr)) h1 (fun e a w1 hq => ?_)
 obtain ⟨l1, rfl, _, hq⟩ := hq
 cases e with
 | normal =>
  obtain ⟨hrec, hq⟩ := hq
  refine ⟨_, run_beginRound hrec (by rw [hrc]), ?_⟩
  have e1 : ({ rc .ready none with state := .busy } : Loop) = rc .busy none := by rw [hrc]
  rw [e1]
  have h2 := ew (cL hL hm (some lr)) (n := m) (df := []) body axB _ l1 _ (.inr hB) (hq _ rfl)
  refine wpIn_mono (F := WR (some lr)) h2 (fun e a w3 hq => ?_)
  obtain ⟨l3, rfl, _, hq⟩ := hq
  cases e with
  | normal =>
   refine ⟨_, _, run_endRound none hq.1, hq.2 _ ?_⟩
   rw [hrc]; rfl
  | exit id =>
   refine ⟨_, _, run_endRound (some (.exit id)) hq.1, hq.2 _ ?_⟩
   rw [hrc]; rfl
  | ret =>
   refine ⟨_, _, run_endRound (some .ret) hq.1, hq.2 _ ?_⟩
   rw [hrc]; rfl
  | goto n => exact hq.elim
  | panic c => exact hq.elim
  | outgrown => exact hq.elim
 | _ => exact hq.elim
omit hL hm in
theorem pW {Q : dt} {ds : List Nat} {l0 l : List Value} {lr : Nat} {rc : Rec} {n : Nat} {fn : FuncId} {tmps : Array Value} {ps : Array Tmp} {assign body : Code} {dfr : Nat}
    (hrc : rc = fun st pe => { state := st, pending := pe, fn, tmps, params := ps, assign, body, defers := dfr }) (dd : List Nat) :
    ∀ (exits : List Ex) (W : World), jV Q ds l lr rc exits W -> ∃ jump w4, (Instr.endLoop lr).run P W = .ok jump w4 /\
      (match jump with
       | none => eP dd l Q .normal ⟨⟨l⟩, ds.map mk⟩ w4
       | some c => c.wpIn (WR none) n P (eP dd l Q) ⟨⟨l⟩, ds.map mk⟩ w4) := by
  have hend : ∀ (st : LoopState) (j : Option Code) (W : World), W.heap[lr]? = some (.loop (rc st j)) -> st ≠ .busy -> (Instr.endLoop lr).run P W = .ok j (W.putObj lr (.loop (rc .exhausted j))) := by
    intro st j W h hb
    have := run_endLoop (P := P) h (by rw [hrc]; exact hb)
    rw [this, hrc]
  have base : ∀ (e : Exit) (w : World), (match e with | .normal => Q .normal ds l w | .exit id => Q (.exit id) ds l w | .ret => Q .ret ds l w | .goto n => Q (.goto n) ds l w | _ => False) -> eP dd l Q e ⟨⟨l⟩, ds.map mk⟩ w :=
    fun e w h => ⟨l, ds, rfl, aJ _ _, by cases e <;> exact h⟩
  intro exits
  induction exits with
  | nil => exact fun W h => ⟨none, _, hend _ _ W h.1 (by simp), base .normal _ (h.2 _ rfl)⟩
  | cons e r ih =>
    intro W h
    cases e with
    | exit id =>
      rcases h with ⟨h1, h2⟩ | h
      · exact ⟨some (.exit id), _, hend _ _ W h1 (by simp), wpIn_exit (base (.exit id) _ (h2 _ rfl))⟩
      · exact ih W h
    | ret =>
      rcases h with ⟨h1, h2⟩ | h
      · exact ⟨some .ret, _, hend _ _ W h1 (by simp), wpIn_ret (base .ret _ (h2 _ rfl))⟩
      · exact ih W h
    | normal => exact ih W h
    | goto n => exact ih W h
theorem oV {ann : Ann} {g : Operand} {ps : Array Tmp} {assign body : Code} {Q : dt} {ds : List Nat} {l : List Value} {w : World} (dd : List Nat)
  (h : rangeD P L ann g ps assign body Q ds l w) : (Code.rangeFunc g ps assign body).wp P (eP dd l Q) ⟨⟨l⟩, ds.map mk⟩ w := by
 unfold rangeD at h
 split at h
 ·rename_i pshs exits axA axB
  split at h
  ·rename_i hpl
   simp only [Bool.and_eq_true] at hpl
   obtain ⟨⟨hps, hA⟩, hB⟩ := hpl
   have hps' := Nat.eq_of_beq_eq_true hps
   obtain ⟨gf, first, cap, hev, hLg, h⟩ := h
   ·
    refine (fD (n := 1)).1 (wpIn_rangeFunc ?_)
    intro fn _
    obtain ⟨rc, hrc⟩ : ∃ rc : Rec, rc = fun st pe => { state := st, pending := pe, fn, tmps := ⟨l⟩, params := ps, assign, body, defers := w.heap.size } := ⟨_, rfl⟩
    obtain ⟨W1, hW1⟩ : ∃ W1, W1 = (w.alloc (.deferred (some []))).alloc (.loop (rc .ready none)) := ⟨_, rfl⟩
    have hc := h w.heap.size (w.heap.size + 1) rc W1 rfl rfl hW1 (lE fun vs hv W R hrec hround => by
     intro m
     have hsz : (Array.mk vs).size = (rc .ready none).params.size := by rw [hrc]; simp [hv, hps']
     have hy := run_yield (P := P) hrec hsz
     rw [hrc] at hy
     simp only at hy
     have e2 : (ps.zip ⟨vs⟩).foldl (fun (tmps : Array Value) (x : Tmp × Value) => tmps.setIfInBounds x.1 x.2) ⟨l⟩ = ⟨setMany l ps.toList vs⟩ := by
      have := kP ps.toList vs l (by simp [hv, hps'])
      rw [<- this, <- Array.foldl_toList, Array.toList_zip]
     rw [e2] at hy
     exact ⟨_, _, _, _, hy, pV hL hm hrc hA hB hround⟩)
    refine ⟨w.heap.size + 1, [mk w.heap.size], W1, { target := .fn (.func gf) ⟨cap⟩, args := (⟨first⟩ : Array Value) ++ #[.func (.yield (w.heap.size + 1)) #[] #[]] }, W1, gf, ⟨first ++ .func (.yield (w.heap.size + 1)) #[] #[] :: cap⟩, W1, ?_, ?_, ?_, ?_, ?_, ?_⟩
    ·have := run_enterLoop_outer (P := P) (w := w) fn ⟨l⟩ ps assign body
     rw [hW1, hrc]
     exact this
    ·simp only [resolve]
     rw [show (Act.mk ⟨l⟩ (ds.map mk)).eval = (Act.mk ⟨l⟩ []).eval from rfl, gE, hev]
     simp [Deferred.ofValue, ev]
    ·intro f' _; trivial
    ·simp only [invoke]
     have e9 : (⟨first⟩ : Array Value) ++ #[.func (.yield (w.heap.size + 1)) #[] #[]] ++ (⟨cap⟩ : Array Value) = ⟨first ++ .func (.yield (w.heap.size + 1)) #[] #[] :: cap⟩ := by simp
     rw [e9]
     exact hL gf _ W1 hLg
    ·intro hd; simp [WR, Fence.wide] at hd
    ·refine fC.2 (Calls.mono hc fun e W2 he => ?_)
     obtain ⟨⟨v, rfl⟩, he⟩ := he
     obtain ⟨jump, w4, h1, h2⟩ := pW (P := P) (n := 1) (l0 := l) hrc dd exits W2 he
     refine ⟨jump, w4, h1, ?_⟩
     cases jump <;> exact h2
  ·exact h.elim
 ·exact h.elim
end
def lF (c : Code) (lab : Nat) : Bool := (findLabel c lab).isSome
def denB (P : Program) (L : Nat -> Bool) (lab : Nat) (ann : Ann) : Code -> (List Value -> World -> Prop) -> eW -> List Value -> World -> Prop
  | .label n, J, Q, l, w => (match Nat.beq n lab with | true => J l w | false => False)
  | .seq a b, J, Q, l, w =>
    (match lF a lab with
     | true => denB P L lab (je ann) a J (ik (den P (regionD P L) (jP ann) b Q) Q) l w
     | false => den P (regionD P L) (je ann) a (ik (denB P L lab (jP ann) b J Q) Q) l w)
  | _, _, _, _, _ => False
def denA (P : Program) (L : Nat -> Bool) (lab : Nat) (ann : Ann) : Code -> eW -> List Value -> World -> Prop
  | .label n, Q, l, w => (match Nat.beq n lab with | true => Q .normal l w | false => False)
  | .seq a b, Q, l, w =>
    (match lF a lab with
     | true => denA P L lab (je ann) a (ik (den P (regionD P L) (jP ann) b Q) Q) l w
     | false => denA P L lab (jP ann) b Q l w)
  | _, _, _, _ => False
def firstQ (lab : Nat) (J : List Value -> World -> Prop) (Q : dt) (ds : List Nat) : eW
 | .goto n, l, w => (match Nat.beq n lab with | true => J l w | false => False)
 | e, l, w => Q e ds l w
def scopeD (P : Program) (L : Nat -> Bool) (ann : Ann) (x : Code) (Q : dt) (ds : List Nat) (l : List Value) (w : World) : Prop :=
  match ann with
  | .scope lab live dead ax ay =>
    (match lF x lab && oU (codeDsts x) (live.map (·.1) ++ dead) with
     | true => ∃ (J : Cur (live.map (·.2))) (μ : mv (live.map (·.2))), denB P L lab ax x (fun l' w' => decC _ J (bl l' (live.map (·.1))) w') (firstQ lab (fun l' w' => decC _ J (bl l' (live.map (·.1))) w') Q ds) l w /\
         allM _ J μ fun vs X m => ∀ w', X w' -> oT dead fun us =>
           denA P L lab ay x (firstQ lab (fun l2 w2 => oS _ J μ (bl l2 (live.map (·.1))) w2 (m w')) Q ds) (setMany (setMany l (live.map (·.1)) vs) dead us) w'
     | false => False)
  | _ => False
def blockQ2 (id : Nat) (Q : dt) : dt
 | .exit i, ds, l, w => (match Nat.beq i id with | true => Q .normal ds l w | false => Q (.exit i) ds l w)
 | e, ds, l, w => Q e ds l w
def pX (next : List Nat -> List Value -> World -> Prop) (Q : dt) : dt
 | .normal, ds, l, w => next ds l w
 | e, ds, l, w => Q e ds l w
def den2 (P : Program) (L : Nat -> Bool) (ann : Ann) : Code -> dt -> List Nat -> List Value -> World -> Prop
  | .seq x y, Q, ds, l, w =>
    (match ann with
     | .cut live dead ax ay =>
       (match oU (codeDsts x) (live.map (·.1) ++ dead) with
        | true => ∃ J : Cur (live.map (·.2)), den P (regionD P L) ax x (ik (fun l' w' => decC _ J (bl l' (live.map (·.1))) w') (fun e l w => Q e ds l w)) l w /\
            qL _ J fun vs X => ∀ w', X w' -> oT dead fun us => den2 P L ay y Q ds (setMany (setMany l (live.map (·.1)) vs) dead us) w'
        | false => False)
     | _ => den2 P L (je ann) x (pX (den2 P L (jP ann) y Q) Q) ds l w)
  | .cond c x y, Q, ds, l, w =>
    (match ev l c with
     | .bool b => BIf b (den2 P L (je ann) x Q ds l w) (den2 P L (jP ann) y Q ds l w)
     | _ => False)
  | .block id x, Q, ds, l, w => den2 P L (je ann) x (blockQ2 id Q) ds l w
  | .rangeFunc g ps assign body, Q, ds, l, w => rangeD P L ann g ps assign body Q ds l w
  | .scope x, Q, ds, l, w => scopeD P L ann x Q ds l w
  | c, Q, ds, l, w => den P (regionD P L) ann c (fun e l w => Q e ds l w) l w
section
variable {P : Program} {L : Nat -> Bool} (hL : bO P L) (hm : P.follows .mixedOrders = true)
include hL hm
theorem qO {lab : Nat} {df : List Deferred} : ∀ (c : Code) (rest : Code) (ann : Ann) (Q : eW) (l : List Value) (w : World), findLabel c lab = some rest -> denA P L lab ann c Q l w ->
  rest.wp P (gj df (codeDsts c) l Q) ⟨⟨l⟩, df⟩ w := by
 intro c
 induction c with
 | label n =>
  intro rest ann Q l w hf h
  simp only [findLabel] at hf
  split at hf
  ·cases hf
   simp only [denA] at h
   split at h
   ·exact wp_skip ⟨l, rfl, aJ _ _, h⟩
   ·exact h.elim
  ·cases hf
 | seq x y ihx ihy =>
  intro rest ann Q l w hf h
  simp only [findLabel] at hf
  simp only [denA] at h
  cases hx : findLabel x lab with
  | some r =>
   rw [hx] at hf
   cases hf
   simp only [lF, hx, Option.isSome_some] at h
   refine wp_seq (Code.wp_mono (fun e a w' hq => ?_) (ihx r _ _ l w hx h))
   obtain ⟨l', rfl, ha, hq⟩ := hq
   cases e with
   | normal =>
    refine Code.wp_mono (fun e a w h => ?_) ((fD (n := 0)).1 (ew (cL hL hm none) (df := df) y _ _ l' w' (.inl rfl) hq))
    exact dC (fun s hs => by simp [codeDsts, hs]) (aB (fun s hs => by simp [codeDsts, hs]) ha) h
   | exit id => exact ⟨l', rfl, aB (fun s hs => by simp [codeDsts, hs]) ha, hq⟩
   | ret => exact ⟨l', rfl, aB (fun s hs => by simp [codeDsts, hs]) ha, hq⟩
   | goto l => exact ⟨l', rfl, aB (fun s hs => by simp [codeDsts, hs]) ha, hq⟩
   | panic c => exact hq.elim
   | outgrown => exact hq.elim
  | none =>
   rw [hx] at hf
   simp only [lF, hx, Option.isSome_none] at h
   refine Code.wp_mono (fun e a w' hq => ?_) (ihy rest _ _ l w hf h)
   exact dC (fun s hs => by simp [codeDsts, hs]) (aJ _ _) hq
 | _ => intro rest ann Q l w hf h; exact h.elim
theorem qP {lab : Nat} {df : List Deferred} {ds : List Nat} {l0 : List Value} {J : List Value -> World -> Prop} : ∀ (c : Code) (ann annA : Ann) (Q1 : eW) (S : Exit -> Act -> World -> Prop) (l : List Value) (w : World),
  (∀ s ∈ codeDsts c, s ∈ ds) -> (∃ rest, findLabel c lab = some rest) -> cd ds l0 l -> (∀ e a w, gj df ds l0 Q1 e a w -> S e a w) ->
  (∀ l' w', cd ds l0 l' -> J l' w' -> ∃ Qj, denA P L lab annA c Qj l' w' /\ ∀ e a w, gj df ds l0 Qj e a w -> S e a w) ->
  denB P L lab ann c J Q1 l w -> c.wp P S ⟨⟨l⟩, df⟩ w := by
 intro c
 have den' : ∀ (y : Code) (ann : Ann) (Q : eW) (l : List Value) (w : World), (∀ s ∈ codeDsts y, s ∈ ds) -> cd ds l0 l -> den P (regionD P L) ann y Q l w -> y.wp P (gj df ds l0 Q) ⟨⟨l⟩, df⟩ w := by
  intro y ann Q l w hs ha h
  refine Code.wp_mono (fun e a w h => ?_) ((fD (n := 0)).1 (ew (cL hL hm none) (df := df) y ann Q l w (.inl rfl) h))
  exact dC hs ha h
 induction c with
 | label n =>
  intro ann annA Q1 S l w hs hf ha h1 hJ h
  simp only [denB] at h
  split at h
  ·rename_i hn
   obtain ⟨Qj, h2, h3⟩ := hJ l w ha h
   simp only [denA, hn] at h2
   exact wp_label (h3 _ _ _ ⟨l, rfl, ha, h2⟩)
  ·exact h.elim
 | seq x y ihx ihy =>
  intro ann annA Q1 S l w hs hf ha h1 hJ h
  have hsx : ∀ s ∈ codeDsts x, s ∈ ds := fun s h => hs s (by simp [codeDsts, h])
  have hsy : ∀ s ∈ codeDsts y, s ∈ ds := fun s h => hs s (by simp [codeDsts, h])
  simp only [denB] at h
  obtain ⟨rest, hf⟩ := hf
  simp only [findLabel] at hf
  cases hx : findLabel x lab with
  | some r =>
   simp only [lF, hx, Option.isSome_some] at h
   have lift : ∀ (ann : Ann) (Q : eW), (∀ e a w, gj df ds l0 Q e a w -> S e a w) -> ∀ e a w, gj df ds l0 (ik (den P (regionD P L) ann y Q) Q) e a w -> Exit.then (y.wp P S) S e a w := by
    intro ann Q hQ e a w hq
    obtain ⟨l', rfl, ha, hq⟩ := hq
    cases e with
    | normal => exact Code.wp_mono (fun e a w h => hQ e a w h) (den' y ann Q l' w hsy ha hq)
    | exit id => exact hQ _ _ _ ⟨l', rfl, ha, hq⟩
    | ret => exact hQ _ _ _ ⟨l', rfl, ha, hq⟩
    | goto n => exact hQ _ _ _ ⟨l', rfl, ha, hq⟩
    | panic c => exact hq.elim
    | outgrown => exact hq.elim
   refine wp_seq (ihx _ (je annA) _ _ l w hsx ⟨r, hx⟩ ha (lift _ _ h1) (fun l' w' ha' hj => ?_) h)
   obtain ⟨Qj, h2, h3⟩ := hJ l' w' ha' hj
   simp only [denA, lF, hx, Option.isSome_some] at h2
   exact ⟨_, h2, lift _ _ h3⟩
  | none =>
   rw [hx] at hf
   simp only [lF, hx, Option.isSome_none] at h
   refine wp_seq (Code.wp_mono (fun e a w' hq => ?_) (den' x _ _ l w hsx ha h))
   obtain ⟨l', rfl, ha', hq⟩ := hq
   cases e with
   | normal =>
    refine ihy _ (jP annA) _ _ l' w' hsy ⟨rest, hf⟩ ha' h1 (fun l2 w2 ha2 hj => ?_) hq
    obtain ⟨Qj, h2, h3⟩ := hJ l2 w2 ha2 hj
    simp only [denA, lF, hx, Option.isSome_none] at h2
    exact ⟨_, h2, h3⟩
   | exit id => exact h1 _ _ _ ⟨l', rfl, ha', hq⟩
   | ret => exact h1 _ _ _ ⟨l', rfl, ha', hq⟩
   | goto n => exact h1 _ _ _ ⟨l', rfl, ha', hq⟩
   | panic c => exact hq.elim
   | outgrown => exact hq.elim
 | _ => intro ann annA Q1 S l w hs hf ha h1 hJ h; exact h.elim
theorem scopeD_ok {ann : Ann} {x : Code} {Q : dt} {ds : List Nat} {l : List Value} {w : World} (h : scopeD P L ann x Q ds l w) : (Code.scope x).wp P (eP (codeDsts x) l Q) ⟨⟨l⟩, ds.map mk⟩ w := by
 unfold scopeD at h
 split at h
 ·rename_i lab live dead ax ay
  split at h
  ·rename_i hc
   simp only [Bool.and_eq_true] at hc
   obtain ⟨hlab, hsub⟩ := hc
   have hsub' := jw hsub
   obtain ⟨rest, hrest⟩ := Option.isSome_iff_exists.1 hlab
   obtain ⟨J, μ, h1, h2⟩ := h
   have pass : ∀ (l' : List Value) (w' : World), cd (codeDsts x) l l' -> decC _ J (bl l' (live.map (·.1))) w' -> ∃ m, m = meas _ μ (bl l' (live.map (·.1))) w' /\
     denA P L lab ay x (firstQ lab (fun l2 w2 => oS _ J μ (bl l2 (live.map (·.1))) w2 m) Q ds) l' w' := by
    intro l' w' ha hJ
    obtain ⟨X, m, hX, hmm, hK⟩ := jS (by simp [bl]) hJ h2
    have hU := gl (us := bl l' dead) (by simp [bl]) (hK w' hX)
    rw [fB ha hsub'] at hU
    exact ⟨_, hmm, hU⟩
   have out : ∀ (m : Option Nat) (l' : List Value) (e : Exit) (a : Act) (w : World), cd (codeDsts x) l l' ->
     gj (ds.map mk) (codeDsts x) l' (firstQ lab (fun l2 w2 => match m with | some m => oS _ J μ (bl l2 (live.map (·.1))) w2 m | none => decC _ J (bl l2 (live.map (·.1))) w2) Q ds) e a w ->
     Exit.jump lab (fun a w => (∃ l', a = ⟨⟨l'⟩, ds.map mk⟩ /\ cd (codeDsts x) l l' /\ decC _ J (bl l' (live.map (·.1))) w) /\ ∀ k, m = some k -> meas _ μ (bl a.tmps.toList (live.map (·.1))) w < k) (eP (codeDsts x) l Q) e a w := by
    intro m l' e a w ha hq
    obtain ⟨l2, rfl, ha2, hq⟩ := hq
    have ha3 := cK ha ha2
    cases e with
    | normal => exact ⟨l2, ds, rfl, ha3, hq⟩
    | exit id => exact ⟨l2, ds, rfl, ha3, hq⟩
    | ret => exact ⟨l2, ds, rfl, ha3, hq⟩
    | goto n =>
     simp only [firstQ] at hq
     split at hq
     ·rename_i hn
      refine ⟨Nat.eq_of_beq_eq_true hn, ?_⟩
      cases m with
      | none => exact ⟨⟨l2, rfl, ha3, hq⟩, fun k hk => by cases hk⟩
      | some m =>
       obtain ⟨h3, h4⟩ := jR hq
       exact ⟨⟨l2, rfl, ha3, h3⟩, fun k hk => by cases hk; exact h4⟩
     ·exact hq.elim
    | panic c => exact hq.elim
    | outgrown => exact hq.elim
   have weak : ∀ (m : Option Nat) (e : Exit) (a : Act) (w : World), Exit.jump lab (fun a w => (∃ l', a = ⟨⟨l'⟩, ds.map mk⟩ /\ cd (codeDsts x) l l' /\ decC _ J (bl l' (live.map (·.1))) w) /\ ∀ k, m = some k -> meas _ μ (bl a.tmps.toList (live.map (·.1))) w < k) (eP (codeDsts x) l Q) e a w ->
     Exit.jump lab (fun a w => ∃ l', a = ⟨⟨l'⟩, ds.map mk⟩ /\ cd (codeDsts x) l l' /\ decC _ J (bl l' (live.map (·.1))) w) (eP (codeDsts x) l Q) e a w := by
    intro m e a w h
    cases e with
    | goto n => exact ⟨h.1, h.2.1⟩
    | _ => exact h
   refine wp_scope_jumps lab (fun a w => ∃ l', a = ⟨⟨l'⟩, ds.map mk⟩ /\ cd (codeDsts x) l l' /\ decC _ J (bl l' (live.map (·.1))) w) (fun a w => meas _ μ (bl a.tmps.toList (live.map (·.1))) w) hrest ?_ ?_
   ·refine qP hL hm (ds := codeDsts x) (l0 := l) x ax ay _ _ l w (fun s h => h) ⟨rest, hrest⟩ (aJ _ _) (fun e a w h => weak none e a w (out none l e a w (aJ _ _) h)) (fun l' w' ha hj => ?_) h1
    obtain ⟨m, _, hd⟩ := pass l' w' ha hj
    exact ⟨_, hd, fun e a w h => weak (some m) e a w (out (some m) l e a w (aJ _ _) h)⟩
   ·rintro a w ⟨l', rfl, ha, hj⟩
    obtain ⟨m, hmm, hd⟩ := pass l' w ha hj
    refine Code.wp_mono (fun e a w h => ?_) (qO hL hm x rest ay _ l' w hrest hd)
    have h5 := out (some m) l' e a w ha h
    cases e with
    | goto n =>
     refine ⟨h5.1, h5.2.1, ?_⟩
     have := h5.2.2 m rfl
     rw [hmm] at this
     exact this
    | _ => exact h5
  ·exact h.elim
 ·exact h.elim
theorem qQ : ∀ (c : Code) (ann : Ann) (Q : dt) (ds : List Nat) (l : List Value) (w : World), den2 P L ann c Q ds l w -> c.wp P (eP (codeDsts c) l Q) ⟨⟨l⟩, ds.map mk⟩ w := by
 have leaf : ∀ (c : Code) (ann : Ann) (Q : dt) (ds : List Nat) (l : List Value) (w : World), den P (regionD P L) ann c (fun e l w => Q e ds l w) l w -> c.wp P (eP (codeDsts c) l Q) ⟨⟨l⟩, ds.map mk⟩ w := by
  intro c ann Q ds l w h
  exact Code.wp_mono (fun e a w h => rA h) ((fD (n := 0)).1 (ew (cL hL hm none) (df := ds.map mk) c ann _ l w (.inl rfl) h))
 intro c
 induction c with
 | seq x y ihx ihy =>
  intro ann Q ds l w h
  simp only [den2] at h
  have plain : den2 P L (je ann) x (pX (den2 P L (jP ann) y Q) Q) ds l w -> (Code.seq x y).wp P (eP (codeDsts (.seq x y)) l Q) ⟨⟨l⟩, ds.map mk⟩ w := by
   intro h
   refine wp_seq (Code.wp_mono (fun e a w' hq => ?_) (ihx _ _ ds l w h))
   obtain ⟨l', ms, rfl, ha, hq⟩ := hq
   cases e with
   | normal =>
    refine Code.wp_mono (fun e a w h => ?_) (ihy _ _ ms l' w' hq)
    exact fF (fun s hs => by simp [codeDsts, hs]) (aB (fun s hs => by simp [codeDsts, hs]) ha) h
   | exit id => exact ⟨l', ms, rfl, aB (fun s hs => by simp [codeDsts, hs]) ha, hq⟩
   | ret => exact ⟨l', ms, rfl, aB (fun s hs => by simp [codeDsts, hs]) ha, hq⟩
   | goto l => exact ⟨l', ms, rfl, aB (fun s hs => by simp [codeDsts, hs]) ha, hq⟩
   | panic c => exact hq.elim
   | outgrown => exact hq.elim
  split at h
  ·rename_i live dead ax ay
   split at h
   ·rename_i hsub
    obtain ⟨J, h1, h2⟩ := h
    have hsub' := jw hsub
    have h1' := (fD (n := 0)).1 (ew (cL hL hm none) (df := ds.map mk) x ax _ l w (.inl rfl) h1)
    refine wp_seq (Code.wp_mono (fun e a w' hq => ?_) h1')
    obtain ⟨l', rfl, ha, hq⟩ := hq
    cases e with
    | normal =>
     obtain ⟨X, hX, hK⟩ := jQ (by simp [bl]) hq h2
     have hU := gl (us := bl l' dead) (by simp [bl]) (hK w' hX)
     rw [fB ha hsub'] at hU
     refine Code.wp_mono (fun e a w h => ?_) (ihy _ _ ds l' w' hU)
     exact fF (fun s hs => by simp [codeDsts, hs]) (aB (fun s hs => by simp [codeDsts, hs]) ha) h
    | exit id => exact ⟨l', ds, rfl, aB (fun s hs => by simp [codeDsts, hs]) ha, hq⟩
    | ret => exact ⟨l', ds, rfl, aB (fun s hs => by simp [codeDsts, hs]) ha, hq⟩
    | goto l => exact ⟨l', ds, rfl, aB (fun s hs => by simp [codeDsts, hs]) ha, hq⟩
    | panic c => exact hq.elim
    | outgrown => exact hq.elim
   ·exact h.elim
  ·exact plain h
 | cond c x y ihx ihy =>
  intro ann Q ds l w h
  simp only [den2] at h
  split at h
  ·rename_i b hb
   refine wp_cond (t := b) (by rw [show (Act.mk ⟨l⟩ (ds.map mk)).eval c = (Act.mk ⟨l⟩ []).eval c from rfl, nk]; exact hb) ?_
   cases b with
   | true => exact Code.wp_mono (fun e a w h => fF (fun s hs => by simp [codeDsts, hs]) (aJ _ _) h) (ihx _ _ ds l w h)
   | false => exact Code.wp_mono (fun e a w h => fF (fun s hs => by simp [codeDsts, hs]) (aJ _ _) h) (ihy _ _ ds l w h)
  ·exact h.elim
 | block id x ihx =>
  intro ann Q ds l w h
  simp only [den2] at h
  refine wp_block (Code.wp_mono (fun e a w' hq => ?_) (ihx _ _ ds l w h))
  obtain ⟨l', ms, rfl, ha, hq⟩ := hq
  cases e with
  | normal => exact ⟨l', ms, rfl, ha, hq⟩
  | exit i =>
   simp only [blockQ2] at hq
   simp only [Exit.inBlock]
   by_cases hi : i = id
   ·rw [if_pos hi]
    subst hi
    have : Nat.beq i i = true := Nat.beq_refl i
    rw [this] at hq
    exact ⟨l', ms, rfl, ha, hq⟩
   ·rw [if_neg hi]
    have : Nat.beq i id = false := by
     cases hb : Nat.beq i id with
     | false => rfl
     | true => exact absurd (Nat.eq_of_beq_eq_true hb) hi
    rw [this] at hq
    exact ⟨l', ms, rfl, ha, hq⟩
  | ret => exact ⟨l', ms, rfl, ha, hq⟩
  | goto l => exact ⟨l', ms, rfl, ha, hq⟩
  | panic c => exact hq.elim
  | outgrown => exact hq.elim
 | rangeFunc g ps assign body _ _ => intro ann Q ds l w h; exact oV hL hm _ h
 | scope x _ => intro ann Q ds l w h; exact scopeD_ok hL hm h
 | skip => intro ann Q ds l w h; exact leaf _ _ _ _ _ _ h
 | label n => intro ann Q ds l w h; exact leaf _ _ _ _ _ _ h
 | goto n => intro ann Q ds l w h; exact leaf _ _ _ _ _ _ h
 | ret => intro ann Q ds l w h; exact leaf _ _ _ _ _ _ h
 | exit id => intro ann Q ds l w h; exact leaf _ _ _ _ _ _ h
 | region id ops dr => intro ann Q ds l w h; exact leaf _ _ _ _ _ _ h
 | loop x _ => intro ann Q ds l w h; exact leaf _ _ _ _ _ _ h
 | refuse s => intro ann Q ds l w h; exact leaf _ _ _ _ _ _ h
end
def rB : List Nat -> World -> (World -> Prop) -> Prop
 | [], w, K => K w
 | D :: ds, w, K => w.heap[D]? = some (.deferred (some [])) /\ ∀ w' : World, w' = w.putObj D (.deferred none) -> rB ds w' K
def rT (P : Program) (rs : List ResultVar) (K : Value -> World -> Prop) : dt
 | .exit _, _, _, _ => False
 | .goto _, _, _, _ => False
 | _, ds, l, w => rB ds w fun w' => nw P rs l w' fun vs => K (resV vs) w'
def denF2 (P : Program) (L : Nat -> Bool) (fn : Func) (ann : Ann) (args : List Value) (w : World) (K : Value -> World -> Prop) : Prop :=
 match fn.body with
 | some c => den2 P L ann c (rT P fn.results.toList K) [] (args ++ repU (fn.ntmps - args.length)) w
 | none => False
theorem iP {P : Program} {fn : Func} {l : List Value} {R : Ending -> World -> Prop} {n : Nat} : ∀ (ds : List Nat) (w : World), rB ds w (fun w' => nw P fn.results.toList l w' fun vs => R (.returned (resV vs)) w') ->
  LeavesInM (WR none) n P fn ⟨l⟩ R (ds.map mk) .returning w
 | [], w, h => by
  obtain ⟨vs, h1, h2⟩ := gm h
  exact ⟨_, h1, h2⟩
 | D :: ds, w, h => by
  refine ⟨by simp, .inl ⟨D, _, rfl, run_takeDeferred h.1, iP ds _ (h.2 _ rfl)⟩⟩
theorem gS {P : Program} {L : Nat -> Bool} (hL : bO P L) (hm : P.follows .mixedOrders = true) {f : FuncId} {fn : Func} {ann : Ann} {args : List Value} {w : World} {R : Ending -> World -> Prop}
  (hf : P.funcs[f]? = some fn) (h : denF2 P L fn ann args w fun v w' => R (.returned v) w') : Calls P f ⟨args⟩ w R := by
 unfold denF2 at h
 split at h
 ·rename_i c hc
  refine (fC (r := none) (n := 0)).1 (callsIn_of_wp_marks hf hc trivial ?_ rfl)
  have h1 := qQ hL hm c ann _ [] _ w h
  have e : ((⟨args⟩ : Array Value) ++ Array.replicate (fn.ntmps - (⟨args⟩ : Array Value).size) undef) = ⟨args ++ repU (fn.ntmps - args.length)⟩ := by
   rw [lD]; simp
  rw [e]
  refine wpIn_mono ((fD (n := 0)).2 h1) (fun e a w' hq => ?_)
  obtain ⟨l', ms, rfl, _, hq⟩ := hq
  cases e with
  | normal => exact iP ms w' hq
  | ret => exact iP ms w' hq
  | exit id => exact hq.elim
  | goto l => exact hq.elim
  | panic c => exact hq.elim
  | outgrown => exact hq.elim
 ·exact h.elim
end Go.D

