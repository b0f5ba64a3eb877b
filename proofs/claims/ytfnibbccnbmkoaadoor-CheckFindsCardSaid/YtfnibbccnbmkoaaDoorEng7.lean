/-
  WHAT IS PROVED: the engine: verification conditions of the code, with their soundness. No further conditions.
-/
import Derived.Test.YtfnibbccnbmkoaaDoorEng6
import Derived.DeepKeys3
set_option linter.unusedSimpArgs false
namespace Go.D
open Go
set_option linter.unusedVariables false
def pE (P : Program) (e : TypeId) (b : List UInt8) (w : World) (K : Slc -> World -> Prop) : Prop :=
 ∀ (cap : Nat) (w1 : World), b.length <= cap -> w1 = w.drew.alloc (.cells ⟨b.map ba ++ List.replicate (cap - b.length) (.int .u8 0)⟩ e (cap, cap + 1)) ->
  K ⟨some ⟨w.heap.size, 0, none⟩, b.length, cap⟩ w1
theorem lq (w : World) (c : Array Value) (e : TypeId) (n : Nat) : (w.alloc (.cells c e)).freeze ⟨w.heap.size, n, none⟩ 1 = w.alloc (.cells c e (n, n + 1)) := by
 simp only [World.freeze, World.alloc]
 simp only [Nat.one_ne_zero, if_false]
 congr 1
 apply Array.ext_getElem?
 intro i
 by_cases hi : i = w.heap.size
 ·subst hi
  rw [Array.getElem?_modify]
  simp
 ·simp [Array.getElem?_modify, Array.getElem?_push, hi, Ne.symm hi]
theorem oJ {P : Program} {e : TypeId} {b : ByteArray} {w : World} {K : Slc -> World -> Prop} (h : pE P e b.data.toList w K) :
  ∃ s w', (Conv.stringToBytes e b).run P w = .ok (Slc.v s) w' /\ K s w' := by
 let cap := (Question.appendCap b.size 0 e).cut (w.tape w.drawn (.appendCap b.size 0 e))
 have hcap : b.size <= cap := by
  show b.size <= b.size + _
  omega
 refine ⟨_, _, ?_, h cap _ hcap rfl⟩
 have hq : (choose (Question.appendCap b.size 0 e)).run P w = .ok cap w.drew := by
  rw [run_choose]; rfl
 have hl : b.data.toList.length = b.size := rfl
 have hc : (b.data.map (fun x => Value.int .u8 (x.toNat : Int))) ++ Array.replicate (cap - b.size) (Value.int .u8 0) = ⟨b.data.toList.map ba ++ List.replicate (cap - b.data.toList.length) (.int .u8 0)⟩ := by
  apply Array.ext'
  simp [ba, hl]
 have hn : (⟨b.data.toList.map ba ++ List.replicate (cap - b.data.toList.length) (.int .u8 0)⟩ : Array Value).size = cap := by
  simp [hl]
  have e8 : b.data.size = b.size := rfl
  omega
 simp only [Conv.stringToBytes, Sem.run_bind, hq, Result.andThen_ok, newRow, run_newObj, Sem.run_pure, markStringish, run_shape]
 rw [hc]
 have e1 : ({ w.drew with heap := w.drew.heap.push (.cells ⟨b.data.toList.map ba ++ List.replicate (cap - b.data.toList.length) (.int .u8 0)⟩ e) } : World) =
  w.drew.alloc (.cells ⟨b.data.toList.map ba ++ List.replicate (cap - b.data.toList.length) (.int .u8 0)⟩ e) := rfl
 rw [e1]
 have e2 : (w.drew.alloc (.cells ⟨b.data.toList.map ba ++ List.replicate (cap - b.data.toList.length) (.int .u8 0)⟩ e)).shape? w.drew.heap.size = some (e, cap) := by
  simp only [World.shape?, World.alloc, Array.getElem?_push_size]
  rw [hn]
 simp only [e2, run_freeze]
 rw [lq]
 rfl
def copyS (size : Nat) (w : World) (d : Slc) (src : Src) (K : Int -> World -> Prop) : Prop :=
 ∃ new : List Value, new.length = min src.n d.l * size /\ (match src with | .slc s => cS w s.p new | .str b => size = 1 /\ new = (b.take (min src.n d.l)).map ba) /\
  (∀ v ∈ new, v.oneCell' = true) /\ (∀ a, d.p = some a -> aw w a new.length) /\
  ∀ w1, w1 = (match d.p with | some a => setCells w a 0 new | none => w) -> K ((min src.n d.l : Nat) : Int) w1
def copyK (P : Program) (ts : List TypeId) (args : List Value) (w : World) (K : Value -> World -> Prop) : Prop :=
  match ts, args with
  | [t0, _], [.slice p l c, x] =>
    (match sliceT P t0 with
     | some e => (match fX P e with
        | some size => srcK x fun src => copyS size w ⟨p, l, c⟩ src fun n w' => K (.int .i64 n) w'
        | none => False)
     | none => False)
  | _, _ => False
theorem pF {P : Program} {ts : Array TypeId} {ty : TypeId} {args : Array Value} {w : World} {K : Value -> World -> Prop} (h : copyK P ts.toList args.toList w K) :
  ∃ v w', (Builtin.copy_ ts ty args).run P w = .ok v w' /\ K v w' := by
 obtain ⟨ts⟩ := ts
 obtain ⟨args⟩ := args
 simp only at h
 unfold copyK at h
 split at h
 ·rename_i t0 t1 p l c x
  split at h
  ·rename_i e h0
   split at h
   ·rename_i size hsz
    obtain ⟨src, rfl, h2⟩ := oe h
    obtain ⟨new, hn, hs, hone, hw, hK⟩ := h2
    simp only at hn hw
    have hu0 : P.underlying t0 = some (.slice e) := by
     unfold sliceT at h0
     split at h0
     ·rename_i hu; simp only [Option.some.injEq] at h0; subst h0; exact hu
     ·cases h0
    have hfirst : (Builtin.firstCells size (min src.n l) src.v).run P w = .ok ⟨new⟩ w := by
     cases src with
     | slc s =>
      obtain ⟨sp, sl, sc⟩ := s
      simp only [Src.n] at hn hs ⊢
      have := dh (P := P) (w := w) (size := size) (n := min sl l) (x := .slc ⟨sp, min sl l, sc⟩) (cs := new) ⟨hn, hs⟩ rfl
      cases sp with
      | none => exact this
      | some a => exact this
     | str b =>
      simp only [Src.n] at hn hs ⊢
      obtain ⟨h1, h2⟩ := hs
      have := dh (P := P) (w := w) (size := size) (n := min b.length l) (x := .str (b.take (min b.length l))) (cs := new) ⟨h1, h2⟩ (by simp [Src.n])
      simp only [Src.v, aq, Builtin.firstCells, gU] at this ⊢
      simpa [List.take_take] using this
    cases p with
    | none =>
     refine ⟨_, _, ?_, hK _ rfl⟩
     simp only [Builtin.copy_, List.getElem?_toArray, List.getElem?_cons_zero, List.getElem?_cons_succ, Sem.run_bind, ag hu0, Result.andThen_ok, fi, a9 hsz]
     erw [hfirst]
     simp only [Result.andThen_ok, Sem.run_pure, goInt]
    | some a =>
     refine ⟨_, _, ?_, hK _ rfl⟩
     have hst : (storeCells a new).run P w = .ok () (setCells w a 0 new) :=
      cT new 0 w hone (fun j hj => by rw [Nat.zero_add]; exact hw a rfl j hj)
     simp only [Builtin.copy_, List.getElem?_toArray, List.getElem?_cons_zero, List.getElem?_cons_succ, Sem.run_bind, ag hu0, Result.andThen_ok, fi, a9 hsz]
     erw [hfirst]
     simp only [Result.andThen_ok, hst, Sem.run_pure, goInt]
   ·exact h.elim
  ·exact h.elim
 ·exact h.elim
def mapIs (w : World) (m : Option Nat) (es : Array MapEntry) : Prop :=
 match m with
 | none => es = #[]
 | some r => ∃ ck, w.heap[r]? = some (.map es ck)
def simpleD : TypeDesc -> Bool
 | .int _ => true
 | .string => true
 | .bool => true
 | _ => false
def bw (kd : TypeDesc) (k : Value) (es : Array MapEntry) : Option (Option Value) := (Instr.findNow kd k es.toList 0).map fun q => q.map (·.2)
theorem run_checkKey {P : Program} {t : TypeId} {d : TypeDesc} (h : P.underlying t = some d) (hs : simpleD d = true) (b : Bool) (k : Value) (w : World) :
  (Instr.checkKey b 10000 t k).run P w = .ok () w := by
 have e : (Instr.checkKey b 10000 t k) = Instr.checkKey b (9999 + 1) t k := rfl
 rw [e, Instr.checkKey]
 simp only [Sem.run_bind, ag h, Result.andThen_ok]
 cases d <;> simp [simpleD] at hs <;> rfl
theorem run_findKey {P : Program} {t : TypeId} {d : TypeDesc} (h : P.underlying t = some d) {k : Value} {es : List MapEntry} {r : Option (Nat × Value)} (hr : Instr.findNow d k es 0 = some r) (w : World) :
  (Instr.findKey t k es).run P w = .ok r w := by
 simp only [Instr.findKey, Sem.run_bind, ag h, Result.andThen_ok, hr, Sem.run_pure]
def Sh.z : (s : Sh) -> s.T
 | .int _ => (0 : Int)
 | .bool => false
 | .str => ([] : List UInt8)
 | .ptr => (none : Option Addr)
 | .slc => (⟨none, 0, 0⟩ : Slc)
 | .map => (none : Option Nat)
 | .any => Value.nilIface
def Sh.isZ : (s : Sh) -> Value -> Bool
 | .int k, .int k' n => decide (k' = k) && decide (n = 0)
 | .bool, .bool b => !b
 | .str, .string s => s.data.toList.isEmpty
 | .ptr, .pointer none => true
 | .slc, .slice none 0 0 => true
 | .map, .map none => true
 | .any, .nilIface => true
 | _, _ => false
theorem Sh.pG {s : Sh} {v : Value} (h : s.isZ v = true) : v = s.v s.z := by
 unfold Sh.isZ at h
 split at h
 ·simp at h; obtain ⟨rfl, rfl⟩ := h; rfl
 ·simp at h; subst h; rfl
 ·rename_i s
  simp only [List.isEmpty_iff] at h
  have : s = ⟨⟨[]⟩⟩ := by
   rw [nn s, h]
  subst this; rfl
 ·rfl
 ·rfl
 ·rfl
 ·rfl
 ·cases h
def zeroV (P : Program) (t : TypeId) : Option Value := (P.info? t).bind fun i => i.zero
theorem er {P : Program} {t : TypeId} {z : Value} (h : zeroV P t = some z) (w : World) : (zeroValue t).run P w = .ok z w := by
 unfold zeroV at h
 cases hi : P.info? t with
 | none => simp [hi] at h
 | some i =>
  simp only [hi, Option.bind_some] at h
  simp [zeroValue, typeInfo, hi, h]
def wideD (P : Program) (t : TypeId) : Bool :=
 (match P.underlying t with | some (.array _ _) | some (.struct _) => true | _ => false) && (P.keyTypeAt 12 t && P.tiled 12 t)
theorem l5 {P : Program} {t : TypeId} (h : wideD P t = true) : WideMaps.KeyLaw P t := by
 unfold wideD at h
 simp only [Bool.and_eq_true] at h
 exact deep_law (m := 12) (by decide) h.2.1 h.2.2 h.1
def eu (P : Program) (t : TypeId) (k : Value) (es : Array MapEntry) : Prop :=
 (∀ e ∈ es.toList, (keyOf P t e.key).isSome = true) /\ (keyOf P t k).isSome = true
def kB (k : Value) (es : Array MapEntry) : Option Value -> Prop
 | none => ∀ e ∈ es.toList, e.key ≠ k
 | some v => (∃ e ∈ es.toList, e.key = k) /\ ∀ e ∈ es.toList, e.key = k -> e.val = v
def rm (k v : Value) (es : Array MapEntry) (ck : Nat) (es' : Array MapEntry) (ck' : Nat) : Prop :=
 ((∀ e ∈ es.toList, e.key ≠ k) /\ es' = es.push { key := k, val := v, born := ck } /\ ck' = ck + 1) \/
 ∃ j, (∃ e, es[j]? = some e /\ e.key = k) /\ (∀ (i : Nat) (e : MapEntry), es[i]? = some e -> e.key = k -> i = j) /\ es' = es.modify j (fun e => { e with key := k, val := v }) /\ ck' = ck
theorem kN {P : Program} {t : TypeId} (L : WideMaps.KeyLaw P t) {k : Value} {es : Array MapEntry} (hk : eu P t k es) (w : World) :
  ((Instr.findKey t k es.toList).run P w = .ok none w /\ ∀ e ∈ es.toList, e.key ≠ k) \/
  ∃ j e, (Instr.findKey t k es.toList).run P w = .ok (some (j, e.val)) w /\ es[j]? = some e /\ e.key = k := by
 obtain ⟨lx, hx⟩ := Option.isSome_iff_exists.1 hk.2
 rcases L.find w hx es.toList (fun e he => Option.isSome_iff_exists.1 (hk.1 e he)) with h | ⟨j, e, h1, h2, h3⟩
 ·exact .inl h
 ·exact .inr ⟨j, e, h1, by rw [Array.getElem?_toList] at h2; exact h2, h3⟩
theorem jG {P : Program} {t : TypeId} (L : WideMaps.KeyLaw P t) {k : Value} {es : Array MapEntry} (hk : eu P t k es) (b : Bool) (w : World) :
  (Instr.checkKey b 10000 t k).run P w = .ok () w := by
 obtain ⟨lx, hx⟩ := Option.isSome_iff_exists.1 hk.2
 exact L.check w b hx
def okV (commaOk : Bool) (v : Value) (b : Bool) : Value := match commaOk with | true => .tuple #[v, .bool b] | false => v
def lookK (P : Program) (t : TypeId) (m k : Value) (commaOk : Bool) (w : World) (K : Value -> Prop) : Prop :=
  match P.underlying t, m with
  | some (.map kt et), .map r =>
    (match P.underlying kt, isAggT P et, zeroV P et with
     | some kd, false, some z =>
       (match ky P et with
        | some s => if simpleD kd = true /\ s.isZ z = true then
            ∃ es, mapIs w r es /\ ∃ q : Option s.T, bw kd k es = some (q.map s.v) /\ K (okV commaOk (s.v (q.getD s.z)) q.isSome)
          else if wideD P kt = true /\ s.isZ z = true then
            ∃ es, mapIs w r es /\ eu P kt k es /\ ∃ q : Option s.T, kB k es (q.map s.v) /\ K (okV commaOk (s.v (q.getD s.z)) q.isSome)
          else False
        | none => False)
     | some kd, true, some z =>
       (match iM P 12 et with
        | some shs => if simpleD kd = true then
            ∃ es, mapIs w r es /\
              ((bw kd k es = some none /\ K (okV commaOk z false)) \/
               exV shs (fun vs => bw kd k es = some (some (.agg ⟨vs⟩)) /\ K (okV commaOk (.agg ⟨vs⟩) true)))
          else False
        | none => False)
     | _, _, _ => False)
  | _, _ => False
theorem run_look {P : Program} {t kt et : TypeId} {kd : TypeDesc} {z k : Value} {r : Option Nat} {es : Array MapEntry} {w : World} {q : Option Value} (commaOk : Bool)
  (hu : P.underlying t = some (.map kt et)) (hk : P.underlying kt = some kd) (hs : simpleD kd = true) (hz : zeroV P et = some z) (hm : mapIs w r es) (hq : bw kd k es = some q) :
  (Instr.lookup t (.map r) k commaOk).run P w = .ok (okV commaOk (q.getD z) q.isSome) w := by
 unfold bw at hq
 cases hf : Instr.findNow kd k es.toList 0 with
 | none => simp [hf] at hq
 | some f =>
  simp only [hf, Option.map_some, Option.some.injEq] at hq
  have hfk := run_findKey hk hf w
  have hck := run_checkKey hk hs es.isEmpty k w
  have fin : (Instr.lookup t (.map r) k commaOk).run P w = (match f with
    | some (_, v) => Result.ok (okV commaOk v true) w
    | none => Result.ok (okV commaOk z false) w) := by
   cases r with
   | none =>
    simp only [mapIs] at hm
    subst hm
    simp only [Instr.lookup, Sem.run_bind, ag hu, Result.andThen_ok, Sem.run_pure, hck, hfk]
    cases f with
    | none => simp only [Sem.run_bind, er hz, Result.andThen_ok, Sem.run_pure]; cases commaOk <;> rfl
    | some x => cases commaOk <;> rfl
   | some b =>
    obtain ⟨ck, hm⟩ := hm
    have hg : (getObj b).run P w = .ok (.map es ck) w := by simp [getObj, Sem.run, hm]
    simp only [Instr.lookup, Sem.run_bind, ag hu, Result.andThen_ok, hg, Sem.run_pure, hck, hfk]
    cases f with
    | none => simp only [Sem.run_bind, er hz, Result.andThen_ok, Sem.run_pure]; cases commaOk <;> rfl
    | some x => cases commaOk <;> rfl
  rw [fin]
  cases f with
  | none => simp only [Option.map_none] at hq; subst hq; rfl
  | some x => simp only [Option.map_some] at hq; subst hq; rfl
theorem kC {P : Program} {t kt et : TypeId} {z k : Value} {r : Option Nat} {es : Array MapEntry} {w : World} {q : Option Value} (commaOk : Bool)
  (hu : P.underlying t = some (.map kt et)) (L : WideMaps.KeyLaw P kt) (hkk : eu P kt k es) (hz : zeroV P et = some z) (hm : mapIs w r es) (hq : kB k es q) :
  (Instr.lookup t (.map r) k commaOk).run P w = .ok (okV commaOk (q.getD z) q.isSome) w := by
 have hck := jG L hkk es.isEmpty w
 have key : ∃ f, (Instr.findKey kt k es.toList).run P w = .ok f w /\ q = f.map (·.2) := by
  rcases kN L hkk w with ⟨h1, h2⟩ | ⟨j, e, h1, h2, h3⟩
  ·refine ⟨none, h1, ?_⟩
   cases q with
   | none => rfl
   | some v => obtain ⟨⟨e, he, he2⟩, _⟩ := hq; exact absurd he2 (h2 e he)
  ·refine ⟨_, h1, ?_⟩
   have hmem : e ∈ es.toList := by
    obtain ⟨hl, he⟩ := Array.getElem?_eq_some_iff.1 h2
    rw [<- he]; exact Array.mem_toList_iff.2 (Array.getElem_mem hl)
   cases q with
   | none => exact absurd h3 (hq e hmem)
   | some v => simp [hq.2 e hmem h3]
 obtain ⟨f, hfk, rfl⟩ := key
 cases r with
 | none =>
  simp only [mapIs] at hm
  subst hm
  simp only [Instr.lookup, Sem.run_bind, ag hu, Result.andThen_ok, Sem.run_pure, hck, hfk]
  cases f with
  | none => simp only [Sem.run_bind, er hz, Result.andThen_ok, Sem.run_pure]; cases commaOk <;> rfl
  | some x => cases commaOk <;> rfl
 | some b =>
  obtain ⟨ck, hm⟩ := hm
  have hg : (getObj b).run P w = .ok (.map es ck) w := by simp [getObj, Sem.run, hm]
  simp only [Instr.lookup, Sem.run_bind, ag hu, Result.andThen_ok, hg, Sem.run_pure, hck, hfk]
  cases f with
  | none => simp only [Sem.run_bind, er hz, Result.andThen_ok, Sem.run_pure]; cases commaOk <;> rfl
  | some x => cases commaOk <;> rfl
theorem jt : ∀ {l : List Sh} {K : List Value -> Prop}, exV l K -> ∃ vs, K vs
 | [], _, h => ⟨[], h⟩
 | _ :: _, _, ⟨_, h⟩ => let ⟨vs, hk⟩ := jt h; ⟨_ :: vs, hk⟩
theorem pH {P : Program} {t : TypeId} {m k : Value} {commaOk : Bool} {w : World} {K : Value -> Prop} (h : lookK P t m k commaOk w K) :
  ∃ v, (Instr.lookup t m k commaOk).run P w = .ok v w /\ K v := by
 unfold lookK at h
 split at h
 ·rename_i kt et r hu
  split at h
  ·rename_i kd z hk ha hz
   split at h
   ·rename_i s hs
    split at h
    ·rename_i hc
     obtain ⟨es, hm, q, hq, h⟩ := h
     refine ⟨_, run_look commaOk hu hk hc.1 hz hm hq, ?_⟩
     have : (Option.map s.v q).getD z = s.v (q.getD s.z) := by
      cases q with
      | none => exact Sh.pG hc.2
      | some x => rfl
     rw [this, Option.isSome_map]
     exact h
    ·split at h
     ·rename_i hc
      obtain ⟨es, hm, hkk, q, hq, h⟩ := h
      refine ⟨_, kC commaOk hu (l5 hc.1) hkk hz hm hq, ?_⟩
      have : (Option.map s.v q).getD z = s.v (q.getD s.z) := by
       cases q with
       | none => exact Sh.pG hc.2
       | some x => rfl
      rw [this, Option.isSome_map]
      exact h
     ·exact h.elim
   ·exact h.elim
  ·rename_i kd z hk ha hz
   split at h
   ·rename_i shs hf
    split at h
    ·rename_i hc
     obtain ⟨es, hm, ⟨hq, h⟩ | h⟩ := h
     ·exact ⟨_, run_look commaOk hu hk hc hz hm hq, h⟩
     ·obtain ⟨vs, hq, h⟩ := jt h
      exact ⟨_, run_look commaOk hu hk hc hz hm hq, h⟩
    ·exact h.elim
   ·exact h.elim
  ·exact h.elim
 ·exact h.elim
def aQ (w : World) (r : Nat) (o : Obj) : World := { w with heap := w.heap.setIfInBounds r o }
def mapPut (kd : TypeDesc) (k v : Value) (es : Array MapEntry) (ck : Nat) : Option (Array MapEntry × Nat) :=
 (Instr.findNow kd k es.toList 0).map fun
  | some (i, _) => (es.modify i fun e => { e with key := k, val := v }, ck)
  | none => (es.push { key := k, val := v, born := ck }, ck + 1)
def pI (kd : TypeDesc) (k : Value) (es : Array MapEntry) : Option (Array MapEntry) :=
 (Instr.findNow kd k es.toList 0).map fun
  | some (i, _) => es.eraseIdxIfInBounds i
  | none => es
theorem pJ (a b : ByteArray) : (a == b) = (a.data == b.data) := rfl
theorem oK {a b : ByteArray} (h : (a == b) = true) : a = b := by
 rw [pJ] at h
 have := eq_of_beq h
 cases a; cases b; simp_all
theorem l6 {kd : TypeDesc} {k k' : Value} (hs : simpleD kd = true) (h : Instr.sameNow kd k k' = some true) : Instr.sameBits 10000 k' k = true := by
 have e : Instr.sameBits 10000 k' k = Instr.sameBits (9999 + 1) k' k := rfl
 rw [e]
 unfold Instr.sameNow at h
 split at h
 ·split at h
  ·rename_i hk
   simp only [Option.some.injEq, beq_iff_eq] at h
   subst h; subst hk; simp [Instr.sameBits]
  ·cases h
 ·simp only [Option.some.injEq] at h
  have h2 := oK h
  subst h2; simp only [Instr.sameBits]; exact h
 ·simp only [Option.some.injEq, beq_iff_eq] at h
  subst h; simp [Instr.sameBits]
 ·cases h
theorem ig {kd : TypeDesc} {k : Value} : ∀ {es : List MapEntry} {i j : Nat} {v : Value}, Instr.findNow kd k es i = some (some (j, v)) ->
  i <= j /\ ∃ e, es[j - i]? = some e /\ e.val = v /\ Instr.sameNow kd k e.key = some true
 | [], i, j, v, h => by simp [Instr.findNow] at h
 | e :: es, i, j, v, h => by
  simp only [Instr.findNow] at h
  split at h
  ·rename_i he
   simp only [Option.some.injEq, Prod.mk.injEq] at h
   obtain ⟨rfl, rfl⟩ := h
   exact ⟨Nat.le_refl _, e, by simp, rfl, he⟩
  ·obtain ⟨h1, e', h2, h3⟩ := ig h
   refine ⟨by omega, e', ?_, h3⟩
   have : j - i = (j - (i + 1)) + 1 := by omega
   rw [this]; simpa using h2
  ·cases h
def mapPutK (P : Program) (t : TypeId) (m k v : Value) (w : World) (K : World -> Prop) : Prop :=
  match P.underlying t, m with
  | some (.map kt et), .map r =>
    (match P.underlying kt with
     | some kd => if simpleD kd = true then
         ∃ b es ck es' ck', r = some b /\ w.heap[b]? = some (.map es ck) /\ mapPut kd k v es ck = some (es', ck') /\ ∀ w1, w1 = aQ w b (.map es' ck') -> K w1
       else if wideD P kt = true then
         ∃ b es ck es' ck', r = some b /\ w.heap[b]? = some (.map es ck) /\ eu P kt k es /\ rm k v es ck es' ck' /\ ∀ w1, w1 = aQ w b (.map es' ck') -> K w1
       else False
     | none => False)
  | _, _ => False
theorem jH {P : Program} {t : TypeId} {m k v : Value} {w : World} {K : World -> Prop} (h : mapPutK P t m k v w K) :
  ∃ w', (Instr.mapUpdate t m k v).run P w = .ok () w' /\ K w' := by
 unfold mapPutK at h
 split at h
 ·rename_i kt et r hu
  split at h
  ·rename_i kd hk
   split at h
   ·rename_i hs
    obtain ⟨b, es, ck, es', ck', rfl, hb, hp, hK⟩ := h
    refine ⟨_, ?_, hK _ rfl⟩
    unfold mapPut at hp
    cases hf : Instr.findNow kd k es.toList 0 with
    | none => simp [hf] at hp
    | some f =>
     simp only [hf, Option.map_some, Option.some.injEq] at hp
     have hfk := run_findKey hk hf w
     have hck := run_checkKey hk hs false k w
     have hg : (getObj b).run P w = .ok (.map es ck) w := by simp [getObj, Sem.run, hb]
     have hset : ∀ o, (setObj b o).run P w = .ok () (aQ w b o) := by
      intro o; simp [setObj, Sem.run, hb, aQ]
     simp only [Instr.mapUpdate, Sem.run_bind, ag hu, Result.andThen_ok, hg, hck, hfk]
     cases f with
     | none =>
      simp only [Prod.mk.injEq] at hp
      obtain ⟨rfl, rfl⟩ := hp
      simp only [hset]
     | some x =>
      obtain ⟨i, y⟩ := x
      simp only [Prod.mk.injEq] at hp
      obtain ⟨rfl, rfl⟩ := hp
      obtain ⟨_, e, he, _, hsame⟩ := ig hf
      simp only [Nat.sub_zero, Array.getElem?_toList] at he
      have hst : (Instr.keyThatStays (((es[i]?).map (·.key)).getD k) k).run P w = .ok k w := by
       simp only [he, Option.map_some, Option.getD_some, Instr.keyThatStays, l6 hs hsame, if_true, Sem.run_pure]
      simp only [Sem.run_bind, hst, Result.andThen_ok, hset]
   ·split at h
    ·rename_i hwd
     obtain ⟨b, es, ck, es', ck', rfl, hb, hkk, hp, hK⟩ := h
     refine ⟨_, ?_, hK _ rfl⟩
     have L := l5 hwd
     have hck := jG L hkk false w
     have hg : (getObj b).run P w = .ok (.map es ck) w := by simp [getObj, Sem.run, hb]
     have hset : ∀ o, (setObj b o).run P w = .ok () (aQ w b o) := by
      intro o; simp [setObj, Sem.run, hb, aQ]
     rcases kN L hkk w with ⟨hfk, h2⟩ | ⟨j, e, hfk, h2, h3⟩
     ·simp only [Instr.mapUpdate, Sem.run_bind, ag hu, Result.andThen_ok, hg, hck, hfk]
      rcases hp with ⟨_, rfl, rfl⟩ | ⟨j, ⟨e, he, he2⟩, _⟩
      ·simp only [hset]
      ·obtain ⟨hl, he'⟩ := Array.getElem?_eq_some_iff.1 he
       exact absurd he2 (h2 e (by rw [<- he']; exact Array.mem_toList_iff.2 (Array.getElem_mem hl)))
     ·simp only [Instr.mapUpdate, Sem.run_bind, ag hu, Result.andThen_ok, hg, hck, hfk]
      obtain ⟨hl, he'⟩ := Array.getElem?_eq_some_iff.1 h2
      have hmem : e ∈ es.toList := by rw [<- he']; exact Array.mem_toList_iff.2 (Array.getElem_mem hl)
      rcases hp with ⟨hn, _, _⟩ | ⟨j', _, hu', rfl, rfl⟩
      ·exact absurd h3 (hn e hmem)
      ·obtain rfl := hu' j e h2 h3
       obtain ⟨lx, hx⟩ := Option.isSome_iff_exists.1 hkk.2
       have hst : (Instr.keyThatStays (((es[j]?).map (·.key)).getD k) k).run P w = .ok k w := by
        simp only [h2, Option.map_some, Option.getD_some, h3]
        exact L.stays w hx
       simp only [Sem.run_bind, hst, Result.andThen_ok, hset]
    ·exact h.elim
  ·exact h.elim
 ·exact h.elim
def mapDelK (P : Program) (ts : List TypeId) (args : List Value) (w : World) (K : Value -> World -> Prop) : Prop :=
  match ts, args with
  | t :: _, [.map r, k] =>
    (match P.underlying t with
     | some (.map kt et) => (match P.underlying kt with
        | some kd => if simpleD kd = true then
            ∃ b es ck es', r = some b /\ w.heap[b]? = some (.map es ck) /\ pI kd k es = some es' /\ ∀ w1, w1 = aQ w b (.map es' ck) -> K (.tuple #[]) w1
          else False
        | none => False)
     | _ => False)
  | _, _ => False
theorem nr {P : Program} {ts : Array TypeId} {ty : TypeId} {args : Array Value} {w : World} {K : Value -> World -> Prop} (h : mapDelK P ts.toList args.toList w K) :
  ∃ v w', (Builtin.delete_ ts ty args).run P w = .ok v w' /\ K v w' := by
 obtain ⟨ts⟩ := ts
 obtain ⟨args⟩ := args
 simp only at h
 unfold mapDelK at h
 split at h
 ·rename_i t tr r k
  split at h
  ·rename_i kt et hu
   split at h
   ·rename_i kd hk
    split at h
    ·rename_i hs
     obtain ⟨b, es, ck, es', rfl, hb, hp, hK⟩ := h
     refine ⟨_, _, ?_, hK _ rfl⟩
     unfold pI at hp
     cases hf : Instr.findNow kd k es.toList 0 with
     | none => simp [hf] at hp
     | some f =>
      simp only [hf, Option.map_some, Option.some.injEq] at hp
      have hfk := run_findKey hk hf w
      have hck := run_checkKey hk hs es.isEmpty k w
      have hg : (getObj b).run P w = .ok (.map es ck) w := by simp [getObj, Sem.run, hb]
      have hset : ∀ o, (setObj b o).run P w = .ok () (aQ w b o) := by
       intro o; simp [setObj, Sem.run, hb, aQ]
      simp only [Builtin.delete_, List.getElem?_toArray, List.getElem?_cons_zero, List.getElem?_cons_succ, Sem.run_bind, ag hu, Result.andThen_ok, hg, hck, hfk]
      cases f with
      | none =>
       simp only at hp; subst hp
       simp only [Sem.run_bind, hset, Result.andThen_ok, Sem.run_pure]
      | some x =>
       obtain ⟨i, y⟩ := x
       simp only at hp; subst hp
       simp only [Sem.run_bind, hset, Result.andThen_ok, Sem.run_pure]
    ·exact h.elim
   ·exact h.elim
  ·exact h.elim
 ·exact h.elim
def lenMapK (P : Program) (ts : List TypeId) (args : List Value) (w : World) (K : Value -> Prop) : Prop :=
  match ts, args with
  | t :: _, [.map r] =>
    (match P.underlying t with
     | some (.map _ _) => ∃ es, mapIs w r es /\ K (.int .i64 (es.size : Int))
     | _ => False)
  | _, _ => False
theorem ns {P : Program} {ts : Array TypeId} {ty : TypeId} {args : Array Value} {w : World} {K : Value -> Prop} (h : lenMapK P ts.toList args.toList w K) :
  ∃ v, (Builtin.len_ ts ty args).run P w = .ok v w /\ K v := by
 obtain ⟨ts⟩ := ts
 obtain ⟨args⟩ := args
 simp only at h
 unfold lenMapK at h
 split at h
 ·rename_i t tr r
  split at h
  ·rename_i kt et hu
   obtain ⟨es, hm, h⟩ := h
   refine ⟨_, ?_, h⟩
   simp only [Builtin.len_, List.getElem?_toArray, List.getElem?_cons_zero, Sem.run_bind, ag hu, Result.andThen_ok]
   cases r with
   | none => simp only [mapIs] at hm; subst hm; rfl
   | some r => obtain ⟨ck, hm⟩ := hm; simp [getObj, Sem.run, hm, goInt]
  ·exact h.elim
 ·exact h.elim
end Go.D

