/-
  WHAT IS PROVED: contracts of functions, and the plain law, for this proof. No further conditions.
-/
import Derived.Test.YtfnibbccnbmkoaaDoorRd
set_option linter.unusedVariables false
set_option linter.unusedSimpArgs false
namespace Go.D
open Go
structure KV (κ α : Type) [DecidableEq κ] where
 kd : TypeDesc
 kv : κ -> Value
 vv : α -> Value
 ok : ∀ a b, Instr.sameNow kd (kv a) (kv b) = some (decide (a = b))
variable {κ α : Type} [DecidableEq κ]
def lookL : List (κ × α) -> κ -> Option α
 | [], _ => none
 | (k', a) :: r, k => if k = k' then some a else lookL r k
def putL : List (κ × α) -> κ -> α -> List (κ × α)
 | [], k, a => [(k, a)]
 | (k', a') :: r, k, a => if k = k' then (k, a) :: r else (k', a') :: putL r k a
def pb : List (κ × α) -> κ -> List (κ × α)
 | [], _ => []
 | (k', a') :: r, k => if k = k' then r else (k', a') :: pb r k
def Rep (M : KV κ α) (es : List MapEntry) (al : List (κ × α)) : Prop := es.map (fun e => (e.key, e.val)) = al.map fun p => (M.kv p.1, M.vv p.2)
theorem Rep.cons {M : KV κ α} {e : MapEntry} {es : List MapEntry} {p : κ × α} {al : List (κ × α)} (h1 : e.key = M.kv p.1) (h2 : e.val = M.vv p.2) (h : Rep M es al) : Rep M (e :: es) (p :: al) := by
 rw [Rep, List.map_cons, List.map_cons, h1, h2, h]
theorem Rep.inv {M : KV κ α} {e : MapEntry} {es : List MapEntry} {p : κ × α} {al : List (κ × α)} (h : Rep M (e :: es) (p :: al)) : e.key = M.kv p.1 /\ e.val = M.vv p.2 /\ Rep M es al := by
 rw [Rep, List.map_cons, List.map_cons] at h
 obtain ⟨h1, h2⟩ := List.cons.inj h
 obtain ⟨h3, h4⟩ := Prod.mk.inj h1
 exact ⟨h3, h4, h2⟩
theorem gy (M : KV κ α) (k : κ) : ∀ (al : List (κ × α)) (es : List MapEntry) (i : Nat), Rep M es al ->
  ∃ r, Instr.findNow M.kd (M.kv k) es i = some r /\ r.map (·.2) = (lookL al k).map M.vv /\
   (∀ j v, r = some (j, v) -> i <= j /\ (∀ a, Rep M (es.modify (j - i) fun e => { e with key := M.kv k, val := M.vv a }) (putL al k a)) /\ Rep M (es.eraseIdx (j - i)) (pb al k)) /\
   (r = none -> (∀ a, putL al k a = al ++ [(k, a)]) /\ pb al k = al)
 | [], [], i, h => by
  refine ⟨none, rfl, rfl, ?_, ?_⟩
  ·intro j v h; cases h
  ·intro _; exact ⟨fun _ => rfl, rfl⟩
 | [], e :: es, i, h => by simp [Rep] at h
 | p :: al, [], i, h => by simp [Rep] at h
 | (k', a') :: al, e :: es, i, h => by
  obtain ⟨h1, h2, h3⟩ := h.inv
  dsimp only at h1 h2
  rw [Instr.findNow, h1, M.ok]
  by_cases hk : k = k'
  ·subst hk
   rw [decide_eq_true rfl]
   refine ⟨_, rfl, by simp [lookL, h2], fun j v hj => ?_, fun hn => by cases hn⟩
   simp only [Option.some.injEq, Prod.mk.injEq] at hj
   obtain ⟨rfl, rfl⟩ := hj
   refine ⟨Nat.le_refl _, fun a => ?_, ?_⟩
   ·rw [Nat.sub_self, putL, if_pos rfl]
    exact Rep.cons rfl rfl h3
   ·rw [Nat.sub_self, pb, if_pos rfl]
    exact h3
  ·rw [decide_eq_false hk]
   obtain ⟨r, g1, g2, g3, g4⟩ := gy M k al es (i + 1) h3
   refine ⟨r, g1, by rw [lookL, if_neg hk]; exact g2, fun j v hj => ?_, fun hn => ?_⟩
   ·obtain ⟨q1, q2, q3⟩ := g3 j v hj
    have ej : j - i = (j - (i + 1)) + 1 := by omega
    refine ⟨by omega, fun a => ?_, ?_⟩
    ·rw [ej, putL, if_neg hk]
     exact Rep.cons h1 h2 (q2 a)
    ·rw [ej, pb, if_neg hk]
     exact Rep.cons h1 h2 q3
   ·obtain ⟨q1, q2⟩ := g4 hn
    refine ⟨fun a => ?_, ?_⟩
    ·rw [putL, if_neg hk, q1]; rfl
    ·rw [pb, if_neg hk, q2]
theorem nI {M : KV κ α} {es : Array MapEntry} {al : List (κ × α)} (h : Rep M es.toList al) (k : κ) : bw M.kd (M.kv k) es = some ((lookL al k).map M.vv) := by
 obtain ⟨r, h1, h2, _⟩ := gy M k al es.toList 0 h
 rw [bw, h1, Option.map_some, h2]
theorem nJ {M : KV κ α} {es : Array MapEntry} {al : List (κ × α)} (h : Rep M es.toList al) (k : κ) (a : α) (ck : Nat) :
  ∃ es' ck', mapPut M.kd (M.kv k) (M.vv a) es ck = some (es', ck') /\ Rep M es'.toList (putL al k a) := by
 obtain ⟨r, h1, h2, h3, h4⟩ := gy M k al es.toList 0 h
 rw [mapPut, h1, Option.map_some]
 match r, h3, h4 with
 | some (j, v), h3, _ =>
  obtain ⟨_, q2, _⟩ := h3 j v rfl
  refine ⟨_, _, rfl, ?_⟩
  have := q2 a
  simpa using this
 | none, _, h4 =>
  obtain ⟨q1, _⟩ := h4 rfl
  refine ⟨_, _, rfl, ?_⟩
  rw [q1 a]
  simp only [Array.toList_push, Rep, List.map_append, List.map_cons, List.map_nil]
  rw [h]
def j1 (M : KV κ α) (w : World) (r : Nat) (al : List (κ × α)) : Prop := ∃ es ck, w.heap[r]? = some (.map es ck) /\ Rep M es.toList al
theorem j1.lt {M : KV κ α} {w : World} {r : Nat} {al : List (κ × α)} (h : j1 M w r al) : r < w.heap.size := by
 obtain ⟨es, ck, h1, _⟩ := h
 exact bH h1
theorem j1.get {M : KV κ α} {w : World} {r : Nat} {al : List (κ × α)} (h : j1 M w r al) : ∃ es, mapIs w (some r) es /\ ∀ k, bw M.kd (M.kv k) es = some ((lookL al k).map M.vv) := by
 obtain ⟨es, ck, h1, h2⟩ := h
 exact ⟨es, ⟨ck, h1⟩, nI h2⟩
theorem j1.size {M : KV κ α} {w : World} {r : Nat} {al : List (κ × α)} (h : j1 M w r al) : ∃ es, mapIs w (some r) es /\ es.size = al.length := by
 obtain ⟨es, ck, h1, h2⟩ := h
 refine ⟨es, ⟨ck, h1⟩, ?_⟩
 have := congrArg List.length h2
 simpa using this
theorem gz {w : World} {r : Nat} {o : Obj} : Ext (fun x => x = r) w (aQ w r o) :=
 ⟨rfl, rfl, rfl, by simp [aQ], fun k hk hn => by
  show (w.heap.setIfInBounds r o)[k]? = _
  rw [Array.getElem?_setIfInBounds_ne (fun h => hn h.symm)]⟩
def KV.int (vv : α -> Value) : KV Int α := ⟨.int .i64, fun n => .int .i64 n, vv, fun a b => by simp only [Instr.sameNow, if_true]; congr 1⟩
def KV.str (vv : α -> Value) : KV (List UInt8) α := ⟨.string, aq, vv, fun a b => by simp only [Instr.sameNow, aq]; congr 1; rw [Bool.eq_iff_iff, pJ]; simp⟩
end Go.D

