/-
  WHAT IS PROVED: the engine: verification conditions of the code, with their soundness. No further conditions.
-/
import Derived.WalkKit
set_option linter.unusedSimpArgs false
set_option linter.unusedVariables false
namespace Go.D
open Go
structure Slc where
 p : Option Addr
 l : Nat
 c : Nat
def Slc.v (s : Slc) : Value := .slice s.p s.l s.c
def aq (s : List UInt8) : Value := .string ⟨⟨s⟩⟩
inductive Sh where
 | int (k : IntKind) | bool | str | ptr | slc | map | any
def Sh.T : Sh -> Type
 | .int _ => Int
 | .bool => Bool
 | .str => List UInt8
 | .ptr => Option Addr
 | .slc => Slc
 | .map => Option Nat
 | .any => Value
def Sh.v : (s : Sh) -> s.T -> Value
 | .int k, (n : Int) => .int k n
 | .bool, (b : Bool) => .bool b
 | .str, (s : List UInt8) => aq s
 | .ptr, (p : Option Addr) => .pointer p
 | .slc, (s : Slc) => s.v
 | .map, (r : Option Nat) => .map r
 | .any, (v : Value) => v
def Sh.dec : (s : Sh) -> Value -> (s.T -> Prop) -> Prop
 | .int k, v, K => match v with | .int k' n => (if k' = k then K n else False) | _ => False
 | .bool, v, K => match v with | .bool b => K b | _ => False
 | .str, v, K => match v with | .string s => K s.data.toList | _ => False
 | .ptr, v, K => match v with | .pointer p => K p | _ => False
 | .slc, v, K => match v with | .slice p l c => K ⟨p, l, c⟩ | _ => False
 | .map, v, K => match v with | .map r => K r | _ => False
 | .any, v, K => K v
theorem Sh.ln {s : Sh} {v : Value} {K : s.T -> Prop} (h : s.dec v K) : ∃ x, v = s.v x /\ K x := by
 cases s <;> simp only [Sh.dec] at h
 case int k => split at h <;> first | (split at h <;> first | (rename_i hk; subst hk; exact ⟨_, rfl, h⟩) | exact h.elim) | exact h.elim
 case any => exact ⟨v, rfl, h⟩
 all_goals split at h <;> first | exact ⟨_, rfl, h⟩ | exact h.elim
theorem Sh.q8 {s : Sh} {x : s.T} {K : s.T -> Prop} (h : K x) : s.dec (s.v x) K := by
 cases s <;> simp only [Sh.dec, Sh.v, Slc.v, aq]
 case int k => simpa using h
 all_goals exact h
def exV : List Sh -> (List Value -> Prop) -> Prop
 | [], K => K []
 | s :: l, K => ∃ x : s.T, exV l (fun vs => K (s.v x :: vs))
def rj : List Sh -> (List Value -> Prop) -> Prop
 | [], K => K []
 | s :: l, K => ∀ x : s.T, rj l (fun vs => K (s.v x :: vs))
theorem pA : ∀ {l : List Sh} {K : List Value -> Prop}, exV l K -> ∃ vs, vs.length = l.length /\ K vs
 | [], _, h => ⟨[], rfl, h⟩
 | _ :: _, _, ⟨_, h⟩ => let ⟨vs, hl, hk⟩ := pA h; ⟨_ :: vs, by simp [hl], hk⟩
theorem hZ : ∀ {l : List Sh} {K K' : List Value -> Prop}, (∀ vs, K vs -> K' vs) -> exV l K -> exV l K'
 | [], _, _, hk, h => hk _ h
 | _ :: _, _, _, hk, ⟨x, h⟩ => ⟨x, hZ (fun vs => hk _) h⟩
def ev (l : List Value) : Operand -> Value
 | .tmp t => l.getD t undef
 | .const v => v
 | .global g => .pointer (some ⟨g, 0, none⟩)
 | .func f => .func (.func f) #[] #[]
theorem nk (l : List Value) (x : Operand) : (Act.mk ⟨l⟩ []).eval x = ev l x := by
 cases x <;> simp [Act.eval, ev]
theorem gE (l : List Value) : (Act.mk ⟨l⟩ []).eval = ev l := funext (nk l)
def put (l : List Value) (d : Option Tmp) (v : Value) : List Value :=
 match d with | some d => l.set d v | none => l
theorem eM (l : List Value) (d : Option Tmp) (v : Value) : (Act.mk ⟨l⟩ []).put d v = Act.mk ⟨put l d v⟩ [] := by
 cases d <;> simp [Act.put, put]
def inR (k : IntKind) (n : Int) : Prop := k.min <= n /\ n <= k.max
theorem bu {k : IntKind} {n : Int} (h : inR k n) : k.wrap n = n := by
 obtain ⟨h1, h2⟩ := h
 cases k <;> simp only [IntKind.min, IntKind.max, IntKind.bits, IntKind.signed] at h1 h2 <;> simp [IntKind.wrap, IntKind.bits, IntKind.signed] <;> (try simp at h1 h2) <;> (try rw [Int.emod_def]) <;> (try split) <;> omega
end Go.D

