/-
  WHAT IS PROVED: the engine: verification conditions of the code, with their soundness. No further conditions.
-/
import Derived.Test.YtfnibbccnbmkoaaDoorEng3
set_option linter.unusedSimpArgs false
namespace Go.D
open Go
set_option linter.unusedVariables false
def iM (P : Program) : Nat -> TypeId -> Option (List Sh)
 | 0, _ => none
 | n + 1, t =>
  match P.underlying t with
  | some (.struct fs) => fs.toList.foldr (fun f acc => (iM P n f.type).bind fun a => acc.map fun b => a ++ b) (some [])
  | some (.array k e) => (iM P n e).map fun l => (List.replicate k l).flatten
  | _ => (ky P t).map fun s => [s]
def rowAt (w : World) (a : Addr) : Nat -> List Value -> Prop
 | _, [] => True
 | i, v :: r => w.cell? (a.add i) = some v /\ rowAt w a (i + 1) r
def iN (w : World) (a : Addr) (l : List Sh) (K : List Value -> Prop) : Prop := exV l fun vs => rowAt w a 0 vs /\ K vs
def loadK (P : Program) (t : TypeId) (p : Value) (w : World) (K : Value -> Prop) : Prop :=
  match p with
  | .pointer q => needSome q fun a =>
    (match isAggT P t with
     | true => (match iM P 12 t, fX P t with
        | some shs, some n => (if shs.length = n then iN w a shs (fun vs => K (.agg ⟨vs⟩)) else False)
        | _, _ => False)
     | false => (match ky P t with
        | some s => ∃ x : s.T, w.cell? a = some (s.v x) /\ K (s.v x)
        | none => False))
  | _ => False
theorem kM {P : Program} {w : World} {a : Addr} : ∀ {vs : List Value} {i : Nat} (acc : List Value), rowAt w a i vs ->
  (loadCellsFrom a i vs.length ⟨acc⟩).run P w = .ok ⟨acc ++ vs⟩ w
 | [], i, acc, h => by simp [loadCellsFrom]
 | v :: r, i, acc, h => by
  obtain ⟨hx, h⟩ := h
  have h1 := kM (P := P) (acc ++ [v]) h
  simp only [List.length_cons, loadCellsFrom, Sem.run_bind, run_load, hx, Result.andThen_ok]
  have : (Array.mk acc).push v = ⟨acc ++ [v]⟩ := by simp
  rw [this, h1]
  simp
theorem oF {P : Program} {w : World} {a : Addr} {l : List Sh} {K : List Value -> Prop} (h : iN w a l K) :
  ∃ vs, (loadCells a l.length).run P w = .ok ⟨vs⟩ w /\ K vs := by
 obtain ⟨vs, hl, h1, h2⟩ := pA h
 refine ⟨vs, ?_, h2⟩
 have := kM (P := P) [] h1
 rw [hl] at this
 simpa [loadCells] using this
theorem oG {P : Program} {t : TypeId} {s : Sh} (h : ky P t = some s) : ∃ d, P.underlying t = some d := by
 unfold ky at h
 cases hu : P.underlying t with
 | none => simp [hu] at h
 | some d => exact ⟨d, rfl⟩
theorem lV {P : Program} {t : TypeId} {p : Value} {w : World} {K : Value -> Prop} (h : loadK P t p w K) : ∃ v, (Instr.loadAt t p).run P w = .ok v w /\ K v := by
 unfold loadK at h
 split at h
 ·obtain ⟨a, rfl, h⟩ := dL h
  split at h
  ·rename_i hag
   split at h
   ·rename_i shs n hf hn
    split at h
    ·rename_i hl
     obtain ⟨vs, h1, h2⟩ := oF (P := P) h
     refine ⟨_, ?_, h2⟩
     have hd : ∃ d, P.underlying t = some d := by
      unfold isAggT at hag
      cases hu : P.underlying t with
      | none => simp [hu] at hag
      | some d => exact ⟨d, rfl⟩
     obtain ⟨d, hd⟩ := hd
     rw [hl] at h1
     simp only [Instr.loadAt, Instr.sureAddr, loadVar, Sem.run_bind, Sem.run_pure, Result.andThen_ok, iK hd, hag, a9 hn, if_true, h1]
    ·exact h.elim
   ·exact h.elim
  ·rename_i hag
   split at h
   ·rename_i s hs
    obtain ⟨x, hx, h⟩ := h
    refine ⟨_, ?_, h⟩
    obtain ⟨d, hd⟩ := oG hs
    simp [Instr.loadAt, Instr.sureAddr, loadVar, iK hd, hag, hx]
   ·exact h.elim
 ·exact h.elim
def cS (w : World) (p : Option Addr) (vs : List Value) : Prop :=
 vs = [] \/ ∃ a, p = some a /\ ∀ i (h : i < vs.length), w.cell? (a.add i) = some vs[i]
def ba (b : UInt8) : Value := .int .u8 (b.toNat : Int)
def ar (w : World) (s : Slc) (b : List UInt8) : Prop := s.l = b.length /\ cS w s.p (b.map ba)
theorem run_loadCells {P : Program} {w : World} {a : Addr} : ∀ (vs : List Value) (i : Nat) (acc : List Value), (∀ j (h : j < vs.length), w.cell? (a.add (i + j)) = some vs[j]) ->
  (loadCellsFrom a i vs.length ⟨acc⟩).run P w = .ok ⟨acc ++ vs⟩ w
 | [], i, acc, _ => by simp [loadCellsFrom]
 | v :: r, i, acc, h => by
  have h0 := h 0 (by simp)
  simp only [Nat.add_zero, List.getElem_cons_zero] at h0
  simp only [List.length_cons, loadCellsFrom, Sem.run_bind, run_load, h0, Result.andThen_ok]
  have : (Array.mk acc).push v = ⟨acc ++ [v]⟩ := by simp
  rw [this, run_loadCells r (i + 1) _ (fun j hj => by
   have := h (j + 1) (by simp; omega)
   simp only [List.getElem_cons_succ] at this
   rw [<- this]; congr 2; omega)]
  simp
theorem gg {P : Program} {w : World} {a : Addr} (vs : List Value) (h : ∀ j (h : j < vs.length), w.cell? (a.add j) = some vs[j]) :
  (loadCells a vs.length).run P w = .ok ⟨vs⟩ w := by
 have := run_loadCells (P := P) vs 0 [] (fun j hj => by rw [Nat.zero_add]; exact h j hj)
 simpa [loadCells] using this
def rN (w : World) (s : Slc) (K : Value -> Prop) : Prop := ∃ b : List UInt8, ar w s b /\ K (aq b)
theorem bytes_loop {P : Program} {w : World} : ∀ (b : List UInt8) (acc : List UInt8),
  (forIn (b.map ba) (ByteArray.mk ⟨acc⟩) (fun c (s : ByteArray) => do
   let .int .u8 n := c | stuck "bytesToString: byte expected"
   pure (ForInStep.yield (s.push (UInt8.ofNat n.toNat))) : Value -> ByteArray -> Sem (ForInStep ByteArray))).run P w = .ok ⟨⟨acc ++ b⟩⟩ w
 | [], acc => by simp
 | x :: r, acc => by
  simp only [List.map_cons, List.forIn_cons, Sem.run_bind, ba]
  have e : ((ByteArray.mk ⟨acc⟩).push (UInt8.ofNat ((x.toNat : Int)).toNat)) = ⟨⟨acc ++ [x]⟩⟩ := by
   simp [ByteArray.push]
  simp only [Sem.run_pure, Result.andThen_ok, e]
  rw [bytes_loop r]
  simp
theorem qF {P : Program} {w : World} {s : Slc} {K : Value -> Prop} (h : rN w s K) : ∃ v, (Conv.bytesToString s.v).run P w = .ok v w /\ K v := by
 obtain ⟨b, ⟨hl, hc⟩, h⟩ := h
 refine ⟨_, ?_, h⟩
 obtain ⟨p, l, c⟩ := s
 simp only at hl hc
 cases p with
 | none =>
  rcases hc with hc | ⟨a, ha, _⟩
  ·have : b = [] := by simpa using hc
   subst this
   rfl
  ·cases ha
 | some a =>
  have hc' : ∀ j (h : j < (b.map ba).length), w.cell? (a.add j) = some (b.map ba)[j] := by
   rcases hc with hc | ⟨a', ha, hc⟩
   ·have : b = [] := by simpa using hc
    subst this
    intro j hj; simp at hj
   ·cases ha; exact hc
  have h1 := gg (P := P) _ hc'
  rw [List.length_map, <- hl] at h1
  simp only [Slc.v, Conv.bytesToString, Sem.run_bind, h1, Result.andThen_ok]
  have h2 := bytes_loop (P := P) (w := w) b []
  have e0 : (ByteArray.empty) = ⟨⟨[]⟩⟩ := rfl
  rw [e0]
  have e1 : (forIn (Array.mk (b.map ba)) (ByteArray.mk ⟨[]⟩) (fun c (s : ByteArray) => do
   let .int .u8 n := c | stuck "bytesToString: byte expected"
   pure (ForInStep.yield (s.push (UInt8.ofNat n.toNat))) : Value -> ByteArray -> Sem (ForInStep ByteArray))).run P w = .ok ⟨⟨b⟩⟩ w := by
   rw [<- Array.forIn_toList]; exact h2
  erw [e1]
  simp [aq]
end Go.D

