/-
  WHAT IS PROVED: the engine: verification conditions of the code, with their soundness. No further conditions.
-/
import Derived.Test.YtfnibbccnbmkoaaDoorEng4
set_option linter.unusedSimpArgs false
namespace Go.D
open Go
set_option linter.unusedVariables false
def zeroOf (P : Program) (t : TypeId) : Option (List Value) := (P.info? t).bind fun i => i.zero.map fun z => z.cells.toList
def pC (P : Program) (t : TypeId) : Option Nat := (P.info? t).map (·.bytes)
theorem cv {P : Program} {t : TypeId} {z : List Value} (h : zeroOf P t = some z) (w : World) : ∃ v, (zeroValue t).run P w = .ok v w /\ v.cells = ⟨z⟩ := by
 unfold zeroOf at h
 cases hi : P.info? t with
 | none => simp [hi] at h
 | some i =>
  simp only [hi, Option.bind_some] at h
  cases hz : i.zero with
  | none => simp [hz] at h
  | some v =>
   simp only [hz, Option.map_some, Option.some.injEq] at h
   refine ⟨v, by simp [zeroValue, typeInfo, hi, hz], ?_⟩
   rw [<- h]
theorem gh {P : Program} {t : TypeId} {n : Nat} (h : pC P t = some n) (w : World) : ∃ i, (typeInfo t).run P w = .ok i w /\ i.bytes = n := by
 unfold pC at h
 cases hi : P.info? t with
 | none => simp [hi] at h
 | some i => simp only [hi, Option.map_some, Option.some.injEq] at h; exact ⟨i, by simp [typeInfo, hi], h⟩
def aK (w : World) (o : Obj) (K : Nat -> World -> Prop) : Prop := ∀ (r : Nat) (w1 : World), r = w.heap.size -> w1 = w.alloc o -> K r w1
def allocK (P : Program) (t : TypeId) (w : World) (K : Value -> World -> Prop) : Prop :=
 match zeroOf P t with
 | some z => aK w (.cells ⟨z⟩ t) fun r w1 => K (.pointer (some ⟨r, 0, none⟩)) w1
 | none => False
theorem oH {P : Program} {t : TypeId} {w : World} {K : Value -> World -> Prop} (h : allocK P t w K) :
  ∃ v w', (Instr.alloc t true (.tuple #[])).run P w = .ok v w' /\ K v w' := by
 unfold allocK at h
 split at h
 ·rename_i z hz
  obtain ⟨v, h1, h2⟩ := cv hz w
  refine ⟨_, _, ?_, h _ _ rfl rfl⟩
  simp [Instr.alloc, h1, newVar, newRow, h2]
 ·exact h.elim
def rO (P : Program) (t : TypeId) (v : Value) (w : World) (K : Value -> World -> Prop) : Prop :=
 cellsT P t v fun cs => aK w (.cells ⟨cs⟩ t) fun r w1 => K (.pointer (some ⟨r, 0, none⟩)) w1
theorem qG {P : Program} {t : TypeId} {x : Value} {w : World} {K : Value -> World -> Prop} (h : rO P t x w K) :
  ∃ v w', (Instr.box t x).run P w = .ok v w' /\ K v w' := by
 obtain ⟨n, _, _, h⟩ := iL h
 refine ⟨_, _, ?_, h _ _ rfl rfl⟩
 simp [Instr.box, newVar, newRow]
def bt (n : Nat) (z : List Value) : List Value := (List.replicate n z).flatten
theorem dM (n : Nat) (z : List Value) : (bt n z).length = n * z.length := by
 simp [bt]
theorem lW : ∀ (n : Nat) (z : List Value) (i : Nat) (h : i < n * z.length), (bt n z)[i]? = z[i % z.length]?
 | 0, z, i, h => by simp at h
 | n + 1, z, i, h => by
  have e : bt (n + 1) z = z ++ bt n z := by simp [bt, List.replicate_succ]
  rw [e]
  by_cases hi : i < z.length
  ·rw [List.getElem?_append_left hi, Nat.mod_eq_of_lt hi]
  ·have h1 : i - z.length < n * z.length := by rw [Nat.succ_mul] at h; omega
   rw [List.getElem?_append_right (by omega), lW n z _ h1]
   congr 1
   exact (Nat.mod_eq_sub_mod (by omega)).symm
theorem dB (m : Nat) (z : Array Value) (k : Nat) (hm : m = k * z.size) :
  (Array.range m).map (fun i => z[i % z.size]!) = ⟨bt k z.toList⟩ := by
 apply Array.ext_getElem?
 intro i
 subst hm
 by_cases h : i < k * z.size
 ·have hz : 0 < z.size := by
   rcases Nat.eq_zero_or_pos z.size with h0 | h0
   ·rw [h0] at h; simp at h
   ·exact h0
  have h2 : i % z.size < z.size := Nat.mod_lt _ hz
  have e1 : (⟨bt k z.toList⟩ : Array Value)[i]? = (bt k z.toList)[i]? := by simp
  rw [e1, lW k z.toList i (by simpa using h)]
  simp [h, h2]
 ·have e1 : (⟨bt k z.toList⟩ : Array Value)[i]? = (bt k z.toList)[i]? := by simp
  rw [e1]
  have h3 : (bt k z.toList).length <= i := by rw [dM]; simpa using h
  rw [List.getElem?_eq_none h3]
  simp [h]
def buildSliceK (P : Program) (t : TypeId) (len : Nat) (parts : List (Nat × Value)) (w : World) (K : Value -> World -> Prop) : Prop :=
  match P.underlying t with
  | some (.slice e) =>
    (match fX P e, zeroOf P e with
     | some size, some z =>
       (if len * size <= 2 ^ 24 /\ size = z.length /\ 0 < size then
        fillK P (fun i => some (e, i * size)) parts (bt len z) fun cs => aK w (.cells ⟨cs⟩ e) fun r w1 => K (.slice (some ⟨r, 0, none⟩) len len) w1
        else False)
     | _, _ => False)
  | _ => False
theorem jD {P : Program} {t : TypeId} {len : Nat} {parts : Array (Nat × Value)} {w : World} {K : Value -> World -> Prop} (h : buildSliceK P t len parts.toList w K) :
  ∃ v w', (Instr.buildSlice t len parts).run P w = .ok v w' /\ K v w' := by
 unfold buildSliceK at h
 split at h
 ·rename_i e hu
  split at h
  ·rename_i size z hs hz
   split at h
   ·rename_i hc
    obtain ⟨hc1, hc2, hc3⟩ := hc
    obtain ⟨cs, hf, h⟩ := ic (pl := fun i => some (i * size, size)) (fun i t off n h1 h2 => by
     simp only [Option.some.injEq, Prod.mk.injEq] at h1
     obtain ⟨rfl, rfl⟩ := h1
     rw [hs] at h2; cases h2; rfl) h
    refine ⟨_, _, ?_, h _ _ rfl rfl⟩
    obtain ⟨v, hv, hvc⟩ := cv hz w
    have hz' : (⟨z⟩ : Array Value).size = size := by simp [hc2]
    have hr : (Array.range (len * size)).map (fun i => (⟨z⟩ : Array Value)[i % (⟨z⟩ : Array Value).size]!) = ⟨bt len z⟩ :=
     dB (len * size) ⟨z⟩ len (by rw [hz'])
    by_cases h0 : len * size = 0
    ·have hl0 : len = 0 := by rcases Nat.mul_eq_zero.1 h0 with h | h <;> omega
     subst hl0
     have e0 : (Array.range 0).map (fun i => (#[] : Array Value)[i % (#[] : Array Value).size]!) = ⟨bt 0 z⟩ := by simp [bt]
     simp only [Instr.buildSlice, Sem.run_bind, ag hu, Result.andThen_ok, a9 hs, Nat.zero_mul]
     simp only [Nat.not_lt_zero, gt_iff_lt, if_false, if_true]
     rw [Sem.run_bind, Sem.run_pure, Result.andThen_ok]
     erw [e0]
     simp [hf, newRow]
    ·have h1 : ¬ (len * size > 2 ^ 24) := by omega
     simp only [Instr.buildSlice, Sem.run_bind, ag hu, Result.andThen_ok, a9 hs, h1, h0, if_false, Sem.run_pure, hv, hvc, Sem.run_ite]
     erw [hr]
     simp [hf, newRow]
   ·exact h.elim
  ·exact h.elim
 ·exact h.elim
def makeSliceK (P : Program) (t : TypeId) (len cap : Value) (w : World) (K : Value -> World -> Prop) : Prop :=
  match P.underlying t, len, cap with
  | some (.slice e), .int _ l, .int _ c =>
    (match fX P e, zeroOf P e, pC P e with
     | some size, some z, some b =>
       (if size = z.length /\ 0 < size /\ b <= 2 ^ 16 then
        0 <= l /\ l <= c /\ c <= 2 ^ 30 /\ aK w (.cells ⟨bt c.toNat z⟩ e) fun r w1 => K (Slc.v ⟨some ⟨r, 0, none⟩, l.toNat, c.toNat⟩) w1
        else False)
     | _, _, _ => False)
  | _, _, _ => False
theorem kz {P : Program} {t : TypeId} {len cap : Value} {w : World} {K : Value -> World -> Prop} (h : makeSliceK P t len cap w K) :
  ∃ v w', (Instr.makeSlice t len cap).run P w = .ok v w' /\ K v w' := by
 unfold makeSliceK at h
 split at h
 ·rename_i e k1 l k2 c hu
  split at h
  ·rename_i size z b hs hz hb
   split at h
   ·rename_i hc
    obtain ⟨hc2, hc3, hc4⟩ := hc
    obtain ⟨h0, h1, h2, h⟩ := h
    refine ⟨_, _, ?_, h _ _ rfl rfl⟩
    obtain ⟨v, hv, hvc⟩ := cv hz w
    obtain ⟨i, hi, hib⟩ := gh hb w
    have wl : IntKind.i64.wrap l = l := bu ⟨by simp [IntKind.min, IntKind.signed, IntKind.bits]; omega, by simp; omega⟩
    have wc : IntKind.i64.wrap c = c := bu ⟨by simp [IntKind.min, IntKind.signed, IntKind.bits]; omega, by simp; omega⟩
    have hz' : (⟨z⟩ : Array Value).size = size := by simp [hc2]
    have hr : (Array.range (c.toNat * size)).map (fun i => (⟨z⟩ : Array Value)[i % (⟨z⟩ : Array Value).size]!) = ⟨bt c.toNat z⟩ :=
     dB (c.toNat * size) ⟨z⟩ c.toNat (by rw [hz'])
    have hbig : ¬ ((b : Int) * c > 2 ^ 48) := by
     have h5 : (b : Int) * c <= 2 ^ 16 * 2 ^ 30 := Int.mul_le_mul (by omega) h2 (by omega) (by omega)
     omega
    have hcond : (decide (c < 0) || decide ((i.bytes : Int) * c > 2 ^ 48)) = false := by
     rw [hib]; simp only [Bool.or_eq_false_iff, decide_eq_false_iff_not]; exact ⟨by omega, hbig⟩
    have hcond2 : ¬ ((decide (c < 0) || decide ((i.bytes : Int) * c > 2 ^ 48) || decide (l < 0) || decide (l > c)) = true) := by
     rw [hcond]; simp; omega
    by_cases hn : c.toNat * size = 0
    ·have hc0 : c.toNat = 0 := by rcases Nat.mul_eq_zero.1 hn with h | h <;> omega
     have e0 : (Array.range 0).map (fun i => (#[] : Array Value)[i % (#[] : Array Value).size]!) = ⟨bt 0 z⟩ := by simp [bt]
     simp only [Instr.makeSlice, asInt, asIntOf, Sem.run_bind, ag hu, Result.andThen_ok, Sem.run_pure, hi, wl, wc, a9 hs, Sem.run_ite, run_askRoom, hc0, Nat.zero_mul, if_true]
     rw [if_neg hcond2]
     erw [e0]
     simp [newRow, Slc.v]
    ·simp only [Instr.makeSlice, asInt, asIntOf, Sem.run_bind, ag hu, Result.andThen_ok, Sem.run_pure, hi, wl, wc, a9 hs, Sem.run_ite, run_askRoom]
     rw [if_neg hcond2]
     simp only [hn, if_false, hv, hvc, Result.andThen_ok]
     erw [hr]
     simp [newRow, Slc.v]
   ·exact h.elim
  ·exact h.elim
 ·exact h.elim
def lX (P : Program) (t : TypeId) (w : World) (K : Value -> World -> Prop) : Prop := aK w (.map #[] 0) fun r w1 => K (.map (some r)) w1
theorem lY {P : Program} {t : TypeId} {w : World} {K : Value -> World -> Prop} (h : lX P t w K) :
  ∃ v w', (Instr.makeMap t none).run P w = .ok v w' /\ K v w' := by
 refine ⟨_, _, ?_, h _ _ rfl rfl⟩
 simp [Instr.makeMap]
def setCells (w : World) (a : Addr) : Nat -> List Value -> World
 | _, [] => w
 | i, v :: r => setCells (w.setCell (a.add i) v) a (i + 1) r
def aw (w : World) (a : Addr) (n : Nat) : Prop := ∀ i, i < n -> (∃ o, w.cell? (a.add i) = some o) /\ w.frozen? (a.add i) = false
def jE : List Value -> Prop -> Prop
 | [], X => X
 | v :: r, X => oneK v (jE r X)
theorem gF : ∀ {l : List Value} {X : Prop}, jE l X -> (∀ v ∈ l, v.oneCell' = true) /\ X
 | [], X, h => ⟨by simp, h⟩
 | v :: r, X, h => by
  obtain ⟨h1, _, h2⟩ := oc h
  obtain ⟨h3, h4⟩ := gF h2
  refine ⟨fun u hu => ?_, h4⟩
  rcases List.mem_cons.1 hu with rfl | hu
  ·exact h1
  ·exact h3 u hu
theorem ie {w : World} {a b : Addr} {v o : Value} (h : w.cell? b = some o) : ∃ o', (w.setCell a v).cell? b = some o' := by
 by_cases hab : a = b
 ·subst hab; exact ⟨v, World.cell?_setCell_same w a v h⟩
 ·exact ⟨o, by rw [World.cell?_setCell_other w a b v hab]; exact h⟩
theorem cT {P : Program} {a : Addr} : ∀ (vs : List Value) (i : Nat) (w : World), (∀ v ∈ vs, v.oneCell' = true) ->
  (∀ j, j < vs.length -> (∃ o, w.cell? (a.add (i + j)) = some o) /\ w.frozen? (a.add (i + j)) = false) ->
  (storeCells a vs i).run P w = .ok () (setCells w a i vs)
 | [], i, w, _, _ => rfl
 | v :: r, i, w, h1, h2 => by
  obtain ⟨⟨o, h3⟩, h4⟩ := h2 0 (by simp)
  rw [Nat.add_zero] at h3 h4
  have hv := h1 v (by simp)
  have hs : (store (a.add i) v).run P w = .ok () (w.setCell (a.add i) v) := by
   rw [run_store P w _ v _ hv]; simp [h3, h4]
  simp only [storeCells, Sem.run_bind, hs, Result.andThen_ok, setCells]
  refine cT r (i + 1) _ (fun u hu => h1 u (by simp [hu])) (fun j hj => ?_)
  obtain ⟨⟨o', h5⟩, h6⟩ := h2 (j + 1) (by simp; omega)
  have e : i + 1 + j = i + (j + 1) := by omega
  rw [e]
  exact ⟨ie h5, by rw [World.frozen?_setCell]; exact h6⟩
def storeK (P : Program) (t : TypeId) (p v : Value) (w : World) (K : World -> Prop) : Prop :=
 match p with
 | .pointer q => needSome q fun a => cellsT P t v fun cs => jE cs (aw w a cs.length /\ ∀ w1, w1 = setCells w a 0 cs -> K w1)
 | _ => False
theorem oI {P : Program} {t : TypeId} {p v : Value} {w : World} {K : World -> Prop} (h : storeK P t p v w K) :
  ∃ w', (Instr.storeAt t p v).run P w = .ok () w' /\ K w' := by
 unfold storeK at h
 split at h
 ·obtain ⟨a, rfl, ha⟩ := dL h
  obtain ⟨n, hn, hs, hb⟩ := iL ha
  obtain ⟨h1, h2, h3⟩ := gF hb
  refine ⟨_, ?_, h3 _ rfl⟩
  have := cT (P := P) v.cells.toList 0 w h1 (fun j hj => by rw [Nat.zero_add]; exact h2 j hj)
  simp only [Instr.storeAt, Instr.sureAddr, storeVar, Sem.run_bind, Sem.run_pure, Result.andThen_ok, a9 hn, hs, ne_eq, not_true_eq_false, if_false, this]
 ·exact h.elim
end Go.D

