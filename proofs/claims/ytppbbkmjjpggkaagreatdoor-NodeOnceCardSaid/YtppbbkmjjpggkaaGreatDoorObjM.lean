/-
  WHAT IS PROVED: contracts of functions, and the plain law, for this proof. No further conditions.
-/
import Derived.Test.YtppbbkmjjpggkaaGreatDoorSub
set_option linter.unusedSimpArgs false
set_option linter.unusedVariables false
namespace Go.D
open Go
def ak (w : World) (r : Nat) (c : List Value) : Prop := ∃ T f, w.heap[r]? = some (.cells ⟨c⟩ T f) /\ clear f c.length
theorem ak.new {w : World} {r : Nat} {c : List Value} {T : TypeId} {f : Nat × Nat} (h : w.heap[r]? = some (.cells ⟨c⟩ T f)) (hf : clear f c.length) : ak w r c := ⟨T, f, h, hf⟩
theorem ak.cell {w : World} {r : Nat} {c : List Value} (h : ak w r c) (k : Nat) (hk : k < c.length) : w.cell? ⟨r, k, none⟩ = some c[k] := by
 obtain ⟨T, f, h, _⟩ := h
 rw [cell_of h, List.getElem?_eq_getElem hk]
theorem ak.set {w : World} {r : Nat} {c : List Value} (h : ak w r c) (k : Nat) (hk : k < c.length) (v : Value) :
  az w ⟨r, k, none⟩ 1 /\ ak (w.setCell ⟨r, k, none⟩ v) r (c.set k v) /\ Ext (fun x => x = r) w (w.setCell ⟨r, k, none⟩ v) := by
 obtain ⟨T, f, h, hf⟩ := h
 exact ⟨gZ h hf k 1 (by omega), ⟨T, f, heap_setCell h k v, by simpa using hf⟩, Ext.setCell (M := fun x => x = r) (a := ⟨r, k, none⟩) rfl v⟩
theorem ak.ext {M : Nat -> Prop} {w w' : World} {r : Nat} {c : List Value} (h : ak w r c) (he : Ext M w w') (hm : ¬ M r) : ak w' r c := by
 obtain ⟨T, f, h, hf⟩ := h
 exact ⟨T, f, he.heap h hm, hf⟩
theorem ak.af {w w' : World} {r : Nat} {c : List Value} (h : ak w r c) (he : ai w w') : ak w' r c := h.ext he (fun h => h)
theorem ak.lt {w : World} {r : Nat} {c : List Value} (h : ak w r c) : r < w.heap.size := by
 obtain ⟨T, f, h, _⟩ := h
 exact da h
theorem kG {w : World} {s : Slc} {sz : Nat} {vs : List Value} (h : Own w s sz vs) : ∀ k, au s k -> k < w.heap.size := by
 rintro k ⟨a, ha, rfl⟩
 obtain ⟨_, ⟨hp, _⟩ | ⟨b, pad, T, f, hp, hb, _⟩⟩ := h
 ·rw [hp] at ha; cases ha
 ·rw [hp] at ha; cases ha
  exact (Array.getElem?_eq_some_iff.1 hb).1
def bp (M M' : Nat -> Prop) (w w' : World) : Prop := Ext M w w' /\ ∀ k, M' k -> M k \/ w.heap.size <= k
theorem bp.refl (M : Nat -> Prop) (w : World) : bp M M w w := ⟨Ext.refl _ _, fun _ h => .inl h⟩
theorem bp.trans {M M1 M2 : Nat -> Prop} {a b c : World} (h1 : bp M M1 a b) (h2 : bp M1 M2 b c) : bp M M2 a c :=
 ⟨h1.1.trans h2.1 (fun _ h => h) (fun k h => h1.2 k h), fun k h => (h2.2 k h).elim (fun h => h1.2 k h) (fun h => .inr (Nat.le_trans h1.1.size h))⟩
theorem bp.af {M M' : Nat -> Prop} {a b c : World} (h1 : bp M M' a b) (h2 : ai b c) : bp M M' a c :=
 ⟨Ext.trans h1.1 h2 (fun _ h => h) (fun _ h => h.elim), h1.2⟩
theorem ai.iW {M M' : Nat -> Prop} {a b c : World} (h1 : ai a b) (h2 : bp M M' b c) : bp M M' a c :=
 ⟨Ext.trans h1 h2.1 (fun _ h => h.elim) (fun _ h => .inl h), fun k h => (h2.2 k h).elim .inl (fun h => .inr (Nat.le_trans h1.size h))⟩
theorem bp.new {w0 w w' : World} {M M' : Nat -> Prop} (h : bp M M' w w') (hk : ai w0 w) (hm : ∀ k, M k -> w0.heap.size <= k) : ai w0 w' /\ ∀ k, M' k -> w0.heap.size <= k :=
 ⟨hk.ext h.1 hm, fun k hk' => (h.2 k hk').elim (hm k) (fun h => Nat.le_trans hk.size h)⟩
def ff (w : World) (r : Nat) (s : Slc) (bs : List UInt8) (ev : Value) : Prop := ak w r [s.v, ev] /\ Own w s 1 (bs.map aJ) /\ ¬ au s r
def iX (r : Nat) (s : Slc) (k : Nat) : Prop := k = r \/ au s k
theorem ff.ext {M : Nat -> Prop} {w w' : World} {r : Nat} {s : Slc} {bs : List UInt8} {ev : Value} (h : ff w r s bs ev) (he : Ext M w w') (hm : ∀ k, iX r s k -> ¬ M k) : ff w' r s bs ev :=
 ⟨h.1.ext he (hm r (.inl rfl)), h.2.1.ext he (fun k hk => hm k (.inr hk)), h.2.2⟩
theorem ff.af {w w' : World} {r : Nat} {s : Slc} {bs : List UInt8} {ev : Value} (h : ff w r s bs ev) (he : ai w w') : ff w' r s bs ev := h.ext he (fun _ _ h => h)
theorem ff.c0 {w : World} {r : Nat} {s : Slc} {bs : List UInt8} {ev : Value} (h : ff w r s bs ev) : w.cell? ⟨r, 0, none⟩ = some s.v := h.1.cell 0 (by simp)
theorem ff.c1 {w : World} {r : Nat} {s : Slc} {bs : List UInt8} {ev : Value} (h : ff w r s bs ev) : w.cell? ⟨r, 1, none⟩ = some ev := h.1.cell 1 (by simp)
theorem ff.BC {w : World} {r : Nat} {s : Slc} {bs : List UInt8} {ev : Value} (h : ff w r s bs ev) (v : Value) :
  az w ⟨r, 1, none⟩ 1 /\ ff (w.setCell ⟨r, 1, none⟩ v) r s bs v /\ bp (iX r s) (iX r s) w (w.setCell ⟨r, 1, none⟩ v) := by
 obtain ⟨h1, h2, h3⟩ := h.1.set 1 (by simp) v
 refine ⟨h1, ⟨h2, h.2.1.ext h3 (fun k hk he => h.2.2 (he ▸ hk)), h.2.2⟩, h3.mono (fun k hk => .inl hk), fun _ h => .inl h⟩
theorem ff.append {e : TypeId} {z : List Value} {w : World} {r : Nat} {s : Slc} {src : Src} {bs b : List UInt8} {ev : Value} {K : Slc -> World -> Prop} (h : ff w r s bs ev) (hz : z.length = 1)
  (hsrc : pT w 1 src (b.map aJ)) (hlen : s.l + src.n <= 2 ^ 30)
  (hK : ∀ s' w', az w' ⟨r, 0, none⟩ 1 -> (∀ w2, w2 = w'.setCell ⟨r, 0, none⟩ s'.v -> ff w2 r s' (bs ++ b) ev /\ bp (iX r s) (iX r s') w w2) -> K s' w') : aK 1 e z w s src K := by
 refine gQ h.2.1 (by omega) hz hsrc (lO b) hlen (fun s' w' h1 h2 h3 _ => ?_)
 have ho := h.1.ext h2 h.2.2
 obtain ⟨g1, g2, g3⟩ := ho.set 0 (by simp) s'.v
 have hr : ¬ au s' r := fun hb => by
  rcases h3 r hb with h4 | h4
  ·exact h.2.2 h4
  ·have := h.1.lt; omega
 refine hK s' w' g1 ?_
 rintro w2 rfl
 refine ⟨⟨g2, ?_, hr⟩, ?_, ?_⟩
 ·rw [List.map_append]
  exact h1.ext g3 (fun k hk he => hr (he ▸ hk))
 ·exact h2.trans g3 (fun k hk => .inr hk) (fun k hk => .inl (.inl hk))
 ·rintro k (rfl | hk)
  ·exact .inl (.inl rfl)
  ·exact (h3 k hk).elim (fun h => .inl (.inr h)) .inr
end Go.D

