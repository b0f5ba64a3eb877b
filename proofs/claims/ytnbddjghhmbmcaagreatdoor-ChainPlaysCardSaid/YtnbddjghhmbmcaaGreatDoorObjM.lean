/-
  WHAT IS PROVED: contracts of functions, and the plain law, for this proof. No further conditions.
-/
import Derived.Test.YtnbddjghhmbmcaaGreatDoorSub
set_option linter.unusedSimpArgs false
set_option linter.unusedVariables false
namespace Go.D
open Go
def aq (w : World) (r : Nat) (c : List Value) : Prop := ∃ T f, w.heap[r]? = some (.cells ⟨c⟩ T f) /\ clear f c.length
theorem aq.new {w : World} {r : Nat} {c : List Value} {T : TypeId} {f : Nat × Nat} (h : w.heap[r]? = some (.cells ⟨c⟩ T f)) (hf : clear f c.length) : aq w r c := ⟨T, f, h, hf⟩
theorem aq.cell {w : World} {r : Nat} {c : List Value} (h : aq w r c) (k : Nat) (hk : k < c.length) : w.cell? ⟨r, k, none⟩ = some c[k] := by
 obtain ⟨T, f, h, _⟩ := h
 rw [cell_of h, List.getElem?_eq_getElem hk]
theorem aq.set {w : World} {r : Nat} {c : List Value} (h : aq w r c) (k : Nat) (hk : k < c.length) (v : Value) :
  aw w ⟨r, k, none⟩ 1 /\ aq (w.setCell ⟨r, k, none⟩ v) r (c.set k v) /\ Ext (fun x => x = r) w (w.setCell ⟨r, k, none⟩ v) := by
 obtain ⟨T, f, h, hf⟩ := h
 exact ⟨iX h hf k 1 (by omega), ⟨T, f, heap_setCell h k v, by simpa using hf⟩, Ext.setCell (M := fun x => x = r) (a := ⟨r, k, none⟩) rfl v⟩
theorem aq.ext {M : Nat -> Prop} {w w' : World} {r : Nat} {c : List Value} (h : aq w r c) (he : Ext M w w') (hm : ¬ M r) : aq w' r c := by
 obtain ⟨T, f, h, hf⟩ := h
 exact ⟨T, f, he.heap h hm, hf⟩
theorem aq.ae {w w' : World} {r : Nat} {c : List Value} (h : aq w r c) (he : ah w w') : aq w' r c := h.ext he (fun h => h)
theorem aq.lt {w : World} {r : Nat} {c : List Value} (h : aq w r c) : r < w.heap.size := by
 obtain ⟨T, f, h, _⟩ := h
 exact bL h
theorem cD {w : World} {s : Slc} {sz : Nat} {vs : List Value} (h : Own w s sz vs) : ∀ k, ai s k -> k < w.heap.size := by
 rintro k ⟨a, ha, rfl⟩
 obtain ⟨_, ⟨hp, _⟩ | ⟨b, pad, T, f, hp, hb, _⟩⟩ := h
 ·rw [hp] at ha; cases ha
 ·rw [hp] at ha; cases ha
  exact (Array.getElem?_eq_some_iff.1 hb).1
def bJ (M M' : Nat -> Prop) (w w' : World) : Prop := Ext M w w' /\ ∀ k, M' k -> M k \/ w.heap.size <= k
theorem bJ.refl (M : Nat -> Prop) (w : World) : bJ M M w w := ⟨Ext.refl _ _, fun _ h => .inl h⟩
theorem bJ.trans {M M1 M2 : Nat -> Prop} {a b c : World} (h1 : bJ M M1 a b) (h2 : bJ M1 M2 b c) : bJ M M2 a c :=
 ⟨h1.1.trans h2.1 (fun _ h => h) (fun k h => h1.2 k h), fun k h => (h2.2 k h).elim (fun h => h1.2 k h) (fun h => .inr (Nat.le_trans h1.1.size h))⟩
theorem bJ.ae {M M' : Nat -> Prop} {a b c : World} (h1 : bJ M M' a b) (h2 : ah b c) : bJ M M' a c :=
 ⟨Ext.trans h1.1 h2 (fun _ h => h) (fun _ h => h.elim), h1.2⟩
theorem ah.kh {M M' : Nat -> Prop} {a b c : World} (h1 : ah a b) (h2 : bJ M M' b c) : bJ M M' a c :=
 ⟨Ext.trans h1 h2.1 (fun _ h => h.elim) (fun _ h => .inl h), fun k h => (h2.2 k h).elim .inl (fun h => .inr (Nat.le_trans h1.size h))⟩
theorem bJ.new {w0 w w' : World} {M M' : Nat -> Prop} (h : bJ M M' w w') (hk : ah w0 w) (hm : ∀ k, M k -> w0.heap.size <= k) : ah w0 w' /\ ∀ k, M' k -> w0.heap.size <= k :=
 ⟨hk.ext h.1 hm, fun k hk' => (h.2 k hk').elim (hm k) (fun h => Nat.le_trans hk.size h)⟩
def gd (w : World) (r : Nat) (s : Slc) (bs : List UInt8) (ev : Value) : Prop := aq w r [s.v, ev] /\ Own w s 1 (bs.map aS) /\ ¬ ai s r
def lC (r : Nat) (s : Slc) (k : Nat) : Prop := k = r \/ ai s k
theorem gd.ext {M : Nat -> Prop} {w w' : World} {r : Nat} {s : Slc} {bs : List UInt8} {ev : Value} (h : gd w r s bs ev) (he : Ext M w w') (hm : ∀ k, lC r s k -> ¬ M k) : gd w' r s bs ev :=
 ⟨h.1.ext he (hm r (.inl rfl)), h.2.1.ext he (fun k hk => hm k (.inr hk)), h.2.2⟩
theorem gd.ae {w w' : World} {r : Nat} {s : Slc} {bs : List UInt8} {ev : Value} (h : gd w r s bs ev) (he : ah w w') : gd w' r s bs ev := h.ext he (fun _ _ h => h)
theorem gd.c0 {w : World} {r : Nat} {s : Slc} {bs : List UInt8} {ev : Value} (h : gd w r s bs ev) : w.cell? ⟨r, 0, none⟩ = some s.v := h.1.cell 0 (by simp)
theorem gd.c1 {w : World} {r : Nat} {s : Slc} {bs : List UInt8} {ev : Value} (h : gd w r s bs ev) : w.cell? ⟨r, 1, none⟩ = some ev := h.1.cell 1 (by simp)
theorem gd.CN {w : World} {r : Nat} {s : Slc} {bs : List UInt8} {ev : Value} (h : gd w r s bs ev) (v : Value) :
  aw w ⟨r, 1, none⟩ 1 /\ gd (w.setCell ⟨r, 1, none⟩ v) r s bs v /\ bJ (lC r s) (lC r s) w (w.setCell ⟨r, 1, none⟩ v) := by
 obtain ⟨h1, h2, h3⟩ := h.1.set 1 (by simp) v
 refine ⟨h1, ⟨h2, h.2.1.ext h3 (fun k hk he => h.2.2 (he ▸ hk)), h.2.2⟩, h3.mono (fun k hk => .inl hk), fun _ h => .inl h⟩
theorem gd.append {e : TypeId} {z : List Value} {w : World} {r : Nat} {s : Slc} {src : Src} {bs b : List UInt8} {ev : Value} {K : Slc -> World -> Prop} (h : gd w r s bs ev) (hz : z.length = 1)
  (hsrc : ru w 1 src (b.map aS)) (hlen : s.l + src.n <= 2 ^ 30)
  (hK : ∀ s' w', aw w' ⟨r, 0, none⟩ 1 -> (∀ w2, w2 = w'.setCell ⟨r, 0, none⟩ s'.v -> gd w2 r s' (bs ++ b) ev /\ bJ (lC r s) (lC r s') w w2) -> K s' w') : ak 1 e z w s src K := by
 refine cX h.2.1 (by omega) hz hsrc (nG b) hlen (fun s' w' h1 h2 h3 _ => ?_)
 have ho := h.1.ext h2 h.2.2
 obtain ⟨g1, g2, g3⟩ := ho.set 0 (by simp) s'.v
 have hr : ¬ ai s' r := fun hb => by
  rcases h3 r hb with h4 | h4
  ·exact h.2.2 h4
  ·have := h.1.lt; omega
 refine hK s' w' g1 ?_
 rintro w2 rfl
 refine ⟨⟨g2, ?_, hr⟩, ?_, ?_⟩
 ·rw [List.map_append]
  exact h1.ext g3 (fun k hk he => hr (he ▸ hk))
 ·exact h2.trans g3 (fun k hk => .inr hk) (fun k hk => .inl (.inl hk))
 ·rintro k (rfl | hk)
  ·exact .inl (.inl rfl)
  ·exact (h3 k hk).elim (fun h => .inl (.inr h)) .inr
end Go.D

