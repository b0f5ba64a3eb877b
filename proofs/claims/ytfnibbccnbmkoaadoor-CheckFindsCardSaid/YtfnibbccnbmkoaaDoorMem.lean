/-
  WHAT IS PROVED: facts on memory over the engine. No further conditions.
-/
import Derived.Test.YtfnibbccnbmkoaaDoorEng12
import Derived.Below
set_option linter.unusedSimpArgs false
namespace Go.D
open Go
set_option linter.unusedVariables false
structure Ext (M : Nat -> Prop) (w w' : World) : Prop where
 os : w'.os = w.os
 tape : w'.tape = w.tape
 output : w'.output = w.output
 size : w.heap.size <= w'.heap.size
 block : ∀ k, k < w.heap.size -> ¬ M k -> w'.heap[k]? = w.heap[k]?
def dN : Nat -> Prop := fun _ => False
abbrev av := Ext dN
theorem Ext.refl (M : Nat -> Prop) (w : World) : Ext M w w := ⟨rfl, rfl, rfl, Nat.le_refl _, fun _ _ _ => rfl⟩
theorem Ext.drew (M : Nat -> Prop) (w : World) : Ext M w w.drew := ⟨rfl, rfl, rfl, Nat.le_refl _, fun _ _ _ => rfl⟩
theorem Ext.trans {M M1 M2 : Nat -> Prop} {a b c : World} (h1 : Ext M1 a b) (h2 : Ext M2 b c) (m1 : ∀ k, M1 k -> M k) (m2 : ∀ k, M2 k -> M k \/ a.heap.size <= k) : Ext M a c :=
 ⟨h2.os.trans h1.os, h2.tape.trans h1.tape, h2.output.trans h1.output, Nat.le_trans h1.size h2.size, fun k hk hm => by
  rw [h2.block k (Nat.lt_of_lt_of_le hk h1.size) (fun h => (m2 k h).elim hm (fun h => by omega)), h1.block k hk (fun h => hm (m1 k h))]⟩
theorem Ext.mono {M M' : Nat -> Prop} {a b : World} (h : Ext M a b) (m : ∀ k, M k -> M' k) : Ext M' a b := h.trans (Ext.refl dN b) m (fun _ h => h.elim)
theorem av.trans {a b c : World} (h1 : av a b) (h2 : av b c) : av a c := Ext.trans h1 h2 (fun _ h => h) (fun _ h => .inl h)
theorem av.ext {M : Nat -> Prop} {a b c : World} (h1 : av a b) (h2 : Ext M b c) (m : ∀ k, M k -> a.heap.size <= k) : av a c :=
 Ext.trans h1 h2 (fun _ h => h) (fun k h => .inr (m k h))
theorem av.drew {a b : World} (h : av a b) : av a b.drew := av.trans h (Ext.drew _ _)
theorem Ext.alloc (M : Nat -> Prop) (w : World) (o : Obj) : Ext M w (w.alloc o) :=
 ⟨rfl, rfl, rfl, by simp, fun k hk _ => RowKit.Below.heap_alloc _ _ _ hk⟩
theorem Ext.setCell {M : Nat -> Prop} {w : World} {a : Addr} (h : M a.block) (v : Value) : Ext M w (w.setCell a v) :=
 ⟨rfl, rfl, rfl, by simp, fun k _ hm => RowKit.Below.heap_setCell _ _ _ _ (fun e => hm (e ▸ h))⟩
theorem Ext.setCells {M : Nat -> Prop} {a : Addr} (h : M a.block) : ∀ (vs : List Value) (i : Nat) (w : World), Ext M w (D.setCells w a i vs)
 | [], _, w => Ext.refl _ w
 | v :: r, i, w => by
  have hb : (a.add i).block = a.block := by unfold Addr.add; split <;> rfl
  exact (Ext.setCell (M := M) (w := w) (a := a.add i) (hb ▸ h) v).trans (Ext.setCells h r (i + 1) _) (fun _ h => h) (fun _ h => .inl h)
theorem av.below {w w' : World} (h : av w w') : RowKit.Below w.heap.size w w' := ⟨h.os, h.tape, h.output, h.size, fun k hk => h.block k hk (fun h => h)⟩
theorem cD (a : Addr) (i : Nat) : (a.add i).block = a.block := by unfold Addr.add; split <;> rfl
theorem Ext.cell {M : Nat -> Prop} {w w' : World} (h : Ext M w w') {a : Addr} {v : Value} (hc : w.cell? a = some v) (hm : ¬ M a.block) : w'.cell? a = some v := by
 rw [<- hc]
 exact World.cell?_of_block (w := w) (h.block a.block (World.block_lt_of_cell? w a hc) hm)
theorem Ext.heap {M : Nat -> Prop} {w w' : World} (h : Ext M w w') {b : Nat} {o : Obj} (hb : w.heap[b]? = some o) (hm : ¬ M b) : w'.heap[b]? = some o := by
 have : b < w.heap.size := (Array.getElem?_eq_some_iff.1 hb).1
 rw [h.block b this hm]; exact hb
theorem av.heap {w w' : World} (h : av w w') {b : Nat} {o : Obj} (hb : w.heap[b]? = some o) : w'.heap[b]? = some o := Ext.heap h hb (fun h => h)
theorem bH {w : World} {b : Nat} {o : Obj} (hb : w.heap[b]? = some o) : b < w.heap.size := (Array.getElem?_eq_some_iff.1 hb).1
theorem il (w : World) (o : Obj) : (w.alloc o).heap[w.heap.size]? = some o := by
 show (w.heap.push o)[w.heap.size]? = some o
 simp
theorem ai {w : World} {o : Obj} {K : Nat -> World -> Prop} (h : ∀ r w1, r = w.heap.size -> w1.heap[r]? = some o -> av w w1 -> w1.heap.size = r + 1 -> K r w1) : aK w o K := by
 intro r w1 hr hw
 subst hr; subst hw
 exact h _ _ rfl (il w o) (Ext.alloc _ _ _) (by simp)
theorem cell_of {w : World} {b : Nat} {c : List Value} {T : TypeId} {f : Nat × Nat} (h : w.heap[b]? = some (.cells ⟨c⟩ T f)) (o : Nat) : w.cell? ⟨b, o, none⟩ = c[o]? := by
 unfold World.cell?
 simp [h]
theorem oW {w : World} {b : Nat} {c : Array Value} {T : TypeId} {f : Nat × Nat} (h : w.heap[b]? = some (.cells c T f)) (o : Nat) : w.frozen? ⟨b, o, none⟩ = (decide (f.1 <= o) && decide (o < f.2)) := by
 unfold World.frozen?
 simp [h]
theorem heap_setCell {w : World} {b : Nat} {c : List Value} {T : TypeId} {f : Nat × Nat} (h : w.heap[b]? = some (.cells ⟨c⟩ T f)) (o : Nat) (v : Value) :
  (w.setCell ⟨b, o, none⟩ v).heap[b]? = some (.cells ⟨c.set o v⟩ T f) := by
 simp only [World.setCell, Array.getElem?_modify, if_true, h, Option.map_some]
 simp
def clear (f : Nat × Nat) (n : Nat) : Prop := f.2 <= f.1 \/ n <= f.1
theorem pY (n : Nat) : clear (0, 0) n := .inl (Nat.le_refl _)
theorem lG {f : Nat × Nat} {n o : Nat} (h : clear f n) (ho : o < n) : (decide (f.1 <= o) && decide (o < f.2)) = false := by
 rcases h with h | h <;> simp <;> omega
theorem add_lit (b o k : Nat) : (⟨b, o, none⟩ : Addr).add k = ⟨b, o + k, none⟩ := by
 unfold Addr.add; split
 ·rename_i h; subst h; rfl
 ·rfl
theorem fG {w : World} {b : Nat} {c : List Value} {T : TypeId} {f : Nat × Nat} (h : w.heap[b]? = some (.cells ⟨c⟩ T f)) (hf : clear f c.length) (o n : Nat) (hn : o + n <= c.length) : aw w ⟨b, o, none⟩ n := by
 intro i hi
 rw [add_lit]
 refine ⟨⟨c[o + i], ?_⟩, ?_⟩
 ·rw [cell_of h]; exact List.getElem?_eq_getElem (by omega)
 ·rw [oW h]; exact lG hf (by omega)
theorem bR {b : Nat} {T : TypeId} {f : Nat × Nat} : ∀ (vs : List Value) (w : World) (c : List Value) (o i : Nat), w.heap[b]? = some (.cells ⟨c⟩ T f) -> (setCells w ⟨b, o, none⟩ i vs).heap[b]? = some (.cells ⟨setFrom c (o + i) vs⟩ T f)
 | [], w, c, o, i, h => h
 | v :: r, w, c, o, i, h => by
  simp only [setCells, add_lit, setFrom]
  have := bR r (w.setCell ⟨b, o + i, none⟩ v) (c.set (o + i) v) o (i + 1) (heap_setCell h (o + i) v)
  rw [Nat.add_assoc]
  exact this
theorem cM : ∀ (vs a b : List Value), vs.length <= b.length -> setFrom (a ++ b) a.length vs = a ++ vs ++ b.drop vs.length
 | [], a, b, _ => by simp [setFrom]
 | v :: r, a, b, h => by
  cases b with
  | nil => simp at h
  | cons x b =>
   simp only [setFrom]
   have e1 : (a ++ x :: b).set a.length v = (a ++ [v]) ++ b := by simp
   have e2 : a.length + 1 = (a ++ [v]).length := by simp
   rw [e1, e2, cM r (a ++ [v]) b (by simpa using h)]
   simp
def aC (s : Slc) : Nat -> Prop := fun b => ∃ a, s.p = some a /\ a.block = b
theorem mz {M : Nat -> Prop} {w w' : World} {p : Option Addr} {vs : List Value} (h : cS w p vs) (he : Ext M w w') (hm : ∀ a, p = some a -> ¬ M a.block) : cS w' p vs := by
 rcases h with h | ⟨a, ha, h⟩
 ·exact .inl h
 ·exact .inr ⟨a, ha, fun i hi => he.cell (h i hi) (by rw [cD]; exact hm a ha)⟩
theorem di {M : Nat -> Prop} {w w' : World} {s : Slc} {b : List UInt8} (h : ar w s b) (he : Ext M w w') (hm : ∀ k, aC s k -> ¬ M k) : ar w' s b :=
 ⟨h.1, mz h.2 he (fun a ha => hm _ ⟨a, ha, rfl⟩)⟩
theorem az {w w' : World} {s : Slc} {b : List UInt8} (h : ar w s b) (he : av w w') : ar w' s b := di h he (fun _ _ h => h)
theorem dj {w : World} {p : Option Addr} {vs : List Value} (h : cS w p vs) {i : Nat} (hi : i < vs.length) : ∃ a, p = some a /\ w.cell? (a.add i) = some vs[i] := by
 rcases h with h | ⟨a, ha, h⟩
 ·subst h; simp at hi
 ·exact ⟨a, ha, h i hi⟩
theorem eY {w : World} {p : Option Addr} {vs : List Value} (h : cS w p vs) {i : Nat} (hi : i < vs.length) {K : Addr -> Prop} (hk : ∀ a, p = some a -> w.cell? (a.add i) = some vs[i] -> K a) : needSome p K := by
 obtain ⟨a, ha, hc⟩ := dj h hi
 exact ao ha (hk a ha hc)
def Own (w : World) (s : Slc) (sz : Nat) (vs : List Value) : Prop :=
 s.l * sz = vs.length /\ (s.p = none /\ vs = [] /\ s.c = 0 \/
  ∃ b pad T f, s.p = some ⟨b, 0, none⟩ /\ w.heap[b]? = some (.cells ⟨vs ++ pad⟩ T f) /\ (vs ++ pad).length = s.c * sz /\ clear f (vs ++ pad).length)
theorem Own.cells {w : World} {s : Slc} {sz : Nat} {vs : List Value} (h : Own w s sz vs) : cS w s.p vs := by
 obtain ⟨_, ⟨_, h, _⟩ | ⟨b, pad, T, f, hp, hb, _, _⟩⟩ := h
 ·exact .inl h
 ·refine .inr ⟨_, hp, fun i hi => ?_⟩
  rw [add_lit, cell_of hb, Nat.zero_add, List.getElem?_append_left hi]
  exact List.getElem?_eq_getElem hi
theorem Own.ext {M : Nat -> Prop} {w w' : World} {s : Slc} {sz : Nat} {vs : List Value} (h : Own w s sz vs) (he : Ext M w w') (hm : ∀ k, aC s k -> ¬ M k) : Own w' s sz vs := by
 obtain ⟨hl, h | ⟨b, pad, T, f, hp, hb, h1, h2⟩⟩ := h
 ·exact ⟨hl, .inl h⟩
 ·exact ⟨hl, .inr ⟨b, pad, T, f, hp, he.heap hb (hm b ⟨_, hp, rfl⟩), h1, h2⟩⟩
theorem Own.ah {w w' : World} {s : Slc} {sz : Nat} {vs : List Value} (h : Own w s sz vs) (he : av w w') : Own w' s sz vs := h.ext he (fun _ _ h => h)
theorem Own.bytes {w : World} {s : Slc} {b : List UInt8} (h : Own w s 1 (b.map ba)) : ar w s b := ⟨by have := h.1; simpa using this, h.cells⟩
theorem Own.nil (w : World) (sz : Nat) : Own w ⟨none, 0, 0⟩ sz [] := ⟨by simp, .inl ⟨rfl, rfl, rfl⟩⟩
theorem Own.new {w : World} {r : Nat} {cs : List Value} {T : TypeId} {f : Nat × Nat} {sz n : Nat} (h : w.heap[r]? = some (.cells ⟨cs⟩ T f)) (hf : clear f cs.length) (hn : cs.length = n * sz) : Own w ⟨some ⟨r, 0, none⟩, n, n⟩ sz cs :=
 ⟨hn.symm, .inr ⟨r, [], T, f, rfl, by simpa using h, by simpa using hn, by simpa using hf⟩⟩
def cX (w0 : World) (s : Slc) : Prop := ∀ b, aC s b -> w0.heap.size <= b
theorem cX.nil (w0 : World) (l c : Nat) : cX w0 ⟨none, l, c⟩ := by rintro b ⟨a, ha, _⟩; cases ha
theorem cX.at {w0 : World} {r o l c : Nat} (h : w0.heap.size <= r) : cX w0 ⟨some ⟨r, o, none⟩, l, c⟩ := by rintro b ⟨a, ha, rfl⟩; cases ha; exact h
theorem cX.mono {w0 w1 : World} {s : Slc} (h : cX w1 s) (hs : w0.heap.size <= w1.heap.size) : cX w0 s := fun b hb => Nat.le_trans hs (h b hb)
theorem kQ {w : World} {s : Slc} {vs : List Value} {sz : Nat} (h : cS w s.p vs) (hl : vs.length = s.l * sz) : iW w sz (.slc s) vs := ⟨hl, h⟩
theorem dO {w : World} {s : Slc} {b : List UInt8} (h : ar w s b) : iW w 1 (.slc s) (b.map ba) := ⟨by simp [h.1], h.2⟩
theorem iQ (b : List UInt8) : ∀ v ∈ b.map ba, v.oneCell' = true := by
 intro v hv
 obtain ⟨x, _, rfl⟩ := List.mem_map.1 hv
 rfl
theorem dP {sz : Nat} {e : TypeId} {z : List Value} {w : World} {s : Slc} {src : Src} {vs new : List Value} {K : Slc -> World -> Prop} (ho : Own w s sz vs) (hsz : 0 < sz) (hz : z.length = sz)
  (hsrc : iW w sz src new) (hone : ∀ v ∈ new, v.oneCell' = true) (hlen : s.l + src.n <= 2 ^ 30)
  (h : ∀ s' w', Own w' s' sz (vs ++ new) -> Ext (aC s) w w' -> (∀ b, aC s' b -> aC s b \/ w.heap.size <= b) -> s'.l = s.l + src.n -> K s' w') : bA sz e z w s src K := by
 have hnl : new.length = src.n * sz := by
  cases src with
  | slc s2 => exact hsrc.1
  | str b => obtain ⟨e1, e2⟩ := hsrc; subst e2; rw [e1]; simp [Src.n]
 refine ⟨vs, new, ho.1.symm, ho.cells, hsrc, hone, hlen, ?_, ?_⟩
 ·intro hfit a ha
  obtain ⟨hl, ⟨hp, _⟩ | ⟨b, pad, T, f, hp, hb, h1, h2⟩⟩ := ho
  ·rw [hp] at ha; cases ha
  ·rw [hp] at ha; cases ha
   rw [add_lit, Nat.zero_add]
   refine fG hb h2 _ _ ?_
   rw [h1, <- Nat.add_mul]
   exact Nat.mul_le_mul_right _ hfit
 ·intro s' w' hA
  have hoc := ho
  obtain ⟨hl, hown⟩ := ho
  rcases hA with ⟨hfit, rfl, rfl⟩ | ⟨hgrow, cap, hcap, rfl, rfl⟩
  ·rcases hown with ⟨hp, hv, hc⟩ | ⟨b, pad, T, f, hp, hb, h1, h2⟩
   ·-- nil: nothing is appended
    have hn0 : src.n = 0 := by omega
    have hl0 : s.l = 0 := by omega
    have hnew : new = [] := by rw [hn0] at hnl; simpa using hnl
    refine h _ _ ?_ ?_ ?_ rfl
    ·subst hnew; subst hv
     rw [hp]
     refine ⟨by simp [hn0, hl0], .inl ⟨rfl, rfl, hc⟩⟩
    ·rw [hp]; exact Ext.refl _ _
    ·rintro b ⟨a, ha, hb⟩; exact .inl ⟨a, ha, hb⟩
   ·refine h _ _ ?_ ?_ ?_ rfl
    ·rw [hp]
     refine ⟨by simp only [List.length_append, hnl, <- hl, Nat.add_mul], .inr ⟨b, pad.drop new.length, T, f, rfl, ?_, ?_, ?_⟩⟩
     ·have h3 := bR new w (vs ++ pad) (0 + s.l * sz) 0 hb
      have h4 : new.length <= pad.length := by
       rw [List.length_append] at h1
       have : (s.l + src.n) * sz <= s.c * sz := Nat.mul_le_mul_right _ hfit
       rw [Nat.add_mul] at this
       omega
      simp only [add_lit]
      rw [h3]
      have e1 : 0 + s.l * sz + 0 = vs.length := by omega
      rw [e1, cM new vs pad h4]
     ·have h4 : new.length <= pad.length := by
       rw [List.length_append] at h1
       have : (s.l + src.n) * sz <= s.c * sz := Nat.mul_le_mul_right _ hfit
       rw [Nat.add_mul] at this
       omega
      simp only [List.length_append, List.length_drop] at h1 ⊢
      omega
     ·have h4 : new.length <= pad.length := by
       rw [List.length_append] at h1
       have : (s.l + src.n) * sz <= s.c * sz := Nat.mul_le_mul_right _ hfit
       rw [Nat.add_mul] at this
       omega
      have e2 : (vs ++ new ++ pad.drop new.length).length = (vs ++ pad).length := by
       simp only [List.length_append, List.length_drop]; omega
      rw [e2]; exact h2
    ·rw [hp]
     exact Ext.setCells (M := aC s) (a := (⟨b, 0, none⟩ : Addr).add (s.l * sz)) ⟨_, hp, by rw [cD]⟩ new 0 w
    ·rintro b' ⟨a, ha, hb'⟩; exact .inl ⟨a, ha, hb'⟩
  ·refine h _ _ ?_ ?_ ?_ rfl
   ·refine ⟨by simp only [List.length_append, hnl, <- hl, Nat.add_mul], .inr ⟨w.heap.size, bt (cap - (s.l + src.n)) z, e, (0, 0), rfl, ?_, ?_, pY _⟩⟩
    ·exact il w.drew _
    ·simp only [List.length_append, dM, hnl, hz, <- hl]
     rw [<- Nat.add_mul, <- Nat.add_mul]
     congr 1; omega
   ·exact (Ext.drew (aC s) w).trans (Ext.alloc (aC s) _ _) (fun _ h => h) (fun _ h => .inl h)
   ·rintro b' ⟨a, ha, hb'⟩
    cases ha
    exact .inr (by simp at hb'; omega)
theorem fH {e : TypeId} {z : List Value} {w w0 : World} {s : Slc} {src : Src} {vs b : List UInt8} {K : Slc -> World -> Prop} (ho : Own w s 1 (vs.map ba)) (hz : z.length = 1)
  (hfr : cX w0 s) (hk : av w0 w)
  (hsrc : iW w 1 src (b.map ba)) (hlen : s.l + src.n <= 2 ^ 30)
  (h : ∀ s' w', Own w' s' 1 ((vs ++ b).map ba) -> av w0 w' -> cX w0 s' -> Ext (aC s) w w' -> K s' w') : bA 1 e z w s src K := by
 refine dP ho (by omega) hz hsrc (iQ b) hlen (fun s' w' h1 h2 h3 _ => h s' w' (by rw [List.map_append]; exact h1) (hk.ext h2 (fun k hk => hfr k hk)) (fun k hk2 => ?_) h2)
 rcases h3 k hk2 with h4 | h4
 ·exact hfr k h4
 ·exact Nat.le_trans hk.size h4
theorem af {n : Int} (h : -9223372036854775808 <= n /\ n <= 9223372036854775807) : inR .i64 n := by
 simpa [inR, IntKind.min, IntKind.max, IntKind.signed, IntKind.bits] using h
theorem rU {n : Int} (h : 0 <= n /\ n <= 255) : inR .u8 n := by
 simpa [inR, IntKind.min, IntKind.max, IntKind.signed, IntKind.bits] using h
theorem dQ {n : Int} (h : 0 <= n /\ n <= 4294967295) : inR .u32 n := by
 simpa [inR, IntKind.min, IntKind.max, IntKind.signed, IntKind.bits] using h
theorem gn {n : Int} (h : 0 <= n /\ n <= 18446744073709551615) : inR .u64 n := by
 simpa [inR, IntKind.min, IntKind.max, IntKind.signed, IntKind.bits] using h
theorem av.step {w0 w w1 : World} (h : av w0 w) {r : Nat} (hr : w0.heap.size <= r) (h1 : Ext (fun b => b = r) w w1) : av w0 w1 := h.ext h1 (fun k hk => by rw [hk]; exact hr)
end Go.D

