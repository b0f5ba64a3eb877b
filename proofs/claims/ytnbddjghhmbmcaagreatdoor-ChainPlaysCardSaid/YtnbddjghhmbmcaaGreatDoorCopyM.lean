/-
  WHAT IS PROVED: contracts of functions, and the plain law, for this proof. No further conditions.
-/
import Derived.Test.YtnbddjghhmbmcaaGreatDoorObjM
set_option linter.unusedSimpArgs false
set_option linter.unusedVariables false
namespace Go.D
open Go
theorem BK {sz lo : Nat} {w : World} {d src : Slc} {vs new : List Value} {K : Int -> World -> Prop} (ho : Own w d sz vs) (hlo : lo + src.l <= d.l) (hcap : d.l <= d.c)
  (hn : new.length = src.l * sz) (hsrc : eW w src.p new) (hone : ∀ v ∈ new, v.oneCell' = true)
  (h : ∀ w', Own w' d sz (vs.take (lo * sz) ++ new ++ vs.drop (lo * sz + new.length)) -> Ext (ai d) w w' -> w'.heap.size = w.heap.size -> K ((src.l : Nat) : Int) w') :
  copyS sz w (Slc.sub d sz lo d.l d.c) (.slc src) K := by
 have hmin : min src.l (d.l - lo) = src.l := by omega
 have hoc := ho
 obtain ⟨hl, hown⟩ := ho
 have hle : lo * sz + new.length <= vs.length := by
  rw [hn, <- Nat.add_mul, <- hl]
  exact Nat.mul_le_mul_right _ hlo
 by_cases hnil : new = []
 ·have hsl : w = w := rfl
  subst hnil
  refine ⟨[], by simp only [Src.n, Slc.sub]; rw [hmin]; exact hn, .inl rfl, by simp, fun a _ i hi => by simp at hi, ?_⟩
  rintro w1 rfl
  simp only [Src.n, Slc.sub]
  rw [hmin]
  generalize (if d.c = lo then d.p else d.p.map (fun x => x.add (lo * sz))) = pp
  cases pp with
  | none => exact h w (by simpa using hoc) (Ext.refl _ _) rfl
  | some a => exact h w (by simpa using hoc) (Ext.refl _ _) rfl
 ·rcases hown with ⟨hp, hv, hc⟩ | ⟨b, pad, T, f, hp, hb, h1, h2⟩
  ·exfalso
   rw [hv, List.length_nil] at hle
   exact hnil (List.length_eq_zero_iff.1 (by omega))
  ·have hpos : 0 < src.l := by
    rcases Nat.eq_zero_or_pos src.l with h0 | h0
    ·rw [h0] at hn; simp at hn; exact absurd hn hnil
    ·exact h0
   have hpp : (Slc.sub d sz lo d.l d.c).p = some ⟨b, lo * sz, none⟩ := by
    simp only [Slc.sub, hp]
    rw [if_neg (by omega)]
    simp [add_lit]
   refine ⟨new, by simp only [Src.n, Slc.sub]; rw [hmin]; exact hn, hsrc, hone, ?_, ?_⟩
   ·intro a ha
    rw [hpp] at ha; cases ha
    exact iX hb h2 _ _ (by rw [List.length_append]; omega)
   ·intro w1 hw1
    rw [hpp] at hw1
    simp only at hw1
    simp only [Src.n, Slc.sub]
    rw [hmin]
    have h3 := cS new w (vs ++ pad) (lo * sz) 0 hb
    rw [Nat.add_zero, <- hw1] at h3
    have e1 : vs ++ pad = vs.take (lo * sz) ++ (vs.drop (lo * sz) ++ pad) := by rw [<- List.append_assoc, List.take_append_drop]
    have e2 : lo * sz = (vs.take (lo * sz)).length := by rw [List.length_take]; omega
    have e3 : setFrom (vs ++ pad) (lo * sz) new = (vs.take (lo * sz) ++ new ++ vs.drop (lo * sz + new.length)) ++ pad := by
     conv => lhs; rw [e1]; arg 2; rw [e2]
     rw [eC new _ _ (by rw [List.length_append, List.length_drop]; omega)]
     rw [List.drop_append_of_le_length (by rw [List.length_drop]; omega), List.drop_drop]
     simp only [List.append_assoc]
    rw [e3] at h3
    have hlen : (vs.take (lo * sz) ++ new ++ vs.drop (lo * sz + new.length)).length = vs.length := by
     simp only [List.length_append, List.length_take, List.length_drop]; omega
    have he : Ext (ai d) w w1 := by
     rw [hw1]
     exact Ext.setCells (M := ai d) (a := (⟨b, lo * sz, none⟩ : Addr)) ⟨_, hp, rfl⟩ new 0 w
    refine h w1 ⟨by rw [hlen]; exact hl, .inr ⟨b, pad, T, f, hp, h3, ?_, ?_⟩⟩ he ?_
    ·rw [List.length_append, hlen, <- List.length_append]; exact h1
    ·rw [List.length_append, hlen, <- List.length_append]; exact h2
    ·rw [hw1]
     have : ∀ (vs : List Value) (i : Nat) (a : Addr) (w : World), (setCells w a i vs).heap.size = w.heap.size := by
      intro vs
      induction vs with
      | nil => intro i a w; rfl
      | cons v vs ih => intro i a w; simp only [setCells]; rw [ih]; simp [World.setCell]
     exact this _ _ _ _
theorem xr (n : Nat) : bI n [Value.int .u8 0] = (List.replicate n (0 : UInt8)).map aS := by
 induction n with
 | zero => rfl
 | succ n ih =>
  have : bI (n + 1) [Value.int .u8 0] = [Value.int .u8 0] ++ bI n [Value.int .u8 0] := by simp [bI, List.replicate_succ]
  rw [this, ih, List.replicate_succ]
  rfl
theorem Own.DE {w : World} {r n : Nat} {T : TypeId} (h : w.heap[r]? = some (.cells ⟨bI n [Value.int .u8 0]⟩ T)) : Own w ⟨some ⟨r, 0, none⟩, n, n⟩ 1 ((List.replicate n (0 : UInt8)).map aS) := by
 rw [xr] at h
 exact Own.new h (.inl (by simp)) (by simp)
theorem Own.ne {w : World} {s : Slc} {sz : Nat} {vs : List Value} (h : Own w s sz vs) {k : Nat} (hk : ai s k) : ∃ c T f, w.heap[k]? = some (.cells c T f) := by
 obtain ⟨_, ⟨hp, _⟩ | ⟨b, pad, T, f, hp, hb, _, _⟩⟩ := h
 ·obtain ⟨a, ha, _⟩ := hk; rw [hp] at ha; cases ha
 ·obtain ⟨a, ha, rfl⟩ := hk; rw [hp] at ha; cases ha
  exact ⟨_, _, _, hb⟩
theorem Own.part {w : World} {s : Slc} {sz lo hi c : Nat} {vs : List Value} (h : Own w s sz vs) (h1 : lo <= hi) (h2 : hi <= s.l) (hc : hi <= c) :
  eW w (Slc.sub s sz lo hi c).p ((vs.take (hi * sz)).drop (lo * sz)) /\ ((vs.take (hi * sz)).drop (lo * sz)).length = (Slc.sub s sz lo hi c).l * sz := by
 have hl := h.1
 have hlen : ((vs.take (hi * sz)).drop (lo * sz)).length = (hi - lo) * sz := by
  have : hi * sz <= s.l * sz := Nat.mul_le_mul_right _ h2
  rw [List.length_drop, List.length_take, Nat.sub_mul]; omega
 refine ⟨?_, by rw [hlen]; rfl⟩
 by_cases he : lo = hi
 ·left
  subst he
  exact List.length_eq_zero_iff.1 (by rw [hlen]; simp)
 ·obtain ⟨_, ⟨hp, hv, _⟩ | ⟨b, pad, T, f, hp, hb, _, _⟩⟩ := h
  ·left; rw [hv]; simp
  ·right
   refine ⟨⟨b, lo * sz, none⟩, ?_, fun i hi2 => ?_⟩
   ·simp only [Slc.sub, hp]
    rw [if_neg (by omega)]
    simp [add_lit]
   ·have hle : hi * sz <= s.l * sz := Nat.mul_le_mul_right _ h2
    rw [hlen, Nat.sub_mul] at hi2
    rw [add_lit, cell_of hb, List.getElem?_append_left (by omega), List.getElem?_eq_getElem (by omega)]
    simp [List.getElem_drop, List.getElem_take]
end Go.D

