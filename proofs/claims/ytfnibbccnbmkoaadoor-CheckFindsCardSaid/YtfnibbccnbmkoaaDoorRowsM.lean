/-
  WHAT IS PROVED: contracts of functions, and the plain law, for this proof. No further conditions.
-/
import Derived.Test.YtfnibbccnbmkoaaDoorFlat
set_option linter.unusedVariables false
set_option linter.unusedSimpArgs false
namespace Go.D
open Go
def dT (cs : List Value) (k : Nat) : Prop := ∃ s : Slc, s.v ∈ cs /\ 0 < s.l /\ aC s k
def cY (css : List (List Value)) (k : Nat) : Prop := ∃ cs ∈ css, dT cs k
theorem gi.mono {z : List Value} {w : World} {s : Slc} {K K' : World -> Prop} (h : ∀ w, K w -> K' w) (g : gi z w s K) : gi z w s K' := by
 unfold gi at g ⊢
 obtain ⟨p, l, c⟩ := s
 cases p with
 | none => exact fun w1 hw1 => h _ (g w1 hw1)
 | some a => exact ⟨g.1, fun w1 hw1 => h _ (g.2 w1 hw1)⟩
structure o0 (α : Type) where
 n : Nat
 pos : 0 < n
 R : World -> α -> List Value -> Prop
 len : ∀ {w x cs}, R w x cs -> cs.length = n
 one : ∀ {w x cs}, R w x cs -> ∀ v ∈ cs, v.oneCell' = true
 ext : ∀ {M : Nat -> Prop} {w w' : World} {x : α} {cs : List Value}, R w x cs -> Ext M w w' -> (∀ k, dT cs k -> ¬ M k) -> R w' x cs
 lt : ∀ {w : World} {x : α} {cs : List Value}, R w x cs -> ∀ k, dT cs k -> k < w.heap.size
structure Rows {α : Type} (e : o0 α) (w : World) (s : Slc) (xs : List α) (css : List (List Value)) : Prop where
 own : Own w s e.n css.flatten
 len : css.length = xs.length
 row : ∀ i (h : i < css.length) (h' : i < xs.length), e.R w xs[i] css[i]
 sep : ∀ k, cY css k -> ¬ aC s k
theorem cE {n : Nat} : ∀ (css : List (List Value)), (∀ cs ∈ css, cs.length = n) -> css.flatten.length = css.length * n
 | [], _ => by simp
 | a :: l, h => by
  rw [List.flatten_cons, List.length_append, cE l (fun c hc => h c (by simp [hc])), h a (by simp), List.length_cons, Nat.add_mul]; omega
theorem kS {n : Nat} : ∀ (css : List (List Value)), (∀ cs ∈ css, cs.length = n) -> ∀ (i j : Nat) (hi : i < css.length), j < n -> css.flatten[i * n + j]? = css[i][j]?
 | a :: l, h, 0, j, hi, hj => by
  rw [List.flatten_cons, Nat.zero_mul, Nat.zero_add, List.getElem?_append_left (by rw [h a (by simp)]; exact hj)]; rfl
 | a :: l, h, i + 1, j, hi, hj => by
  have e : (i + 1) * n + j = a.length + (i * n + j) := by rw [h a (by simp), Nat.add_mul]; omega
  rw [List.flatten_cons, e, List.getElem?_append_right (by omega), Nat.add_sub_cancel_left, kS l (fun c hc => h c (by simp [hc])) i j (by simpa using hi) hj]
  rfl
theorem ja {n : Nat} (css : List (List Value)) (i : Nat) (hi : i < css.length) : css.flatten = (css.take i).flatten ++ (css[i] ++ (css.drop (i + 1)).flatten) := by
 conv => lhs; rw [<- List.take_append_drop i css, List.drop_eq_getElem_cons hi]
 rw [List.flatten_append, List.flatten_cons]
theorem pa {n : Nat} (css : List (List Value)) (h : ∀ cs ∈ css, cs.length = n) (i : Nat) (hi : i < css.length) (j : Nat) (vs pad : List Value) (hj : j + vs.length <= n) :
  setFrom (css.flatten ++ pad) (i * n + j) vs = (css.set i (css[i].take j ++ vs ++ css[i].drop (j + vs.length))).flatten ++ pad := by
 have hl : css[i].length = n := h _ (List.getElem_mem hi)
 have ht : (css.take i).flatten.length = i * n := by
  rw [cE (n := n) _ (fun c hc => h c (List.mem_of_mem_take hc)), List.length_take]; congr 1; omega
 have e1 : css.flatten ++ pad = ((css.take i).flatten ++ css[i].take j) ++ (css[i].drop j ++ ((css.drop (i + 1)).flatten ++ pad)) := by
  rw [ja (n := n) css i hi]
  conv => lhs; rw [<- List.take_append_drop j css[i]]
  simp only [List.append_assoc]
 have e2 : i * n + j = ((css.take i).flatten ++ css[i].take j).length := by
  rw [List.length_append, ht, List.length_take]; omega
 rw [e1, e2, cM vs _ _ (by simp only [List.length_append, List.length_drop]; omega)]
 rw [List.drop_append_of_le_length (by rw [List.length_drop]; omega), List.drop_drop]
 rw [List.set_eq_take_append_cons_drop, if_pos hi]
 simp only [List.flatten_append, List.flatten_cons, List.append_assoc]
namespace Rows
variable {α : Type} {e : o0 α} {w w' : World} {s : Slc} {xs : List α} {css : List (List Value)}
theorem lens (h : Rows e w s xs css) : ∀ cs ∈ css, cs.length = e.n := by
 intro cs hc
 obtain ⟨i, hi, rfl⟩ := List.getElem_of_mem hc
 exact e.len (h.row i hi (by rw [<- h.len]; exact hi))
theorem sl (h : Rows e w s xs css) : s.l = xs.length := by
 have h1 := h.own.1
 rw [cE css h.lens, h.len] at h1
 exact Nat.eq_of_mul_eq_mul_right e.pos h1
theorem cap (h : Rows e w s xs css) : s.l <= s.c := by
 obtain ⟨h1, ⟨h2, h3, h4⟩ | ⟨b, pad, T, f, hp, hb, h4, _⟩⟩ := h.own
 ·rw [h3] at h1; have := e.pos
  rcases Nat.eq_zero_or_pos s.l with h5 | h5
  ·omega
  ·have := Nat.mul_pos h5 e.pos; simp at h1; omega
 ·rw [List.length_append, <- h1] at h4
  exact Nat.le_of_mul_le_mul_right (by omega : s.l * e.n <= s.c * e.n) e.pos
theorem ext {M : Nat -> Prop} (h : Rows e w s xs css) (he : Ext M w w') (h1 : ∀ k, aC s k -> ¬ M k) (h2 : ∀ k, cY css k -> ¬ M k) : Rows e w' s xs css :=
 ⟨h.own.ext he h1, h.len, fun i hi hi' => e.ext (h.row i hi hi') he (fun k hk => h2 k ⟨_, List.getElem_mem hi, hk⟩), h.sep⟩
theorem ah (h : Rows e w s xs css) (he : av w w') : Rows e w' s xs css := h.ext he (fun _ _ h => h) (fun _ _ h => h)
theorem nil (e : o0 α) (w : World) : Rows e w ⟨none, 0, 0⟩ [] [] := ⟨Own.nil _ _, rfl, fun i h => by simp at h, fun k ⟨_, h, _⟩ => by simp at h⟩
theorem lt (h : Rows e w s xs css) : ∀ k, aC s k -> k < w.heap.size := p5 h.own
theorem flt (h : Rows e w s xs css) : ∀ k, cY css k -> k < w.heap.size := by
 rintro k ⟨cs, hc, hk⟩
 obtain ⟨i, hi, rfl⟩ := List.getElem_of_mem hc
 exact e.lt (h.row i hi (by rw [<- h.len]; exact hi)) k hk
theorem get (h : Rows e w s xs css) {i : Nat} (hi : i < css.length) : ∃ a, s.p = some a /\ a.spot = none /\ rowAt w (a.add (i * e.n)) 0 css[i] := by
 have hlen := cE css h.lens
 have hc := h.own.cells
 have hl := h.lens _ (List.getElem_mem hi)
 have hb : ∀ j, j < e.n -> i * e.n + j < css.flatten.length := fun j hj => by
  rw [hlen]
  have : (i + 1) * e.n <= css.length * e.n := Nat.mul_le_mul_right _ hi
  rw [Nat.add_mul] at this; omega
 obtain ⟨a, ha, _⟩ := dj hc (hb 0 e.pos)
 have hsp : a.spot = none := by
  obtain ⟨_, ⟨hp, _⟩ | ⟨b, pad, T, f, hp, _⟩⟩ := h.own
  ·rw [hp] at ha; cases ha
  ·rw [hp] at ha; cases ha; rfl
 refine ⟨a, ha, hsp, fj fun j hj => ?_⟩
 rw [hl] at hj
 obtain ⟨a', ha', hcj⟩ := dj hc (hb j hj)
 rw [ha] at ha'
 cases ha'
 have e1 := kS css h.lens i j hi hj
 rw [List.getElem?_eq_getElem (hb j hj), List.getElem?_eq_getElem (by rw [hl]; exact hj)] at e1
 have e2 : (a.add (i * e.n)).add (0 + j) = a.add (i * e.n + j) := by
  rw [Nat.zero_add]; exact lp a (i * e.n) j hsp
 rw [e2, hcj, Option.some.inj e1]
theorem set (h : Rows e w s xs css) {i : Nat} (hi : i < css.length) (j : Nat) (vs : List Value) (hj : j + vs.length <= e.n) (x : α) {a : Addr} (ha : s.p = some a)
  (hx : ∀ w', Ext (aC s) w w' -> e.R w' x (css[i].take j ++ vs ++ css[i].drop (j + vs.length))) (hf : ∀ k, dT (css[i].take j ++ vs ++ css[i].drop (j + vs.length)) k -> ¬ aC s k) :
  aw w ((a.add (i * e.n)).add j) vs.length /\ ∀ w', w' = setCells w ((a.add (i * e.n)).add j) 0 vs ->
   Rows e w' s (xs.set i x) (css.set i (css[i].take j ++ vs ++ css[i].drop (j + vs.length))) /\ Ext (aC s) w w' /\ w'.heap.size = w.heap.size := by
 have hls := h.lens
 have hlen := cE css hls
 have hle : i * e.n + (j + vs.length) <= css.flatten.length := by
  rw [hlen]
  have : (i + 1) * e.n <= css.length * e.n := Nat.mul_le_mul_right _ hi
  rw [Nat.add_mul] at this; omega
 obtain ⟨h1, ⟨hp, _⟩ | ⟨b, pad, T, f, hp, hb, h4, h5⟩⟩ := h.own
 ·rw [hp] at ha; cases ha
 ·rw [hp] at ha; cases ha
  rw [add_lit, add_lit, Nat.zero_add]
  refine ⟨fG hb h5 _ _ (by rw [List.length_append]; omega), ?_⟩
  rintro w' rfl
  have he : Ext (aC s) w (setCells w ⟨b, i * e.n + j, none⟩ 0 vs) := Ext.setCells (M := aC s) (a := (⟨b, i * e.n + j, none⟩ : Addr)) ⟨_, hp, rfl⟩ vs 0 w
  have hh := bR vs w (css.flatten ++ pad) (i * e.n + j) 0 hb
  rw [Nat.add_zero, pa css hls i hi j vs pad hj] at hh
  have hR := hx _ he
  have hl2 := e.len hR
  have hfl : (css.set i (css[i].take j ++ vs ++ css[i].drop (j + vs.length))).flatten.length = css.flatten.length := by
   rw [cE (n := e.n), hlen, List.length_set]
   intro c hc
   rcases List.mem_or_eq_of_mem_set hc with h6 | rfl
   ·exact hls c h6
   ·exact hl2
  refine ⟨⟨⟨by rw [hfl]; exact h1, .inr ⟨b, pad, T, f, hp, hh, by rw [List.length_append, hfl, <- List.length_append]; exact h4, by rw [List.length_append, hfl, <- List.length_append]; exact h5⟩⟩, by simp [h.len], fun k hk hk' => ?_, ?_⟩, he, dI _ _ _ _⟩
  ·have hk0 : k < css.length := by simpa using hk
   by_cases hik : i = k
   ·subst hik
    simp only [List.getElem_set_self]; exact hR
   ·simp only [List.getElem_set_ne hik]
    exact e.ext (h.row k hk0 (by simpa using hk')) he (fun q hq => h.sep q ⟨_, List.getElem_mem hk0, hq⟩)
  ·rintro k ⟨cs, hc, hk⟩
   rcases List.mem_or_eq_of_mem_set hc with h6 | rfl
   ·exact h.sep k ⟨cs, h6, hk⟩
   ·exact hf k hk
theorem snoc {T E : TypeId} {f : Nat × Nat} {z cs : List Value} {x : α} {r : Nat} {K : Slc -> World -> Prop} (h : Rows e w s xs css) (hz : z.length = e.n) (hx : e.R w x cs) (hfx : ∀ k, dT cs k -> ¬ aC s k)
  (hb : w.heap[r]? = some (.cells ⟨cs⟩ T f)) (hcf : clear f cs.length) (hlen : xs.length < 2 ^ 30)
  (hK : ∀ s' w', Rows e w' s' (xs ++ [x]) (css ++ [cs]) -> Ext (aC s) w w' -> (∀ k, aC s' k -> aC s k \/ w.heap.size <= k) -> K s' w') : bA e.n E z w s (.slc ⟨some ⟨r, 0, none⟩, 1, 1⟩) K := by
 have hl := h.sl
 have hn := e.len hx
 have hsrc : iW w e.n (.slc ⟨some ⟨r, 0, none⟩, 1, 1⟩) cs := kQ (Own.new (sz := e.n) (n := 1) hb hcf (by omega)).cells (by simp [hn])
 refine dP h.own e.pos hz hsrc (e.one hx) (by simp only [Src.n]; omega) (fun s' w' q1 q2 q3 q4 => hK s' w' ?_ q2 q3)
 refine ⟨by rw [List.flatten_append]; simpa using q1, by simp [h.len], fun i hi hi' => ?_, fun k hk => ?_⟩
 ·by_cases hik : i < css.length
  ·rw [List.getElem_append_left hik, List.getElem_append_left (by rw [<- h.len]; exact hik)]
   exact e.ext (h.row i hik (by rw [<- h.len]; exact hik)) q2 (fun k hk => h.sep k ⟨_, List.getElem_mem hik, hk⟩)
  ·have hie : i = css.length := by
    have h9 : (css ++ [cs]).length = css.length + 1 := by simp
    omega
   subst hie
   have hcl := h.len
   rw [List.getElem_append_right (by omega), List.getElem_append_right (by omega)]
   simp only [h.len, Nat.sub_self, List.getElem_cons_zero]
   exact e.ext hx q2 hfx
 ·intro ho
  obtain ⟨c, hc, hk⟩ := hk
  have hk2 : cY css k \/ dT cs k := by
   rcases List.mem_append.1 hc with h6 | h6
   ·exact .inl ⟨c, h6, hk⟩
   ·rw [List.mem_singleton] at h6; subst h6; exact .inr hk
  have hlt : k < w.heap.size := hk2.elim (h.flt k) (e.lt hx k)
  rcases q3 k ho with h7 | h7
  ·exact hk2.elim (fun h8 => h.sep k h8 h7) (fun h8 => hfx k h8 h7)
  ·omega
theorem cut {K : World -> Prop} {z : List Value} (h : Rows e w s xs css) {i : Nat} (hi : i < css.length) (hz : z.length = e.n) (hzo : ∀ v ∈ z, v.oneCell' = true)
  {E : TypeId} (hlen : xs.length <= 2 ^ 30) (hK : ∀ w', Rows e w' ⟨s.p, s.l - 1, s.c⟩ (xs.eraseIdx i) (css.eraseIdx i) -> Ext (aC s) w w' -> w'.heap.size = w.heap.size -> K w') :
  bA e.n E z w (Slc.sub s e.n 0 i s.c) (.slc (Slc.sub s e.n (i + 1) s.l s.c)) fun s7 w8 => s7 = ⟨s.p, s.l - 1, s.c⟩ /\ gi z w8 (Slc.sub s7 e.n s7.l s.l s7.c) fun w10 => K w10 := by
 have hls := h.lens
 have hlen2 := cE css hls
 have hsl := h.sl
 have hcap := h.cap
 have hcl := h.len
 have hpos := e.pos
 obtain ⟨h1, ⟨hp, h2, _⟩ | ⟨b, pad, T, f, hp, hb, h4, h5⟩⟩ := h.own
 ·exfalso
  rw [h2] at hlen2
  have := Nat.mul_pos (by omega : 0 < css.length) e.pos
  simp at hlen2; omega
 have hfl : css.flatten = (css.take i).flatten ++ (css[i] ++ (css.drop (i + 1)).flatten) := ja (n := e.n) css i hi
 have hci := hls _ (List.getElem_mem hi)
 have ht : (css.take i).flatten.length = i * e.n := by
  rw [cE (n := e.n) _ (fun c hc => hls c (List.mem_of_mem_take hc)), List.length_take]; congr 1; omega
 have hd : (css.drop (i + 1)).flatten.length = (css.length - (i + 1)) * e.n := by
  rw [cE (n := e.n) _ (fun c hc => hls c (List.mem_of_mem_drop hc)), List.length_drop]
 have hs1 : Slc.sub s e.n 0 i s.c = ⟨some ⟨b, 0, none⟩, i, s.c⟩ := by
  unfold Slc.sub
  rw [hp]
  split
  ·simp
  ·simp [add_lit]
 have hs2l : (Slc.sub s e.n (i + 1) s.l s.c).l = s.l - (i + 1) := rfl
 have hown : ∀ q, w.cell? ⟨b, q, none⟩ = (css.flatten ++ pad)[q]? := fun q => cell_of hb q
 have hc0 : cS w s.p css.flatten := h.own.cells
 have hsrc : iW w e.n (.slc (Slc.sub s e.n (i + 1) s.l s.c)) (css.drop (i + 1)).flatten := by
  refine ⟨by rw [hd, hs2l]; congr 1; omega, ?_⟩
  by_cases hl0 : i + 1 = css.length
  ·left; rw [List.drop_of_length_le (by omega)]; rfl
  ·right
   refine ⟨⟨b, (i + 1) * e.n, none⟩, ?_, fun q hq => ?_⟩
   ·unfold Slc.sub
    rw [hp]
    rw [if_neg (by omega)]
    simp [add_lit]
   ·rw [add_lit, hown]
    have e1 : (css.flatten ++ pad) = ((css.take i).flatten ++ css[i]) ++ ((css.drop (i + 1)).flatten ++ pad) := by rw [hfl]; simp
    rw [e1, List.getElem?_append_right (by rw [List.length_append, ht, hci, Nat.add_mul]; omega), List.getElem?_append_left (by rw [List.length_append, ht, hci, Nat.add_mul]; omega)]
    rw [List.getElem?_eq_getElem (by rw [List.length_append, ht, hci, Nat.add_mul]; omega)]
    congr 1
    congr 1
    rw [List.length_append, ht, hci, Nat.add_mul]; omega
 have hone : ∀ v ∈ (css.drop (i + 1)).flatten, v.oneCell' = true := by
  intro v hv
  obtain ⟨c, hc, hv⟩ := List.mem_flatten.1 hv
  obtain ⟨q, hq, rfl⟩ := List.getElem_of_mem (List.mem_of_mem_drop hc)
  exact e.one (h.row q hq (by omega)) v hv
 rw [hs1]
 refine ⟨(css.take i).flatten, (css.drop (i + 1)).flatten, ht, .inr ⟨_, rfl, fun q hq => ?_⟩, hsrc, hone, by simp only [Src.n]; rw [hs2l]; omega, ?_, ?_⟩
 ·rw [add_lit, Nat.zero_add, hown, hfl, List.append_assoc, List.getElem?_append_left hq, List.getElem?_eq_getElem hq]
 ·intro _ a ha
  cases ha
  rw [add_lit, Nat.zero_add]
  refine fG hb h5 _ _ ?_
  simp only [Src.n]
  rw [hs2l, h4, <- Nat.add_mul]
  exact Nat.mul_le_mul_right _ (by omega)
 ·intro s7 w8 hA
  rcases hA with ⟨hfit, rfl, rfl⟩ | ⟨hgrow, _⟩
  ·simp only [Src.n] at hfit ⊢
   rw [hs2l] at hfit ⊢
   have e3 : i + (s.l - (i + 1)) = s.l - 1 := by omega
   rw [e3]
   refine ⟨by rw [hp], ?_⟩
   have hh := bR (css.drop (i + 1)).flatten w (css.flatten ++ pad) (0 + i * e.n) 0 hb
   rw [<- add_lit b 0 (i * e.n)] at hh
   have e4 : setFrom (css.flatten ++ pad) (0 + i * e.n + 0) (css.drop (i + 1)).flatten = (css.eraseIdx i).flatten ++ (((css[i] ++ (css.drop (i + 1)).flatten).drop (css.drop (i + 1)).flatten.length) ++ pad) := by
    have e5 : 0 + i * e.n + 0 = (css.take i).flatten.length := by omega
    rw [e5, hfl, List.append_assoc, cM _ _ _ (by simp only [List.length_append]; omega), List.drop_append_of_le_length (by simp only [List.length_append]; omega)]
    rw [List.eraseIdx_eq_take_drop_succ, List.flatten_append]
   rw [e4] at hh
   generalize hw8 : setCells w (({ block := b, off := 0 } : Addr).add (i * e.n)) 0 (css.drop (i + 1)).flatten = w8 at hh ⊢
   have hE1 : Ext (aC s) w w8 := by
    rw [<- hw8]
    exact Ext.setCells (M := aC s) (a := (⟨b, 0, none⟩ : Addr).add (i * e.n)) ⟨_, hp, by rw [cD]⟩ _ 0 w
   have hz8 : w8.heap.size = w.heap.size := by rw [<- hw8]; exact dI _ _ _ _
   have hel : (css.eraseIdx i).length = css.length - 1 := List.length_eraseIdx_of_lt hi
   have hels : ∀ c ∈ css.eraseIdx i, c.length = e.n := fun c hc => hls c (List.mem_of_mem_eraseIdx hc)
   have hefl : (css.eraseIdx i).flatten.length = (css.length - 1) * e.n := by rw [cE _ hels, hel]
   generalize hG : (css[i] ++ (css.drop (i + 1)).flatten).drop (css.drop (i + 1)).flatten.length = G at hh
   have hGl : G.length = e.n := by rw [<- hG]; simp only [List.length_drop, List.length_append]; omega
   have hlen3 : (css.length - 1) * e.n + e.n = css.length * e.n := by
    have : css.length = (css.length - 1) + 1 := by omega
    conv => rhs; rw [this, Nat.add_mul]
    omega
   have htot : ((css.eraseIdx i).flatten ++ (G ++ pad)).length = (css.flatten ++ pad).length := by
    simp only [List.length_append, hefl, hGl, hlen2]; omega
   have hs3 : Slc.sub (⟨some ⟨b, 0, none⟩, s.l - 1, s.c⟩ : Slc) e.n (s.l - 1) s.l s.c = ⟨some ⟨b, (s.l - 1) * e.n, none⟩, 1, s.c - (s.l - 1)⟩ := by
    unfold Slc.sub
    rw [if_neg (by omega), show s.l - (s.l - 1) = 1 by omega]
    simp only [Option.map_some, add_lit, Nat.zero_add]
   unfold gi
   dsimp only at hs3 ⊢
   rw [hs3]
   dsimp only
   have hrz : bt 1 z = z := by simp [bt]
   rw [hrz, Nat.one_mul]
   have hoff : (s.l - 1) * e.n = (css.eraseIdx i).flatten.length := by rw [hefl, hsl, hcl]
   refine ⟨fG hh (by rw [htot]; exact h5) _ _ (by rw [htot, List.length_append, hlen2, hz]; rw [hsl, <- hcl]; omega), ?_⟩
   rintro w10 rfl
   have hh2 := bR z w8 _ ((s.l - 1) * e.n) 0 hh
   rw [Nat.add_zero, hoff, cM _ _ _ (by simp only [List.length_append]; omega), List.drop_append_of_le_length (by omega), List.drop_of_length_le (by omega), List.nil_append] at hh2
   rw [<- hoff] at hh2
   have hE2 : Ext (aC s) w8 (setCells w8 ⟨b, (s.l - 1) * e.n, none⟩ 0 z) := Ext.setCells (M := aC s) (a := (⟨b, (s.l - 1) * e.n, none⟩ : Addr)) ⟨_, hp, rfl⟩ _ 0 w8
   have hE : Ext (aC s) w (setCells w8 ⟨b, (s.l - 1) * e.n, none⟩ 0 z) := hE1.trans hE2 (fun _ h => h) (fun _ h => .inl h)
   have hxl : (xs.eraseIdx i).length = xs.length - 1 := List.length_eraseIdx_of_lt (by omega)
   refine hK _ ⟨⟨by rw [hefl]; show (s.l - 1) * e.n = _; rw [hsl, hcl], .inr ⟨b, z ++ pad, T, f, hp, by simpa using hh2, ?_, ?_⟩⟩, by rw [hel, hxl, hcl], fun q hq hq' => ?_, fun k hk => ?_⟩ hE (by rw [dI, hz8])
   ·have : ((css.eraseIdx i).flatten ++ (z ++ pad)).length = (css.flatten ++ pad).length := by simp only [List.length_append, hefl, hz, hlen2]; omega
    rw [this]; exact h4
   ·have : ((css.eraseIdx i).flatten ++ (z ++ pad)).length = (css.flatten ++ pad).length := by simp only [List.length_append, hefl, hz, hlen2]; omega
    rw [this]; exact h5
   ·have hin : ∀ (q' : Nat) (hq' : q' < css.length) (hq'' : q' < xs.length), e.R (setCells w8 ⟨b, (s.l - 1) * e.n, none⟩ 0 z) xs[q'] css[q'] := fun q' a1 a2 =>
     e.ext (h.row q' a1 a2) hE (fun k hk => h.sep k ⟨_, List.getElem_mem a1, hk⟩)
    simp only [List.getElem_eraseIdx]
    split
    ·exact hin _ _ _
    ·exact hin _ _ _
   ·intro ho
    obtain ⟨c, hc, hk⟩ := hk
    exact h.sep k ⟨c, List.mem_of_mem_eraseIdx hc, hk⟩ ho
  ·exfalso
   simp only [Src.n] at hgrow
   rw [hs2l] at hgrow
   omega
theorem clone {T E : TypeId} {z : List Value} {r : Nat} {K : Slc -> World -> Prop} (h : Rows e w s xs css) (hz : z.length = e.n) (hb : w.heap[r]? = some (.cells ⟨[]⟩ T)) (hr : ¬ cY css r) (hlen : xs.length <= 2 ^ 30)
  (hK : ∀ s' w', Rows e w' s' xs css -> Ext (fun k => k = r) w w' -> (∀ k, aC s' k -> k = r \/ w.heap.size <= k) -> K s' w') : bA e.n E z w ⟨some ⟨r, 0, none⟩, 0, 0⟩ (.slc s) K := by
 have hl := h.sl
 have hown : ∀ k, aC ⟨some ⟨r, 0, none⟩, 0, 0⟩ k -> k = r := by rintro k ⟨a, ha, rfl⟩; cases ha; rfl
 have hone : ∀ v ∈ css.flatten, v.oneCell' = true := by
  intro v hv
  obtain ⟨c, hc, hv⟩ := List.mem_flatten.1 hv
  obtain ⟨q, hq, rfl⟩ := List.getElem_of_mem hc
  exact e.one (h.row q hq (by rw [<- h.len]; exact hq)) v hv
 refine dP (vs := []) (Own.new (sz := e.n) (n := 0) hb (.inl (by simp)) (by simp)) e.pos hz (kQ h.own.cells h.own.1.symm) hone (by simp only [Src.n]; omega) (fun s' w' q1 q2 q3 q4 => ?_)
 have q2' : Ext (fun k => k = r) w w' := q2.mono hown
 refine hK s' w' ⟨by simpa using q1, h.len, fun i hi hi' => e.ext (h.row i hi hi') q2' (fun k hk hh => hr (hh ▸ ⟨_, List.getElem_mem hi, hk⟩)), fun k hk hh => ?_⟩ q2' (fun k hk => (q3 k hk).imp (hown k) (fun h => h))
 rcases q3 k hh with h1 | h1
 ·exact hr (hown k h1 ▸ hk)
 ·have := h.flt k hk; omega
end Rows
end Go.D

