/-
  WHAT IS PROVED: contracts of functions, and the plain law, for this proof. No further conditions.
-/
import Derived.Test.YtkcobfichmjbdaaDoorVote2
set_option linter.unusedVariables false
set_option linter.unusedSimpArgs false
namespace Go.D
open Go Go.Proofs

structure Ans where
  (f : Int) (y : Bool) (b : Int) (t : List UInt8)
abbrev Ans.cells (a : Ans) : List Value := [.int .i64 a.f, .bool a.y, .int .i64 a.b, strV a.t]
def ansC (l : List Ans) : List Value := l.flatMap Ans.cells

theorem flat_get {α : Type} (f : α → List Value) (n : Nat) (hf : ∀ a, (f a).length = n) : ∀ (l : List α) (i j : Nat) (hi : i < l.length), j < n → (l.flatMap f)[i * n + j]? = (f l[i])[j]?
  | a :: l, 0, j, hi, hj => by
    rw [List.flatMap_cons, Nat.zero_mul, Nat.zero_add, List.getElem?_append_left (by rw [hf]; exact hj)]; rfl
  | a :: l, i + 1, j, hi, hj => by
    have e : (i + 1) * n + j = (f a).length + (i * n + j) := by rw [hf, Nat.add_mul]; omega
    rw [List.flatMap_cons, e, List.getElem?_append_right (by omega), Nat.add_sub_cancel_left, flat_get f n hf l i j (by simpa using hi) hj]
    rfl
theorem flat_len {α : Type} (f : α → List Value) (n : Nat) (hf : ∀ a, (f a).length = n) (l : List α) : (l.flatMap f).length = l.length * n := by
  induction l with
  | nil => simp
  | cons a l ih => rw [List.flatMap_cons, List.length_append, ih, hf, List.length_cons, Nat.add_mul]; omega
theorem flat_row {α : Type} (f : α → List Value) (n : Nat) (hf : ∀ a, (f a).length = n) {w : World} {s : Slc} {l : List α} (h0 : Own w s n (l.flatMap f)) {i : Nat} (hi : i < l.length) (hn : 0 < n) :
    ∃ a, s.p = some a ∧ rowAt w (a.add (i * n)) 0 (f l[i]) := by
  have hlen := flat_len f n hf l
  have h := h0.cells
  have hb : ∀ j, j < n → i * n + j < (l.flatMap f).length := fun j hj => by
    rw [hlen]
    have : (i + 1) * n ≤ l.length * n := Nat.mul_le_mul_right _ hi
    rw [Nat.add_mul] at this; omega
  obtain ⟨a, ha, _⟩ := cellsAt_get h (hb 0 hn)
  have hsp : a.spot = none := by
    obtain ⟨_, ⟨hp, _⟩ | ⟨b, pad, T, f, hp, _⟩⟩ := h0
    · rw [hp] at ha; cases ha
    · rw [hp] at ha; cases ha; rfl
  refine ⟨a, ha, rowAt_of fun j hj => ?_⟩
  rw [hf] at hj
  obtain ⟨a', ha', hc⟩ := cellsAt_get h (hb j hj)
  rw [ha] at ha'
  cases ha'
  have e := flat_get f n hf l i j hi hj
  rw [List.getElem?_eq_getElem (hb j hj), List.getElem?_eq_getElem (by rw [hf]; exact hj)] at e
  have e2 : (a.add (i * n)).add (0 + j) = a.add (i * n + j) := by
    rw [Nat.zero_add]; exact addr_add_add a (i * n) j hsp
  rw [e2, hc, Option.some.inj e]
theorem ans_row {w : World} {s : Slc} {l : List Ans} (h : Own w s 4 (ansC l)) {i : Nat} (hi : i < l.length) : ∃ a, s.p = some a ∧ rowAt w (a.add (i * 4)) 0 l[i].cells :=
  flat_row Ans.cells 4 (fun _ => rfl) h hi (by omega)
theorem ansC_append (l m : List Ans) : ansC (l ++ m) = ansC l ++ ansC m := by simp [ansC]
theorem ans_one (l : List Ans) : ∀ v ∈ ansC l, v.oneCell' = true := by
  intro v hv
  obtain ⟨a, _, ha⟩ := List.mem_flatMap.1 hv
  simp only [Ans.cells, List.mem_cons, List.not_mem_nil, or_false] at ha
  rcases ha with rfl | rfl | rfl | rfl <;> rfl

/-- The first answer of each voter. -/
def oldA (n : Int) (out : List Ans) (a : Ans) : Bool := decide (a.f < 0) || decide (n ≤ a.f) || out.any fun b => decide (b.f = a.f)
def firstA (n : Int) (out : List Ans) (a : Ans) : List Ans := if oldA n out a = true then out else out ++ [a]
def firstsA (n : Int) (l : List Ans) : List Ans := l.foldl (firstA n) []
theorem firstsA_snoc (n : Int) (l : List Ans) (a : Ans) : firstsA n (l ++ [a]) = firstA n (firstsA n l) a := by simp [firstsA]
theorem firstsA_len (n : Int) (l : List Ans) : (firstsA n l).length ≤ l.length := by
  have : ∀ (l : List Ans) (o : List Ans), (l.foldl (firstA n) o).length ≤ o.length + l.length := by
    intro l
    induction l with
    | nil => intro o; simp
    | cons a l ih =>
      intro o
      have := ih (firstA n o a)
      have h2 : (firstA n o a).length ≤ o.length + 1 := by rw [firstA]; split <;> simp
      simp only [List.foldl_cons, List.length_cons]; omega
  have h := this l []
  simp only [List.length_nil, Nat.zero_add] at h
  exact h

theorem own_len4 {w : World} {s : Slc} {l : List Ans} (h : Own w s 4 (ansC l)) : s.l = l.length := by
  have h1 := h.1
  rw [show (ansC l).length = l.length * 4 from flat_len Ans.cells 4 (fun _ => rfl) l] at h1
  omega

theorem firsts_spec (r : Nat) (n : Int) (rest : List Value) (s : Slc) (l : List Ans) (w : World) (ho : ObjAt w r (.int .i64 n :: rest)) (hc : Own w s 4 (ansC l)) (hl : l.length ≤ 2 ^ 20) :
    Calls Tryd.prog fn_tidewaterref11_Proposer_firsts ⟨[.pointer (some ⟨r, 0, none⟩), s.v]⟩ w fun e w' => ∃ t : Slc, e = .returned t.v ∧ Own w' t 4 (ansC (firstsA n l)) ∧ Fresh w t ∧ Keep w w' := by
  have hs := own_len4 hc
  refine tidewaterref11_Proposer_firsts_ok _ _ ?_
  unfold tidewaterref11_Proposer_firsts
  refine newS_mk (fun r3 w4 hr3 hb3 k4 hs4 => ?_)
  refine ⟨fun out i w9 => ∃ k : Nat, i = k ∧ k ≤ l.length ∧ Own w9 out 4 (ansC (firstsA n (l.take k))) ∧ Fresh w out ∧ Keep w w9, fun _ i _ => ((l.length : Int) - i).toNat, ⟨0, rfl, by omega, Own.new (sz := 4) (n := 0) hb3 (.inl (by simp)) rfl, Fresh.at (by omega), k4⟩, ?_⟩
  rintro out i w9 ⟨k, rfl, hk, hout, hfr, hkp⟩
  intros
  have hol := own_len4 hout
  have hfl := firstsA_len n (l.take k)
  have htl : (l.take k).length ≤ l.length := by simp; omega
  refine BIf_dec (fun hlt => ?_) (fun hlt => ?_)
  · have hkl : k < l.length := by omega
    obtain ⟨a, ha, hrow⟩ := ans_row (hc.keep hkp) hkl
    have htk : l.take (k + 1) = l.take k ++ [l[k]] := List.take_succ_eq_append_getElem hkl
    refine needSome_mk ha ⟨by omega, hlt, _, _, _, _, by rw [show Int.toNat (k : Int) * 4 = k * 4 by omega]; exact hrow, ?_⟩
    generalize l[k] = x at hrow htk ⊢
    refine var_mk rfl rfl (fun r55 w57 hr55 o57 k57' hs57 => ?_)
    have k57 := hkp.trans k57'
    have kd := k57.drew
    have od := o57.keep (Ext.drew _ w57)
    have hor := ho.keep kd
    refine ⟨fun b w2 => w2 = w57.drew ∧ b = (decide (x.f < 0) || decide (n ≤ x.f)), ⟨_, od.cell 0 (by simp), BIf_dec (fun h1 => ⟨rfl, ?_⟩) (fun h1 => ⟨_, od.cell 0 (by simp), needSome_mk rfl ⟨n, hor.cell 0 (by simp), rfl, ?_⟩⟩)⟩, ?_⟩
    · have h1 : x.f < 0 := h1
      rw [decide_eq_true h1]; rfl
    · have h1 : ¬ x.f < 0 := h1
      rw [decide_eq_false h1]; rfl
    · rintro old w64 ⟨rfl, rfl⟩
      intros
      have ob64 : ∀ {w2 : World}, Keep w57.drew w2 → ObjAt w2 r55 x.cells := fun h => od.keep h
      refine ⟨fun b j w2 => ∃ m : Nat, j = m ∧ m ≤ (firstsA n (l.take k)).length ∧ Keep w57.drew w2 ∧ b = (decide (x.f < 0) || decide (n ≤ x.f) || ((firstsA n (l.take k)).take m).any fun b => decide (b.f = x.f)),
        fun _ j _ => (((firstsA n (l.take k)).length : Int) - j).toNat, ⟨0, rfl, by omega, Ext.refl _ _, by simp⟩, ?_⟩
      rintro b j w81 ⟨m, rfl, hm, k81, rfl⟩
      intros
      have kw81 := kd.trans k81
      have k9_81 := (k57'.drew).trans k81
      have hout81 := hout.keep k9_81
      refine BIf_dec (fun hlt2 => ?_) (fun hlt2 => ?_)
      · have hml : m < (firstsA n (l.take k)).length := by omega
        obtain ⟨a2, ha2, hrow2⟩ := ans_row hout81 hml
        have htm : (firstsA n (l.take k)).take (m + 1) = (firstsA n (l.take k)).take m ++ [(firstsA n (l.take k))[m]] := List.take_succ_eq_append_getElem hml
        refine needSome_mk ha2 ⟨by omega, hlt2, _, _, _, _, by rw [show Int.toNat (m : Int) * 4 = m * 4 by omega]; exact hrow2, ?_⟩
        generalize (firstsA n (l.take k))[m] = y at hrow2 htm ⊢
        refine var_mk rfl rfl (fun r100 w102 hr100 o102 k102 hs102 => ?_)
        have k102' := k81.trans k102
        refine BIf_mk (fun hb => ?_) (fun hb => ?_)
        · refine ⟨inR64 (by omega), ⟨m + 1, rfl, hml, k102', ?_⟩, by dsimp only; omega⟩
          rw [htm, List.any_append, ← Bool.or_assoc, hb, Bool.true_or]
        · refine ⟨_, o102.cell 0 (by simp), _, (ob64 k102').cell 0 (by simp), inR64 (by omega), ⟨m + 1, rfl, hml, k102', ?_⟩, by dsimp only; omega⟩
          rw [htm, List.any_append, ← Bool.or_assoc, hb, Bool.false_or]
          simp
      · have hml : m = (firstsA n (l.take k)).length := by omega
        subst hml
        rw [List.take_length]
        have eold : (decide (x.f < 0) || decide (n ≤ x.f) || (firstsA n (l.take k)).any fun b => decide (b.f = x.f)) = oldA n (firstsA n (l.take k)) x := rfl
        rw [eold]
        refine BIf_mk (fun hb => ?_) (fun hb => ?_)
        · have hb : oldA n (firstsA n (l.take k)) x = false := by simpa using hb
          refine ⟨_, _, _, _, (ob64 k81).row, newS_mk (fun r109 w110 hr109 hb109 k110 hs110 => ?_)⟩
          have hsrc : srcAt w110 4 (.slc ⟨some ⟨r109, 0, none⟩, 1, 1⟩) (ansC [x]) := srcAt_slc (Own.new (sz := 4) (n := 1) hb109 (.inl (by simp)) rfl).cells rfl
          refine appendS_own (hout81.keep k110) (by omega) rfl hsrc (ans_one _) (by simp only [Src.n]; omega) (fun s111 w112 g1 g2 g3 g4 => ?_)
          have kw110 := kw81.trans k110
          refine ⟨inR64 (by omega), ⟨k + 1, rfl, hkl, ?_, fun b hb2 => ?_, kw110.ext g2 (fun k hk => hfr k hk)⟩, by dsimp only; omega⟩
          · rw [htk, firstsA_snoc, firstA, hb, if_neg (by simp), ansC_append]
            exact g1
          · rcases g3 b hb2 with h | h
            · exact hfr b h
            · have := kw110.size; omega
        · have hb : oldA n (firstsA n (l.take k)) x = true := by simpa using hb
          refine ⟨inR64 (by omega), ⟨k + 1, rfl, hkl, ?_, hfr, kw81⟩, by dsimp only; omega⟩
          rw [htk, firstsA_snoc, firstA, if_pos hb]
          exact hout81
  · have : k = l.length := by omega
    subst this
    rw [List.take_length] at hout
    exact ⟨out, rfl, hout, hfr, hkp⟩

/-- What is asked: how many said yes, the greatest ballot that was told, the text. -/
structure AskS where
  (n : Nat) (g : Int) (t : List UInt8)
def askA (v : Int) (s : AskS) (a : Ans) : AskS :=
  if a.y = false ∨ v < 2 * (s.n : Int) then s else if s.g < a.b then ⟨s.n + 1, a.b, a.t⟩ else ⟨s.n + 1, s.g, s.t⟩
def askL (v : Int) (t : List UInt8) (l : List Ans) : AskS := l.foldl (askA v) ⟨0, -1, t⟩
theorem askL_snoc (v : Int) (t : List UInt8) (l : List Ans) (a : Ans) : askL v t (l ++ [a]) = askA v (askL v t l) a := by simp [askL]
theorem askA_n (v : Int) (s : AskS) (a : Ans) : (askA v s a).n ≤ s.n + 1 := by
  rw [askA]; split <;> try split
  all_goals simp
theorem askL_n (v : Int) (t : List UInt8) (l : List Ans) : (askL v t l).n ≤ l.length := by
  have : ∀ (l : List Ans) (s : AskS), (l.foldl (askA v) s).n ≤ s.n + l.length := by
    intro l
    induction l with
    | nil => intro s; simp
    | cons a l ih => intro s; have := ih (askA v s a); have := askA_n v s a; simp only [List.foldl_cons, List.length_cons]; omega
  have h := this l ⟨0, -1, t⟩
  simp only [Nat.zero_add] at h
  exact h
def yesL (l : List Ans) : Nat := l.countP (·.y)
theorem yesL_snoc (l : List Ans) (a : Ans) : yesL (l ++ [a]) = yesL l + (if a.y = true then 1 else 0) := by
  rw [yesL, List.countP_append, yesL, List.countP_singleton]

/-- The model of a proposer. -/
structure RfS where
  (n : Int) (t : List UInt8) (ans acc : List Ans)
structure RefAt (w : World) (r : Nat) (sa sc : Slc) (m : RfS) : Prop where
  o : ObjAt w r [.int .i64 m.n, strV m.t, sa.v, sc.v]
  a : Own w sa 4 (ansC m.ans)
  c : Own w sc 4 (ansC m.acc)
  ne : ¬ ownB sa r ∧ ¬ ownB sc r ∧ ∀ k, ownB sa k → ¬ ownB sc k
def RefM (r : Nat) (sa sc : Slc) (k : Nat) : Prop := k = r ∨ ownB sa k ∨ ownB sc k
theorem RefAt.ext {N : Nat → Prop} {w w' : World} {r : Nat} {sa sc : Slc} {m : RfS} (h : RefAt w r sa sc m) (he : Ext N w w') (hm : ∀ k, RefM r sa sc k → ¬ N k) : RefAt w' r sa sc m :=
  ⟨h.o.ext he (hm r (.inl rfl)), h.a.ext he (fun k hk => hm k (.inr (.inl hk))), h.c.ext he (fun k hk => hm k (.inr (.inr hk))), h.ne⟩
theorem RefAt.keep {w w' : World} {r : Nat} {sa sc : Slc} {m : RfS} (h : RefAt w r sa sc m) (he : Keep w w') : RefAt w' r sa sc m := h.ext he (fun _ _ h => h)
theorem RefAt.lt {w : World} {r : Nat} {sa sc : Slc} {m : RfS} (h : RefAt w r sa sc m) : ∀ k, RefM r sa sc k → k < w.heap.size := by
  rintro k (rfl | hk | hk)
  · exact h.o.lt
  · exact OwnLt h.a k hk
  · exact OwnLt h.c k hk
def RfS.asks (m : RfS) : AskS := askL m.n m.t (firstsA m.n m.ans)
def RfS.done (m : RfS) : Nat := yesL (firstsA m.n m.acc)

theorem refAsks_spec (r : Nat) (sa sc : Slc) (m : RfS) (w : World) (h : RefAt w r sa sc m) (hl : m.ans.length ≤ 2 ^ 20) :
    Calls Tryd.prog fn_tidewaterref11_Proposer_Asks ⟨[.pointer (some ⟨r, 0, none⟩)]⟩ w fun e w' => e = .returned (.tuple ⟨[strV (if m.n < 2 * (m.asks.n : Int) then m.asks.t else []), .bool (decide (m.n < 2 * (m.asks.n : Int)))]⟩) ∧ Keep w w' := by
  refine tidewaterref11_Proposer_Asks_ok _ ?_
  unfold tidewaterref11_Proposer_Asks
  have kd : Keep w w.drew := Ext.drew _ _
  have hd := h.keep kd
  refine needSome_mk rfl ⟨m.t, by rw [add_lit]; exact hd.o.cell 1 (by simp), needSome_mk rfl ⟨sa, by rw [add_lit]; exact hd.o.cell 2 (by simp), ?_⟩⟩
  refine (firsts_spec r m.n _ sa m.ans w.drew hd.o hd.a hl).mono ?_
  rintro e w7 ⟨s8, rfl, h8, f8, k8⟩
  have hsl := own_len4 h8
  have hfl := firstsA_len m.n m.ans
  generalize hL : firstsA m.n m.ans = L at h8 hsl hfl
  have easks : m.asks = askL m.n m.t L := by rw [RfS.asks, hL]
  rw [easks]
  refine ⟨s8, rfl, fun n g t i w15 => ∃ k : Nat, i = k ∧ k ≤ L.length ∧ n = ((askL m.n m.t (L.take k)).n : Int) ∧ g = (askL m.n m.t (L.take k)).g ∧ t = (askL m.n m.t (L.take k)).t ∧ Keep w7 w15, fun _ _ _ i _ => ((L.length : Int) - i).toNat, ⟨0, rfl, by omega, rfl, rfl, rfl, Ext.refl _ _⟩, ?_⟩
  rintro n g t i w15 ⟨k, rfl, hk, rfl, rfl, rfl, k15⟩
  intros
  have h15 := h8.keep k15
  have o15 := hd.keep (k8.trans k15)
  have hn := askL_n m.n m.t (L.take k)
  have htl : (L.take k).length ≤ L.length := by simp; omega
  refine BIf_dec (fun hlt => ?_) (fun hlt => ?_)
  · have hkl : k < L.length := by omega
    obtain ⟨a, ha, hrow⟩ := ans_row h15 hkl
    have htk : L.take (k + 1) = L.take k ++ [L[k]] := List.take_succ_eq_append_getElem hkl
    refine needSome_mk ha ⟨by omega, hlt, _, _, _, _, by rw [show Int.toNat (k : Int) * 4 = k * 4 by omega]; exact hrow, ?_⟩
    generalize L[k] = x at hrow htk ⊢
    refine var_mk rfl rfl (fun r48 w50 hr48 o50 k50' hs50 => ?_)
    have k50 := k15.trans k50'
    have next : ∀ (w2 : World) (n' g' : Int) (t' : List UInt8) (s' : AskS), Keep w7 w2 → askA m.n (askL m.n m.t (L.take k)) x = s' → n' = (s'.n : Int) → g' = s'.g → t' = s'.t →
        inR .i64 ((k : Int) + 1) ∧ (∃ k' : Nat, ((k : Int) + 1) = k' ∧ k' ≤ L.length ∧ n' = ((askL m.n m.t (L.take k')).n : Int) ∧ g' = (askL m.n m.t (L.take k')).g ∧ t' = (askL m.n m.t (L.take k')).t ∧ Keep w7 w2) ∧
          ((L.length : Int) - ((k : Int) + 1)).toNat < ((L.length : Int) - (k : Int)).toNat := by
      intro w2 n' g' t' s' k2 hs' h1 h2 h3
      refine ⟨inR64 (by omega), ⟨k + 1, rfl, hkl, ?_, ?_, ?_, k2⟩, by omega⟩ <;> rw [htk, askL_snoc, hs'] <;> assumption
    generalize askL m.n m.t (L.take k) = st at hn next ⊢
    refine ⟨fun w2 => w2 = w50 ∧ ¬ (x.y = false ∨ m.n < 2 * (st.n : Int)), ⟨_, o50.cell 1 (by simp), ?_⟩, ?_⟩
    · refine BIf_mk (fun hy => ?_) (fun hy => ?_)
      · have hy : x.y = false := by simpa using hy
        exact next w50 _ _ _ st k50 (by rw [askA, if_pos (.inl hy)]) rfl rfl rfl
      · have hy : x.y = true := by simpa using hy
        refine ⟨inR64 (by omega), needSome_mk rfl ⟨m.n, (o15.keep k50').o.cell 0 (by simp), BIf_dec (fun hm => ?_) (fun hm => ⟨rfl, by rw [hy]; simp; omega⟩)⟩⟩
        exact next w50 _ _ _ st k50 (by rw [askA, if_pos (.inr hm)]) rfl rfl rfl
    · rintro w55 ⟨rfl, hno⟩
      intros
      refine ⟨inR64 (by omega), _, o50.cell 2 (by simp), BIf_dec (fun hg => ?_) (fun hg => ?_)⟩
      · have hg : st.g < x.b := hg
        have od := o50.keep (Ext.drew _ w55)
        refine ⟨x.b, od.cell 2 (by simp), x.t, od.cell 3 (by simp), ?_⟩
        exact next _ ((st.n : Int) + 1) _ _ ⟨st.n + 1, x.b, x.t⟩ k50.drew (by rw [askA, if_neg hno, if_pos hg]) (by show ((st.n : Int) + 1) = ((st.n + 1 : Nat) : Int); omega) rfl rfl
      · have hg : ¬ st.g < x.b := hg
        exact next _ ((st.n : Int) + 1) _ _ ⟨st.n + 1, st.g, st.t⟩ k50 (by rw [askA, if_neg hno, if_neg hg]) (by show ((st.n : Int) + 1) = ((st.n + 1 : Nat) : Int); omega) rfl rfl
  · have : k = L.length := by omega
    subst this
    rw [List.take_length] at hn ⊢
    refine ⟨inR64 (by omega), needSome_mk rfl ⟨m.n, o15.o.cell 0 (by simp), BIf_dec (fun hm => ⟨?_, kd.trans (k8.trans k15)⟩) (fun hm => ⟨?_, kd.trans (k8.trans k15)⟩)⟩⟩
    · rw [if_neg (by omega), decide_eq_false (by omega)]
    · rw [if_pos (by omega), decide_eq_true (by omega)]

theorem refAccepted_spec (r : Nat) (sa sc : Slc) (m : RfS) (i : Int) (y : Bool) (w : World) (h : RefAt w r sa sc m) (hl : m.ans.length ≤ 2 ^ 20 ∧ m.acc.length ≤ 2 ^ 20) :
    Calls Tryd.prog fn_tidewaterref11_Proposer_Accepted ⟨[.pointer (some ⟨r, 0, none⟩), .int .i64 i, .bool y]⟩ w fun e w' => e = .returned (.tuple #[]) ∧
      ∃ sc', RefAt w' r sa sc' (if m.n < 2 * (m.asks.n : Int) then { m with acc := m.acc ++ [⟨i, y, 0, []⟩] } else m) ∧ Foot (RefM r sa sc) (RefM r sa sc') w w' := by
  refine tidewaterref11_Proposer_Accepted_ok _ _ _ ?_
  unfold tidewaterref11_Proposer_Accepted
  refine (refAsks_spec r sa sc m w h hl.1).mono ?_
  rintro e w5 ⟨rfl, k5⟩
  have h5 := h.keep k5
  refine ⟨_, _, rfl, BIf_dec (fun hm => ?_) (fun hm => ?_)⟩
  · rw [if_pos hm]
    refine needSome_mk rfl ⟨sc, by rw [add_lit]; exact h5.o.cell 3 (by simp), newS_mk (fun r10 w11 hr10 hb10 k11 hs11 => ?_)⟩
    have h11 := h5.keep k11
    have hsl := own_len4 h11.c
    have hsrc : srcAt w11 4 (.slc ⟨some ⟨r10, 0, none⟩, 1, 1⟩) (ansC [⟨i, y, 0, []⟩]) := srcAt_slc (Own.new (sz := 4) (n := 1) hb10 (.inl (by simp)) rfl).cells rfl
    refine appendS_own h11.c (by omega) rfl hsrc (ans_one _) (by simp only [Src.n]; omega) (fun s12 w13 g1 g2 g3 g4 => ?_)
    have ho := h11.o.ext g2 h.ne.2.1
    obtain ⟨d1, d2⟩ := ho.setOne 3 (by simp) s12.v
    refine needSome_mk rfl ?_
    rw [add_lit]
    refine ⟨d1, fun w15 hw => ?_⟩
    obtain ⟨f1, f2, f3⟩ := d2 w15 hw
    have hlt := h11.lt
    have hr12 : ¬ ownB s12 r := fun hk => (g3 r hk).elim h.ne.2.1 (fun h1 => by have := hlt r (.inl rfl); omega)
    have k511 := k5.trans k11
    refine ⟨rfl, s12, ⟨f1, (h11.a.ext g2 (fun k hk => h.ne.2.2 k hk)).ext f2 (fun k hk hh => h.ne.1 (hh ▸ hk)), ?_, h.ne.1, hr12, fun k hk hk2 => ?_⟩, ?_, ?_⟩
    · rw [ansC_append]; exact g1.ext f2 (fun k hk hh => hr12 (hh ▸ hk))
    · rcases g3 k hk2 with h1 | h1
      · exact h.ne.2.2 k hk h1
      · have := OwnLt h11.a k hk; omega
    · refine (Ext.trans (M1 := none0) k511 g2 (fun _ h => h.elim) (fun k hk => .inl (.inr (.inr hk)))).trans f2 (fun _ h => h) (fun k hk => .inl (.inl hk))
    · rintro k (rfl | hk | hk)
      · exact .inl (.inl rfl)
      · exact .inl (.inr (.inl hk))
      · rcases g3 k hk with h1 | h1
        · exact .inl (.inr (.inr h1))
        · have := k511.size; exact .inr (by omega)
  · rw [if_neg hm]
    exact ⟨rfl, sc, h5, Keep.foot k5 (Foot.refl _ _)⟩

theorem refDecided_spec (r : Nat) (sa sc : Slc) (m : RfS) (w : World) (h : RefAt w r sa sc m) (hl : m.ans.length ≤ 2 ^ 20 ∧ m.acc.length ≤ 2 ^ 20) :
    Calls Tryd.prog fn_tidewaterref11_Proposer_Decided ⟨[.pointer (some ⟨r, 0, none⟩)]⟩ w fun e w' => e = .returned (.tuple ⟨[strV (if m.n < 2 * (m.done : Int) then (if m.n < 2 * (m.asks.n : Int) then m.asks.t else []) else []), .bool (decide (m.n < 2 * (m.done : Int)))]⟩) ∧ Keep w w' := by
  refine tidewaterref11_Proposer_Decided_ok _ ?_
  unfold tidewaterref11_Proposer_Decided
  refine needSome_mk rfl ⟨sc, by rw [add_lit]; exact h.o.cell 3 (by simp), ?_⟩
  refine (firsts_spec r m.n _ sc m.acc w h.o h.c hl.2).mono ?_
  rintro e w7 ⟨s8, rfl, h8, f8, k8⟩
  have hsl := own_len4 h8
  have hfl := firstsA_len m.n m.acc
  generalize hL : firstsA m.n m.acc = L at h8 hsl hfl
  have edone : m.done = yesL L := by rw [RfS.done, hL]
  rw [edone]
  refine ⟨s8, rfl, fun n i w15 => ∃ k : Nat, i = k ∧ k ≤ L.length ∧ n = (yesL (L.take k) : Int) ∧ Keep w7 w15, fun _ i _ => ((L.length : Int) - i).toNat, ⟨0, rfl, by omega, rfl, Ext.refl _ _⟩, ?_⟩
  rintro n i w15 ⟨k, rfl, hk, rfl, k15⟩
  intros
  have h15 := h8.keep k15
  have o15 := h.keep (k8.trans k15)
  have hn : yesL (L.take k) ≤ (L.take k).length := List.countP_le_length
  have htl : (L.take k).length ≤ L.length := by simp; omega
  refine BIf_dec (fun hlt => ?_) (fun hlt => ?_)
  · have hkl : k < L.length := by omega
    obtain ⟨a, ha, hrow⟩ := ans_row h15 hkl
    have htk : L.take (k + 1) = L.take k ++ [L[k]] := List.take_succ_eq_append_getElem hkl
    refine needSome_mk ha ⟨by omega, hlt, _, _, _, _, by rw [show Int.toNat (k : Int) * 4 = k * 4 by omega]; exact hrow, ?_⟩
    generalize L[k] = x at hrow htk ⊢
    refine var_mk rfl rfl (fun r48 w50 hr48 o50 k50' hs50 => ⟨_, o50.cell 1 (by simp), ?_⟩)
    have k50 := k15.trans k50'
    refine BIf_mk (fun hy => ?_) (fun hy => ?_)
    · have hy : x.y = true := hy
      refine ⟨inR64 (by omega), inR64 (by omega), ⟨k + 1, rfl, hkl, ?_, k50⟩, by dsimp only; omega⟩
      rw [htk, yesL_snoc, if_pos hy]; omega
    · have hy : x.y = false := hy
      refine ⟨inR64 (by omega), ⟨k + 1, rfl, hkl, ?_, k50⟩, by dsimp only; omega⟩
      rw [htk, yesL_snoc, if_neg (by rw [hy]; simp)]; omega
  · have : k = L.length := by omega
    subst this
    rw [List.take_length] at hn ⊢
    refine ⟨inR64 (by omega), needSome_mk rfl ⟨m.n, o15.o.cell 0 (by simp), BIf_dec (fun hm => ⟨?_, k8.trans k15⟩) (fun hm => ?_)⟩⟩
    · rw [if_neg (by omega), decide_eq_false (by omega)]
    · refine (refAsks_spec r sa sc m w15 o15 hl.1).mono ?_
      rintro e w33 ⟨rfl, k33⟩
      refine ⟨_, _, rfl, ?_, (k8.trans k15).trans k33⟩
      rw [if_pos (by omega : m.n < 2 * (yesL L : Int)), decide_eq_true (by omega : m.n < 2 * (yesL L : Int))]
end Go.D
