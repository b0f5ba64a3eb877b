/-
  WHAT IS PROVED: contracts of functions, and the plain law, for this proof. No further conditions.
-/
import Derived.Test.YtkcobfichmjbdaaDoorVote5
set_option linter.unusedVariables false
set_option linter.unusedSimpArgs false
namespace Go.D
open Go Go.Proofs

/-- Voters and sides in memory; each block bears the number of its owner. -/
structure MQ (X : Nat → List Value → Prop) (w0 w : World) (c r16 r19 : Nat) (vb : Nat → Nat) (lab : Nat → Nat) (f : Nat → VS) (P : Nat → Option Nat) (B : Nat → Int) (S : Nat → PS) : Prop where
  kp : Keep w0 w
  o16 : ObjAt w r16 (voteC vb)
  o19 : ObjAt w r19 (sideC P B)
  l16 : lab r16 = 7 ∧ w0.heap.size ≤ r16
  l19 : lab r19 = 8 ∧ w0.heap.size ≤ r19
  v : ∀ k, k < 5 → ∃ F g, VoterAt w (vb k) F g ∧ g 1 = f k ∧ ∀ b, F b → lab b = k + 1 ∧ w0.heap.size ≤ b ∧ b < w.heap.size
  p : ∀ i, i < c → B i = (S i).b ∧ ∃ r rp ra, P i = some r ∧ PropAt w r rp ra (S i) ∧ ∀ b, PropM r rp ra b → lab b = 10 + i ∧ w0.heap.size ≤ b
  x : ∀ r cs, X r cs → ObjAt w r cs ∧ lab r = 9 ∧ w0.heap.size ≤ r

theorem MQ.keep {X : Nat → List Value → Prop} {w0 w w' : World} {c r16 r19 : Nat} {vb lab : Nat → Nat} {f : Nat → VS} {P : Nat → Option Nat} {B : Nat → Int} {S : Nat → PS} (h : MQ X w0 w c r16 r19 vb lab f P B S) (k : Keep w w') : MQ X w0 w' c r16 r19 vb lab f P B S := by
  refine ⟨h.kp.trans k, h.o16.keep k, h.o19.keep k, h.l16, h.l19, fun i hi => ?_, fun i hi => ?_, fun r cs hx => ⟨(h.x r cs hx).1.keep k, (h.x r cs hx).2⟩⟩
  · obtain ⟨F, g, h1, h2, h3⟩ := h.v i hi
    exact ⟨F, g, h1.keep k, h2, fun b hb => ⟨(h3 b hb).1, (h3 b hb).2.1, by have := (h3 b hb).2.2; have := k.size; omega⟩⟩
  · obtain ⟨e, r, rp, ra, h1, h2, h3⟩ := h.p i hi
    exact ⟨e, r, rp, ra, h1, h2.keep k, h3⟩
theorem MQ.relab {X : Nat → List Value → Prop} {w0 w : World} {c r16 r19 : Nat} {vb lab lab' : Nat → Nat} {f : Nat → VS} {P : Nat → Option Nat} {B : Nat → Int} {S : Nat → PS} (h : MQ X w0 w c r16 r19 vb lab f P B S) (hl : ∀ b, b < w.heap.size → lab' b = lab b) : MQ X w0 w c r16 r19 vb lab' f P B S := by
  refine ⟨h.kp, h.o16, h.o19, ⟨by rw [hl _ h.o16.lt]; exact h.l16.1, h.l16.2⟩, ⟨by rw [hl _ h.o19.lt]; exact h.l19.1, h.l19.2⟩, fun i hi => ?_, fun i hi => ?_, fun r cs hx => ⟨(h.x r cs hx).1, by rw [hl _ (h.x r cs hx).1.lt]; exact (h.x r cs hx).2.1, (h.x r cs hx).2.2⟩⟩
  · obtain ⟨F, g, h1, h2, h3⟩ := h.v i hi
    exact ⟨F, g, h1, h2, fun b hb => ⟨by rw [hl _ (h3 b hb).2.2]; exact (h3 b hb).1, (h3 b hb).2⟩⟩
  · obtain ⟨e, r, rp, ra, h1, h2, h3⟩ := h.p i hi
    exact ⟨e, r, rp, ra, h1, h2, fun b hb => ⟨by rw [hl _ (h2.lt b hb)]; exact (h3 b hb).1, (h3 b hb).2⟩⟩

/-- A voter changes. -/
theorem MQ.voter {X : Nat → List Value → Prop} {w0 w w' : World} {c r16 r19 : Nat} {vb lab : Nat → Nat} {f : Nat → VS} {P : Nat → Option Nat} {B : Nat → Int} {S : Nat → PS} (h : MQ X w0 w c r16 r19 vb lab f P B S) {k : Nat} (hk : k < 5) {F F' : Nat → Prop} {g' : Int → VS}
    (hF : ∀ b, F b → lab b = k + 1 ∧ w0.heap.size ≤ b ∧ b < w.heap.size) (hv : VoterAt w' (vb k) F' g') (ft : Foot F F' w w') : ∃ lab', MQ X w0 w' c r16 r19 vb lab' (updN f k (g' 1)) P B S := by
  obtain ⟨lab', hlab⟩ : ∃ lab' : Nat → Nat, lab' = fun b => if w.heap.size ≤ b then k + 1 else lab b := ⟨_, rfl⟩
  have hl : ∀ b, b < w.heap.size → lab' b = lab b := fun b hb => by rw [hlab]; exact if_neg (by omega)
  have hn : ∀ b, w.heap.size ≤ b → lab' b = k + 1 := fun b hb => by rw [hlab]; exact if_pos hb
  have h' := h.relab hl
  have hF' : ∀ b, F b → lab' b = k + 1 := fun b hb => by rw [hl _ (hF b hb).2.2]; exact (hF b hb).1
  have hsz := ft.1.size
  refine ⟨lab', h.kp.ext ft.1 (fun b hb => (hF b hb).2.1), h'.o16.ext ft.1 (fun hb => by have := hF' _ hb; have := h'.l16.1; omega), h'.o19.ext ft.1 (fun hb => by have := hF' _ hb; have := h'.l19.1; omega), h'.l16, h'.l19, fun i hi => ?_, fun i hi => ?_, fun r cs hx => ⟨(h'.x r cs hx).1.ext ft.1 (fun hb => by have := hF' _ hb; have := (h'.x r cs hx).2.1; omega), (h'.x r cs hx).2⟩⟩
  · by_cases e : i = k
    · subst e
      refine ⟨_, g', hv.bound, by rw [updN_same], fun b hb => ?_⟩
      rcases ft.2 b hb.1 with h1 | h1
      · exact ⟨hF' b h1, (hF b h1).2.1, hb.2⟩
      · exact ⟨hn b h1, by have := h.kp.size; omega, hb.2⟩
    · obtain ⟨F2, g, h1, h2, h3⟩ := h'.v i hi
      exact ⟨F2, g, h1.ext ft.1 (fun b hb hb2 => by have := (h3 b hb).1; have := hF' b hb2; omega), by rw [updN_ne _ _ e]; exact h2, fun b hb => ⟨(h3 b hb).1, (h3 b hb).2.1, by have := (h3 b hb).2.2; omega⟩⟩
  · obtain ⟨e, r, rp, ra, h1, h2, h3⟩ := h'.p i hi
    exact ⟨e, r, rp, ra, h1, h2.ext ft.1 (fun b hb hb2 => by have := (h3 b hb).1; have := hF' b hb2; omega), h3⟩

/-- A side's proposer changes. -/
theorem MQ.prop {X : Nat → List Value → Prop} {w0 w w' : World} {c r16 r19 : Nat} {vb lab : Nat → Nat} {f : Nat → VS} {P : Nat → Option Nat} {B : Nat → Int} {S : Nat → PS} (h : MQ X w0 w c r16 r19 vb lab f P B S) {i : Nat} (hi : i < c) {r rp ra : Nat} (hP : P i = some r)
    (hM : ∀ b, PropM r rp ra b → lab b = 10 + i ∧ w0.heap.size ≤ b) {s' : PS} (hp : PropAt w' r rp ra s') (he : Ext (PropM r rp ra) w w') (hb : s'.b = (S i).b) (hi4 : i < 4) : MQ X w0 w' c r16 r19 vb lab f P B (updN S i s') := by
  have hsz := he.size
  refine ⟨h.kp.ext he (fun b hb => (hM b hb).2), h.o16.ext he (fun hb => by have := (hM _ hb).1; have := h.l16.1; omega), h.o19.ext he (fun hb => by have := (hM _ hb).1; have := h.l19.1; omega), h.l16, h.l19, fun k hk => ?_, fun j hj => ?_, fun r cs hx => ⟨(h.x r cs hx).1.ext he (fun hb => by have := (hM _ hb).1; have := (h.x r cs hx).2.1; omega), (h.x r cs hx).2⟩⟩
  · obtain ⟨F2, g, h1, h2, h3⟩ := h.v k hk
    exact ⟨F2, g, h1.ext he (fun b hb hb2 => by have := (h3 b hb).1; have := (hM b hb2).1; omega), h2, fun b hb => ⟨(h3 b hb).1, (h3 b hb).2.1, by have := (h3 b hb).2.2; omega⟩⟩
  · by_cases e : j = i
    · subst e
      rw [updN_same]
      exact ⟨by rw [hb]; exact (h.p j hj).1, r, rp, ra, hP, hp, hM⟩
    · rw [updN_ne _ _ e]
      obtain ⟨e1, r, rp, ra, h1, h2, h3⟩ := h.p j hj
      exact ⟨e1, r, rp, ra, h1, h2.ext he (fun b hb hb2 => by have := (h3 b hb).1; have := (hM b hb2).1; omega), h3⟩

/-- A side begins. -/
theorem MQ.begins {X : Nat → List Value → Prop} {w0 w w' : World} {c c' r16 r19 : Nat} {vb lab : Nat → Nat} {f : Nat → VS} {P : Nat → Option Nat} {B : Nat → Int} {S : Nat → PS} (h : MQ X w0 w c r16 r19 vb lab f P B S) {i : Nat} {q rp ra : Nat} {s' : PS}
    (ho : ObjAt w' r19 (sideC (updN P i (some q)) (updN B i s'.b))) (hp : PropAt w' q rp ra s') (hn : ∀ k, PropM q rp ra k → w.heap.size ≤ k) (he : Ext (fun k => k = r19) w w') (hc : ∀ j, j < c' → j = i ∨ j < c) : ∃ lab', MQ X w0 w' c' r16 r19 vb lab' f (updN P i (some q)) (updN B i s'.b) (updN S i s') := by
  obtain ⟨lab', hlab⟩ : ∃ lab' : Nat → Nat, lab' = fun b => if w.heap.size ≤ b then 10 + i else lab b := ⟨_, rfl⟩
  have hl : ∀ b, b < w.heap.size → lab' b = lab b := fun b hb => by rw [hlab]; exact if_neg (by omega)
  have hnl : ∀ b, w.heap.size ≤ b → lab' b = 10 + i := fun b hb => by rw [hlab]; exact if_pos hb
  have h' := h.relab hl
  have hsz := he.size
  have hkz := h.kp.size
  have l19 := h'.l19.1
  refine ⟨lab', h.kp.ext he (fun b hb => by rw [hb]; exact h.l19.2), h'.o16.ext he (fun hb => by have := h'.l16.1; rw [hb] at this; omega), ho, h'.l16, h'.l19, fun k hk => ?_, fun j hj => ?_, fun r cs hx => ⟨(h'.x r cs hx).1.ext he (fun hb => by have := (h'.x r cs hx).2.1; rw [hb] at this; omega), (h'.x r cs hx).2⟩⟩
  · obtain ⟨F2, g, h1, h2, h3⟩ := h'.v k hk
    exact ⟨F2, g, h1.ext he (fun b hb hb2 => by have := (h3 b hb).1; rw [hb2] at this; omega), h2, fun b hb => ⟨(h3 b hb).1, (h3 b hb).2.1, by have := (h3 b hb).2.2; omega⟩⟩
  · by_cases e : j = i
    · subst e
      rw [updN_same, updN_same, updN_same]
      exact ⟨rfl, q, rp, ra, rfl, hp, fun b hb => ⟨hnl b (hn b hb), by have := hn b hb; omega⟩⟩
    · rw [updN_ne _ _ e, updN_ne _ _ e, updN_ne _ _ e]
      obtain ⟨e1, r, rp', ra', h1, h2, h3⟩ := h'.p j ((hc j hj).resolve_left e)
      refine ⟨e1, r, rp', ra', h1, h2.ext he (fun b hb hb2 => ?_), h3⟩
      have := (h3 b hb).1
      rw [hb2] at this
      omega

/-- The ballot of a side that hasn't begun is laid. -/
theorem MQ.setB {X : Nat → List Value → Prop} {w0 w w' : World} {c r16 r19 : Nat} {vb lab : Nat → Nat} {f : Nat → VS} {P : Nat → Option Nat} {B : Nat → Int} {S : Nat → PS} (h : MQ X w0 w c r16 r19 vb lab f P B S) {i : Nat} (hi : c ≤ i) {x : Int}
    (ho : ObjAt w' r19 (sideC P (updN B i x))) (he : Ext (fun k => k = r19) w w') : MQ X w0 w' c r16 r19 vb lab f P (updN B i x) S := by
  have l19 := h.l19.1
  have hsz := he.size
  refine ⟨h.kp.ext he (fun b hb => by rw [hb]; exact h.l19.2), h.o16.ext he (fun hb => by have := h.l16.1; rw [hb] at this; omega), ho, h.l16, h.l19, fun k hk => ?_, fun j hj => ?_, fun r cs hx => ⟨(h.x r cs hx).1.ext he (fun hb => by have := (h.x r cs hx).2.1; rw [hb] at this; omega), (h.x r cs hx).2⟩⟩
  · obtain ⟨F2, g, h1, h2, h3⟩ := h.v k hk
    exact ⟨F2, g, h1.ext he (fun b hb hb2 => by have := (h3 b hb).1; rw [hb2] at this; omega), h2, fun b hb => ⟨(h3 b hb).1, (h3 b hb).2.1, by have := (h3 b hb).2.2; omega⟩⟩
  · obtain ⟨e1, r, rp', ra', h1, h2, h3⟩ := h.p j hj
    refine ⟨by rw [updN_ne _ _ (by omega)]; exact e1, r, rp', ra', h1, h2.ext he (fun b hb hb2 => ?_), h3⟩
    have := (h3 b hb).1
    rw [hb2] at this
    omega
/-- A new object is set beside. -/
theorem MQ.beside {X : Nat → List Value → Prop} {w0 w w' : World} {c r16 r19 : Nat} {vb lab : Nat → Nat} {f : Nat → VS} {P : Nat → Option Nat} {B : Nat → Int} {S : Nat → PS} (h : MQ X w0 w c r16 r19 vb lab f P B S) (hk : Keep w w') {r0 : Nat} {cs0 : List Value}
    (hr : r0 = w.heap.size) (ho : ObjAt w' r0 cs0) : ∃ lab', MQ (fun r cs => r = r0 ∧ cs = cs0) w0 w' c r16 r19 vb lab' f P B S := by
  have h1 := (h.relab (lab' := fun b => if b = r0 then 9 else lab b) (fun b hb => if_neg (by omega))).keep hk
  refine ⟨_, ⟨h1.kp, h1.o16, h1.o19, h1.l16, h1.l19, h1.v, h1.p, ?_⟩⟩
  rintro r cs ⟨rfl, rfl⟩
  exact ⟨ho, if_pos rfl, by have := h.kp.size; omega⟩

theorem wrapmod (z d : Int) (hd : 1 ≤ d ∧ d ≤ 1000) : ∃ m : Nat, (m : Int) < d ∧ IntKind.wrap .i64 ((IntKind.wrap .u64 z) % d) = (m : Int) ∧ 0 ≤ IntKind.wrap .u64 z := by
  have hu : 0 ≤ IntKind.wrap .u64 z := by
    simp [IntKind.wrap, IntKind.signed, IntKind.bits]; omega
  generalize IntKind.wrap .u64 z = u at hu
  have h1 : 0 ≤ u % d := Int.emod_nonneg _ (by omega)
  have h2 : u % d < d := Int.emod_lt_of_pos _ (by omega)
  refine ⟨(u % d).toNat, by omega, ?_, hu⟩
  generalize u % d = v at h1 h2
  simp [IntKind.wrap, IntKind.signed, IntKind.bits]
  omega
theorem wrapu_id (n : Nat) (h : n ≤ 1000) : IntKind.wrap .u64 (n : Int) = (n : Int) := by
  simp [IntKind.wrap, IntKind.signed, IntKind.bits]; omega
end Go.D
