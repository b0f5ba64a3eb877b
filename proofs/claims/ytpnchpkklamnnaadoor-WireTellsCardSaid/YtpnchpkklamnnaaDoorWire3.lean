/-
  WHAT IS PROVED: contracts of functions, and the plain law, for this proof. No further conditions.
-/
import Derived.Test.YtpnchpkklamnnaaDoorWire2
set_option linter.unusedVariables false
set_option linter.unusedSimpArgs false
namespace Go.D
open Go Go.Proofs

theorem encs5_len {t k e a : Int} {l : Nat} (h : rightQ t k e a l) : (encs [1, t, k, e, a]).length ≤ 14 := by
  obtain ⟨h1, h2, h3, h4, _⟩ := h
  have g0 := encN_len (1 : Int).toNat 0 (by omega)
  have g1 := encN_len t.toNat 4 (by omega)
  have g2 := encN_len k.toNat 0 (by omega)
  have g3 := encN_len e.toNat 4 (by omega)
  have g4 := encN_len a.toNat 1 (by omega)
  simp only [encs_cons, List.length_append]
  simp only [encs, List.map_nil, List.flatten_nil, List.length_nil]
  omega
theorem encs4_len {t e n : Int} {l : Nat} (h : rightP t e n l) : (encs [2, t, e, n]).length ≤ 9 := by
  obtain ⟨h1, h2, h3, _⟩ := h
  have g0 := encN_len (2 : Int).toNat 0 (by omega)
  have g1 := encN_len t.toNat 4 (by omega)
  have g2 := encN_len e.toNat 0 (by omega)
  have g4 := encN_len n.toNat 1 (by omega)
  simp only [encs_cons, List.length_append]
  simp only [encs, List.map_nil, List.flatten_nil, List.length_nil]
  omega
theorem payQ_len {t k e a : Int} {d : List UInt8} (h : rightQ t k e a d.length) : (payload [1, t, k, e, a] d).length ≤ 2048 := by
  have h1 := encs5_len h
  have h2 := h.2.2.2.2.1
  have h3 := encN_len d.length 1 (by omega)
  rw [payload, List.length_append, List.length_append]; omega
theorem payP_len {t e n : Int} {d : List UInt8} (h : rightP t e n d.length) : (payload [2, t, e, n] d).length ≤ 2048 := by
  have h1 := encs4_len h
  have h2 := h.2.2.2
  have h3 := encN_len d.length 1 (by omega)
  rw [payload, List.length_append, List.length_append]; omega
theorem numsQ {t k e a : Int} {l : Nat} (h : rightQ t k e a l) : ∀ n ∈ [1, t, k, e, a], 0 ≤ n ∧ n ≤ 4611686018427387903 := by
  intro n hn
  simp only [List.mem_cons, List.not_mem_nil, or_false] at hn
  rcases hn with rfl | rfl | rfl | rfl | rfl <;> omega
theorem numsP {t e n : Int} {l : Nat} (h : rightP t e n l) : ∀ m ∈ [2, t, e, n], 0 ≤ m ∧ m ≤ 4611686018427387903 := by
  intro m hm
  simp only [List.mem_cons, List.not_mem_nil, or_false] at hm
  rcases hm with rfl | rfl | rfl | rfl <;> omega

theorem Ask_spec (A : Nat → Addr) (t k e a : Int) (s : Slc) (d : List UInt8) (w : World) (hd : bytesAt w s d) (hE : ErrsB A w.heap.size w) :
    Calls Tryd.prog fn_wire_Ask ⟨[.agg ⟨reqV t k e a s⟩]⟩ w fun x w' => ∃ (f : Slc) (ev : Value), x = .returned (.tuple ⟨[f.v, ev]⟩) ∧ Keep w w' ∧
      ((rightQ t k e a d.length ∧ ev = .nilIface ∧ Own w' f 1 ((frameB (payload [1, t, k, e, a] d)).map byteV) ∧ Fresh w f) ∨ (¬ rightQ t k e a d.length ∧ f = ⟨none, 0, 0⟩ ∧ ev = errV A (errG.getD 3 0))) := by
  have hsl := hd.1
  refine wire_Ask_ok _ _ _ _ _ ?_
  unfold wire_Ask
  refine newS_mk (fun r6 w7 hr hb hk hs => ?_)
  have ho := ObjAt.new' hb
  refine ⟨_, _, _, _, _, ho.row, (Request_right_spec t k e a s w7).mono ?_⟩
  rintro x w14 ⟨rfl, k14⟩
  have kk := hk.trans k14
  rw [hsl]
  refine ⟨_, rfl, BIf_ndec (fun hb => ?_) (fun hb => ?_)⟩
  · exact ⟨_, Errs.at (hE.keep kk.drew).1 3 (by omega), _, _, rfl, kk.drew, .inr ⟨hb, rfl, rfl⟩⟩
  · have ho14 := ho.keep k14
    refine ⟨_, ho14.cell 4 (by simp), _, ho14.cell 0 (by simp), _, ho14.cell 1 (by simp), _, ho14.cell 2 (by simp), _, ho14.cell 3 (by simp), newS_mk (fun r22 w23 hr22 hb22 k22 hs22 => ?_)⟩
    have k23 := kk.trans k22
    have hi : intsAt w23 ⟨some ⟨r22, 0, none⟩, 5, 5⟩ [1, t, k, e, a] := Own.ints (Own.new (sz := 1) hb22 (.inl (by simp)) rfl)
    have hE23 : ErrsB A w23.heap.size w23 := (hE.keep k23).1.b
    refine (framed_spec A s _ d _ w23 (bytesAt_keep hd k23) hi (by simp) (numsQ hb) (payQ_len hb) hE23).mono ?_
    rintro x w25 ⟨f, rfl, g1, g2, g3⟩
    exact ⟨f, _, rfl, f, _, rfl, k23.trans g3, .inl ⟨hb, rfl, g1, g2.mono k23.size⟩⟩

theorem refAsk_spec (t k e a : Int) (s : Slc) (d : List UInt8) (w : World) (hd : bytesAt w s d) (h : rightQ t k e a d.length) :
    Calls Tryd.prog fn_tidewaterref33_Ask ⟨[.agg ⟨reqV t k e a s⟩]⟩ w fun x w' => ∃ f : Slc, x = .returned f.v ∧ Keep w w' ∧ bytesAt w' f (frameB (payload [1, t, k, e, a] d)) := by
  refine tidewaterref33_Ask_ok _ _ _ _ _ ?_
  unfold tidewaterref33_Ask
  refine newS_mk (fun r6 w7 hr hb hk hs => ?_)
  have ho := ObjAt.new' hb
  refine ⟨_, ho.cell 4 (by simp), _, ho.cell 0 (by simp), _, ho.cell 1 (by simp), _, ho.cell 2 (by simp), _, ho.cell 3 (by simp), newS_mk (fun r13 w14 hr13 hb13 k13 hs13 => ?_)⟩
  have hi : intsAt w14 ⟨some ⟨r13, 0, none⟩, 5, 5⟩ [1, t, k, e, a] := Own.ints (Own.new (sz := 1) hb13 (.inl (by simp)) rfl)
  refine (ref_framed_spec s _ d _ w14 (bytesAt_keep hd (hk.trans k13)) hi (by simp) (numsQ h) (payQ_len h)).mono ?_
  rintro x w16 ⟨f, rfl, g1, g2, g3⟩
  exact ⟨f, rfl, f, rfl, (hk.trans k13).trans g3, g1⟩

theorem Tell_spec (A : Nat → Addr) (t e n : Int) (s : Slc) (d : List UInt8) (w : World) (hd : bytesAt w s d) (hE : ErrsB A w.heap.size w) :
    Calls Tryd.prog fn_wire_Tell ⟨[.agg ⟨repV t e n s⟩]⟩ w fun x w' => ∃ (f : Slc) (ev : Value), x = .returned (.tuple ⟨[f.v, ev]⟩) ∧ Keep w w' ∧
      ((rightP t e n d.length ∧ ev = .nilIface ∧ Own w' f 1 ((frameB (payload [2, t, e, n] d)).map byteV) ∧ Fresh w f) ∨ (¬ rightP t e n d.length ∧ f = ⟨none, 0, 0⟩ ∧ ev = errV A (errG.getD 3 0))) := by
  have hsl := hd.1
  refine wire_Tell_ok _ _ _ _ ?_
  unfold wire_Tell
  refine newS_mk (fun r6 w7 hr hb hk hs => ?_)
  have ho := ObjAt.new' hb
  refine ⟨_, _, _, _, ho.row, (Reply_right_spec A t e n s w7 (hE.keep hk).1).mono ?_⟩
  rintro x w14 ⟨rfl, k14⟩
  have kk := hk.trans k14
  rw [hsl]
  refine ⟨_, rfl, BIf_ndec (fun hb => ?_) (fun hb => ?_)⟩
  · exact ⟨_, Errs.at (hE.keep kk.drew).1 3 (by omega), _, _, rfl, kk.drew, .inr ⟨hb, rfl, rfl⟩⟩
  · have ho14 := ho.keep k14
    refine ⟨_, ho14.cell 3 (by simp), _, ho14.cell 0 (by simp), _, ho14.cell 1 (by simp), _, ho14.cell 2 (by simp), newS_mk (fun r22 w23 hr22 hb22 k22 hs22 => ?_)⟩
    have k23 := kk.trans k22
    have hi : intsAt w23 ⟨some ⟨r22, 0, none⟩, 4, 4⟩ [2, t, e, n] := Own.ints (Own.new (sz := 1) hb22 (.inl (by simp)) rfl)
    have hE23 : ErrsB A w23.heap.size w23 := (hE.keep k23).1.b
    refine (framed_spec A s _ d _ w23 (bytesAt_keep hd k23) hi (by simp) (numsP hb) (payP_len hb) hE23).mono ?_
    rintro x w25 ⟨f, rfl, g1, g2, g3⟩
    exact ⟨f, _, rfl, f, _, rfl, k23.trans g3, .inl ⟨hb, rfl, g1, g2.mono k23.size⟩⟩

theorem refTell_spec (t e n : Int) (s : Slc) (d : List UInt8) (w : World) (hd : bytesAt w s d) (h : rightP t e n d.length) :
    Calls Tryd.prog fn_tidewaterref33_Tell ⟨[.agg ⟨repV t e n s⟩]⟩ w fun x w' => ∃ f : Slc, x = .returned f.v ∧ Keep w w' ∧ bytesAt w' f (frameB (payload [2, t, e, n] d)) := by
  refine tidewaterref33_Tell_ok _ _ _ _ ?_
  unfold tidewaterref33_Tell
  refine newS_mk (fun r6 w7 hr hb hk hs => ?_)
  have ho := ObjAt.new' hb
  refine ⟨_, ho.cell 3 (by simp), _, ho.cell 0 (by simp), _, ho.cell 1 (by simp), _, ho.cell 2 (by simp), newS_mk (fun r13 w14 hr13 hb13 k13 hs13 => ?_)⟩
  have hi : intsAt w14 ⟨some ⟨r13, 0, none⟩, 4, 4⟩ [2, t, e, n] := Own.ints (Own.new (sz := 1) hb13 (.inl (by simp)) rfl)
  refine (ref_framed_spec s _ d _ w14 (bytesAt_keep hd (hk.trans k13)) hi (by simp) (numsP h) (payP_len h)).mono ?_
  rintro x w16 ⟨f, rfl, g1, g2, g3⟩
  exact ⟨f, rfl, f, rfl, (hk.trans k13).trans g3, g1⟩

/-! ### a message is read -/
inductive Msg where
  | ask (t k e a : Int) (d : List UInt8)
  | tell (t e n : Int) (d : List UInt8)
structure PAsk where
  (t k e a : Int) (d : List UInt8) (st : InS)
def pAsk (st : InS) : PAsk :=
  let t := rNum 1073741824 st; let k := rNum 5 t.2; let e := rNum 1073741824 k.2; let a := rNum 4096 e.2; let d := rText 2000 a.2
  ⟨t.1, k.1, e.1, a.1, d.1, d.2⟩
structure PTell where
  (t e n : Int) (d : List UInt8) (st : InS)
def pTell (st : InS) : PTell :=
  let t := rNum 1073741824 st; let e := rNum 19 t.2; let n := rNum 4096 e.2; let d := rText 2000 n.2
  ⟨t.1, e.1, n.1, d.1, d.2⟩
def readR (b : List UInt8) : Except Nat Msg :=
  match openR b with
  | .error k => .error k
  | .ok (x, y) => if 0 < y.length then .error 3 else
    let st := rNum 2 (x, none)
    if st.1 = 2 then match rEnd (pTell st.2).st with
      | some j => .error j
      | none => .ok (.tell (pTell st.2).t (pTell st.2).e (pTell st.2).n (pTell st.2).d)
    else match rEnd (pAsk st.2).st with
      | some j => .error j
      | none => if st.1 = 1 ∧ rightQ (pAsk st.2).t (pAsk st.2).k (pAsk st.2).e (pAsk st.2).a (pAsk st.2).d.length then .ok (.ask (pAsk st.2).t (pAsk st.2).k (pAsk st.2).e (pAsk st.2).a (pAsk st.2).d) else .error 3

abbrev Z5 : List Value := reqV 0 0 0 0 ⟨none, 0, 0⟩
abbrev Z4 : List Value := repV 0 0 0 ⟨none, 0, 0⟩
def ReadRes (A : Nat → Addr) (w w' : World) (q p : List Value) (is : Bool) (ev : Value) : Except Nat Msg → Prop
  | .error k => q = Z5 ∧ p = Z4 ∧ is = false ∧ ev = errV A (errG.getD k 0)
  | .ok (.ask t k e a d) => ∃ s, q = reqV t k e a s ∧ bytesAt w' s d ∧ s.l ≤ s.c ∧ Fresh w s ∧ p = Z4 ∧ is = true ∧ ev = .nilIface
  | .ok (.tell t e n d) => ∃ s, p = repV t e n s ∧ bytesAt w' s d ∧ s.l ≤ s.c ∧ Fresh w s ∧ q = Z5 ∧ is = false ∧ ev = .nilIface

theorem ret_mk {w : World} {r2 r4 n2 n4 : Nat} {z2 z4 c2 c4 : List Value} {K : World → Prop} (h2 : ObjAt w r2 z2) (h4 : ObjAt w r4 z4) (hne : r2 ≠ r4) (l2 : z2.length = n2) (m2 : c2.length = n2) (l4 : z4.length = n4) (m4 : c4.length = n4)
    (hK : ∀ w12, ObjAt w12 r2 c2 → ObjAt w12 r4 c4 → Ext (fun k => k = r2 ∨ k = r4) w w12 → K w12) :
    canW w (⟨r2, 0, none⟩ : Addr) n2 ∧ ∀ w11 : World, w11 = setCells w (⟨r2, 0, none⟩ : Addr) 0 c2 → canW w11 (⟨r4, 0, none⟩ : Addr) n4 ∧ ∀ w12 : World, w12 = setCells w11 (⟨r4, 0, none⟩ : Addr) 0 c4 → K w12 := by
  obtain ⟨a1, a2⟩ := h2.setAll l2 m2
  refine ⟨a1, fun w11 hw => ?_⟩
  obtain ⟨b1, b2, b3⟩ := a2 w11 hw
  obtain ⟨c1, c2⟩ := (h4.ext b2 (fun h => hne h.symm)).setAll l4 m4
  refine ⟨c1, fun w12 hw2 => ?_⟩
  obtain ⟨d1, d2, d3⟩ := c2 w12 hw2
  exact hK w12 (b1.ext d2 hne) d1 (b2.trans d2 (fun k h => .inl h) (fun k h => .inl (.inr h)))
theorem retg_mk {w : World} {r2 r4 n2 n4 : Nat} {z2 z4 c2 c4 : List Value} {K : World → Prop} {g : Addr} {v : Value} (h2 : ObjAt w r2 z2) (h4 : ObjAt w r4 z4) (hne : r2 ≠ r4) (l2 : z2.length = n2) (m2 : c2.length = n2) (l4 : z4.length = n4) (m4 : c4.length = n4)
    (hg : w.cell? g = some v) (g2 : g.block ≠ r2) (g4 : g.block ≠ r4) (hK : ∀ w12, ObjAt w12 r2 c2 → ObjAt w12 r4 c4 → Ext (fun k => k = r2 ∨ k = r4) w w12 → K w12) :
    canW w (⟨r2, 0, none⟩ : Addr) n2 ∧ ∀ w11 : World, w11 = setCells w (⟨r2, 0, none⟩ : Addr) 0 c2 → (∃ v1 : Value, w11.cell? g = some v1 ∧ v1 = v) ∧ canW w11 (⟨r4, 0, none⟩ : Addr) n4 ∧
      ∀ w12 : World, w12 = setCells w11 (⟨r4, 0, none⟩ : Addr) 0 c4 → (∃ v1 : Value, w12.cell? g = some v1 ∧ v1 = v) ∧ K w12 := by
  obtain ⟨a1, a2⟩ := h2.setAll l2 m2
  refine ⟨a1, fun w11 hw => ?_⟩
  obtain ⟨b1, b2, b3⟩ := a2 w11 hw
  obtain ⟨c1, c2⟩ := (h4.ext b2 (fun h => hne h.symm)).setAll l4 m4
  have hg1 := b2.cell hg g2
  refine ⟨⟨v, hg1, rfl⟩, c1, fun w12 hw2 => ?_⟩
  obtain ⟨d1, d2, d3⟩ := c2 w12 hw2
  exact ⟨⟨v, d2.cell hg1 g4, rfl⟩, hK w12 (b1.ext d2 hne) d1 (b2.trans d2 (fun k h => .inl h) (fun k h => .inl (.inr h)))⟩

/-- The state while a message is read. -/
structure RS (A : Nat → Addr) (w0 w : World) (r : Nat) (F : Nat → Prop) (r2 r4 r39 r41 : Nat) (st : InS) (c39 c41 : List Value) : Prop where
  inr : InR A w r F st
  o2 : ObjAt w r2 Z5
  o4 : ObjAt w r4 Z4
  o39 : ObjAt w r39 c39
  o41 : ObjAt w r41 c41
  kp : Keep w0 w
  len : st.1.length ≤ 2 ^ 30
structure RD (w0 : World) (r : Nat) (F : Nat → Prop) (r2 r4 r39 r41 : Nat) : Prop where
  b : w0.heap.size ≤ r2 ∧ r2 < r4 ∧ r4 < r ∧ r < r39 ∧ r39 < r41
  f : ∀ k, F k → r4 < k ∧ k < r39
theorem RS.step {A : Nat → Addr} {w0 w w' : World} {r : Nat} {F : Nat → Prop} {r2 r4 r39 r41 : Nat} {st st' : InS} {c39 c41 : List Value} (h : RS A w0 w r F r2 r4 r39 r41 st c39 c41) (d : RD w0 r F r2 r4 r39 r41)
    (he : Ext (eqB r) w w') (hi : InR A w' r F st') (hl : st'.1.length ≤ 2 ^ 30) : RS A w0 w' r F r2 r4 r39 r41 st' c39 c41 := by
  obtain ⟨d1, d2, d3, d4, d5⟩ := d.b
  have ne : ∀ x, x ≠ r → ¬ eqB r x := fun x hx hh => hx hh
  exact ⟨hi, h.o2.ext he (ne _ (by omega)), h.o4.ext he (ne _ (by omega)), h.o39.ext he (ne _ (by omega)), h.o41.ext he (ne _ (by omega)), h.kp.ext he (fun k hk => by rw [show k = r from hk]; omega), hl⟩
theorem RS.keep {A : Nat → Addr} {w0 w w' : World} {r : Nat} {F : Nat → Prop} {r2 r4 r39 r41 : Nat} {st : InS} {c39 c41 : List Value} (h : RS A w0 w r F r2 r4 r39 r41 st c39 c41) (k : Keep w w') : RS A w0 w' r F r2 r4 r39 r41 st c39 c41 :=
  ⟨h.inr.keep k, h.o2.keep k, h.o4.keep k, h.o39.keep k, h.o41.keep k, h.kp.trans k, h.len⟩
theorem RS.set39 {A : Nat → Addr} {w0 w w' : World} {r : Nat} {F : Nat → Prop} {r2 r4 r39 r41 : Nat} {st : InS} {c39 c41 c' : List Value} (h : RS A w0 w r F r2 r4 r39 r41 st c39 c41) (d : RD w0 r F r2 r4 r39 r41)
    (ho : ObjAt w' r39 c') (he : Ext (fun x => x = r39) w w') : RS A w0 w' r F r2 r4 r39 r41 st c' c41 := by
  obtain ⟨d1, d2, d3, d4, d5⟩ := d.b
  exact ⟨h.inr.ext he (by omega) (fun k hk hh => by have := d.f k hk; omega), h.o2.ext he (by omega), h.o4.ext he (by omega), ho, h.o41.ext he (by omega), h.kp.ext he (fun k hk => by omega), h.len⟩
theorem RS.set41 {A : Nat → Addr} {w0 w w' : World} {r : Nat} {F : Nat → Prop} {r2 r4 r39 r41 : Nat} {st : InS} {c39 c41 c' : List Value} (h : RS A w0 w r F r2 r4 r39 r41 st c39 c41) (d : RD w0 r F r2 r4 r39 r41)
    (ho : ObjAt w' r41 c') (he : Ext (fun x => x = r41) w w') : RS A w0 w' r F r2 r4 r39 r41 st c39 c' := by
  obtain ⟨d1, d2, d3, d4, d5⟩ := d.b
  exact ⟨h.inr.ext he (by omega) (fun k hk hh => by have := d.f k hk; omega), h.o2.ext he (by omega), h.o4.ext he (by omega), h.o39.ext he (by omega), ho, h.kp.ext he (fun k hk => by omega), h.len⟩
theorem RS.Num {A : Nat → Addr} {w0 w : World} {r : Nat} {F : Nat → Prop} {r2 r4 r39 r41 : Nat} {st : InS} {c39 c41 : List Value} (h : RS A w0 w r F r2 r4 r39 r41 st c39 c41) (d : RD w0 r F r2 r4 r39 r41) (hE : ErrsB A w0.heap.size w0) (most : Int) :
    Calls Tryd.prog fn_pack_In_Num ⟨[.pointer (some ⟨r, 0, none⟩), .int .i64 most]⟩ w fun e w' => e = .returned (.int .i64 (rNum most st).1) ∧ RS A w0 w' r F r2 r4 r39 r41 (rNum most st).2 c39 c41 := by
  obtain ⟨d1, d2, d3, d4, d5⟩ := d.b
  refine (In_Num_spec A w0.heap.size r F st most w h.inr h.len (hE.keep h.kp) (by omega)).mono ?_
  rintro e w' ⟨rfl, h1, h2⟩
  exact ⟨rfl, h.step d h2 h1 (Nat.le_trans (rNum_len most st) h.len)⟩
theorem rText_len (most : Int) (st : InS) : (rText most st).2.1.length ≤ st.1.length := by
  have := rNum_len most st
  rw [rText]
  generalize rNum most st = x at this ⊢
  obtain ⟨n, bs, er⟩ := x
  cases er with
  | some k => exact this
  | none =>
    rw [rTextF]
    split
    · exact this
    · dsimp only at this ⊢
      simp; omega
theorem RS.Text {A : Nat → Addr} {w0 w : World} {r : Nat} {F : Nat → Prop} {r2 r4 r39 r41 : Nat} {st : InS} {c39 c41 : List Value} (h : RS A w0 w r F r2 r4 r39 r41 st c39 c41) (d : RD w0 r F r2 r4 r39 r41) (hE : ErrsB A w0.heap.size w0) (most : Int) :
    Calls Tryd.prog fn_pack_In_Text ⟨[.pointer (some ⟨r, 0, none⟩), .int .i64 most]⟩ w fun e w' => e = .returned (strV (rText most st).1) ∧ RS A w0 w' r F r2 r4 r39 r41 (rText most st).2 c39 c41 := by
  obtain ⟨d1, d2, d3, d4, d5⟩ := d.b
  refine (In_Text_spec A w0.heap.size r F st most w h.inr h.len (hE.keep h.kp) (by omega)).mono ?_
  rintro e w' ⟨rfl, h1, h2⟩
  exact ⟨rfl, h.step d h2 h1 (Nat.le_trans (rText_len most st) h.len)⟩
end Go.D
