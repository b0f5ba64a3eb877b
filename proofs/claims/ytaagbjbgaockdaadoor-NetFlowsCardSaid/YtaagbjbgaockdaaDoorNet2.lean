/-
  WHAT IS PROVED: contracts of functions, and the plain law, for this proof. No further conditions.
-/
import Derived.Test.YtaagbjbgaockdaaDoorNet1
import Derived.Test.YtaagbjbgaockdaaDoorCloneB
set_option linter.unusedVariables false
set_option linter.unusedSimpArgs false
namespace Go.D
open Go Go.Proofs
variable {w : World} {r : Nat} {q : NetP} {ns : List (Bool × Bool)} {ms : List Msg} {nx : Int}

/-- What a call may do to a network. -/
def NetTo (r : Nat) (q q' : NetP) (w w' : World) : Prop := Foot (NetM r q) (NetM r q') w w' ∧ ∀ k, NetF q' k → NetF q k ∨ w.heap.size ≤ k
theorem NetTo.keep {q : NetP} {w w' : World} (h : Keep w w') : NetTo r q q w w' := ⟨⟨h.mono (fun _ h => h.elim), fun _ h => .inl h⟩, fun _ h => .inl h⟩
theorem NetTo.trans {q q1 q2 : NetP} {a b c : World} (h1 : NetTo r q q1 a b) (h2 : NetTo r q1 q2 b c) : NetTo r q q2 a c :=
  ⟨h1.1.trans h2.1, fun k hk => (h2.2 k hk).elim (h1.2 k) (fun h => .inr (Nat.le_trans h1.1.1.size h))⟩
theorem Keep.netTo {q q' : NetP} {a b c : World} (h1 : Keep a b) (h2 : NetTo r q q' b c) : NetTo r q q' a c :=
  ⟨Keep.foot h1 h2.1, fun k hk => (h2.2 k hk).imp (fun h => h) (fun h => Nat.le_trans h1.size h)⟩
theorem NetTo.keepR {q q' : NetP} {a b c : World} (h1 : NetTo r q q' a b) (h2 : Keep b c) : NetTo r q q' a c := ⟨h1.1.keep h2, h1.2⟩

theorem put_spec (h : NetAt w r q ns ms nx) (m2 f t : Int) (s : Slc) (b : List UInt8) (hb : bytesAt w s b) (hb2 : b.length ≤ 4096) (hlen : ms.length < 4096) (hnx : 0 ≤ nx ∧ nx ≤ 2 ^ 40) :
    Calls Tryd.prog fn_net_Net_put ⟨[ptrR r, .agg ⟨msgC m2 f t s⟩]⟩ w fun e w' => e = .returned (.tuple ⟨[.int .i64 nx, .nilIface]⟩) ∧ ∃ q', NetAt w' r q' ns (ms ++ [(nx, f, t, b)]) (nx + 1) ∧ NetTo r q q' w w' := by
  refine net_Net_put_ok _ _ _ _ _ ?_
  unfold net_Net_put
  have hsl := h.m.sl
  have hbl := hb.1
  refine newS_mk (fun r6 w7 hr6 hb6 k7 hs7 => ?_)
  have o7 := ObjAt.new' hb6
  have h7 := h.keep k7
  refine needSome_mk rfl ⟨_, h7.c1, BIf_dec (fun hh => by omega) (fun _ => ?_)⟩
  have kd := k7.drew
  have hd := h.keep kd
  have od := o7.keep (Ext.drew _ w7)
  refine needSome_mk rfl ⟨_, hd.c2, s, od.cell 3 (by simp), ?_⟩
  refine (CloneB_own s b _ (bytesAt_keep hb kd) (by omega)).mono ?_
  rintro e w15 ⟨s16, rfl, own16, fr16, k15'⟩
  have k15 := kd.trans k15'
  have h15 := h.keep k15
  have o15 := od.keep k15'
  have zd : w7.drew.heap.size = w7.heap.size := rfl
  have z15 := k15'.size
  obtain ⟨cw1, g1⟩ := o15.setOne 0 (by simp) (.int .i64 nx)
  refine ⟨s16, rfl, ⟨_, h15.c2, rfl⟩, cw1, fun w18 hw18 => ?_⟩
  obtain ⟨o18, e18, z18⟩ := g1 w18 hw18
  obtain ⟨cw2, g2⟩ := o18.setOne 3 (by simp) s16.v
  refine ⟨cw2, fun w19 hw19 => ?_⟩
  obtain ⟨o19, e19, z19⟩ := g2 w19 hw19
  have k18 : Keep w w18 := k15.step (by omega) e18
  have k19 : Keep w w19 := k18.step (by omega) e19
  have k19d := k19.drew
  have own19 : Own w19.drew s16 1 (b.map byteV) := (((own16.ext e18 (fun k hk hh => by have := fr16 k hk; omega)).ext e19 (fun k hk hh => by have := fr16 k hk; omega))).keep (Ext.drew _ _)
  have h19 := h.keep k19d
  have o19d := o19.keep (Ext.drew _ w19)
  refine needSome_mk rfl ⟨_, h19.c1, nx, f, t, s16, o19d.row, newS_mk (fun r26 w27 hr26 hb26 k27' hs27 => ?_)⟩
  have k27 := k19d.trans k27'
  have h27 := h.keep k27
  have own27 := own19.keep k27'
  have z19d : w19.drew.heap.size = w19.heap.size := rfl
  refine ⟨⟨_, h27.c1, rfl⟩, ?_⟩
  have f16 : ∀ k, ownB s16 k → w.heap.size ≤ k := fun k hk => by have := fr16 k hk; have := k7.size; omega
  have f16l : ∀ k, ownB s16 k → k < w27.heap.size := OwnLt own27
  have hxl := h.lt
  refine h27.m.snoc (e := MsgR) (cs := msgC nx f t s16) (x := (nx, f, t, b)) rfl ⟨s16, rfl, own27.bytes, hb2⟩ (fun k hk => ?_) hb26 (.inl (by simp)) (by omega) (fun s29 w30 hR e30 hn30 => ?_)
  · obtain ⟨_, hk⟩ := foot_msg hk
    intro hh
    have := f16 k hk
    have := hxl k (.inr (.inr hh))
    omega
  have o30 := h27.o.ext e30 (fun hh => h.dw hh)
  have n30 := h27.n.ext e30 (fun k hk hh => h.dd k hk hh) (fun k hk => (footC_node h27.n k hk).elim)
  obtain ⟨cw3, g3⟩ := o30.setOne 1 (by simp) s29.v
  refine needSome_mk rfl ?_
  rw [add_lit]
  refine ⟨cw3, fun w32 hw32 => ?_⟩
  obtain ⟨o32, e32, z32⟩ := g3 w32 hw32
  refine needSome_mk rfl ⟨nx, by rw [add_lit]; exact o32.cell 2 (by simp), inR64 (by omega), needSome_mk rfl ?_⟩
  obtain ⟨cw4, g4⟩ := o32.setOne 2 (by simp) (.int .i64 (nx + 1))
  rw [add_lit]
  refine ⟨cw4, fun w36 hw36 => ?_⟩
  obtain ⟨o36, e36, z36⟩ := g4 w36 hw36
  have z27 := k27.size
  have z30 := e30.size
  have hrl := h.o.lt
  have o36r6 : ObjAt w36 r6 _ := (((o19d.keep k27').ext e30 (fun hh => by have := hxl r6 (.inr (.inr hh)); omega)).ext e32 (fun hh => by omega)).ext e36 (fun hh => by omega)
  refine ⟨nx, o36r6.cell 0 (by simp), rfl, ⟨q.sn, s29, q.nss, q.mss ++ [msgC nx f t s16]⟩, ?_, ?_⟩
  · have dw' : ¬ ownB s29 r := fun hh => (hn30 r hh).elim h.dw (fun hh => by omega)
    have rsep : ∀ k, footC (q.mss ++ [msgC nx f t s16]) k → NetF q k ∨ ownB s16 k := by
      rintro k ⟨cs, hc, hk⟩
      rcases List.mem_append.1 hc with hc | hc
      · exact .inl ⟨cs, hc, hk⟩
      · rw [List.mem_singleton] at hc; subst hc; exact .inr (foot_msg hk).2
    have hfr : ∀ k, footC (q.mss ++ [msgC nx f t s16]) k → k ≠ r := fun k hk => (rsep k hk).elim (fun hh => (h.df k hh).1) (fun hh e => by have := f16 k hh; omega)
    refine ⟨o36, (n30.ext e32 (fun k hk hh => h.dn (hh ▸ hk)) (fun k hk => (footC_node n30 k hk).elim)).ext e36 (fun k hk hh => h.dn (hh ▸ hk)) (fun k hk => (footC_node n30 k hk).elim),
      (hR.ext e32 (fun k hk hh => dw' (hh ▸ hk)) (fun k hk hh => hfr k hk hh)).ext e36 (fun k hk hh => dw' (hh ▸ hk)) (fun k hk hh => hfr k hk hh), h.dn, dw', fun k hk hh => ?_, fun k hk => ⟨hfr k hk, ?_⟩⟩
    · rcases hn30 k hh with h1 | h1
      · exact h.dd k hk h1
      · have := hxl k (.inr (.inl hk)); omega
    · rcases rsep k hk with h1 | h1
      · exact (h.df k h1).2
      · intro hh; have := f16 k h1; have := hxl k (.inr (.inl hh)); omega
  · refine ⟨⟨((k27.foot ⟨e30, fun _ h => .inl h⟩).1.mono (M' := NetM r q) (fun k hk => .inr (.inr hk))).trans (Ext.trans (M := fun x => x = r) e32 e36 (fun _ h => h) (fun _ h => .inl h)) (fun _ h => h) (fun k hk => .inl (.inl hk)), fun k hk => ?_⟩, fun k hk => ?_⟩
    · rcases hk with h1 | h1 | h1
      · exact .inl (.inl h1)
      · exact .inl (.inr (.inl h1))
      · rcases hn30 k h1 with h2 | h2
        · exact .inl (.inr (.inr h2))
        · exact .inr (by omega)
    · obtain ⟨cs, hc, hk⟩ := hk
      rcases List.mem_append.1 hc with hc | hc
      · exact .inl ⟨cs, hc, hk⟩
      · rw [List.mem_singleton] at hc; subst hc; exact .inr (f16 k (foot_msg hk).2)

theorem Delete_spec {K : Prop} {w : World} {s : Slc} {xs : List Msg} {css : List (List Value)} (h : Rows MsgR w s xs css) {i : Nat} (hi : i < css.length) (hl : xs.length ≤ 2 ^ 30) :
    Calls Tryd.prog fn_slices_Delete_Message ⟨[s.v, .int .i64 (i : Int), .int .i64 ((i : Int) + 1)]⟩ w fun e w' => e = .returned (Slc.v ⟨s.p, s.l - 1, s.c⟩) ∧ Rows MsgR w' ⟨s.p, s.l - 1, s.c⟩ (xs.eraseIdx i) (css.eraseIdx i) ∧ Ext (ownB s) w w' := by
  refine slices_Delete_Message_ok _ _ _ ?_
  unfold slices_Delete_Message
  have hsl := h.sl
  have hcl := h.len
  have hcap := h.cap
  refine ⟨by omega, by omega, by omega, by omega, BIf_dec (fun hh => by omega) (fun _ => ⟨by omega, by omega, by omega, by omega, by omega, by omega, by omega, by omega, ?_⟩)⟩
  have hd := h.keep (Ext.drew _ w)
  rw [show Int.toNat (i : Int) = i by omega, show Int.toNat ((i : Int) + 1) = i + 1 by omega]
  obtain ⟨old, new, c1, c2, c3, c4, c5, c6, c7⟩ := hd.cut (z := [.int .i64 0, .int .i64 0, .int .i64 0, Slc.v ⟨none, 0, 0⟩]) (E := ty_net_Message) (K := fun w' => Rows MsgR w' ⟨s.p, s.l - 1, s.c⟩ (xs.eraseIdx i) (css.eraseIdx i) ∧ Ext (ownB s) w.drew w') hi rfl (msg_one 0 0 0 ⟨none, 0, 0⟩) hl (fun w' g1 g2 g3 => ⟨g1, g2⟩)
  refine ⟨old, new, c1, c2, c3, c4, c5, c6, fun s7 w8 hA => ?_⟩
  obtain ⟨rfl, g⟩ := c7 s7 w8 hA
  refine ⟨by omega, ?_, ?_, ?_, ?_⟩
  · show ((s.l - 1 : Nat) : Int) ≤ _; omega
  · show ((s.l : Nat) : Int) ≤ ((s.c : Nat) : Int); omega
  · exact Int.le_refl _
  exact g.mono (fun w1 hg => ⟨rfl, hg.1, (Ext.drew _ _).trans hg.2 (fun _ h => h) (fun _ h => .inl h)⟩)

theorem take_spec (h : NetAt w r q ns ms nx) {k : Nat} (hk : k < ms.length) (hl : ms.length ≤ 2 ^ 30) :
    Calls Tryd.prog fn_net_Net_take ⟨[ptrR r, .int .i64 (k : Int)]⟩ w fun e w' => ∃ (s : Slc) (q' : NetP), e = .returned (.agg ⟨msgC ms[k].1 ms[k].2.1 ms[k].2.2.1 s⟩) ∧ bytesAt w' s ms[k].2.2.2 ∧ (∀ x, 0 < s.l → ownB s x → NetF q x) ∧ NetAt w' r q' ns (ms.eraseIdx k) nx ∧ NetTo r q q' w w' := by
  refine net_Net_take_ok _ _ ?_
  unfold net_Net_take
  have hsl := h.m.sl
  have hxl := h.lt
  have hrl := h.o.lt
  refine newS_mk (fun r3 w4 hr3 hb3 k4 hs4 => ?_)
  have h4 := h.keep k4
  have o4 := ObjAt.new' hb3
  obtain ⟨a, s, ha, hsp, hk', he, hrow, hb, hb2⟩ := h4.msg hk
  refine needSome_mk rfl ⟨_, h4.c1, needSome_mk ha ⟨by omega, by omega, _, _, _, s, by rw [show Int.toNat (k : Int) * 4 = k * 4 by omega]; exact hrow, ?_⟩⟩
  have hsf : ∀ x, 0 < s.l → ownB s x → NetF q x := fun x h0 hx => ⟨q.mss[k], List.getElem_mem hk', by rw [he]; exact ⟨s, by simp [msgC], h0, hx⟩⟩
  refine newS_mk (fun r12 w13 hr12 hb12 k13' hs13 => ?_)
  have k13 := k4.trans k13'
  obtain ⟨cw1, g1⟩ := (ObjAt.new' hb12).setAll (cs := msgC ms[k].1 ms[k].2.1 ms[k].2.2.1 s) rfl rfl
  refine ⟨cw1, fun w14 hw14 => ?_⟩
  obtain ⟨o14, e14, z14⟩ := g1 w14 hw14
  have k14 : Keep w w14 := k13.step (by have := k4.size; omega) e14
  have h14 := h.keep k14
  refine needSome_mk rfl ⟨_, h14.c1, inR64 (by omega), ?_⟩
  refine (Delete_spec (K := True) h14.m hk' hl).mono ?_
  rintro e w18 ⟨rfl, hR, e18⟩
  have z18 := e18.size
  have z4 := k4.size
  have o18 := h14.o.ext e18 (fun hh => h.dw hh)
  have n18 := h14.n.ext e18 (fun k hk hh => h.dd k hk hh) (fun k hk => (footC_node h14.n k hk).elim)
  have o18r12 := o14.ext e18 (fun hh => by have := hxl _ (.inr (.inr hh)); omega)
  obtain ⟨cw2, g2⟩ := o18.setOne 1 (by simp) (Slc.v ⟨q.sw.p, q.sw.l - 1, q.sw.c⟩)
  refine ⟨_, rfl, needSome_mk rfl ?_⟩
  rw [add_lit]
  refine ⟨cw2, fun w21 hw21 => ?_⟩
  obtain ⟨o21, e21, z21⟩ := g2 w21 hw21
  have o21r12 := o18r12.ext e21 (fun hh => by omega)
  refine ⟨_, _, _, s, o21r12.row, ?_⟩
  have o3 : ObjAt w21 r3 _ := ((((o4.keep k13').ext e14 (fun hh => by omega)).ext e18 (fun hh => by have := hxl _ (.inr (.inr hh)); omega))).ext e21 (fun hh => by omega)
  obtain ⟨cw3, g3⟩ := o3.setAll (cs := msgC ms[k].1 ms[k].2.1 ms[k].2.2.1 s) rfl rfl
  refine ⟨cw3, fun w26 hw26 => ?_⟩
  obtain ⟨o26, e26, z26⟩ := g3 w26 hw26
  have ownE : ∀ x, ownB ⟨q.sw.p, q.sw.l - 1, q.sw.c⟩ x ↔ ownB q.sw x := fun x => Iff.rfl
  have hfs : ∀ x, footC (q.mss.eraseIdx k) x → NetF q x := fun x ⟨cs, hc, hx⟩ => ⟨cs, List.mem_of_mem_eraseIdx hc, hx⟩
  have hflt := h.flt
  have hbb : bytesAt w26 s ms[k].2.2.2 := by
    refine bytesAt_stay (bytesAt_stay (bytesAt_stay (bytesAt_stay (bytesAt_keep hb k13') e14 (fun h0 x hx hh => ?_)) e18 (fun h0 x hx hh => ?_)) e21 (fun h0 x hx hh => ?_)) e26 (fun h0 x hx hh => ?_)
    · have := hflt x (hsf x h0 hx); omega
    · exact h.m.sep x (hsf x h0 hx) hh
    · exact (h.df x (hsf x h0 hx)).1 hh
    · have := hflt x (hsf x h0 hx); omega
  refine ⟨_, _, _, s, o26.row, s, ⟨q.sn, ⟨q.sw.p, q.sw.l - 1, q.sw.c⟩, q.nss, q.mss.eraseIdx k⟩, rfl, hbb, hsf, ⟨o21.ext e26 (fun hh => by omega), (n18.ext e21 (fun x hx hh => h.dn (hh ▸ hx)) (fun x hx => (footC_node n18 x hx).elim)).ext e26 (fun x hx hh => by have := hxl x (.inr (.inl hx)); omega) (fun x hx => (footC_node n18 x hx).elim),
    (hR.ext e21 (fun x hx hh => h.dw (hh ▸ hx)) (fun x hx hh => (h.df x (hfs x hx)).1 hh)).ext e26 (fun x hx hh => by have := hxl x (.inr (.inr hx)); omega) (fun x hx hh => by have := hflt x (hfs x hx); omega), h.dn, h.dw, h.dd, fun x hx => h.df x (hfs x hx)⟩, ⟨⟨?_, fun x hx => .inl hx⟩, fun x hx => .inl (hfs x hx)⟩⟩
  have E1 : Ext (NetM r q) w w18 := (Ext.trans (M := NetM r q) k14 e18 (fun _ h => h.elim) (fun x hx => .inl (.inr (.inr hx))))
  have E2 : Ext (NetM r q) w w21 := E1.trans e21 (fun _ h => h) (fun x hx => .inl (.inl hx))
  exact E2.trans e26 (fun _ h => h) (fun x hx => .inr (by omega))
end Go.D
