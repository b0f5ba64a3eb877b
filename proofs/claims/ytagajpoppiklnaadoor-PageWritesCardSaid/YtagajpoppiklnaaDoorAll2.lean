/-
  WHAT IS PROVED: contracts of functions, and the plain law, for this proof. No further conditions.
-/
import Derived.Test.YtagajpoppiklnaaDoorAll1
import Derived.Test.YtagajpoppiklnaaDoorRowsM
import Derived.Test.YtagajpoppiklnaaDoorFlat
import Derived.Test.YtagajpoppiklnaaDoorVClaw06
set_option linter.unusedVariables false
set_option linter.unusedSimpArgs false
set_option maxRecDepth 8000
namespace Go.D
open Go Go.Proofs

/-! ### records, read -/
theorem foot_op {x : OpS} {k : Nat} : ¬ footV (opC x) k := by rintro ⟨s, hs, _⟩; simp [opC, Slc.v, strV] at hs
def OpR : RowD OpS where
  n := 5
  pos := by omega
  R _ x cs := cs = opC x
  len h := by rw [h]; rfl
  one h := by rw [h]; intro v hv; simp [opC] at hv; rcases hv with rfl | rfl | rfl | rfl | rfl <;> rfl
  ext h _ _ := h
  lt h := by rw [h]; intro k hk; exact (foot_op hk).elim
def OpO (w : World) (s : Slc) (l : List OpS) : Prop := Rows OpR w s l (l.map opC)
theorem footC_op {l : List OpS} {k : Nat} : ¬ footC (l.map opC) k := by
  rintro ⟨cs, hc, hk⟩
  obtain ⟨x, _, rfl⟩ := List.mem_map.1 hc
  exact foot_op hk
theorem OpO.ext {M : Nat → Prop} {w w' : World} {s : Slc} {l : List OpS} (h : OpO w s l) (he : Ext M w w') (h1 : ∀ k, ownB s k → ¬ M k) : OpO w' s l := Rows.ext h he h1 (fun k hk => (footC_op hk).elim)
theorem OpO.keep {w w' : World} {s : Slc} {l : List OpS} (h : OpO w s l) (he : Keep w w') : OpO w' s l := h.ext he (fun _ _ h => h)
theorem OpO.nil (w : World) : OpO w ⟨none, 0, 0⟩ [] := Rows.nil _ _
theorem OpO.at {w : World} {s : Slc} {l : List OpS} (h : OpO w s l) : OpsAt w s l := by
  refine ⟨Rows.sl h, Rows.cap h, fun i hi => ?_⟩
  obtain ⟨a, ha, _, hrow⟩ := Rows.get h (i := i) (by simpa using hi)
  rw [List.getElem_map] at hrow
  exact ⟨a, ha, hrow⟩
theorem OpO.push {T E : TypeId} {w : World} {s : Slc} {l : List OpS} {x : OpS} {r : Nat} {K : Slc → World → Prop} (h : OpO w s l) (hb : w.heap[r]? = some (.cells ⟨opC x⟩ T)) (hlen : l.length < 2 ^ 30)
    (hK : ∀ s' w', OpO w' s' (l ++ [x]) → Ext (ownB s) w w' → (∀ k, ownB s' k → ownB s k ∨ w.heap.size ≤ k) → K s' w') :
    appendS 5 E [.int .i64 0, strV [], strV [], strV [], .int .i64 0] w s (.slc ⟨some ⟨r, 0, none⟩, 1, 1⟩) K := by
  refine Rows.snoc (e := OpR) h (cs := opC x) (x := x) rfl rfl (fun k hk => (foot_op hk).elim) hb (.inl (by simp)) hlen (fun s' w' g1 g2 g3 => hK s' w' ?_ g2 g3)
  have : (l ++ [x]).map opC = l.map opC ++ [opC x] := by simp
  unfold OpO; rw [this]; exact g1

def sliceLen : Option Value → Nat
  | some (.slice _ l _) => l
  | _ => 0

theorem readWriting_spec {A : Nat → Addr} {n0 : Nat} {w0 w : World} {r : Nat} {F : Nat → Prop} {rest : List UInt8} (e : EnS) (h1 : e.kind = 1) (hr : rightE e = true) (hs : SmallE e)
    (h : RdK A n0 w0 w r F (numB e.shard ++ (numB e.client ++ (numB e.seq ++ (numB (e.ops.length : Int) ++ (e.ops.flatMap bytesOp ++ rest)))))) :
    Calls Tryd.prog fn_entry_readWriting ⟨[.pointer (some ⟨r, 0, none⟩)]⟩ w fun x w' => ∃ s : Slc, x = .returned (.iface ty_entry_writing (.agg ⟨[.int .i64 e.shard, .int .i64 e.client, .int .i64 e.seq, s.v]⟩)) ∧
      OpO w' s (e.ops.map cleanOp) ∧ RdK A n0 w0 w' r F rest ∧ Ext (eqB r) w w' := by
  have hh : (1 ≤ e.shard ∧ e.shard ≤ 12) ∧ (1 ≤ e.client ∧ e.client ≤ 4) ∧ (1 ≤ e.seq ∧ e.seq ≤ 1073741824) ∧ (1 ≤ (e.ops.length : Int) ∧ (e.ops.length : Int) ≤ 8) ∧ e.ops.all rightOp = true := by
    unfold rightE at hr
    rw [if_pos h1] at hr
    simp only [Bool.and_eq_true, uptoB_iff] at hr
    exact hr
  obtain ⟨a1, a2, a3, a4, a5⟩ := hh
  have a5' : ∀ o ∈ e.ops, rightOp o = true := by simpa [List.all_eq_true] using a5
  refine entry_readWriting_ok _ ?_
  unfold entry_readWriting
  have hrl := h.l
  refine (rdNum h (by omega) (by omega) (by omega)).mono ?_
  rintro x w3 ⟨rfl, h3, e3⟩
  refine ⟨_, rfl, (rdNum h3 (by omega) (by omega) (by omega)).mono ?_⟩
  rintro x w6 ⟨rfl, h6, e6⟩
  refine ⟨_, rfl, (rdNum h6 (by omega) (by omega) (by omega)).mono ?_⟩
  rintro x w9 ⟨rfl, h9, e9⟩
  have ee9 := (e3.trans' e6).trans' e9
  have z9 := ee9.size
  refine ⟨_, rfl, var_mk (cs := [.int .i64 e.shard, .int .i64 e.client, .int .i64 e.seq, (⟨none, 0, 0⟩ : Slc).v]) rfl rfl (fun r11 w13 hr11 o11 k13 hs13 => ?_)⟩
  have n11 : r11 ≠ r := by omega
  refine (rdNum (h9.keep k13) (by omega) a4.2 (by omega)).mono ?_
  rintro x w15 ⟨rfl, h15, e15⟩
  have ee15 := (ee9.trans' (k13.mono (fun _ h => h.elim))).trans' e15
  have z0 := h.k.size
  refine ⟨_, rfl, fun w2 => ∃ (k : Nat) (s : Slc), k ≤ e.ops.length ∧ ObjAt w2 r11 [.int .i64 e.shard, .int .i64 e.client, .int .i64 e.seq, s.v] ∧ OpO w2 s ((e.ops.take k).map cleanOp) ∧ RdK A n0 w0 w2 r F ((e.ops.drop k).flatMap bytesOp ++ rest) ∧ Ext (eqB r) w w2 ∧ (∀ j, ownB s j → w.heap.size ≤ j ∧ j ≠ r11) ∧ s.l = k, fun w2 => e.ops.length - sliceLen (w2.cell? ⟨r11, 3, none⟩), ⟨0, ⟨none, 0, 0⟩, by omega, o11.ext e15 (fun hh => n11 hh), OpO.nil _, h15, ee15, fun j hj => (by obtain ⟨a, ha, _⟩ := hj; cases ha), rfl⟩, ?_⟩
  rintro w19 ⟨k, s, hk, o19, q19, h19, e19, f19, hsl⟩
  intros
  have n11' := n11
  have z11 : w.heap.size ≤ r11 := by omega
  have hn := hs.n
  have z19 := e19.size
  have F11 : ¬ F r11 := fun hf => by have := (h.f _ hf).2; omega
  have c3 := o19.cell 3 (by simp)
  refine ⟨s, c3, BIf_dec (fun hlt => ?_) (fun hge => ?_)⟩
  · have hkl : k < e.ops.length := by omega
    have kd : Keep w19 (World.drew w19) := Keep.drew (Ext.refl _ _)
    have hsp : (e.ops.drop k).flatMap bytesOp ++ rest = bytesOp e.ops[k] ++ ((e.ops.drop (k + 1)).flatMap bytesOp ++ rest) := by
      rw [List.drop_eq_getElem_cons hkl, List.flatMap_cons, List.append_assoc]
    rw [hsp] at h19
    refine ⟨s, (o19.keep kd).cell 3 (by simp), (readOp_spec e.ops[k] (a5' _ (List.getElem_mem hkl)) (hs.o _ (List.getElem_mem hkl)) (h19.keep kd)).mono ?_⟩
    rintro x w35 ⟨rfl, h35, e35⟩
    have o35 := (o19.keep kd).ext e35 (fun hh => n11 hh)
    have q35 := (q19.keep kd).ext e35 (fun j hj hh => by have := (f19 j hj).1; rw [show j = r from hh] at this; omega)
    have ee35 : Ext (eqB r) w w35 := (e19.trans' (kd.mono (fun _ h => h.elim))).trans' e35
    refine ⟨_, _, _, _, _, rfl, ⟨s, o35.cell 3 (by simp), rfl⟩, newS_mk (fun r42 w43 hr42 hb42 k43 hs43 => ?_)⟩
    have o43 := o35.keep k43
    refine ⟨⟨s, o43.cell 3 (by simp), rfl⟩, ?_⟩
    have ee43 : Ext (eqB r) w w43 := ee35.trans' (k43.mono (fun _ h => h.elim))
    have z43 := ee43.size
    have zr11 := o43.lt
    refine OpO.push (x := cleanOp e.ops[k]) (q35.keep k43) hb42 (by rw [List.length_map, List.length_take]; omega) (fun s' w46 g1 g2 g3 => ?_)
    have o46 := o43.ext g2 (fun hh => (f19 _ hh).2 rfl)
    obtain ⟨cw, g⟩ := o46.setOne 3 (by simp) s'.v
    refine ⟨cw, fun w47 h47 => ?_⟩
    obtain ⟨g4, g5, _⟩ := g w47 h47
    have f' : ∀ j, ownB s' j → w.heap.size ≤ j ∧ j ≠ r11 := fun j hj => by
      rcases g3 j hj with hh | hh
      · exact f19 j hh
      · exact ⟨by omega, by omega⟩
    have h46 := (h35.keep k43).ext g2 (fun j hj => .inr ⟨by have := (f19 j hj).1; omega, by have := (f19 j hj).1; omega, fun hf => by have := (h.f _ hf).2; have := (f19 j hj).1; omega⟩)
    have ee46 : Ext (eqB r) w w46 := Ext.trans ee43 g2 (fun _ h => h) (fun j hj => .inr (f19 j hj).1)
    have hlk : s'.l = k + 1 := by
      have := Rows.sl g1
      rw [this, List.length_append, List.length_map, List.length_take]
      simp
      omega
    refine ⟨⟨k + 1, s', by omega, g4, ?_, h46.ext g5 (fun j hj => .inr (by rw [show j = r11 from hj]; exact ⟨by omega, n11, F11⟩)), Ext.trans ee46 g5 (fun _ h => h) (fun j hj => .inr (by rw [show j = r11 from hj]; exact z11)), f', hlk⟩, ?_⟩
    · have := g1.ext g5 (fun j hj hh => (f' j hj).2 hh)
      rw [List.take_succ_eq_append_getElem hkl, List.map_append]; exact this
    · have c4 := g4.cell 3 (by simp)
      dsimp only
      rw [c3, c4]
      simp [sliceLen, Slc.v]
      omega
  · have hke : k = e.ops.length := by omega
    subst hke
    rw [List.take_length] at q19
    rw [List.drop_length, List.flatMap_nil, List.nil_append] at h19
    exact ⟨_, _, _, s, o19.row, s, rfl, q19, h19, e19⟩
end Go.D

set_option linter.unusedVariables false
set_option linter.unusedSimpArgs false
set_option maxRecDepth 8000
namespace Go.D
open Go Go.Proofs

/-! ### a record's entry -/
def cleanE (e : EnS) : EnS :=
  if e.kind = 1 then ⟨1, e.shard, 0, 0, e.client, e.seq, e.ops.map cleanOp, [], 0, 0, 0, []⟩
  else if e.kind = 2 then ⟨2, e.shard, 0, e.server, 0, 0, [], [], 0, 0, 0, []⟩
  else if e.kind = 3 then ⟨3, e.shard, e.other, e.server, 0, 0, [], e.key, 0, 0, 0, []⟩
  else if e.kind = 4 then ⟨4, e.shard, e.other, 0, 0, 0, [], [], 0, 0, 0, []⟩
  else ⟨5, e.shard, 0, 0, 0, 0, [], [], e.upto, e.part, e.parts, e.data⟩
theorem opsAt_nil (w : World) : OpsAt w ⟨none, 0, 0⟩ [] := ⟨rfl, by decide, fun i hi => by simp at hi⟩
theorem bytesAt_nil' (w : World) : bytesAt w ⟨none, 0, 0⟩ [] := ⟨rfl, .inl rfl⟩
def zE : List Value := [.int .i64 0, .int .i64 0, .int .i64 0, .int .i64 0, .int .i64 0, .int .i64 0, (⟨none, 0, 0⟩ : Slc).v, strV [], .int .i64 0, .int .i64 0, .int .i64 0, (⟨none, 0, 0⟩ : Slc).v]
theorem entry_spec (e : EnS) (so sd : Slc) (w : World) (h : EnAt w e so sd) (hs : SmallE e) (hkd : kindOk e) :
    Calls Tryd.prog fn_entry_entry ⟨[.iface (recT e) (.agg ⟨recC e so sd⟩)]⟩ w fun x w' => ∃ so' sd' : Slc, x = .returned (.agg ⟨enC (cleanE e) so' sd'⟩) ∧ EnAt w' (cleanE e) so' sd' ∧ Fresh w so' ∧ Fresh w sd' ∧ Keep w w' := by
  refine entry_entry_ok _ ?_
  unfold entry_entry
  refine newS_mk (fun r2 w3 hr2 hb2 k3 hs3 => ?_)
  have o2 : ObjAt w3 r2 zE := ObjAt.new' hb2
  have z3 := k3.size
  unfold kindOk at hkd
  have hn := hs.n
  have fin : ∀ {w' : World} {so' sd' : Slc}, ObjAt w' r2 zE → Keep w w' → EnAt w' (cleanE e) so' sd' → (∀ j, ownB so' j → w3.heap.size ≤ j) → (∀ j, ownB sd' j → w3.heap.size ≤ j) →
      canW w' (⟨r2, 0, none⟩ : Addr) 12 ∧ ∀ w2 : World, w2 = setCells w' (⟨r2, 0, none⟩ : Addr) 0 (enC (cleanE e) so' sd') → ObjAt w2 r2 (enC (cleanE e) so' sd') ∧ ∃ so2 sd2 : Slc, Ending.returned (.agg ⟨enC (cleanE e) so' sd'⟩) = .returned (.agg ⟨enC (cleanE e) so2 sd2⟩) ∧ EnAt w2 (cleanE e) so2 sd2 ∧ Fresh w so2 ∧ Fresh w sd2 ∧ Keep w w2 := by
    intro w' so' sd' p2 kw hE f1 f2
    obtain ⟨cw, g⟩ := p2.setAll (n := 12) (cs := enC (cleanE e) so' sd') rfl rfl
    refine ⟨cw, fun w2 h2 => ?_⟩
    obtain ⟨g1, g2, _⟩ := g w2 h2
    exact ⟨g1, so', sd', rfl, ⟨hE.o.ext g2 (fun _ k hk hh => by have := f1 k hk; have hh : k = r2 := hh; omega), bytesAt_ext hE.d g2 (fun k hk hh => by have := f2 k hk; have hh : k = r2 := hh; omega), hE.c⟩, fun j hj => by have := f1 j hj; omega, fun j hj => by have := f2 j hj; omega, kw.step (by omega) g2⟩
  have nn : ∀ j, ownB (⟨none, 0, 0⟩ : Slc) j → w3.heap.size ≤ j := fun j hj => by obtain ⟨a, ha, _⟩ := hj; cases ha
  by_cases h1 : e.kind = 1
  · unfold recT recC
    rw [if_pos h1, if_pos h1]
    refine .inl ⟨_, _, _, _, rfl, var_mk rfl rfl (fun r8 w10 hr8 o8 k10 hs10 => ?_)⟩
    refine ⟨_, o8.cell 0 (by simp), _, o8.cell 1 (by simp), _, o8.cell 2 (by simp), var_mk (cs := [.int .i64 1, .int .i64 e.shard, .int .i64 0, .int .i64 0, .int .i64 e.client, .int .i64 e.seq, (⟨none, 0, 0⟩ : Slc).v, strV [], .int .i64 0, .int .i64 0, .int .i64 0, (⟨none, 0, 0⟩ : Slc).v]) rfl rfl (fun r14 w16 hr14 o14 k16 hs16 => ?_)⟩
    refine ⟨so, (o8.keep k16).cell 3 (by simp), ?_⟩
    have kk16 := (k3.trans k10).trans k16
    have p2 := (o2.keep k10).keep k16
    have zz16 := (k10.trans k16).size
    refine ⟨fun i w21 => ∃ (k : Nat) (s : Slc), i = k ∧ k ≤ e.ops.length ∧ Keep w w21 ∧ w16.heap.size ≤ w21.heap.size ∧ ObjAt w21 r2 zE ∧ ObjAt w21 r14 [.int .i64 1, .int .i64 e.shard, .int .i64 0, .int .i64 0, .int .i64 e.client, .int .i64 e.seq, s.v, strV [], .int .i64 0, .int .i64 0, .int .i64 0, (⟨none, 0, 0⟩ : Slc).v] ∧ OpO w21 s ((e.ops.take k).map cleanOp) ∧ Fresh w16 s, fun i _ => ((e.ops.length : Int) - i).toNat, ⟨0, _, rfl, by omega, kk16, Nat.le_refl _, p2, o14, OpO.nil _, Fresh.nil _ _ _⟩, ?_⟩
    rintro i w21 ⟨k, s, rfl, hk, k21, z21, q2, q14, q21, f21⟩
    intros
    have hsl := h.o.1
    refine BIf_dec (fun hlt => ?_) (fun hge => ?_)
    · have hkl : k < e.ops.length := by omega
      obtain ⟨a, ha, hrow⟩ := (h.o.keep k21).2.2 k hkl
      refine needSome_mk ha ⟨by omega, hlt, _, _, _, _, _, by rw [Int.toNat_natCast]; exact hrow, ?_⟩
      refine var_mk (cs := opC e.ops[k]) rfl rfl (fun r40 w42 hr40 o40 k42 hs42 => ?_)
      have kd : Keep w42 (World.drew w42) := Keep.drew (Ext.refl _ _)
      have k42d := k42.trans kd
      refine ⟨s, (q14.keep k42d).cell 6 (by simp), _, _, _, _, _, (o40.keep kd).row, (clean_spec e.ops[k] _).mono ?_⟩
      rintro x w50 ⟨rfl, k50⟩
      have kq := k42d.trans k50
      refine ⟨_, _, _, _, _, rfl, ⟨s, (q14.keep kq).cell 6 (by simp), rfl⟩, newS_mk (fun r57 w58 hr57 hb57 k58 hs58 => ?_)⟩
      have kq58 := kq.trans k58
      have z58 := kq58.size
      refine ⟨⟨s, (q14.keep kq58).cell 6 (by simp), rfl⟩, OpO.push (x := cleanOp e.ops[k]) (q21.keep kq58) hb57 (by rw [List.length_map, List.length_take]; omega) (fun s' w61 g1 g2 g3 => ?_)⟩
      have n14 : ¬ ownB s r14 := fun hh => by have := f21 _ hh; omega
      have n2 : ¬ ownB s r2 := fun hh => by have := f21 _ hh; omega
      have f' : Fresh w16 s' := fun j hj => (g3 j hj).elim (fun hh => f21 j hh) (fun hh => by omega)
      obtain ⟨cw, g⟩ := ((q14.keep kq58).ext g2 n14).setOne 6 (by simp) s'.v
      refine ⟨cw, fun w62 h62 => ?_⟩
      obtain ⟨g4, g5, z62⟩ := g w62 h62
      have z61 := g2.size
      have kw61 : Keep w w61 := (k21.trans kq58).ext g2 (fun j hj => by have := f21 j hj; have := kk16.size; omega)
      refine ⟨inR64 (by omega), ⟨k + 1, s', rfl, by omega, kw61.step (by have := k3.size; have := k10.size; omega) g5, by omega, ((q2.keep kq58).ext g2 n2).ext g5 (fun hh => by have hh : r2 = r14 := hh; have := k10.size; omega), g4, ?_, f'⟩, by dsimp only; omega⟩
      have := g1.ext g5 (fun j hj hh => by have := f' j hj; have hh : j = r14 := hh; omega)
      rw [List.take_succ_eq_append_getElem hkl, List.map_append]; exact this
    · have hke : k = e.ops.length := by omega
      subst hke
      rw [List.take_length] at q21
      have hce : cleanE e = ⟨1, e.shard, 0, 0, e.client, e.seq, e.ops.map cleanOp, [], 0, 0, 0, []⟩ := if_pos h1
      have hEA : EnAt w21 (cleanE e) s ⟨none, 0, 0⟩ := by rw [hce]; exact ⟨q21.at, bytesAt_nil' _, by decide⟩
      obtain ⟨cw, g⟩ := fin q2 k21 hEA (fun j hj => by have := f21 j hj; omega) nn
      rw [hce] at g
      refine ⟨_, _, _, _, _, _, _, _, _, _, _, _, q14.row, cw, fun w75 h75 => ?_⟩
      obtain ⟨g1, so2, sd2, g2, g3, g4⟩ := g w75 h75
      rw [hce]
      exact ⟨_, _, _, _, _, _, _, _, _, _, _, _, g1.row, so2, sd2, g2, g3, g4⟩
  by_cases h2 : e.kind = 2
  · unfold recT recC
    rw [if_neg h1, if_neg h1, if_pos h2, if_pos h2]
    refine .inr ⟨isOther_of (by decide), .inl ⟨_, _, rfl, var_mk rfl rfl (fun r8 w10 hr8 o8 k10 hs10 => ?_)⟩⟩
    have hce : cleanE e = ⟨2, e.shard, 0, e.server, 0, 0, [], [], 0, 0, 0, []⟩ := by unfold cleanE; rw [if_neg h1, if_pos h2]
    have hEA : EnAt w10 (cleanE e) ⟨none, 0, 0⟩ ⟨none, 0, 0⟩ := by rw [hce]; exact ⟨opsAt_nil _, bytesAt_nil' _, by decide⟩
    obtain ⟨cw, g⟩ := fin (o2.keep k10) (k3.trans k10) hEA nn nn
    rw [hce] at g
    refine ⟨_, o8.cell 0 (by simp), _, o8.cell 1 (by simp), cw, fun w75 h75 => ?_⟩
    obtain ⟨g1, so2, sd2, g2, g3, g4⟩ := g w75 h75
    rw [hce]
    exact ⟨_, _, _, _, _, _, _, _, _, _, _, _, g1.row, so2, sd2, g2, g3, g4⟩
  by_cases h3 : e.kind = 3
  · unfold recT recC
    rw [if_neg h1, if_neg h1, if_neg h2, if_neg h2, if_pos h3, if_pos h3]
    refine .inr ⟨isOther_of (by decide), .inr ⟨isOther_of (by decide), .inl ⟨_, _, _, _, rfl, var_mk rfl rfl (fun r8 w10 hr8 o8 k10 hs10 => ?_)⟩⟩⟩
    have hce : cleanE e = ⟨3, e.shard, e.other, e.server, 0, 0, [], e.key, 0, 0, 0, []⟩ := by unfold cleanE; rw [if_neg h1, if_neg h2, if_pos h3]
    have hEA : EnAt w10 (cleanE e) ⟨none, 0, 0⟩ ⟨none, 0, 0⟩ := by rw [hce]; exact ⟨opsAt_nil _, bytesAt_nil' _, by decide⟩
    obtain ⟨cw, g⟩ := fin (o2.keep k10) (k3.trans k10) hEA nn nn
    rw [hce] at g
    refine ⟨_, o8.cell 0 (by simp), _, o8.cell 1 (by simp), _, o8.cell 2 (by simp), _, o8.cell 3 (by simp), cw, fun w75 h75 => ?_⟩
    obtain ⟨g1, so2, sd2, g2, g3, g4⟩ := g w75 h75
    rw [hce]
    exact ⟨_, _, _, _, _, _, _, _, _, _, _, _, g1.row, so2, sd2, g2, g3, g4⟩
  by_cases h4 : e.kind = 4
  · unfold recT recC
    rw [if_neg h1, if_neg h1, if_neg h2, if_neg h2, if_neg h3, if_neg h3, if_pos h4, if_pos h4]
    refine .inr ⟨isOther_of (by decide), .inr ⟨isOther_of (by decide), .inr ⟨isOther_of (by decide), .inl ⟨_, _, rfl, var_mk rfl rfl (fun r8 w10 hr8 o8 k10 hs10 => ?_)⟩⟩⟩⟩
    have hce : cleanE e = ⟨4, e.shard, e.other, 0, 0, 0, [], [], 0, 0, 0, []⟩ := by unfold cleanE; rw [if_neg h1, if_neg h2, if_neg h3, if_pos h4]
    have hEA : EnAt w10 (cleanE e) ⟨none, 0, 0⟩ ⟨none, 0, 0⟩ := by rw [hce]; exact ⟨opsAt_nil _, bytesAt_nil' _, by decide⟩
    obtain ⟨cw, g⟩ := fin (o2.keep k10) (k3.trans k10) hEA nn nn
    rw [hce] at g
    refine ⟨_, o8.cell 0 (by simp), _, o8.cell 1 (by simp), cw, fun w75 h75 => ?_⟩
    obtain ⟨g1, so2, sd2, g2, g3, g4⟩ := g w75 h75
    rw [hce]
    exact ⟨_, _, _, _, _, _, _, _, _, _, _, _, g1.row, so2, sd2, g2, g3, g4⟩
  · unfold recT recC
    rw [if_neg h1, if_neg h1, if_neg h2, if_neg h2, if_neg h3, if_neg h3, if_neg h4, if_neg h4]
    refine .inr ⟨isOther_of (by decide), .inr ⟨isOther_of (by decide), .inr ⟨isOther_of (by decide), .inr ⟨isOther_of (by decide), _, _, _, _, _, rfl, var_mk rfl rfl (fun r8 w10 hr8 o8 k10 hs10 => ?_)⟩⟩⟩⟩
    have kd : Keep w10 (World.drew w10) := Keep.drew (Ext.refl _ _)
    have o8' := o8.keep kd
    have kk10 := (k3.trans k10).trans kd
    have hdl := h.d.1
    have hdd := hs.d
    refine ⟨_, o8'.cell 0 (by simp), _, o8'.cell 1 (by simp), _, o8'.cell 2 (by simp), _, o8'.cell 3 (by simp), sd, o8'.cell 4 (by simp), (CloneB_own sd e.data _ (bytesAt_keep h.d kk10) (by omega)).mono ?_⟩
    rintro x w166 ⟨t, rfl, ht, hf, k166⟩
    have p8 := o8'.keep k166
    refine ⟨t, rfl, ⟨_, p8.cell 3 (by simp), rfl⟩, ⟨_, p8.cell 2 (by simp), rfl⟩, ⟨_, p8.cell 1 (by simp), rfl⟩, ⟨_, p8.cell 0 (by simp), rfl⟩, ?_⟩
    have hce : cleanE e = ⟨5, e.shard, 0, 0, 0, 0, [], [], e.upto, e.part, e.parts, e.data⟩ := by unfold cleanE; rw [if_neg h1, if_neg h2, if_neg h3, if_neg h4]
    have hEA : EnAt w166 (cleanE e) ⟨none, 0, 0⟩ t := by rw [hce]; exact ⟨opsAt_nil _, ht.bytes, ht.le (by omega)⟩
    have p2 := (o2.keep k10).keep kd
    obtain ⟨cw, g⟩ := fin (p2.keep k166) (kk10.trans k166) hEA nn (fun j hj => by have := hf j hj; have := (k10.trans kd).size; omega)
    rw [hce] at g
    refine ⟨cw, fun w75 h75 => ?_⟩
    obtain ⟨g1, so2, sd2, g2, g3, g4⟩ := g w75 h75
    rw [hce]
    exact ⟨_, _, _, _, _, _, _, _, _, _, _, _, g1.row, so2, sd2, g2, g3, g4⟩
end Go.D

set_option linter.unusedVariables false
set_option linter.unusedSimpArgs false
set_option maxRecDepth 8000
namespace Go.D
open Go Go.Proofs

/-! ### what is cleaned is the same -/
theorem bytesOp_clean (o : OpS) : bytesOp (cleanOp o) = bytesOp o := by
  unfold cleanOp bytesOp
  by_cases h1 : o.kind = 1
  · rw [if_pos h1]; simp [h1]
  by_cases h3 : o.kind = 3
  · rw [if_neg h1, if_pos h3]; simp [h3]
  by_cases h4 : o.kind = 4
  · rw [if_neg h1, if_neg h3, if_pos h4]; simp [h4]
  · rw [if_neg h1, if_neg h3, if_neg h4]; simp [h1, h3, h4]
theorem rightOp_clean {o : OpS} (h : rightOp o = true) : rightOp (cleanOp o) = true := by
  unfold cleanOp rightOp at *
  by_cases h1 : o.kind = 1
  · rw [if_pos h1]; simpa [h1] using h
  by_cases h3 : o.kind = 3
  · rw [if_neg h1, if_pos h3]; simpa [h3] using h
  by_cases h4 : o.kind = 4
  · rw [if_neg h1, if_neg h3, if_pos h4]; simpa [h4] using h
  · rw [if_neg h1, if_neg h3, if_neg h4]; simpa [h1, h3, h4] using h
theorem small_clean {o : OpS} (h : o.key.length ≤ 300 ∧ o.val.length ≤ 300 ∧ o.old.length ≤ 300) : (cleanOp o).key.length ≤ 300 ∧ (cleanOp o).val.length ≤ 300 ∧ (cleanOp o).old.length ≤ 300 := by
  unfold cleanOp
  split <;> (try split) <;> (try split) <;> simp <;> omega
theorem flat_clean (l : List OpS) : (l.map cleanOp).flatMap bytesOp = l.flatMap bytesOp := by
  induction l with
  | nil => rfl
  | cons a l ih => rw [List.map_cons, List.flatMap_cons, List.flatMap_cons, ih, bytesOp_clean]
theorem clean_ok {e : EnS} (hr : rightE e = true) (hs : SmallE e) : rightE (cleanE e) = true ∧ bytesE (cleanE e) = bytesE e ∧ SmallE (cleanE e) := by
  have hk := right_kind hr
  unfold kindOk at hk
  unfold cleanE
  by_cases h1 : e.kind = 1
  · rw [if_pos h1]
    refine ⟨?_, ?_, ⟨by simpa using hs.n, by simp, by simp, fun o ho => ?_⟩⟩
    · unfold rightE at hr ⊢
      rw [if_pos h1] at hr
      rw [if_pos rfl]
      simp only [Bool.and_eq_true, List.all_eq_true, List.length_map] at hr ⊢
      refine ⟨hr.1, hr.2.1, hr.2.2.1, hr.2.2.2.1, fun o ho => ?_⟩
      obtain ⟨p, hp, rfl⟩ := List.mem_map.1 ho
      exact rightOp_clean (hr.2.2.2.2 p hp)
    · unfold bytesE headE tailE
      simp [h1, flat_clean]
    · obtain ⟨p, hp, rfl⟩ := List.mem_map.1 ho
      exact small_clean (hs.o p hp)
  have nil : ∀ o ∈ ([] : List OpS), o.key.length ≤ 300 ∧ o.val.length ≤ 300 ∧ o.old.length ≤ 300 := fun o ho => by simp at ho
  by_cases h2 : e.kind = 2
  · rw [if_neg h1, if_pos h2]
    refine ⟨?_, ?_, ⟨by simp, by simp, by simp, nil⟩⟩
    · unfold rightE at hr ⊢
      simpa [h2] using hr
    · unfold bytesE headE tailE
      simp [h2]
  by_cases h3 : e.kind = 3
  · rw [if_neg h1, if_neg h2, if_pos h3]
    refine ⟨?_, ?_, ⟨by simp, hs.k, by simp, nil⟩⟩
    · unfold rightE twoB at hr ⊢
      simpa [h3] using hr
    · unfold bytesE headE tailE
      simp [h3]
  by_cases h4 : e.kind = 4
  · rw [if_neg h1, if_neg h2, if_neg h3, if_pos h4]
    refine ⟨?_, ?_, ⟨by simp, by simp, by simp, nil⟩⟩
    · unfold rightE twoB at hr ⊢
      simpa [h4] using hr
    · unfold bytesE headE tailE
      simp [h4]
  · have h5 : e.kind = 5 := by omega
    rw [if_neg h1, if_neg h2, if_neg h3, if_neg h4]
    refine ⟨?_, ?_, ⟨by simp, by simp, hs.d, nil⟩⟩
    · unfold rightE at hr ⊢
      simpa [h5] using hr
    · unfold bytesE headE tailE
      simp [h5]

theorem entryRead_specF (A : Nat → Addr) {n0 : Nat} (e : EnS) (s : Slc) (w : World) (hb : bytesAt w s (bytesE e)) (hr : rightE e = true) (hs : SmallE e) (hE : ErrsB A n0 w) (hn0 : n0 ≤ w.heap.size) :
    Calls Tryd.prog fn_entry_Read ⟨[s.v]⟩ w fun x w' => ∃ so sd : Slc, x = .returned (.tuple ⟨[.agg ⟨enC (cleanE (cleanE e)) so sd⟩, .nilIface]⟩) ∧ EnAt w' (cleanE (cleanE e)) so sd ∧ Keep w w' ∧ Fresh w so ∧ Fresh w sd := by
  have hlen := bytesE_len hs hr
  have hsl := hb.1
  have hkd := right_kind hr
  obtain ⟨c1, c2, c3⟩ := clean_ok hr hs
  have ckd := right_kind c1
  refine entry_Read_ok _ ?_
  unfold entry_Read
  refine newS_mk (fun r2 w3 hr2 hb2 k3 hs3 => ?_)
  have o2 : ObjAt w3 r2 zE := ObjAt.new' hb2
  have z3 := k3.size
  refine (Read_spec A s _ w3 (bytesAt_keep hb k3) (by omega)).mono ?_
  rintro x w5 ⟨r, F, rfl, hI, k5, hr5, hF5⟩
  have hR : RdK A n0 w3 w5 r F (bytesE e) := ⟨hI, hr5, by obtain ⟨_, h, _⟩ := hI; exact h.1.lt, hF5, k5, hE.keep k3, by omega, by omega⟩
  have p2 := o2.keep k5
  have n2 : r2 ≠ r := by omega
  refine ⟨_, rfl, fun v w2 => ∃ so sd : Slc, v = .iface (recT (cleanE e)) (.agg ⟨recC (cleanE e) so sd⟩) ∧ EnAt w2 (cleanE e) so sd ∧ RdK A n0 w3 w2 r F [] ∧ ObjAt w2 r2 zE, ?_, ?_⟩
  · unfold bytesE headE tailE at hR
    unfold kindOk at hkd
    have hk0 : 0 ≤ e.kind ∧ e.kind ≤ 5 := by omega
    by_cases h1 : e.kind = 1
    · simp [h1, List.append_assoc] at hR
      refine (rdNum (n := 1) hR (by omega) (by omega) (by omega)).mono ?_
      rintro x w9 ⟨rfl, h9, e9⟩
      refine ⟨_, rfl, BIf_dec (fun _ => ?_) (fun hh => (hh rfl).elim)⟩
      refine (readWriting_spec (rest := []) e h1 hr hs (by simpa using h9)).mono ?_
      rintro x w12 ⟨t, rfl, ht, h12, e12⟩
      have hce : cleanE e = ⟨1, e.shard, 0, 0, e.client, e.seq, e.ops.map cleanOp, [], 0, 0, 0, []⟩ := if_pos h1
      refine ⟨_, rfl, t, ⟨none, 0, 0⟩, by rw [hce]; rfl, by rw [hce]; exact ⟨ht.at, bytesAt_nil' _, by decide⟩, h12, (p2.ext e9 (fun hh => n2 hh)).ext e12 (fun hh => n2 hh)⟩
    by_cases h2 : e.kind = 2
    · have hb2 : (1 ≤ e.shard ∧ e.shard ≤ 12) ∧ (1 ≤ e.server ∧ e.server ≤ 4) := by
        unfold rightE at hr
        rw [if_neg h1, if_pos h2] at hr
        simpa only [Bool.and_eq_true, uptoB_iff] using hr
      simp [h2, List.append_assoc] at hR
      refine (rdNum (n := 2) hR (by omega) (by omega) (by omega)).mono ?_
      rintro x w9 ⟨rfl, h9, e9⟩
      refine ⟨_, rfl, BIf_dec (fun hh => by cases hh) (fun _ => BIf_dec (fun _ => ?_) (fun hh => (hh rfl).elim))⟩
      refine (rdNum h9 (by omega) (by omega) (by omega)).mono ?_
      rintro x w15 ⟨rfl, h15, e15⟩
      refine ⟨_, rfl, (rdNum (rest := []) (by simpa using h15) (by omega) (by omega) (by omega)).mono ?_⟩
      rintro x w18 ⟨rfl, h18, e18⟩
      have hce : cleanE e = ⟨2, e.shard, 0, e.server, 0, 0, [], [], 0, 0, 0, []⟩ := by unfold cleanE; rw [if_neg h1, if_pos h2]
      exact ⟨_, rfl, ⟨none, 0, 0⟩, ⟨none, 0, 0⟩, by rw [hce]; rfl, by rw [hce]; exact ⟨opsAt_nil _, bytesAt_nil' _, by decide⟩, h18, ((p2.ext e9 (fun hh => n2 hh)).ext e15 (fun hh => n2 hh)).ext e18 (fun hh => n2 hh)⟩
    by_cases h3 : e.kind = 3
    · have ht : twoB e = true ∧ (1 ≤ e.server ∧ e.server ≤ 4) := by
        unfold rightE at hr
        rw [if_neg h1, if_neg h2, if_pos h3] at hr
        simp only [Bool.and_eq_true, uptoB_iff] at hr
        exact ⟨hr.1, hr.2.1⟩
      obtain ⟨⟨a1, a2⟩, ⟨a3, a4⟩, a5⟩ := twoB_iff.1 ht.1
      have hkl := hs.k
      simp [h3, List.append_assoc] at hR
      refine (rdNum (n := 3) hR (by omega) (by omega) (by omega)).mono ?_
      rintro x w9 ⟨rfl, h9, e9⟩
      refine ⟨_, rfl, BIf_dec (fun hh => by cases hh) (fun _ => BIf_dec (fun hh => by cases hh) (fun _ => BIf_dec (fun _ => ?_) (fun hh => (hh rfl).elim)))⟩
      refine (rdNum h9 (by omega) (by omega) (by omega)).mono ?_
      rintro x w15 ⟨rfl, h15, e15⟩
      refine ⟨_, rfl, (rdNum h15 (by omega) (by omega) (by omega)).mono ?_⟩
      rintro x w18 ⟨rfl, h18, e18⟩
      refine ⟨_, rfl, (rdNum h18 (by omega) (by omega) (by omega)).mono ?_⟩
      rintro x w21 ⟨rfl, h21, e21⟩
      refine ⟨_, rfl, (rdText (rest := []) (by simpa using h21) (by omega) (by omega)).mono ?_⟩
      rintro x w24 ⟨rfl, h24, e24⟩
      have hce : cleanE e = ⟨3, e.shard, e.other, e.server, 0, 0, [], e.key, 0, 0, 0, []⟩ := by unfold cleanE; rw [if_neg h1, if_neg h2, if_pos h3]
      exact ⟨_, rfl, ⟨none, 0, 0⟩, ⟨none, 0, 0⟩, by rw [hce]; rfl, by rw [hce]; exact ⟨opsAt_nil _, bytesAt_nil' _, by decide⟩, h24, ((((p2.ext e9 (fun hh => n2 hh)).ext e15 (fun hh => n2 hh)).ext e18 (fun hh => n2 hh)).ext e21 (fun hh => n2 hh)).ext e24 (fun hh => n2 hh)⟩
    by_cases h4 : e.kind = 4
    · have ht : twoB e = true := by
        unfold rightE at hr
        rw [if_neg h1, if_neg h2, if_neg h3, if_pos h4] at hr
        exact hr
      obtain ⟨⟨a1, a2⟩, ⟨a3, a4⟩, a5⟩ := twoB_iff.1 ht
      simp [h4, List.append_assoc] at hR
      refine (rdNum (n := 4) hR (by omega) (by omega) (by omega)).mono ?_
      rintro x w9 ⟨rfl, h9, e9⟩
      refine ⟨_, rfl, BIf_dec (fun hh => by cases hh) (fun _ => BIf_dec (fun hh => by cases hh) (fun _ => BIf_dec (fun hh => by cases hh) (fun _ => BIf_dec (fun _ => ?_) (fun hh => (hh rfl).elim))))⟩
      refine (rdNum h9 (by omega) (by omega) (by omega)).mono ?_
      rintro x w15 ⟨rfl, h15, e15⟩
      refine ⟨_, rfl, (rdNum (rest := []) (by simpa using h15) (by omega) (by omega) (by omega)).mono ?_⟩
      rintro x w18 ⟨rfl, h18, e18⟩
      have hce : cleanE e = ⟨4, e.shard, e.other, 0, 0, 0, [], [], 0, 0, 0, []⟩ := by unfold cleanE; rw [if_neg h1, if_neg h2, if_neg h3, if_pos h4]
      exact ⟨_, rfl, ⟨none, 0, 0⟩, ⟨none, 0, 0⟩, by rw [hce]; rfl, by rw [hce]; exact ⟨opsAt_nil _, bytesAt_nil' _, by decide⟩, h18, ((p2.ext e9 (fun hh => n2 hh)).ext e15 (fun hh => n2 hh)).ext e18 (fun hh => n2 hh)⟩
    · have h5 : e.kind = 5 := by omega
      have hbb : (0 ≤ e.shard ∧ e.shard ≤ 12) ∧ (0 ≤ e.upto ∧ e.upto ≤ 4096) ∧ (1 ≤ e.parts ∧ e.parts ≤ 64) ∧ (0 ≤ e.part ∧ e.part < e.parts) ∧ e.data.length ≤ 256 := by
        unfold rightE at hr
        rw [if_neg h1, if_neg h2, if_neg h3, if_neg h4, if_pos h5] at hr
        simp only [Bool.and_eq_true, uptoB_iff, decide_eq_true_eq] at hr
        omega
      simp [h5, List.append_assoc] at hR
      refine (rdNum (n := 5) hR (by omega) (by omega) (by omega)).mono ?_
      rintro x w9 ⟨rfl, h9, e9⟩
      refine ⟨_, rfl, BIf_dec (fun hh => by cases hh) (fun _ => BIf_dec (fun hh => by cases hh) (fun _ => BIf_dec (fun hh => by cases hh) (fun _ => BIf_dec (fun hh => by cases hh) (fun _ => BIf_dec (fun _ => ?_) (fun hh => (hh rfl).elim)))))⟩
      refine (rdNum h9 (by omega) (by omega) (by omega)).mono ?_
      rintro x w15 ⟨rfl, h15, e15⟩
      refine ⟨_, rfl, (rdNum h15 (by omega) (by omega) (by omega)).mono ?_⟩
      rintro x w18 ⟨rfl, h18, e18⟩
      refine ⟨_, rfl, (rdNum h18 (by omega) (by omega) (by omega)).mono ?_⟩
      rintro x w21 ⟨rfl, h21, e21⟩
      refine ⟨_, rfl, (rdNum h21 (by omega) (by omega) (by omega)).mono ?_⟩
      rintro x w24 ⟨rfl, h24, e24⟩
      have q24 := ((((p2.ext e9 (fun hh => n2 hh)).ext e15 (fun hh => n2 hh)).ext e18 (fun hh => n2 hh)).ext e21 (fun hh => n2 hh)).ext e24 (fun hh => n2 hh)
      refine ⟨_, rfl, var_mk (cs := [.int .i64 e.shard, .int .i64 e.upto, .int .i64 e.parts, .int .i64 e.part, (⟨none, 0, 0⟩ : Slc).v]) rfl rfl (fun r50 w52 hr50 o50 k52 hs52 => ?_)⟩
      have n50 : r50 ≠ r := by have := h24.l; omega
      have hF50 : ¬ F r50 := fun hf => by have := (h24.f _ hf).2; omega
      refine (rdText (rest := []) (by simpa using h24.keep k52) (by omega) (by omega)).mono ?_
      rintro x w54 ⟨rfl, h54, e54⟩
      have q54 := (q24.keep k52).ext e54 (fun hh => n2 hh)
      refine ⟨_, rfl, bytesK_mk (fun t w57 ht hc hf k57 => ?_)⟩
      obtain ⟨cw, g⟩ := ((o50.ext e54 (fun hh => n50 hh)).keep k57).setOne 4 (by simp) t.v
      refine ⟨cw, fun w58 h58 => ?_⟩
      obtain ⟨g1, g2, _⟩ := g w58 h58
      have z54 := e54.size
      have hce : cleanE e = ⟨5, e.shard, 0, 0, 0, 0, [], [], e.upto, e.part, e.parts, e.data⟩ := by unfold cleanE; rw [if_neg h1, if_neg h2, if_neg h3, if_neg h4]
      have zk := h24.k.size
      refine ⟨_, _, _, _, _, g1.row, ⟨none, 0, 0⟩, t, by rw [hce]; rfl, ?_, (h54.keep k57).ext g2 (fun k hk => .inr (by rw [show k = r50 from hk]; exact ⟨by omega, n50, hF50⟩)), (q54.keep k57).ext g2 (fun hh => by have := q24.lt; have hh : r2 = r50 := hh; omega)⟩
      rw [hce]
      exact ⟨opsAt_nil _, bytesAt_ext ht g2 (fun k hk hh => by have := hf k hk; have hh : k = r50 := hh; omega), hc⟩
  · rintro v w65 ⟨so, sd, rfl, hA, h65, q65⟩
    intros
    refine (In_End_spec A n0 r F _ w65 h65.i (h65.e.keep h65.k)).mono ?_
    rintro x w119 ⟨rfl, rfl⟩
    have kk : Keep w w119 := k3.trans h65.k
    refine ⟨_, rfl, errO_isI A _, BIf_mk (fun hh => by cases hh) (fun _ => ⟨trivial, BIf_mk (fun hh => by cases hh) (fun _ => ?_)⟩)⟩
    obtain ⟨g, hm, hcb, hc⟩ := recRight_spec A (cleanE e) so sd w119 hA c3 ckd ((hE.keep kk).g.sub (by decide))
    refine ⟨_, _, _, g, rfl, hm _, hcb, hc.mono ?_⟩
    rintro x w154 ⟨rfl, k154⟩
    refine ⟨_, rfl, BIf_mk (fun hh => by rw [c1] at hh; cases hh) (fun _ => ?_)⟩
    refine (entry_spec (cleanE e) so sd w154 (hA.keep k154) c3 ckd).mono ?_
    rintro x w172 ⟨so2, sd2, rfl, hA2, f1, f2, k172⟩
    obtain ⟨cw, g⟩ := ((q65.keep k154).keep k172).setAll (n := 12) (cs := enC (cleanE (cleanE e)) so2 sd2) rfl rfl
    refine ⟨_, _, _, _, _, _, _, _, _, _, _, _, rfl, cw, fun w185 h185 => ?_⟩
    obtain ⟨g1, g2, _⟩ := g w185 h185
    have z2 := (q65.keep k154).lt
    refine ⟨_, _, _, _, _, _, _, _, _, _, _, _, g1.row, so2, sd2, rfl, ⟨hA2.o.ext g2 (fun _ k hk hh => by have := f1 k hk; have hh : k = r2 := hh; omega), bytesAt_ext hA2.d g2 (fun k hk hh => by have := f2 k hk; have hh : k = r2 := hh; omega), hA2.c⟩, ((kk.trans k154).trans k172).step (by omega) g2, fun j hj => (by have := f1 j hj; have := (kk.trans k154).size; omega), fun j hj => (by have := f2 j hj; have := (kk.trans k154).size; omega)⟩
theorem entryRead_spec (A : Nat → Addr) {n0 : Nat} (e : EnS) (s : Slc) (w : World) (hb : bytesAt w s (bytesE e)) (hr : rightE e = true) (hs : SmallE e) (hE : ErrsB A n0 w) (hn0 : n0 ≤ w.heap.size) :
    Calls Tryd.prog fn_entry_Read ⟨[s.v]⟩ w fun x w' => ∃ so sd : Slc, x = .returned (.tuple ⟨[.agg ⟨enC (cleanE (cleanE e)) so sd⟩, .nilIface]⟩) ∧ EnAt w' (cleanE (cleanE e)) so sd ∧ Keep w w' := by
  refine (entryRead_specF A e s w hb hr hs hE hn0).mono ?_
  rintro x w' ⟨so, sd, h1, h2, h3, _⟩
  exact ⟨so, sd, h1, h2, h3⟩
end Go.D

set_option linter.unusedVariables false
set_option linter.unusedSimpArgs false
set_option maxRecDepth 8000
namespace Go.D
open Go Go.Proofs

/-! ### the same, by definition -/
theorem refSame05_spec (a b : EnS) (sa da sb db : Slc) (w : World) (ha : EnAt w a sa da) (hb : EnAt w b sb db) (ka : SmallE a) (kb : SmallE b) :
    Calls Tryd.prog fn_tidewaterref05_Same ⟨[.agg ⟨enC a sa da⟩, .agg ⟨enC b sb db⟩]⟩ w fun x w' => x = .returned (.bool (rightE a && (rightE b && decide (bytesE a = bytesE b)))) ∧ Keep w w' := by
  refine tidewaterref05_Same_ok _ _ _ _ _ _ _ _ _ _ _ _ _ _ _ _ _ _ _ _ _ _ _ _ ?_
  unfold tidewaterref05_Same
  refine newS_mk (fun r w1 hr hb1 k1 hs1 => newS_mk (fun r2 w2 hr2 hb2 k2 hs2 => ?_))
  have oa : ObjAt w1 r (enC a sa da) := ObjAt.new' hb1
  have ob : ObjAt w2 r2 (enC b sb db) := ObjAt.new' hb2
  have kk := (k1.trans k2).drew
  have kd : Keep w2 (World.drew w2) := Keep.drew (Ext.refl _ _)
  refine ⟨_, _, _, _, _, _, _, _, _, _, _, _, ((oa.keep k2).keep kd).row, (refRight05_spec a sa da _ (ha.keep kk) ka).mono ?_⟩
  rintro x w3 ⟨rfl, k3⟩
  have kk3 := kk.trans k3
  have ob3 := (ob.keep kd).keep k3
  refine ⟨_, rfl, BIf_mk (fun h1 => ⟨_, _, _, _, _, _, _, _, _, _, _, _, ob3.row, (refRight05_spec b sb db _ (hb.keep kk3) kb).mono ?_⟩) (fun h1 => ?_)⟩
  · rintro x w4 ⟨rfl, k4⟩
    have kk4 := kk3.trans k4
    refine ⟨_, rfl, BIf_mk (fun h2 => ?_) (fun h2 => ?_)⟩
    · refine ⟨_, _, _, _, _, _, _, _, _, _, _, _, ((((oa.keep k2).keep kd).keep k3).keep k4).row, _, _, _, _, _, _, _, _, _, _, _, _, (ob3.keep k4).row, (refBytes05_spec a sa da w4 (ha.keep kk4) ka h1).mono ?_⟩
      rintro x w5 ⟨t, rfl, w5o, _, k5⟩
      have kk5 := kk4.trans k5
      have g5 := w5o.bytes
      refine ⟨t, rfl, ⟨_, _, _, _, _, _, _, _, _, _, _, _, ((ob3.keep k4).keep k5).row, rfl⟩, _, g5, (refBytes05_spec b sb db w5 (hb.keep kk5) kb h2).mono ?_⟩
      rintro x w6 ⟨t2, rfl, w6o, _, k6⟩
      refine ⟨t2, rfl, ⟨_, bytesAt_keep g5 k6, rfl⟩, _, w6o.bytes, ?_, kk5.trans k6⟩
      rw [h1, h2]; rfl
    · refine ⟨?_, kk4⟩
      rw [h2, Bool.false_and, Bool.and_false]
  · refine ⟨?_, kk3⟩
    rw [h1, Bool.false_and]

end Go.D

set_option linter.unusedVariables false
set_option linter.unusedSimpArgs false
namespace Go.D
open Go Go.Proofs

/-- n numbers are read: their list, or none, if there is an error. -/
def rMany (most : Int) : Nat → List Int → InS → Option (List Int) × InS
  | 0, acc, st => (some acc, st)
  | k + 1, acc, st => if (rNum most st).2.2.isSome = true then (none, (rNum most st).2) else rMany most k (acc ++ [(rNum most st).1]) (rNum most st).2
theorem rMany_err {most : Int} {k : Nat} {acc : List Int} {st : InS} (h : (rNum most st).2.2.isSome = true) : rMany most (k + 1) acc st = (none, (rNum most st).2) := by rw [rMany, if_pos h]
theorem rMany_ok {most : Int} {k : Nat} {acc : List Int} {st : InS} (h : (rNum most st).2.2.isSome = false) : rMany most (k + 1) acc st = rMany most k (acc ++ [(rNum most st).1]) (rNum most st).2 := by
  rw [rMany, if_neg (by rw [h]; simp)]
def rNums (many most : Int) (st : InS) : List Int × InS :=
  let x := rMany most (rNum many st).1.toNat [] (rNum many st).2
  (x.1.getD [], x.2)

theorem In_Nums_spec (A : Nat → Addr) (n0 r : Nat) (F : Nat → Prop) (st : InS) (many most : Int) (w : World) (h : InR A w r F st) (hl : st.1.length ≤ 2 ^ 30) (hE : ErrsB A n0 w) (hr : n0 ≤ r) (hF : ∀ k, F k → k < w.heap.size) (hm : many ≤ 2 ^ 29) :
    Calls Tryd.prog fn_pack_In_Nums ⟨[.pointer (some ⟨r, 0, none⟩), .int .i64 many, .int .i64 most]⟩ w fun e w' => ∃ t : Slc, e = .returned t.v ∧ intsAt w' t (rNums many most st).1 ∧ InR A w' r F (rNums many most st).2 ∧ Ext (eqB r) w w' ∧ Fresh w t := by
  refine pack_In_Nums_ok _ _ _ ?_
  unfold pack_In_Nums
  refine (In_Num_spec A n0 r F st many w h hl hE hr).mono ?_
  rintro e w5 ⟨rfl, hR, k5⟩
  have hlen := rNum_len many st
  have hnn := rNum_nonneg many st
  have hmm : 0 < (rNum many st).1 → (rNum many st).1 ≤ many := fun h => rNum_most many st (rNum_pos many st h)
  unfold rNums
  generalize hst : rNum many st = x at hR hlen hnn hmm ⊢
  obtain ⟨n, st5⟩ := x
  dsimp only at hR hlen hnn hmm ⊢
  have hrw : r < w.heap.size := by obtain ⟨s, h1, _⟩ := h; exact h1.1.lt
  refine ⟨_, rfl, fun out w10 => ∃ (acc : List Int) (st' : InS), acc.length ≤ n.toNat ∧ Own w10 out 1 (acc.map intV) ∧ Fresh w out ∧ InR A w10 r F st' ∧ st'.1.length ≤ 2 ^ 30 ∧ Ext (eqB r) w w10 ∧ rMany most (n.toNat - acc.length) acc st' = rMany most n.toNat [] st5,
    fun out _ => n.toNat - out.l, ⟨[], st5, by simp, Own.nil _ _, Fresh.nil _ _ _, hR, by omega, k5, by simp⟩, ?_⟩
  rintro out w10 ⟨acc, st', hacc, ho, hfr, hR', hl', k10, hrm⟩
  intros
  have hol : out.l = acc.length := by have := ho.1; simpa using this
  have hE10 : ErrsB A n0 w10 := hE.ext k10 (fun k hk => by rw [show k = r from hk]; exact hr)
  refine BIf_dec (fun hlt => ?_) (fun hlt => ?_)
  · refine (In_Num_spec A n0 r F st' most w10 hR' hl' hE10 hr).mono ?_
    rintro e w30 ⟨rfl, hR30, k30⟩
    have e1 : n.toNat - acc.length = (n.toNat - acc.length - 1) + 1 := by omega
    rw [e1] at hrm
    have hlen2 := rNum_len most st'
    have hR30' := hR30
    obtain ⟨s, h1, h2, h3⟩ := hR30
    have hno : ∀ k, ownB out k → ¬ eqB r k := fun k hk he => by have := hfr k hk; rw [show k = r from he] at this; omega
    refine ⟨_, rfl, needSome_mk rfl ⟨errO A (rNum most st').2.2, by rw [add_lit]; exact h1.c1, errO_isI _ _, BIf_mk (fun hh => ?_) (fun hh => ?_)⟩⟩
    · rw [errO_nil] at hh
      have her : (rNum most st').2.2.isSome = true := by cases h : (rNum most st').2.2 <;> rw [h] at hh <;> first | rfl | cases hh
      rw [rMany_err her] at hrm
      rw [← hrm]
      exact ⟨_, rfl, ⟨rfl, .inl rfl⟩, hR30', k10.trans' k30, Fresh.nil _ _ _⟩
    · rw [errO_nil] at hh
      have her : (rNum most st').2.2.isSome = false := by cases h : (rNum most st').2.2 <;> rw [h] at hh <;> first | rfl | cases hh
      · rw [rMany_ok her] at hrm
        refine newS_mk (fun r34 w35 hr34 hb34 hk35 hs35 => ?_)
        have ho30 := ho.ext k30 hno
        have hsrc : srcAt w35 1 (.slc ⟨some ⟨r34, 0, none⟩, 1, 1⟩) [intV (rNum most st').1] := srcAt_slc (Own.new (sz := 1) (n := 1) hb34 (.inl (by simp)) rfl).cells rfl
        refine appendS_own (ho30.keep hk35) (by omega) rfl hsrc (one_ints [_]) (by simp only [Src.n]; omega) (fun s36 w37 g1 g2 g3 g4 => ?_)
        have hne : ∀ k, ownB out k → k ≠ r := fun k hk he => hno k hk he
        have hFout : ∀ k, F k → ¬ ownB out k := fun k hk ho => by have := hF k hk; have := hfr k ho; omega
        simp only [Src.n] at g4
        refine ⟨⟨acc ++ [(rNum most st').1], (rNum most st').2, by simp; omega, by simpa using g1, fun b hb => ?_, (hR30'.keep hk35).ext g2 (fun hh => hne r hh rfl) hFout, by omega, ?_, ?_⟩, by dsimp only; omega⟩
        · rcases g3 b hb with g5 | g5
          · exact hfr b g5
          · have := (k10.trans' k30).size; have := hk35.size; omega
        · refine Ext.trans ((k10.trans' k30).trans hk35 (fun _ h => h) (fun _ h => h.elim)) g2 (fun _ h => h) (fun k hk => .inr (hfr k hk))
        · rw [← hrm]
          congr 1
          simp; omega
  · have e1 : n.toNat - acc.length = 0 := by omega
    rw [e1, rMany] at hrm
    rw [← hrm]
    exact ⟨_, rfl, ho.ints, hR', k10, hfr⟩
end Go.D

set_option linter.unusedVariables false
set_option linter.unusedSimpArgs false
set_option maxRecDepth 8000
namespace Go.D
open Go Go.Proofs

/-! ### lists of addresses, with their streams -/
abbrev Ls := Slc × List Int
abbrev Bk := Int × Ls
def bkC (x : Bk) : List Value := [.int .i64 x.1, x.2.1.v]
theorem slcV_inj {s t : Slc} (h : s.v = t.v) : s = t := by
  obtain ⟨p, l, c⟩ := s
  obtain ⟨p', l', c'⟩ := t
  simp [Slc.v] at h
  obtain ⟨rfl, rfl, rfl⟩ := h
  rfl
theorem foot_ls {s : Slc} {k : Nat} (h : footV [s.v] k) : 0 < s.l ∧ ownB s k := by
  obtain ⟨s', hs, h1, h2⟩ := h
  have := slcV_inj (List.mem_singleton.1 hs)
  subst this
  exact ⟨h1, h2⟩
theorem foot_ls_mk {s : Slc} {k : Nat} (h0 : 0 < s.l) (h : ownB s k) : footV [s.v] k := ⟨s, by simp, h0, h⟩
theorem foot_bk {x : Bk} {k : Nat} (h : footV (bkC x) k) : 0 < x.2.1.l ∧ ownB x.2.1 k := by
  obtain ⟨s', hs, h1, h2⟩ := h
  rcases List.mem_cons.1 hs with h3 | h3
  · simp [Slc.v] at h3
  · have := slcV_inj (List.mem_singleton.1 h3)
    subst this
    exact ⟨h1, h2⟩
theorem foot_bk_mk {x : Bk} {k : Nat} (h0 : 0 < x.2.1.l) (h : ownB x.2.1 k) : footV (bkC x) k := ⟨x.2.1, by simp [bkC], h0, h⟩
theorem intsAt_stay {M : Nat → Prop} {w w' : World} {s : Slc} {b : List Int} (h : intsAt w s b) (he : Ext M w w') (hm : 0 < s.l → ∀ k, ownB s k → ¬ M k) : intsAt w' s b := by
  rcases Nat.eq_zero_or_pos s.l with h0 | h0
  · have : b = [] := by have := h.1; rw [h0] at this; exact List.length_eq_zero_iff.1 this.symm
    subst this
    exact ⟨h.1, .inl rfl⟩
  · exact intsAt_ext h he (hm h0)
theorem intsAt_ne {w : World} {s : Slc} {b : List Int} (h : intsAt w s b) (h0 : 0 < s.l) : b ≠ [] := by
  rintro rfl
  have := h.1
  simp at this; omega
def LsR : RowD Ls where
  n := 1
  pos := by omega
  R w x cs := cs = [x.1.v] ∧ intsAt w x.1 x.2
  len := by rintro w x cs ⟨rfl, _⟩; rfl
  one := by rintro w x cs ⟨rfl, _⟩; intro v hv; rw [List.mem_singleton] at hv; rw [hv]; rfl
  ext := by
    rintro M w w' x cs ⟨rfl, h⟩ he hm
    exact ⟨rfl, intsAt_stay h he (fun h0 k hk => hm k (foot_ls_mk h0 hk))⟩
  lt := by
    rintro w x cs ⟨rfl, h⟩ k hk
    obtain ⟨h0, hk⟩ := foot_ls hk
    exact intsAt_lt h (intsAt_ne h h0) k hk
def BkR : RowD Bk where
  n := 2
  pos := by omega
  R w x cs := cs = bkC x ∧ intsAt w x.2.1 x.2.2
  len := by rintro w x cs ⟨rfl, _⟩; rfl
  one := by rintro w x cs ⟨rfl, _⟩; intro v hv; simp [bkC] at hv; rcases hv with rfl | rfl <;> rfl
  ext := by
    rintro M w w' x cs ⟨rfl, h⟩ he hm
    exact ⟨rfl, intsAt_stay h he (fun h0 k hk => hm k (foot_bk_mk h0 hk))⟩
  lt := by
    rintro w x cs ⟨rfl, h⟩ k hk
    obtain ⟨h0, hk⟩ := foot_bk hk
    exact intsAt_lt h (intsAt_ne h h0) k hk

/-- A slice of backs, to be read. -/
structure BksAt (w : World) (s : Slc) (l : List Bk) : Prop where
  len : s.l = l.length
  row : ∀ i (h : i < l.length), ∃ a, s.p = some a ∧ rowAt w (a.add (i * 2)) 0 (bkC l[i])
  ints : ∀ x ∈ l, intsAt w x.2.1 x.2.2
theorem BksAt.keep {w w' : World} {s : Slc} {l : List Bk} (h : BksAt w s l) (k : Keep w w') : BksAt w' s l :=
  ⟨h.len, fun i hi => let ⟨a, ha, hr⟩ := h.row i hi; ⟨a, ha, rowAt_keep hr k⟩, fun x hx => intsAt_keep (h.ints x hx) k⟩
structure LssAt (w : World) (s : Slc) (l : List Ls) : Prop where
  len : s.l = l.length
  cell : ∀ i (h : i < l.length), ∃ a, s.p = some a ∧ w.cell? (a.add (i * 1)) = some (l[i]).1.v
  ints : ∀ x ∈ l, intsAt w x.1 x.2
theorem LssAt.keep {w w' : World} {s : Slc} {l : List Ls} (h : LssAt w s l) (k : Keep w w') : LssAt w' s l :=
  ⟨h.len, fun i hi => let ⟨a, ha, hr⟩ := h.cell i hi; ⟨a, ha, k.cell hr⟩, fun x hx => intsAt_keep (h.ints x hx) k⟩
theorem Rows.bks {w : World} {s : Slc} {l : List Bk} {css : List (List Value)} (h : Rows BkR w s l css) : BksAt w s l := by
  refine ⟨h.sl, fun i hi => ?_, fun x hx => ?_⟩
  · have hi' : i < css.length := by rw [h.len]; exact hi
    obtain ⟨a, ha, _, hr⟩ := h.get hi'
    have := (h.row i hi' hi).1
    rw [this] at hr
    exact ⟨a, ha, hr⟩
  · obtain ⟨i, hi, rfl⟩ := List.getElem_of_mem hx
    have hi' : i < css.length := by rw [h.len]; exact hi
    exact (h.row i hi' hi).2
theorem Rows.lss {w : World} {s : Slc} {l : List Ls} {css : List (List Value)} (h : Rows LsR w s l css) : LssAt w s l := by
  refine ⟨h.sl, fun i hi => ?_, fun x hx => ?_⟩
  · have hi' : i < css.length := by rw [h.len]; exact hi
    obtain ⟨a, ha, _, hr⟩ := h.get hi'
    have := (h.row i hi' hi).1
    rw [this] at hr
    have h2 := rowAt_get hr 0 (by simp)
    refine ⟨a, ha, ?_⟩
    have e : (a.add (i * LsR.n)).add (0 + 0) = a.add (i * 1) := by simp [Addr.add, LsR]
    rw [e] at h2
    exact h2
  · obtain ⟨i, hi, rfl⟩ := List.getElem_of_mem hx
    have hi' : i < css.length := by rw [h.len]; exact hi
    exact (h.row i hi' hi).2

/-! ### streams and lists go together -/
def backsOk (l : List Int) (bk : List (Int × List Int)) : Bool := decide (bk.map (·.1) = l) && bk.all (fun x => fallsB x.2)
def pur (l : List Bk) : List (Int × List Int) := l.map fun x => (x.1, x.2.2)
theorem backsOk_nil : backsOk [] [] = true := rfl
theorem backsOk_cons (a : Int) (l : List Int) (x : Int × List Int) (b : List (Int × List Int)) : backsOk (a :: l) (x :: b) = (decide (a = x.1) && (fallsB x.2 && backsOk l b)) := by
  unfold backsOk
  rw [List.map_cons, List.all_cons]
  by_cases h1 : a = x.1
  · subst h1
    have : (decide (x.1 :: List.map (·.1) b = x.1 :: l)) = decide (List.map (·.1) b = l) := by simp
    rw [this, decide_eq_true rfl]
    cases fallsB x.2 <;> cases decide (List.map (·.1) b = l) <;> rfl
  · rw [decide_eq_false h1, decide_eq_false (fun h => h1 (List.cons.inj h).1.symm)]; rfl
theorem backsOk_len {l : List Int} {b : List (Int × List Int)} (h : backsOk l b = true) : b.length = l.length := by
  unfold backsOk at h
  simp only [Bool.and_eq_true, decide_eq_true_eq] at h
  rw [← h.1, List.length_map]
theorem backsOk_falls {l : List Int} {b : List (Int × List Int)} (h : backsOk l b = true) : ∀ x ∈ b, fallsB x.2 = true := by
  unfold backsOk at h
  simp only [Bool.and_eq_true, List.all_eq_true] at h
  exact h.2
theorem fallsFrom_in : ∀ {l : List Int} {m : Int}, m ≤ 4096 → fallsFrom m l = true → ∀ a ∈ l, 0 ≤ a ∧ a < 4096
  | [], _, _, _, a, ha => by simp at ha
  | b :: l, m, hm, h, a, ha => by
    rw [fallsFrom] at h
    simp only [Bool.and_eq_true, Bool.not_eq_true', decide_eq_false_iff_not] at h
    obtain ⟨h1, h2, h3⟩ := h
    rcases List.mem_cons.1 ha with rfl | ha
    · omega
    · exact fallsFrom_in (m := b) (by omega) h3 a ha
theorem falls_in {l : List Int} (h : fallsB l = true) : l.length ≤ 4 ∧ ∀ a ∈ l, 0 ≤ a ∧ a < 4096 := by
  unfold fallsB at h
  simp only [Bool.and_eq_true, decide_eq_true_eq] at h
  exact ⟨h.2, fallsFrom_in (by omega) h.1⟩

def fnB1 : Value := .func (.func fn_page_Bytes_1) ⟨[]⟩ ⟨[]⟩
theorem eqBack_spec (st sb : Slc) (l : List Int) (bk : List Bk) (w : World) (hs : intsAt w st l) (hb : BksAt w sb bk) (hl : ∀ x ∈ bk, x.2.2.length ≤ 2 ^ 40) (hn : bk.length ≤ 2 ^ 40) :
    Calls Tryd.prog fn_slices_EqualFunc_Back ⟨[st.v, sb.v, fnB1]⟩ w fun e w' => e = .returned (.bool (backsOk l (pur bk))) ∧ Keep w w' := by
  have hsl := hs.1
  have hbl := hb.len
  refine slices_EqualFunc_Back_page_Bytes_1_ok _ _ ?_
  unfold slices_EqualFunc_Back_page_Bytes_1
  refine BIf_ndec (fun h => ?_) (fun h => ?_)
  · refine ⟨?_, Ext.refl _ _⟩
    cases hh : backsOk l (pur bk) with
    | false => rfl
    | true => have := backsOk_len hh; simp [pur] at this; omega
  · have hlen : l.length = bk.length := by omega
    refine ⟨fun i w2 => ∃ k : Nat, i = k ∧ k ≤ l.length ∧ Keep w w2 ∧ backsOk (l.drop k) (pur (bk.drop k)) = backsOk l (pur bk), fun i _ => ((l.length : Int) - i).toNat, ⟨0, rfl, by omega, Ext.refl _ _, rfl⟩, ?_⟩
    rintro i w2 ⟨k, rfl, hk, hkp, hpre⟩
    intros
    refine BIf_dec (fun h1 => ?_) (fun h1 => ?_)
    · have hka : k < l.length := by omega
      have hkb : k < bk.length := by omega
      obtain ⟨p, hp, hcp⟩ := intsAt_cell (intsAt_keep hs hkp) hka
      obtain ⟨q, hq, hcq⟩ := (hb.keep hkp).row k hkb
      have hi := (hb.keep hkp).ints _ (List.getElem_mem hkb)
      have hx := hl _ (List.getElem_mem hkb)
      rw [List.drop_eq_getElem_cons hka, List.drop_eq_getElem_cons hkb] at hpre
      generalize hxx : bk[k] = x at *
      obtain ⟨xs, xl, xi⟩ := x
      have hpre : backsOk (l[k] :: l.drop (k + 1)) ((xs, xi) :: pur (bk.drop (k + 1))) = backsOk l (pur bk) := hpre
      rw [backsOk_cons] at hpre
      refine needSome_mk hp ⟨by omega, h1, l[k], by rw [show Int.toNat (k : Int) * 1 = k by omega]; exact hcp, needSome_mk hq ⟨by omega, by omega, xs, xl, by rw [show Int.toNat (k : Int) = k by omega]; exact hcq, ?_⟩⟩
      refine var_mk (cs := [.int .i64 xs, xl.v]) rfl rfl (fun r w32 hr o32 k32 hs32 => ?_)
      refine ⟨_, _, o32.row, ?_⟩
      have kk := hkp.trans k32
      refine (page_Bytes_1_ok _ _ _ ?_ : Calls Tryd.prog fn_page_Bytes_1 ⟨[.int .i64 l[k], .agg ⟨[.int .i64 xs, xl.v]⟩]⟩ w32 _)
      unfold page_Bytes_1
      refine newS_mk (fun r4 w5 hr4 hb4 k4 hs4 => ?_)
      have o4 := ObjAt.new' hb4
      refine ⟨_, o4.cell 0 (by simp), BIf_dec (fun h2 => ?_) (fun h2 => ?_)⟩
      · refine ⟨_, o4.cell 1 (by simp), (pageFalls_spec xl xi w5 (intsAt_keep (intsAt_keep hi k32) k4) hx).mono ?_⟩
        rintro e w9 ⟨rfl, rfl⟩
        refine ⟨_, rfl, _, rfl, BIf_mk (fun h3 => ?_) (fun h3 => ?_)⟩
        · have h3 : fallsB xi = false := by simpa using h3
          rw [h3, Bool.false_and, Bool.and_false] at hpre
          rw [← hpre]
          exact ⟨rfl, kk.trans k4⟩
        · have h3 : fallsB xi = true := by simpa using h3
          rw [h3, Bool.true_and, decide_eq_true h2, Bool.true_and] at hpre
          exact ⟨inR64 (by omega), ⟨k + 1, rfl, hka, kk.trans k4, hpre⟩, by dsimp only; omega⟩
      · refine ⟨_, rfl, BIf_mk (fun _ => ?_) (fun h3 => by cases h3)⟩
        rw [decide_eq_false h2, Bool.false_and] at hpre
        rw [← hpre]
        exact ⟨rfl, kk.trans k4⟩
    · have hke : k = l.length := by omega
      rw [hke, List.drop_length, hlen, List.drop_length] at hpre
      rw [← hpre]
      exact ⟨rfl, hkp⟩

def fnR1 : Value := .func (.func fn_page_Read_1) ⟨[]⟩ ⟨[]⟩
theorem eqLs_spec (st sb : Slc) (l : List Int) (ls : List Ls) (w : World) (hs : intsAt w st l) (hb : LssAt w sb ls) (hl : ∀ x ∈ ls, x.2.length ≤ 2 ^ 40) (hn : ls.length ≤ 2 ^ 40) :
    Calls Tryd.prog fn_slices_EqualFunc_Sint ⟨[st.v, sb.v, fnR1]⟩ w fun e w' => e = .returned (.bool (decide (l.length = ls.length) && ls.all (fun x => fallsB x.2))) ∧ Keep w w' := by
  have hsl := hs.1
  have hbl := hb.len
  refine slices_EqualFunc_Sint_page_Read_1_ok _ _ ?_
  unfold slices_EqualFunc_Sint_page_Read_1
  refine BIf_ndec (fun h => ?_) (fun h => ?_)
  · rw [decide_eq_false (by omega)]
    exact ⟨rfl, Ext.refl _ _⟩
  · have hlen : l.length = ls.length := by omega
    rw [decide_eq_true hlen, Bool.true_and]
    refine ⟨fun i w2 => ∃ k : Nat, i = k ∧ k ≤ l.length ∧ Keep w w2 ∧ (ls.drop k).all (fun x => fallsB x.2) = ls.all (fun x => fallsB x.2), fun i _ => ((l.length : Int) - i).toNat, ⟨0, rfl, by omega, Ext.refl _ _, rfl⟩, ?_⟩
    rintro i w2 ⟨k, rfl, hk, hkp, hpre⟩
    intros
    refine BIf_dec (fun h1 => ?_) (fun h1 => ?_)
    · have hka : k < l.length := by omega
      have hkb : k < ls.length := by omega
      obtain ⟨p, hp, hcp⟩ := intsAt_cell (intsAt_keep hs hkp) hka
      obtain ⟨q, hq, hcq⟩ := (hb.keep hkp).cell k hkb
      have hi := (hb.keep hkp).ints _ (List.getElem_mem hkb)
      have hx := hl _ (List.getElem_mem hkb)
      rw [List.drop_eq_getElem_cons hkb, List.all_cons] at hpre
      refine needSome_mk hp ⟨by omega, h1, l[k], by rw [show Int.toNat (k : Int) * 1 = k by omega]; exact hcp, needSome_mk hq ⟨by omega, by omega, ls[k].1, by rw [show Int.toNat (k : Int) = k by omega]; exact hcq, ?_⟩⟩
      refine page_Read_1_ok _ _ ?_
      unfold page_Read_1
      refine (pageFalls_spec _ _ w2 hi hx).mono ?_
      rintro e w9 ⟨rfl, rfl⟩
      refine ⟨_, rfl, _, rfl, BIf_mk (fun h3 => ?_) (fun h3 => ?_)⟩
      · have h3 : fallsB ls[k].2 = false := by simpa using h3
        rw [h3, Bool.false_and] at hpre
        rw [← hpre]
        exact ⟨rfl, hkp⟩
      · have h3 : fallsB ls[k].2 = true := by simpa using h3
        rw [h3, Bool.true_and] at hpre
        exact ⟨inR64 (by omega), ⟨k + 1, rfl, hka, hkp, hpre⟩, by dsimp only; omega⟩
    · have hke : k = l.length := by omega
      rw [hke, hlen, List.drop_length] at hpre
      rw [← hpre]
      exact ⟨rfl, hkp⟩
theorem refFalls_spec (s : Slc) (l : List Int) (w : World) (h : intsAt w s l) (hl : l.length ≤ 2 ^ 40) :
    Calls Tryd.prog fn_tidewaterref06_falls ⟨[s.v]⟩ w fun e w' => e = .returned (.bool (fallsB l)) ∧ w' = w := by
  have hsl := h.1
  refine tidewaterref06_falls_ok _ ?_
  unfold tidewaterref06_falls
  refine ⟨fun i w2 => ∃ k : Nat, i = k ∧ k ≤ l.length ∧ w2 = w ∧ fallsFrom (if k = 0 then 4096 else l.getD (k - 1) 0) (l.drop k) = fallsFrom 4096 l ∧ ∀ j (hj : j < k) (hjl : j < l.length), l[j] ≤ 4095, fun i _ => ((l.length : Int) - i).toNat, ⟨0, rfl, by omega, rfl, by simp, fun j hj => by omega⟩, ?_⟩
  rintro i w2 ⟨k, rfl, hk, rfl, hp, hm⟩
  intros
  refine BIf_dec (fun hlt => ?_) (fun hge => ?_)
  · have hkl : k < l.length := by omega
    obtain ⟨p, hpp, hc⟩ := intsAt_cell h hkl
    rw [List.drop_eq_getElem_cons hkl] at hp
    rw [fallsFrom] at hp
    refine needSome_mk hpp ⟨by omega, hlt, _, by rw [show Int.toNat (k : Int) * 1 = k by omega]; exact hc, BIf_dec (fun h1 => ⟨?_, rfl⟩) (fun h1 => BIf_dec (fun h2 => ⟨?_, rfl⟩) (fun h2 => ?_))⟩
    · unfold fallsB; rw [← hp, decide_eq_true h1]; rfl
    · have : (if k = 0 then (4096 : Int) else l.getD (k - 1) 0) ≤ l[k] := by
        split
        · omega
        · have := hm (k - 1) (by omega) (by omega)
          simp only [List.getD, List.getElem?_eq_getElem (show k - 1 < l.length by omega), Option.getD_some]
          omega
      unfold fallsB; rw [← hp, decide_eq_true this]; simp
    · have next : (¬ (if k = 0 then (4096 : Int) else l.getD (k - 1) 0) ≤ l[k]) → inR .i64 ((k : Int) + 1) ∧ (∃ k' : Nat, ((k : Int) + 1) = k' ∧ k' ≤ l.length ∧ w2 = w2 ∧ fallsFrom (if k' = 0 then 4096 else l.getD (k' - 1) 0) (l.drop k') = fallsFrom 4096 l ∧ ∀ j (hj : j < k') (hjl : j < l.length), l[j] ≤ 4095) ∧ ((l.length : Int) - ((k : Int) + 1)).toNat < ((l.length : Int) - (k : Int)).toNat := by
        intro h4
        refine ⟨inR64 (by omega), ⟨k + 1, rfl, hkl, rfl, ?_, fun j hj hjl => ?_⟩, by omega⟩
        · rw [decide_eq_false h1, decide_eq_false h4] at hp
          rw [if_neg (by omega), Nat.add_sub_cancel]
          simp only [List.getD, List.getElem?_eq_getElem hkl, Option.getD_some]
          simpa using hp
        · rcases Nat.lt_or_ge j k with h5 | h5
          · exact hm j h5 hjl
          · have : j = k := by omega
            subst this; omega
      refine BIf_dec (fun h3 => ?_) (fun h3 => next (by rw [if_pos (by omega)]; omega))
      have hk1 : k - 1 < l.length := by omega
      obtain ⟨p', hpp', hc'⟩ := intsAt_cell h hk1
      have e1 : (if k = 0 then (4096 : Int) else l.getD (k - 1) 0) = l[k - 1] := by
        rw [if_neg (by omega)]
        simp only [List.getD, List.getElem?_eq_getElem hk1, Option.getD_some]
      refine ⟨inR64 (by omega), needSome_mk hpp' ⟨by omega, by omega, _, by rw [show Int.toNat ((k : Int) - 1) * 1 = k - 1 by omega]; exact hc', BIf_dec (fun h4 => ⟨?_, rfl⟩) (fun h4 => next (by rw [e1]; exact h4))⟩⟩
      unfold fallsB; rw [← hp, e1, decide_eq_true h4]; simp
  · have hke : k = l.length := by omega
    subst hke
    rw [List.drop_length] at hp
    refine ⟨?_, rfl⟩
    unfold fallsB
    rw [← hp]
    have : ((s.l : Nat) : Int) ≤ 4 ↔ l.length ≤ 4 := by omega
    simp only [fallsFrom, Bool.true_and, this]
end Go.D

set_option linter.unusedVariables false
set_option linter.unusedSimpArgs false
set_option maxRecDepth 8000
namespace Go.D
open Go Go.Proofs

/-! ### a page's bytes -/
def listB (l : List Int) : List UInt8 := numB (l.length : Int) ++ l.flatMap numB
def pageB (e : EnS) (b : List (Int × List Int)) : List UInt8 := numB 1 ++ numB (b.length : Int) ++ b.flatMap (fun x => listB x.2) ++ textB (bytesE e)
/-- The error's place, or none. -/
def pageE (e : EnS) (b : List (Int × List Int)) : Option Nat :=
  if rightE e = true then (if 1848 < (bytesE e).length then some 2 else if backsOk (stE e.kind e.shard e.other) b = true then none else some 3) else some 3
theorem stE_len (k s o : Int) : (stE k s o).length ≤ 3 := by unfold stE; split <;> (try split) <;> simp
theorem listB_len {l : List Int} (h : fallsB l = true) : (listB l).length ≤ 30 := by
  obtain ⟨h1, h2⟩ := falls_in h
  have h3 := heads_len l (fun n hn => by have := h2 n hn; omega)
  have h4 := numB_len (l.length : Int) (by omega)
  unfold listB
  rw [List.length_append]; omega
theorem lists_len : ∀ {b : List (Int × List Int)}, (∀ x ∈ b, fallsB x.2 = true) → (b.flatMap (fun x => listB x.2)).length ≤ 30 * b.length
  | [], _ => by simp
  | x :: b, h => by
    have h1 := lists_len (b := b) (fun y hy => h y (by simp [hy]))
    have h2 := listB_len (h x (by simp))
    rw [List.flatMap_cons, List.length_append, List.length_cons]; omega
theorem pageE_none {e : EnS} {b : List (Int × List Int)} (h : pageE e b = none) : rightE e = true ∧ (bytesE e).length ≤ 1848 ∧ backsOk (stE e.kind e.shard e.other) b = true := by
  unfold pageE at h
  split at h
  · rename_i h1
    split at h
    · cases h
    · rename_i h2
      split at h
      · rename_i h3; exact ⟨h1, by omega, h3⟩
      · cases h
  · cases h
theorem pageB_len {e : EnS} {b : List (Int × List Int)} (h : pageE e b = none) : (pageB e b).length ≤ 2000 ∧ 2 ≤ (pageB e b).length := by
  obtain ⟨h1, h2, h3⟩ := pageE_none h
  have h4 := lists_len (backsOk_falls h3)
  have h5 := backsOk_len h3
  have h6 := stE_len e.kind e.shard e.other
  have h7 := numB_len (b.length : Int) (by omega)
  have h8 := numB_len 1 (by omega)
  have h9 := textB_len (bytesE e) (by omega)
  have h10 := encN_pos (1 : Int).toNat
  have h11 := encN_pos ((b.length : Int)).toNat
  unfold pageB
  simp only [List.length_append]
  unfold numB at *
  omega

theorem outNums {A : Nat → Addr} {n0 : Nat} {w0 w : World} {r : Nat} {s sl : Slc} {b : List UInt8} {l : List Int} (h : OutK A w0 w r s b) (hi : intsAt w0 sl l) (hl : l.length ≤ 1000) (hn : ∀ n ∈ l, 0 ≤ n ∧ n ≤ 2 ^ 40) (hb : b.length ≤ 2 ^ 18) (hE : ErrsB A n0 w0) :
    Calls Tryd.prog fn_pack_Out_Nums ⟨[.pointer (some ⟨r, 0, none⟩), sl.v]⟩ w fun e w' => e = .returned (.tuple #[]) ∧ ∃ s', OutK A w0 w' r s' (b ++ listB l) ∧ Foot (OutM r s) (OutM r s') w w' := by
  refine pack_Out_Nums_ok _ _ ?_
  unfold pack_Out_Nums
  have hsl := hi.1
  rw [show ((sl.l : Nat) : Int) = ((l.length : Nat) : Int) by rw [hsl]]
  have hll := numB_len (l.length : Int) (by omega)
  refine (outNum h (by omega) (by omega) hE).mono ?_
  rintro e w4 ⟨rfl, s4, h4, f4⟩
  refine ⟨rfl, fun i w8 => ∃ (k : Nat) (s8 : Slc), i = k ∧ k ≤ l.length ∧ OutK A w0 w8 r s8 (b ++ numB (l.length : Int) ++ (l.take k).flatMap numB) ∧ Foot (OutM r s) (OutM r s8) w w8, fun i _ => (l.length - i).toNat, ⟨0, s4, rfl, by omega, by simpa using h4, f4⟩, ?_⟩
  rintro i w8 ⟨k, s8, rfl, hk, ho, hf⟩
  intros
  refine BIf_dec (fun hlt => ?_) (fun hlt => ?_)
  · have hkl : k < l.length := by omega
    obtain ⟨a, ha, hc⟩ := intsAt_cell (intsAt_keep hi ho.k) hkl
    have hlen := heads_len (l.take k) (fun n hn' => (hn n (List.mem_of_mem_take hn')).2)
    have htk : (l.take k).length ≤ l.length := by simp; omega
    have hmem := hn _ (List.getElem_mem hkl)
    refine needSome_mk ha ⟨by omega, hlt, l[k], by rw [show Int.toNat (k : Int) * 1 = k by omega]; exact hc, (outNum ho hmem (by simp only [List.length_append]; omega) hE).mono ?_⟩
    rintro e w20 ⟨rfl, s20, h20, f20⟩
    refine ⟨rfl, inR64 (by omega), ⟨k + 1, s20, rfl, hkl, ?_, hf.trans f20⟩, by dsimp only; omega⟩
    rw [List.take_succ_eq_append_getElem hkl, List.flatMap_append]
    simpa using h20
  · have : k = l.length := by omega
    subst this
    rw [List.take_length, List.append_assoc] at ho
    exact ⟨rfl, s8, ho, hf⟩
theorem outDone {A : Nat → Addr} {n0 : Nat} {w0 w : World} {r : Nat} {s : Slc} {b : List UInt8} (h : OutK A w0 w r s b) (hb : b.length ≤ 65536) (hE : ErrsB A n0 w0) :
    Calls Tryd.prog fn_pack_Out_Done ⟨[.pointer (some ⟨r, 0, none⟩)]⟩ w fun e w' => ∃ t : Slc, e = .returned (.tuple ⟨[t.v, .nilIface]⟩) ∧ Own w' t 1 (b.map byteV) ∧ Fresh w0 t ∧ Keep w0 w' := by
  refine pack_Out_Done_ok _ ?_
  unfold pack_Out_Done
  have ho := h.o
  have hsl : s.l = b.length := by have := ho.2.1.1; simpa using this
  refine needSome_mk rfl ⟨_, by rw [add_lit]; exact ho.c1, errO_isI A _, BIf_mk (fun hn => by cases hn) (fun hn => ?_)⟩
  refine needSome_mk rfl ⟨s, ho.c0, BIf_dec (fun h1 => by omega) (fun h1 => ?_)⟩
  refine needSome_mk rfl ⟨s, ho.c0, ?_⟩
  refine (CloneB_own s b w ho.2.1.bytes (by omega)).mono ?_
  rintro e w' ⟨t, rfl, hb, hf, hk⟩
  exact ⟨t, rfl, t, rfl, hb, hf.mono h.k.size, h.k.trans hk⟩

theorem pageBytes_spec (A : Nat → Addr) {n0 : Nat} (e : EnS) (so sd sb : Slc) (bk : List Bk) (w : World) (h : EnAt w e so sd) (hb : BksAt w sb bk) (hs : SmallE e) (hl : ∀ x ∈ bk, x.2.2.length ≤ 1000) (hn : bk.length ≤ 1000) (hE : ErrsB A n0 w) :
    Calls Tryd.prog fn_page_Bytes ⟨[.agg ⟨enC e so sd⟩, sb.v]⟩ w fun x w' => Keep w w' ∧ ∃ t : Slc, x = .returned (.tuple ⟨[t.v, errO A (pageE e (pur bk))]⟩) ∧
      (pageE e (pur bk) ≠ none → t = ⟨none, 0, 0⟩) ∧ (pageE e (pur bk) = none → Own w' t 1 ((pageB e (pur bk)).map byteV) ∧ Fresh w t) := by
  have hEG := hE.g
  have hbl := hb.len
  refine page_Bytes_ok _ _ _ _ _ _ _ _ _ _ _ _ _ ?_
  unfold page_Bytes
  refine newS_mk (fun r w15 hr hb15 k15 hs15 => ?_)
  have o : ObjAt w15 r (enC e so sd) := ObjAt.new' hb15
  refine ⟨_, _, _, _, _, _, _, _, _, _, _, _, o.row, (entryBytes_spec A e so sd w15 (h.keep k15) hs (hE.keep k15)).mono ?_⟩
  rintro x w29 ⟨k29, t, er, rfl, b1, b2, b3⟩
  have kk29 := k15.trans k29
  have o29 := o.keep k29
  refine ⟨t, _, rfl, errO_isI A _, ?_⟩
  rw [errO_nil]
  by_cases hr1' : ¬ rightE e = true
  · have hr1 := hr1'
    obtain ⟨rfl, rfl⟩ := b1 (by simpa using hr1)
    have e1 : pageE e (pur bk) = some 3 := by unfold pageE; rw [if_neg hr1]
    rw [e1]
    exact BIf_mk (fun _ => ⟨kk29, _, rfl, fun _ => rfl, fun hh => by cases hh⟩) (fun hh => by cases hh)
  have hr1 : rightE e = true := Decidable.not_not.1 hr1'
  by_cases hr2 : 1848 < (bytesE e).length
  · obtain ⟨rfl, rfl⟩ := b2 hr1 hr2
    have e1 : pageE e (pur bk) = some 2 := by unfold pageE; rw [if_pos hr1, if_pos hr2]
    rw [e1]
    exact BIf_mk (fun _ => ⟨kk29, _, rfl, fun _ => rfl, fun hh => by cases hh⟩) (fun hh => by cases hh)
  obtain ⟨rfl, b4⟩ := b3 hr1 (by omega)
  refine BIf_mk (fun hh => by cases hh) (fun _ => ?_)
  refine ⟨_, _, _, _, _, _, _, _, _, _, _, _, o29.row, (entryStreams_spec A e so sd w29 (h.keep kk29) hs ((hEG.keep kk29).sub (by decide))).mono ?_⟩
  rintro x w45 ⟨k45, st, rfl, _, s3⟩
  have hi := s3 hr1
  have kk45 := kk29.trans k45
  refine ⟨st, rfl, (eqBack_spec st sb _ bk w45 hi (hb.keep kk45) (fun x hx => by have := hl x hx; omega) (by omega)).mono ?_⟩
  rintro x w48 ⟨rfl, k48⟩
  have kk48 := kk45.trans k48
  have e1 : pageE e (pur bk) = if backsOk (stE e.kind e.shard e.other) (pur bk) = true then none else some 3 := by unfold pageE; rw [if_pos hr1, if_neg hr2]
  refine ⟨_, rfl, BIf_mk (fun hh => ?_) (fun hh => ?_)⟩
  · have hh : backsOk (stE e.kind e.shard e.other) (pur bk) = false := by simpa using hh
    rw [hh, if_neg (by simp)] at e1
    rw [e1]
    exact ⟨_, errG_at (hEG.keep kk48.drew) 3 gl_ErrForm rfl (by decide), kk48.drew, ⟨none, 0, 0⟩, rfl, fun _ => rfl, fun hh => by cases hh⟩
  · have hh : backsOk (stE e.kind e.shard e.other) (pur bk) = true := by simpa using hh
    rw [hh, if_pos rfl] at e1
    rw [e1]
    have hfl := backsOk_falls hh
    have hbn : bk.length ≤ 3 := by have := backsOk_len hh; have := stE_len e.kind e.shard e.other; simp [pur] at *; omega
    have hb48 := hb.keep kk48
    have hE48 := hE.keep kk48
    refine newS_mk (fun r51 w52 hr51 hb51 k51 hs51 => ?_)
    have hO : OutK A w48 w52 r51 ⟨none, 0, 0⟩ [] := ⟨OutS.new A hb51, fun k hk => by rw [OutM_nil hk]; omega, k51⟩
    refine (outNum hO (n := 1) (by omega) (by simp) hE48).mono ?_
    rintro x w54 ⟨rfl, s54, h54, _⟩
    have l1 := numB_len 1 (by omega)
    have l2 := numB_len (bk.length : Int) (by omega)
    refine ⟨rfl, ?_⟩
    rw [hbl]
    refine (outNum h54 (n := (bk.length : Int)) (by omega) (by simp; omega) hE48).mono ?_
    rintro x w56 ⟨rfl, s56, h56, _⟩
    rw [List.nil_append] at h56
    refine ⟨rfl, fun i w2 => ∃ (k : Nat) (s : Slc), i = k ∧ k ≤ bk.length ∧ OutK A w48 w2 r51 s (numB 1 ++ numB (bk.length : Int) ++ (pur (bk.take k)).flatMap (fun x => listB x.2)), fun i _ => ((bk.length : Int) - i).toNat, ⟨0, s56, rfl, by omega, by simpa [pur] using h56⟩, ?_⟩
    rintro i w60 ⟨k, s, rfl, hk, ho⟩
    intros
    have hfk : ∀ x ∈ pur (bk.take k), fallsB x.2 = true := by
      intro x hx
      refine hfl x ?_
      unfold pur at *
      obtain ⟨y, hy, rfl⟩ := List.mem_map.1 hx
      exact List.mem_map.2 ⟨y, List.mem_of_mem_take hy, rfl⟩
    have l3 := lists_len hfk
    have l4 : (pur (bk.take k)).length ≤ bk.length := by simp [pur]; omega
    refine BIf_dec (fun h1 => ?_) (fun h1 => ?_)
    · have hkb : k < bk.length := by omega
      obtain ⟨q, hq, hcq⟩ := (hb48.keep ho.k).row k hkb
      have hi := hb48.ints _ (List.getElem_mem hkb)
      have hfx : fallsB bk[k].2.2 = true := hfl (bk[k].1, bk[k].2.2) (List.mem_map.2 ⟨bk[k], List.getElem_mem hkb, rfl⟩)
      obtain ⟨q1, q2⟩ := falls_in hfx
      refine needSome_mk hq ⟨by omega, h1, bk[k].1, bk[k].2.1, by rw [show Int.toNat (k : Int) = k by omega]; exact hcq, ?_⟩
      refine var_mk (cs := [.int .i64 bk[k].1, bk[k].2.1.v]) rfl rfl (fun r73 w75 hr73 o73 k73 hs73 => ?_)
      refine ⟨_, o73.cell 1 (by simp), (outNums (ho.keep k73) hi (by omega) (fun n hn => by have := q2 n hn; omega) (by simp only [List.length_append]; omega) hE48).mono ?_⟩
      rintro x w78 ⟨rfl, s78, h78, _⟩
      refine ⟨rfl, inR64 (by omega), ⟨k + 1, s78, rfl, hkb, ?_⟩, by dsimp only; omega⟩
      rw [List.take_succ_eq_append_getElem hkb]
      have : pur (List.take k bk ++ [bk[k]]) = pur (bk.take k) ++ [(bk[k].1, bk[k].2.2)] := by unfold pur; rw [List.map_append]; rfl
      rw [this, List.flatMap_append]
      simpa using h78
    · have hkn : k = bk.length := by omega
      subst hkn
      rw [List.take_length] at ho l3 l4
      have l5 := textB_len (bytesE e) (by omega)
      have b60 := bytesAt_keep b4 ((k45.trans k48).trans ho.k)
      refine ⟨_, b60, (outText ho (by omega) (by simp only [List.length_append]; omega) hE48).mono ?_⟩
      rintro x w81 ⟨rfl, s81, h81, _⟩
      refine ⟨rfl, (outDone h81 (by simp only [List.length_append]; omega) hE48).mono ?_⟩
      rintro x w83 ⟨t2, rfl, g1, g2, g3⟩
      refine ⟨t2, _, rfl, kk48.trans g3, t2, rfl, fun hh => (hh rfl).elim, fun _ => ⟨?_, g2.mono kk48.size⟩⟩
      have e2 : pageB e (pur bk) = numB 1 ++ numB (bk.length : Int) ++ (pur bk).flatMap (fun x => listB x.2) ++ textB (bytesE e) := by
        unfold pageB
        rw [show (pur bk).length = bk.length by simp [pur]]
      rw [e2]; exact g1

def numE : Option Nat → Int
  | none => 0
  | some k => ((k + 1 : Nat) : Int)
theorem ref04_Nums_specZ (sl : Slc) (l : List Int) (w : World) (hint : intsAt w sl l) (hll : l.length ≤ 1000) (hr : ∀ n ∈ l, 0 ≤ n ∧ n ≤ 2 ^ 40) :
    Calls Tryd.prog fn_tidewaterref04_Nums ⟨[sl.v]⟩ w fun e w' => ∃ s : Slc, e = .returned s.v ∧ Own w' s 1 ((listB l).map byteV) ∧ Fresh w s ∧ Keep w w' := by
  refine tidewaterref04_Nums_ok _ ?_
  unfold tidewaterref04_Nums
  have hsl := hint.1
  rw [show ((sl.l : Nat) : Int) = ((l.length : Nat) : Int) by rw [hsl]]
  refine (ref04_Num_spec l.length w (by omega)).mono ?_
  rintro e w3 ⟨s4, rfl, h4, f4, k4⟩
  have hle := numB_len (l.length : Int) (by omega)
  have e0 : encN l.length = numB (l.length : Int) := by unfold numB; rw [show ((l.length : Int)).toNat = l.length by omega]
  rw [e0] at h4
  refine ⟨s4, rfl, fun out i w9 => ∃ k : Nat, i = k ∧ k ≤ l.length ∧ Own w9 out 1 ((numB (l.length : Int) ++ (l.take k).flatMap numB).map byteV) ∧ Fresh w out ∧ Keep w w9, fun _ i _ => (l.length - i).toNat, ⟨0, rfl, by omega, by simpa using h4, f4, k4⟩, ?_⟩
  rintro out i w9 ⟨k, rfl, hk, ho, hf, hkp⟩
  intros
  refine BIf_dec (fun hlt => ?_) (fun hlt => ?_)
  · have hkl : k < l.length := by omega
    obtain ⟨a, ha, hc⟩ := intsAt_cell (intsAt_keep hint hkp) hkl
    have hlen := heads_len (l.take k) (fun n hn' => (hr n (List.mem_of_mem_take hn')).2)
    have htk : (l.take k).length ≤ l.length := by simp; omega
    have hmem := hr _ (List.getElem_mem hkl)
    refine needSome_mk ha ⟨by omega, hlt, l[k], by rw [show Int.toNat (k : Int) * 1 = k by omega]; exact hc, ?_⟩
    refine addNum hmem ho hf hkp (by simp only [List.length_append]; omega) (fun s' w' g => ?_)
    refine ⟨inR64 (by omega), ⟨k + 1, rfl, hkl, ?_, g.fr, g.k⟩, by dsimp only; omega⟩
    rw [List.take_succ_eq_append_getElem hkl, List.flatMap_append]
    simpa using g.own
  · have : k = l.length := by omega
    subst this
    rw [List.take_length] at ho
    exact ⟨out, rfl, ho, hf, hkp⟩

theorem refBytes06_spec (e : EnS) (so sd sb : Slc) (bk : List Bk) (w : World) (h : EnAt w e so sd) (hb : BksAt w sb bk) (hs : SmallE e) (hl : ∀ x ∈ bk, x.2.2.length ≤ 1000) (hn : bk.length ≤ 1000) :
    Calls Tryd.prog fn_tidewaterref06_Bytes ⟨[.agg ⟨enC e so sd⟩, sb.v]⟩ w fun x w' => Keep w w' ∧ ∃ t : Slc, x = .returned (.tuple ⟨[t.v, .int .i64 (numE (pageE e (pur bk)))]⟩) ∧
      (pageE e (pur bk) ≠ none → t = ⟨none, 0, 0⟩) ∧ (pageE e (pur bk) = none → bytesAt w' t (pageB e (pur bk))) := by
  have hbl := hb.len
  refine tidewaterref06_Bytes_ok _ _ _ _ _ _ _ _ _ _ _ _ _ ?_
  unfold tidewaterref06_Bytes
  refine newS_mk (fun r w15 hr hb15 k15 hs15 => ?_)
  have o : ObjAt w15 r (enC e so sd) := ObjAt.new' hb15
  refine ⟨_, _, _, _, _, _, _, _, _, _, _, _, o.row, (refRight05_spec e so sd w15 (h.keep k15) hs).mono ?_⟩
  rintro x w29 ⟨rfl, k29⟩
  have kk29 := k15.trans k29
  have o29 := o.keep k29
  refine ⟨_, rfl, BIf_mk (fun hr1 => ?_) (fun hr1 => ?_)⟩
  · have e1 : pageE e (pur bk) = some 3 := by unfold pageE; rw [if_neg (by simpa using hr1)]
    rw [e1]
    exact ⟨kk29, ⟨none, 0, 0⟩, rfl, fun _ => rfl, fun hh => by cases hh⟩
  have hr1 : rightE e = true := by simpa using hr1
  refine ⟨_, _, _, _, _, _, _, _, _, _, _, _, o29.row, (refBytes05_spec e so sd w29 (h.keep kk29) hs hr1).mono ?_⟩
  rintro x w44 ⟨tb, rfl, htb, _, k44⟩
  have kk44 := kk29.trans k44
  have o44 := o29.keep k44
  have hb44 := htb.bytes
  have htl := hb44.1
  refine ⟨tb, rfl, BIf_dec (fun hr2 => ?_) (fun hr2 => ?_)⟩
  · have e1 : pageE e (pur bk) = some 2 := by unfold pageE; rw [if_pos hr1, if_pos (by omega)]
    rw [e1]
    exact ⟨kk44, ⟨none, 0, 0⟩, rfl, fun _ => rfl, fun hh => by cases hh⟩
  have e1 : pageE e (pur bk) = if backsOk (stE e.kind e.shard e.other) (pur bk) = true then none else some 3 := by unfold pageE; rw [if_pos hr1, if_neg (by omega)]
  have bad : backsOk (stE e.kind e.shard e.other) (pur bk) = false → ∀ w', Keep w w' → Keep w w' ∧ ∃ t : Slc, Ending.returned (.tuple ⟨[(⟨none, 0, 0⟩ : Slc).v, .int .i64 4]⟩) = .returned (.tuple ⟨[t.v, .int .i64 (numE (pageE e (pur bk)))]⟩) ∧
      (pageE e (pur bk) ≠ none → t = ⟨none, 0, 0⟩) ∧ (pageE e (pur bk) = none → bytesAt w' t (pageB e (pur bk))) := by
    intro hh w' kw
    rw [hh, if_neg (by simp)] at e1
    rw [e1]
    exact ⟨kw, ⟨none, 0, 0⟩, rfl, fun _ => rfl, fun hh => by cases hh⟩
  refine ⟨_, _, _, _, _, _, _, _, _, _, _, _, o44.row, (refStreams05_spec e so sd w44).mono ?_⟩
  rintro x w59 ⟨st, rfl, hst, k59⟩
  rw [st_right hr1] at hst
  have hi := hst.ints
  have hil := hi.1
  have h3 := stE_len e.kind e.shard e.other
  generalize hL : stE e.kind e.shard e.other = L at *
  have kk59 := kk44.trans k59
  refine ⟨st, rfl, BIf_ndec (fun hne => bad ?_ _ kk59) (fun heq => ?_)⟩
  · cases hh : backsOk L (pur bk) with
    | false => rfl
    | true => have := backsOk_len hh; simp [pur] at this; omega
  have hLb : L.length = bk.length := by omega
  have hb59 := hb.keep kk59
  refine newS_mk (fun r61 w62 hr61 hb61 k61 hs61 => ?_)
  have h1b : Own w62 ⟨some ⟨r61, 0, none⟩, 1, 1⟩ 1 ((numB 1).map byteV) := by
    have : numB 1 = [1] := by unfold numB; rw [encN_lt (by omega)]; rfl
    rw [this]
    exact Own.new (sz := 1) hb61 (.inl (by simp)) rfl
  have l1 := numB_len 1 (by omega)
  have l2 := numB_len (bk.length : Int) (by omega)
  rw [show ((st.l : Nat) : Int) = (bk.length : Int) by omega]
  refine addNum (w0 := w59) (by omega) h1b (Fresh.at (by omega)) k61 (by omega) (fun s66 w67 g67 => ?_)
  refine ⟨fun out i w2 => ∃ k : Nat, i = k ∧ k ≤ bk.length ∧ Own w2 out 1 ((numB 1 ++ numB (bk.length : Int) ++ (pur (bk.take k)).flatMap (fun x => listB x.2)).map byteV) ∧ Fresh w59 out ∧ Keep w59 w2 ∧ (∀ x ∈ pur (bk.take k), fallsB x.2 = true) ∧ backsOk (L.drop k) (pur (bk.drop k)) = backsOk L (pur bk), fun _ i _ => ((bk.length : Int) - i).toNat,
    ⟨0, rfl, by omega, by simpa [pur] using g67.own, g67.fr, g67.k, by simp [pur], rfl⟩, ?_⟩
  rintro out i w72 ⟨k, rfl, hk, ho, hf, k72, hfk, hpre⟩
  intros
  have l3 := lists_len hfk
  have l4 : (pur (bk.take k)).length ≤ bk.length := by simp [pur]; omega
  refine BIf_dec (fun h1 => ?_) (fun h1 => ?_)
  · have hkb : k < bk.length := by omega
    have hkL : k < L.length := by omega
    obtain ⟨q, hq, hcq⟩ := (hb59.keep k72).row k hkb
    have hix := hb59.ints _ (List.getElem_mem hkb)
    have hlx := hl _ (List.getElem_mem hkb)
    rw [List.drop_eq_getElem_cons hkL, List.drop_eq_getElem_cons hkb] at hpre
    have hpre : backsOk (L[k] :: L.drop (k + 1)) ((bk[k].1, bk[k].2.2) :: pur (bk.drop (k + 1))) = backsOk L (pur bk) := hpre
    rw [backsOk_cons] at hpre
    refine needSome_mk hq ⟨by omega, h1, bk[k].1, bk[k].2.1, by rw [show Int.toNat (k : Int) = k by omega]; exact hcq, ?_⟩
    refine var_mk (cs := [.int .i64 bk[k].1, bk[k].2.1.v]) rfl rfl (fun r103 w105 hr103 o103 k103 hs103 => ?_)
    have kd : Keep w105 (World.drew w105) := Keep.drew (Ext.refl _ _)
    have k72d := (k72.trans k103).trans kd
    have od := o103.keep kd
    obtain ⟨p, hp, hcp⟩ := intsAt_cell (intsAt_keep hi k72d) hkL
    refine ⟨_, od.cell 0 (by simp), needSome_mk hp ⟨by omega, by omega, L[k], by rw [show Int.toNat (k : Int) * 1 = k by omega]; exact hcp, BIf_ndec (fun h2 => ?_) (fun h2 => ?_)⟩⟩
    · have h2 : ¬ L[k] = bk[k].1 := fun hh => h2 hh.symm
      rw [decide_eq_false h2, Bool.false_and] at hpre
      exact bad hpre.symm _ (kk59.trans k72d)
    refine ⟨_, od.cell 1 (by simp), (refFalls_spec _ _ _ (intsAt_keep hix k72d) (by omega)).mono ?_⟩
    rintro x w111 ⟨rfl, rfl⟩
    refine ⟨_, rfl, BIf_mk (fun h4 => ?_) (fun h4 => ?_)⟩
    · have h4 : fallsB bk[k].2.2 = false := by simpa using h4
      rw [h4, Bool.false_and, Bool.and_false] at hpre
      exact bad hpre.symm _ (kk59.trans k72d)
    have h4 : fallsB bk[k].2.2 = true := by simpa using h4
    obtain ⟨q1, q2⟩ := falls_in h4
    rw [h4, decide_eq_true h2.symm, Bool.true_and, Bool.true_and] at hpre
    have l5 := listB_len h4
    refine ⟨_, od.cell 1 (by simp), (ref04_Nums_specZ _ _ _ (intsAt_keep hix k72d) (by omega) (fun n hn => by have := q2 n hn; omega)).mono ?_⟩
    rintro x w115 ⟨s116, rfl, h116, f116, k116⟩
    refine ⟨s116, rfl, ?_⟩
    refine addSlc (w0 := w59) (ho.keep (((k103.trans kd).trans k116))) hf (k72d.trans k116) h116.bytes (by simp only [List.length_append]; omega) (fun s' w' g => ?_)
    have e2 : pur (bk.take (k + 1)) = pur (bk.take k) ++ [(bk[k].1, bk[k].2.2)] := by unfold pur; rw [List.take_succ_eq_append_getElem hkb, List.map_append]; rfl
    refine ⟨inR64 (by omega), ⟨k + 1, rfl, hkb, ?_, g.fr, g.k, ?_, hpre⟩, by dsimp only; omega⟩
    · rw [e2, List.flatMap_append]
      simpa using g.own
    · intro x hx
      rw [e2, List.mem_append, List.mem_singleton] at hx
      rcases hx with hx | rfl
      · exact hfk x hx
      · exact h4
  · have hkn : k = bk.length := by omega
    subst hkn
    rw [List.take_length] at ho l3 l4
    rw [← hLb, List.drop_length, hLb, List.drop_length] at hpre
    have l5 := textB_len (bytesE e) (by omega)
    rw [← hpre, if_pos (by rfl)] at e1
    rw [e1]
    refine ⟨_, bytesAt_keep hb44 (k59.trans k72), ?_⟩
    refine addText (by omega) ho hf k72 (by simp only [List.length_append]; omega) (fun s' w' g => ?_)
    refine ⟨kk59.trans g.k, s', rfl, fun hh => (hh rfl).elim, fun _ => ?_⟩
    have e2 : pageB e (pur bk) = numB 1 ++ numB (bk.length : Int) ++ (pur bk).flatMap (fun x => listB x.2) ++ textB (bytesE e) := by
      unfold pageB
      rw [show (pur bk).length = bk.length by simp [pur]]
    rw [e2]; exact g.own.bytes
end Go.D

set_option linter.unusedVariables false
set_option linter.unusedSimpArgs false
set_option maxRecDepth 8000
namespace Go.D
open Go Go.Proofs

/-! ### junk -/
theorem Junk_spec (w : World) : Calls Tryd.prog fn_page_Junk ⟨[]⟩ w fun e w' => ∃ s : Slc, e = .returned s.v ∧ bytesAt w' s [0] ∧ Keep w w' := by
  refine page_Junk_ok ?_
  unfold page_Junk
  refine newS_mk (fun r w2 hr hb k2 hs2 => ?_)
  rintro w4 rfl
  obtain ⟨h1, h2⟩ := markW_heap hb
  exact ⟨_, rfl, (Own.new (sz := 1) (n := 1) (cs := ([0] : List UInt8).map byteV) h1 (clear_mark 1) rfl).bytes, k2.step (by omega) h2⟩
theorem IsJunk_spec (s : Slc) (b : List UInt8) (w : World) (h : bytesAt w s b) : Calls Tryd.prog fn_page_IsJunk ⟨[s.v]⟩ w fun e w' => e = .returned (.bool (decide (b = [0]))) ∧ w' = w := by
  refine page_IsJunk_ok _ ?_
  exact ⟨b, h, rfl, rfl⟩
theorem rText_bad (most : Int) (bs : List UInt8) (k : Nat) : rText most (bs, some k) = ([], (bs, some k)) := rfl

/-- Bytes that the reader has refused after two numbers. -/
theorem pageRead_bad (A : Nat → Addr) {n0 : Nat} (s : Slc) (bs rest : List UInt8) (k : Nat) (w : World) (hb : bytesAt w s bs) (hl : bs.length ≤ 2048) (hN : rNum 3 (rNum 1 (bs, none)).2 = (0, (rest, some k))) (hE : ErrsB A n0 w) (hn0 : n0 ≤ w.heap.size) :
    Calls Tryd.prog fn_page_Read ⟨[s.v]⟩ w fun x w' => x = .returned (.tuple ⟨[.agg ⟨zE⟩, (⟨none, 0, 0⟩ : Slc).v, errO A (some k)]⟩) ∧ Keep w w' := by
  have hsl := hb.1
  refine page_Read_ok _ ?_
  unfold page_Read
  refine newS_mk (fun r2 w3 hr2 hb2 k3 hs3 => ?_)
  have o2 : ObjAt w3 r2 zE := ObjAt.new' hb2
  have z3 := k3.size
  refine BIf_dec (fun hh => by omega) (fun _ => ?_)
  refine (Read_spec A s bs w3 (bytesAt_keep hb k3) (by omega)).mono ?_
  rintro x w20 ⟨r, F, rfl, hI, k20, hr20, hF20⟩
  have n2 : r2 ≠ r := by omega
  have hEx : ∀ {w'}, Keep w3 w' → ErrsB A n0 w' := fun kk => (hE.keep k3).keep kk
  refine ⟨_, rfl, (In_Num_spec A n0 r F _ 1 w20 hI (by dsimp only; omega) (hEx k20) (by omega)).mono ?_⟩
  rintro x w23 ⟨rfl, g23, e23⟩
  have k23 := k20.ext e23 (fun k hk => by rw [show k = r from hk]; omega)
  have l23 := rNum_len 1 (bs, none)
  dsimp only at l23
  refine ⟨_, rfl, (In_Num_spec A n0 r F _ 3 w23 g23 (by omega) (hEx k23) (by omega)).mono ?_⟩
  rintro x w26 ⟨rfl, g26, e26⟩
  have k26 := k23.ext e26 (fun k hk => by rw [show k = r from hk]; omega)
  have l26 := rNum_len 3 (rNum 1 (bs, none)).2
  rw [hN] at g26 l26 ⊢
  dsimp only at g26 l26 ⊢
  refine ⟨_, rfl, fun ls w2 => ls = ⟨none, 0, 0⟩ ∧ w2 = w26, fun _ _ => 0, ⟨rfl, rfl⟩, ?_⟩
  rintro ls w31 ⟨rfl, rfl⟩
  intros
  refine BIf_dec (fun hh => by simp at hh) (fun _ => ?_)
  refine (In_Text_spec A n0 r F _ 2048 w31 g26 (by dsimp only; omega) (hEx k26) (by omega)).mono ?_
  rintro x w49 ⟨rfl, g49, e49⟩
  have k49 := k26.ext e49 (fun k hk => by rw [show k = r from hk]; omega)
  rw [rText_bad] at g49 ⊢
  refine ⟨_, rfl, (In_End_spec A n0 r F _ w49 g49 (hEx k49)).mono ?_⟩
  rintro x w52 ⟨rfl, rfl⟩
  refine ⟨_, rfl, errO_isI A _, BIf_mk (fun _ => ?_) (fun hh => by cases hh)⟩
  have o49 := ((((o2.keep k20).ext e23 (fun hh => n2 hh)).ext e26 (fun hh => n2 hh)).ext e49 (fun hh => n2 hh))
  obtain ⟨cw, g⟩ := o49.setAll (n := 12) (cs := zE) rfl rfl
  refine ⟨cw, fun w54 h54 => ?_⟩
  obtain ⟨g1, g2, _⟩ := g w54 h54
  exact ⟨_, _, _, _, _, _, _, _, _, _, _, _, g1.row, rfl, (k3.trans k49).step (by omega) g2⟩

theorem rN_junk : rNum 3 (rNum 1 (([0] : List UInt8), none)).2 = (0, ([], some 1)) := by
  have h1 := rNum_enc 1 0 [] (by omega) (by omega)
  rw [encN_lt (by omega)] at h1
  have h2 : rNum 1 (([0] : List UInt8), none) = (((0 : Nat) : Int), ([], none)) := h1
  rw [h2]
  exact rNum_bad 3 rfl
theorem rN_two (rest : List UInt8) : rNum 3 (rNum 1 (2 :: rest, none)).2 = (0, (rest, some 0)) := by
  have h1 : rawR 0 0 (2 :: rest) = .ok (2, rest) := by
    have := enc_raw 2 rest (by omega)
    rw [encN_lt (by omega)] at this
    exact this
  rw [rNum_big h1 (by omega)]
  rfl

theorem alive06_spec (A : Nat → Addr) {n0 : Nat} (w : World) (hE : ErrsB A n0 w) (hn0 : n0 ≤ w.heap.size) : Calls Tryd.prog fn_tidewaterlaw06_alive ⟨[]⟩ w fun e w' => e = .returned (.bool true) ∧ Keep w w' := by
  refine tidewaterlaw06_alive_ok ?_
  unfold tidewaterlaw06_alive
  refine (Junk_spec w).mono ?_
  rintro x w2 ⟨s, rfl, hb, k2⟩
  have z2 := k2.size
  refine ⟨s, rfl, (pageRead_bad A s _ _ _ w2 hb (by simp) rN_junk (hE.keep k2) (by omega)).mono ?_⟩
  rintro x w5 ⟨rfl, k5⟩
  refine ⟨_, _, _, _, _, _, _, _, _, _, _, _, _, _, rfl, var_mk (cs := zE) rfl rfl (fun r20 w22 hr20 o20 k22 hs22 => ?_)⟩
  have kk22 := (k2.trans k5).trans k22
  refine (Junk_spec w22).mono ?_
  rintro x w24 ⟨s25, rfl, hb25, k24⟩
  refine ⟨s25, rfl, (IsJunk_spec s25 _ w24 hb25).mono ?_⟩
  rintro x w27 ⟨rfl, rfl⟩
  have kk := kk22.trans k24
  refine ⟨_, rfl, BIf_dec (fun _ => ?_) (fun hh => (hh rfl).elim)⟩
  refine (Num_spec A 1 (by omega) w27 (hE.keep kk).1).mono ?_
  rintro x w30 ⟨rfl, k30⟩
  exact ⟨_, rfl, rfl, kk.trans k30⟩

theorem long06_spec (e : EnS) (so sd sb : Slc) (bk : List Bk) (w : World) (h : EnAt w e so sd) (hb : BksAt w sb bk) :
    Calls Tryd.prog fn_tidewaterlaw06_long ⟨[.agg ⟨enC e so sd⟩, sb.v]⟩ w fun x w' => ∃ b : Bool, x = .returned (.bool b) ∧ (b = false → SmallE e ∧ bk.length ≤ 10 ∧ ∀ x ∈ bk, x.2.2.length ≤ 20) ∧ Keep w w' := by
  refine tidewaterlaw06_long_ok _ _ _ _ _ _ _ _ _ _ _ _ _ ?_
  unfold tidewaterlaw06_long
  refine newS_mk (fun r w14 hr hb' k14 hs14 => ?_)
  have o : ObjAt w14 r (enC e so sd) := ObjAt.new' hb'
  have yes : ∀ {w' : World}, Keep w w' → ∃ b : Bool, Ending.returned (.bool true) = .returned (.bool b) ∧ (b = false → SmallE e ∧ bk.length ≤ 10 ∧ ∀ x ∈ bk, x.2.2.length ≤ 20) ∧ Keep w w' := fun k => ⟨true, rfl, (fun h => by cases h), k⟩
  have hol := h.o.1
  have hdl := h.d.1
  have hbl := hb.len
  refine ⟨fun w' => w' = w14 ∧ e.ops.length ≤ 20 ∧ e.key.length ≤ 300 ∧ e.data.length ≤ 600 ∧ bk.length ≤ 10, ⟨so, o.cell 6 (by simp [enC]), BIf_dec (fun _ => yes k14) (fun h1 => ⟨_, o.cell 7 (by simp [enC]), BIf_dec (fun _ => yes k14) (fun h2 => ⟨sd, o.cell 11 (by simp [enC]), BIf_dec (fun _ => yes k14) (fun h3 => BIf_dec (fun _ => yes k14) (fun h4 => ⟨rfl, by omega, by omega, by omega, by omega⟩))⟩)⟩)⟩, ?_⟩
  rintro w' ⟨rfl, h1, h2, h3, h4⟩
  intros
  refine ⟨so, o.cell 6 (by simp [enC]), ?_⟩
  refine ⟨fun i w2 => ∃ k : Nat, i = k ∧ k ≤ e.ops.length ∧ Keep w w2 ∧ ∀ o ∈ e.ops.take k, o.key.length ≤ 300 ∧ o.val.length ≤ 300 ∧ o.old.length ≤ 300, fun i _ => ((e.ops.length : Int) - i).toNat, ⟨0, rfl, by omega, k14, fun o ho => by simp at ho⟩, ?_⟩
  rintro i w2 ⟨k, rfl, hk, k2, hall⟩
  intros
  refine BIf_dec (fun hlt => ?_) (fun hge => ?_)
  · have hkl : k < e.ops.length := by omega
    obtain ⟨a, ha, hrow⟩ := (h.o.keep k2).2.2 k hkl
    refine needSome_mk ha ⟨by omega, hlt, _, _, _, _, _, by rw [Int.toNat_natCast]; exact hrow, ?_⟩
    refine var_mk (cs := opC e.ops[k]) rfl rfl (fun r87 w89 hr87 o87 k87 hs87 => ?_)
    have kk := k2.trans k87
    refine ⟨_, o87.cell 1 (by simp [opC]), BIf_dec (fun _ => yes kk) (fun h4 => ⟨_, o87.cell 2 (by simp [opC]), BIf_dec (fun _ => yes kk) (fun h5 => ⟨_, o87.cell 3 (by simp [opC]), BIf_dec (fun _ => yes kk) (fun h6 => ?_)⟩)⟩)⟩
    refine ⟨inR64 (by omega), ⟨k + 1, rfl, by omega, kk, fun o ho => ?_⟩, by dsimp only; omega⟩
    rw [List.take_succ_eq_append_getElem hkl, List.mem_append] at ho
    rcases ho with ho | ho
    · exact hall o ho
    · simp at ho; subst ho; omega
  · have hke : k = e.ops.length := by omega
    subst hke
    rw [List.take_length] at hall
    refine ⟨fun i w3 => ∃ k : Nat, i = k ∧ k ≤ bk.length ∧ Keep w w3 ∧ ∀ x ∈ bk.take k, x.2.2.length ≤ 20, fun i _ => ((bk.length : Int) - i).toNat, ⟨0, rfl, by omega, k2, fun o ho => by simp at ho⟩, ?_⟩
    rintro i w3 ⟨k, rfl, hk, k3, hall2⟩
    intros
    refine BIf_dec (fun hlt => ?_) (fun hge => ?_)
    · have hkl : k < bk.length := by omega
      obtain ⟨q, hq, hcq⟩ := (hb.keep k3).row k hkl
      have hi := (hb.ints _ (List.getElem_mem hkl)).1
      refine needSome_mk hq ⟨by omega, hlt, bk[k].1, bk[k].2.1, by rw [Int.toNat_natCast]; exact hcq, ?_⟩
      refine var_mk (cs := [.int .i64 bk[k].1, bk[k].2.1.v]) rfl rfl (fun r73 w75 hr73 o73 k73 hs73 => ?_)
      have kk := k3.trans k73
      refine ⟨_, o73.cell 1 (by simp), BIf_dec (fun _ => yes kk) (fun h5 => ?_)⟩
      refine ⟨inR64 (by omega), ⟨k + 1, rfl, by omega, kk, fun x hx => ?_⟩, by dsimp only; omega⟩
      rw [List.take_succ_eq_append_getElem hkl, List.mem_append] at hx
      rcases hx with hx | hx
      · exact hall2 x hx
      · rw [List.mem_singleton] at hx; subst hx; omega
    · have hke : k = bk.length := by omega
      subst hke
      rw [List.take_length] at hall2
      exact ⟨false, rfl, fun _ => ⟨⟨h1, h2, h3, hall⟩, h4, hall2⟩, k3⟩

theorem Own.set0 {w : World} {s : Slc} {b : UInt8} {rest : List UInt8} (h : Own w s 1 ((b :: rest).map byteV)) (c : UInt8) :
    ∃ a, s.p = some a ∧ w.cell? a = some (byteV b) ∧ canW w a 1 ∧ ∀ w', w' = w.setCell a (byteV c) → Own w' s 1 ((c :: rest).map byteV) ∧ Ext (ownB s) w w' ∧ w'.heap.size = w.heap.size := by
  obtain ⟨hl, ⟨_, h0, _⟩ | ⟨r, pad, T, f, hp, hb, h1, h2⟩⟩ := h
  · cases h0
  · refine ⟨_, hp, by rw [cell_of hb]; rfl, canW_of hb h2 0 1 (by simp), ?_⟩
    rintro w' rfl
    have hh := heap_setCell hb 0 (byteV c)
    refine ⟨⟨by simpa using hl, .inr ⟨r, pad, T, f, hp, hh, by simpa using h1, by simpa using h2⟩⟩, Ext.setCell (M := ownB s) (a := (⟨r, 0, none⟩ : Addr)) ⟨_, hp, rfl⟩ _, by simp [World.setCell]⟩

theorem PageJunk_walk (A : Nat → Addr) (sj : Slc) (j : List UInt8) (e : EnS) (so sd sb : Slc) (bk : List Bk) (w : World) (hj : bytesAt w sj j) (h : EnAt w e so sd) (hb : BksAt w sb bk) (hE0 : Errs A w) :
    Calls Tryd.prog fn_tidewaterlaw06_PageJunk ⟨[sj.v, .agg ⟨enC e so sd⟩, sb.v]⟩ w fun x w' => x = .returned (.bool true) ∧ Keep w w' := by
  have hE := hE0.b
  have hjl := hj.1
  refine tidewaterlaw06_PageJunk_ok _ _ _ _ _ _ _ _ _ _ _ _ _ _ ?_
  unfold tidewaterlaw06_PageJunk
  refine newS_mk (fun r w16 hr hb16 k16 hs16 => ?_)
  have o : ObjAt w16 r (enC e so sd) := ObjAt.new' hb16
  have z16 := k16.size
  refine (alive06_spec A w16 (hE.keep k16) z16).mono ?_
  rintro x w18 ⟨rfl, k18⟩
  have kk18 := k16.trans k18
  have o18 := o.keep k18
  refine ⟨_, rfl, BIf_mk (fun hh => by cases hh) (fun _ => ?_)⟩
  refine ⟨fun w2 => Keep w w2 ∧ ObjAt w2 r (enC e so sd) ∧ SmallE e ∧ bk.length ≤ 10 ∧ (∀ x ∈ bk, x.2.2.length ≤ 20) ∧ j.length ≤ 300, BIf_dec (fun _ => ⟨rfl, kk18⟩) (fun hl => ?_), ?_⟩
  · refine ⟨_, _, _, _, _, _, _, _, _, _, _, _, o18.row, (long06_spec e so sd sb bk w18 (h.keep kk18) (hb.keep kk18)).mono ?_⟩
    rintro x w34 ⟨lg, rfl, hs, k34⟩
    refine ⟨_, rfl, BIf_mk (fun _ => ⟨rfl, kk18.trans k34⟩) (fun hlg => ?_)⟩
    obtain ⟨h1, h2, h3⟩ := hs hlg
    exact ⟨kk18.trans k34, o18.keep k34, h1, h2, h3, by omega⟩
  rintro w36 ⟨k36, o36, hs, hbn, hbl, hjn⟩
  intros
  have hj36 := bytesAt_keep hj k36
  have z36 := k36.size
  refine (IsJunk_spec sj j w36 hj36).mono ?_
  rintro x w47 ⟨rfl, rfl⟩
  refine ⟨_, rfl, BIf_dec (fun hj0 => ?_) (fun hj0 => ?_)⟩
  · rw [hj0] at hj36
    refine (pageRead_bad A sj _ _ _ w47 hj36 (by simp) rN_junk (hE.keep k36) z36).mono ?_
    rintro x w50 ⟨rfl, k50⟩
    refine ⟨_, _, _, _, _, _, _, _, _, _, _, _, _, _, rfl, ?_⟩
    first
    | refine var_mk (cs := zE) rfl rfl (fun r65 w67 hr65 o65 k67 hs67 => ?_)
      have hjl' := hj36.1
      refine ⟨errO_isI A _, BIf_mk (fun _ => ⟨?_, (k36.trans k50).trans k67⟩) (fun hh => by cases hh)⟩
      rw [decide_eq_true (by simp at hjl'; omega)]
    | skip
  · refine ⟨_, _, _, _, _, _, _, _, _, _, _, _, o36.row, (pageBytes_spec A e so sd sb bk w47 (h.keep k36) (hb.keep k36) hs (fun x hx => by have := hbl x hx; omega) (by omega) (hE.keep k36)).mono ?_⟩
    rintro x w81 ⟨k81, t, rfl, b1, b2⟩
    have kk81 := k36.trans k81
    refine ⟨t, _, rfl, errO_isI A _, ?_⟩
    rw [errO_nil]
    cases hp : pageE e (pur bk) with
    | some q =>
      have := b1 (by rw [hp]; simp)
      subst this
      exact BIf_mk (fun _ => ⟨rfl, kk81⟩) (fun hh => by cases hh)
    | none =>
      obtain ⟨g1, g2⟩ := b2 hp
      have hlen := pageB_len hp
      have e1 : ∃ rest, pageB e (pur bk) = 1 :: rest ∧ rest.length ≤ 2000 := by
        have : numB 1 = [1] := by unfold numB; rw [encN_lt (by omega)]; rfl
        refine ⟨numB ((pur bk).length : Int) ++ (pur bk).flatMap (fun x => listB x.2) ++ textB (bytesE e), ?_, ?_⟩
        · unfold pageB; rw [this]; simp
        · have h1 := hlen.1
          unfold pageB at h1
          simp only [List.length_append] at h1 ⊢
          omega
      obtain ⟨rest, e1, e2⟩ := e1
      rw [e1] at g1
      obtain ⟨a, ha, hc, cw, g⟩ := g1.set0 2
      have htl := g1.bytes.1
      simp only [List.length_cons] at htl
      refine BIf_mk (fun hh => by cases hh) (fun _ => needSome_mk ha ⟨by omega, by omega, 1, hc, by omega, by omega, inR8 (by omega), inR8 (by omega), needSome_mk ha ⟨by omega, by omega, cw, fun w87 h87 => ?_⟩⟩)
      obtain ⟨g3, g4, _⟩ := g w87 (by rw [h87]; rfl)
      have hb87 := g3.bytes
      have kk87 : Keep w w87 := kk81.ext g4 (fun k hk => by have := g2 k hk; omega)
      refine (pageRead_bad A t _ _ _ w87 hb87 (by simp; omega) (rN_two rest) (hE.keep kk87) kk87.size).mono ?_
      rintro x w89 ⟨rfl, k89⟩
      refine ⟨_, _, _, _, _, _, _, _, _, _, _, _, _, _, rfl, ?_⟩
      refine ⟨errO_isI A _, BIf_mk (fun _ => ?_) (fun hh => by cases hh)⟩
      refine (IsJunk_spec t _ w89 (bytesAt_keep hb87 k89)).mono ?_
      rintro x w105 ⟨rfl, rfl⟩
      refine ⟨_, rfl, ?_, kk87.trans k89⟩
      rw [decide_eq_false (by intro hh; cases hh)]; rfl
end Go.D

set_option linter.unusedVariables false
set_option linter.unusedSimpArgs false
set_option maxRecDepth 8000
namespace Go.D
open Go Go.Proofs

/-! ### lists, read -/
theorem rMany_enc (most : Int) (hm : most ≤ 2 ^ 40) (rest : List UInt8) : ∀ (l acc : List Int), (∀ n ∈ l, 0 ≤ n ∧ n ≤ most) → rMany most l.length acc (l.flatMap numB ++ rest, none) = (some (acc ++ l), (rest, none))
  | [], acc, _ => by simp [rMany]
  | n :: l, acc, h => by
    have hn := h n (by simp)
    have q := rNum_enc most n.toNat (l.flatMap numB ++ rest) (by omega) (by omega)
    have e : (n :: l).flatMap numB ++ rest = encN n.toNat ++ (l.flatMap numB ++ rest) := by
      rw [List.flatMap_cons, List.append_assoc]; rfl
    rw [List.length_cons, e, rMany_ok (by rw [q]; rfl), q]
    have := rMany_enc most hm rest l (acc ++ [((n.toNat : Nat) : Int)]) (fun x hx => h x (by simp [hx]))
    rw [this, show ((n.toNat : Nat) : Int) = n by omega]
    simp
theorem rNums_enc {many most : Int} (hm : most ≤ 2 ^ 40) {l : List Int} (rest : List UInt8) (hl : (l.length : Int) ≤ many) (hm2 : many ≤ 2 ^ 40) (h : ∀ n ∈ l, 0 ≤ n ∧ n ≤ most) : rNums many most (listB l ++ rest, none) = (l, (rest, none)) := by
  have q := rNum_enc many l.length (l.flatMap numB ++ rest) (by omega) hl
  have e : listB l ++ rest = encN l.length ++ (l.flatMap numB ++ rest) := by
    unfold listB numB
    rw [List.append_assoc]; rfl
  unfold rNums
  rw [e, q]
  dsimp only
  have := rMany_enc most hm rest l [] h
  rw [show (((l.length : Nat) : Int)).toNat = l.length by omega, this]
  simp
theorem rdNums {A : Nat → Addr} {n0 : Nat} {w0 w : World} {r : Nat} {F : Nat → Prop} {rest : List UInt8} {l : List Int} {many most : Int} (h : RdK A n0 w0 w r F (listB l ++ rest)) (hl : (l.length : Int) ≤ many) (hm2 : many ≤ 2 ^ 20) (hn : ∀ n ∈ l, 0 ≤ n ∧ n ≤ most) (hm : most ≤ 2 ^ 40) :
    Calls Tryd.prog fn_pack_In_Nums ⟨[.pointer (some ⟨r, 0, none⟩), .int .i64 many, .int .i64 most]⟩ w fun e w' => ∃ t : Slc, e = .returned t.v ∧ intsAt w' t l ∧ RdK A n0 w0 w' r F rest ∧ Ext (eqB r) w w' ∧ Fresh w t := by
  have hb := h.b
  have hrl : rest.length ≤ 2 ^ 20 := by rw [List.length_append] at hb; omega
  refine (In_Nums_spec A n0 r F _ many most w h.i (by dsimp only; omega) (h.e.keep h.k) (by have := h.n; have := h.ge; omega) (fun k hk => (h.f k hk).2) (by omega)).mono ?_
  rintro e w' ⟨t, rfl, g1, g2, g3, g4⟩
  rw [rNums_enc hm rest hl (by omega) hn] at g1 g2
  exact ⟨t, rfl, g1, h.step g3 g2 hrl, g3, g4⟩

/-! ### what is cleaned has the same streams -/
theorem stE_clean {e : EnS} (h : rightE e = true) : stE (cleanE e).kind (cleanE e).shard (cleanE e).other = stE e.kind e.shard e.other := by
  have hk := right_kind h
  unfold kindOk at hk
  unfold cleanE
  by_cases h1 : e.kind = 1
  · rw [if_pos h1, h1]; simp [stE]
  by_cases h2 : e.kind = 2
  · rw [if_neg h1, if_pos h2, h2]; simp [stE]
  by_cases h3 : e.kind = 3
  · rw [if_neg h1, if_neg h2, if_pos h3, h3]
  by_cases h4 : e.kind = 4
  · rw [if_neg h1, if_neg h2, if_neg h3, if_pos h4, h4]
  · have h5 : e.kind = 5 := by omega
    rw [if_neg h1, if_neg h2, if_neg h3, if_neg h4, h5]; simp [stE]
theorem stE_nodup {e : EnS} (h : rightE e = true) : (stE e.kind e.shard e.other).Nodup := by
  unfold stE
  rcases right_cases h with ⟨k, _⟩ | ⟨k, h1, _⟩ | ⟨k, ⟨h1, h2, h3⟩, _⟩ | ⟨k, h1, h2, h3⟩ | ⟨k, _⟩
  · simp [k]
  · simp [k]; omega
  · simp only [k]
    rw [if_neg (by omega), if_neg (by omega)]
    simp only [List.nodup_cons, List.mem_cons, List.not_mem_nil, or_false, not_or, List.nodup_nil, and_true, not_false_eq_true]
    by_cases h4 : e.other < e.shard
    · rw [if_pos h4, if_neg (show ¬ e.other > e.shard by omega)]; omega
    · rw [if_neg h4, if_pos (show e.other > e.shard by omega)]; omega
  · simp only [k]
    rw [if_neg (by omega), if_neg (by omega)]
    simp only [List.nodup_cons, List.mem_cons, List.not_mem_nil, or_false, not_or, List.nodup_nil, and_true, not_false_eq_true]
    by_cases h4 : e.other < e.shard
    · rw [if_pos h4, if_neg (show ¬ e.other > e.shard by omega)]; omega
    · rw [if_neg h4, if_pos (show e.other > e.shard by omega)]; omega
  · simp [k]

theorem take_map_succ {α β : Type} (f : α → β) {l : List α} {k : Nat} (h : k < l.length) : (l.take (k + 1)).map f = (l.take k).map f ++ [f l[k]] := by
  rw [List.take_succ_eq_append_getElem h, List.map_append]; rfl

theorem pageRead_spec (A : Nat → Addr) {n0 : Nat} (e : EnS) (b : List (Int × List Int)) (s : Slc) (w : World) (hb : bytesAt w s (pageB e b)) (hp : pageE e b = none) (hs : SmallE e) (hE : ErrsB A n0 w) (hn0 : n0 ≤ w.heap.size) :
    Calls Tryd.prog fn_page_Read ⟨[s.v]⟩ w fun x w' => ∃ (so sd sl : Slc) (bk : List Bk), x = .returned (.tuple ⟨[.agg ⟨enC (cleanE (cleanE e)) so sd⟩, sl.v, .nilIface]⟩) ∧ EnAt w' (cleanE (cleanE e)) so sd ∧ BksAt w' sl bk ∧ pur bk = b ∧ Keep w w' := by
  obtain ⟨hr, hel, hbo⟩ := pageE_none hp
  have hpl := pageB_len hp
  have hfl := backsOk_falls hbo
  have hbl := backsOk_len hbo
  have hst3 := stE_len e.kind e.shard e.other
  have hsl := hb.1
  obtain ⟨c1, c2, c3⟩ := clean_ok hr hs
  obtain ⟨d1, d2, d3⟩ := clean_ok c1 c3
  have hste : stE (cleanE (cleanE e)).kind (cleanE (cleanE e)).shard (cleanE (cleanE e)).other = stE e.kind e.shard e.other := (stE_clean c1).trans (stE_clean hr)
  have hEG := hE.g
  refine page_Read_ok _ ?_
  unfold page_Read
  refine newS_mk (fun r2 w3 hr2 hb2 k3 hs3 => ?_)
  have o2 : ObjAt w3 r2 zE := ObjAt.new' hb2
  have z3 := k3.size
  refine BIf_dec (fun hh => by omega) (fun _ => ?_)
  refine (Read_spec A s _ w3 (bytesAt_keep hb k3) (by omega)).mono ?_
  rintro x w20 ⟨r, F, rfl, hI, k20, hr20, hF20⟩
  have hR : RdK A n0 w3 w20 r F (pageB e b) := ⟨hI, hr20, by obtain ⟨_, h, _⟩ := hI; exact h.1.lt, hF20, k20, hE.keep k3, by omega, by omega⟩
  have n2 : r2 ≠ r := by omega
  have z20 := k20.size
  have eP : pageB e b = numB 1 ++ (numB (b.length : Int) ++ (b.flatMap (fun x => listB x.2) ++ (textB (bytesE e) ++ []))) := by unfold pageB; simp
  rw [eP] at hR
  have hrl := hR.l
  refine ⟨_, rfl, (rdNum hR (by omega) (by omega) (by omega)).mono ?_⟩
  rintro x w23 ⟨rfl, h23, e23⟩
  refine ⟨_, rfl, (rdNum h23 (by omega) (by omega) (by omega)).mono ?_⟩
  rintro x w26 ⟨rfl, h26, e26⟩
  have ee26 := e23.trans' e26
  have z26 := ee26.size
  refine ⟨_, rfl, fun ls w2 => ∃ (k : Nat) (acc : List Ls) (css : List (List Value)), ls.l = k ∧ k ≤ b.length ∧ Rows LsR w2 ls acc css ∧ acc.map (·.2) = (b.take k).map (·.2) ∧ RdK A n0 w3 w2 r F ((b.drop k).flatMap (fun x => listB x.2) ++ (textB (bytesE e) ++ [])) ∧ Ext (eqB r) w20 w2 ∧ Fresh w20 ls ∧ (∀ j, footC css j → w20.heap.size ≤ j),
    fun ls _ => b.length - ls.l, ⟨0, [], [], rfl, by omega, Rows.nil _ _, rfl, h26, ee26, Fresh.nil _ _ _, fun j ⟨_, hh, _⟩ => by simp at hh⟩, ?_⟩
  rintro ls w31 ⟨k, acc, css, hlk, hk, hrows, hacc, h31, ee31, hfr, hft⟩
  intros
  have z31 := ee31.size
  refine BIf_dec (fun hlt => ?_) (fun hge => ?_)
  · have hkb : k < b.length := by omega
    have hfk := hfl _ (List.getElem_mem hkb)
    obtain ⟨q1, q2⟩ := falls_in hfk
    have hsp : (b.drop k).flatMap (fun x => listB x.2) ++ (textB (bytesE e) ++ []) = listB b[k].2 ++ ((b.drop (k + 1)).flatMap (fun x => listB x.2) ++ (textB (bytesE e) ++ [])) := by
      rw [List.drop_eq_getElem_cons hkb, List.flatMap_cons, List.append_assoc]
    rw [hsp] at h31
    refine (rdNums h31 (by omega) (by omega) (fun n hn => by have := q2 n hn; omega) (by omega)).mono ?_
    rintro x w42 ⟨t, rfl, ht, h42, e42, ft⟩
    have hrows42 := hrows.ext e42 (fun j hj hh => by have := hfr j hj; rw [show j = r from hh] at this; omega) (fun j hj hh => by have := hft j hj; rw [show j = r from hh] at this; omega)
    have ee42 := ee31.trans' e42
    have z42 := e42.size
    refine ⟨t, rfl, newS_mk (fun r44 w45 hr44 hb44 k45 hs45 => ?_)⟩
    have ht45 := intsAt_keep ht k45
    refine Rows.snoc (e := LsR) (hrows42.keep k45) (cs := [t.v]) (x := (t, b[k].2)) rfl ⟨rfl, ht45⟩ (fun j hj hh => ?_) hb44 (.inl (by simp)) ?_ (fun s' w' g1 g2 g3 => ?_)
    · have h1 := ft j (foot_ls hj).2
      have h2 := hrows.lt j hh
      omega
    · have := hrows.sl; omega
    · have hsl' := g1.sl
      have hsl0 := hrows.sl
      rw [List.length_append, List.length_singleton] at hsl'
      have hs'k : s'.l = k + 1 := by omega
      have ee' : Ext (eqB r) w20 w' := Ext.trans (ee42.trans' (k45.mono (fun _ h => h.elim))) g2 (fun _ h => h) (fun j hj => .inr (hfr j hj))
      refine ⟨⟨k + 1, _, _, hs'k, hkb, g1, ?_, (h42.keep k45).ext g2 (fun j hj => .inr ⟨by have := hfr j hj; omega, fun hh => by have := hfr j hj; omega, fun hh => by have := hfr j hj; have := (hF20 j hh).2; omega⟩), ee', fun j hj => ?_, fun j hj => ?_⟩, by dsimp only; omega⟩
      · rw [List.map_append, hacc, take_map_succ (fun x : Int × List Int => x.2) hkb]; rfl
      · rcases g3 j hj with hh | hh
        · exact hfr j hh
        · have := k45.size; omega
      · obtain ⟨cs, hc, hj⟩ := hj
        rcases List.mem_append.1 hc with hc | hc
        · exact hft j ⟨cs, hc, hj⟩
        · rw [List.mem_singleton] at hc; subst hc
          have := ft j (foot_ls hj).2
          omega
  · have hke : k = b.length := by omega
    subst hke
    rw [List.take_length] at hacc
    rw [List.drop_length, List.flatMap_nil, List.nil_append] at h31
    refine (rdText h31 (by omega) (by omega)).mono ?_
    rintro x w49 ⟨rfl, h49, e49⟩
    have ee49 := ee31.trans' e49
    have hrows49 := hrows.ext e49 (fun j hj hh => by have := hfr j hj; rw [show j = r from hh] at this; omega) (fun j hj hh => by have := hft j hj; rw [show j = r from hh] at this; omega)
    have hE49 : ErrsB A n0 w49 := h49.e.keep h49.k
    refine ⟨_, rfl, (In_End_spec A n0 r F _ w49 h49.i hE49).mono ?_⟩
    rintro x w52 ⟨rfl, rfl⟩
    have kk52 : Keep w w52 := k3.trans h49.k
    have o52 := (o2.keep k20).ext ee49 (fun hh => n2 hh)
    have z49 := ee49.size
    refine ⟨_, rfl, errO_isI A _, BIf_mk (fun hh => by cases hh) (fun _ => BIf_ndec (fun hh => (hh rfl).elim) (fun _ => ?_))⟩
    refine bytesK_mk (fun t83 w83 ht hc hf k83 => ?_)
    have kk83 := kk52.trans k83
    have z83 := k83.size
    refine (entryRead_specF A e t83 w83 ht hr hs (hE.keep kk83) (by have := kk83.size; omega)).mono ?_
    rintro x w85 ⟨so, sd, rfl, hA, k85, fo, fd⟩
    generalize cleanE (cleanE e) = c at *
    have kk85 := kk83.trans k85
    refine ⟨_, _, _, _, _, _, _, _, _, _, _, _, _, rfl, var_mk (cs := enC c so sd) rfl rfl (fun r99 w101 hr99 o99 k101 hs101 => ?_)⟩
    have kk101 := kk85.trans k101
    have hA101 := hA.keep k101
    refine ⟨trivial, BIf_mk (fun hh => by cases hh) (fun _ => ?_)⟩
    refine ⟨_, _, _, _, _, _, _, _, _, _, _, _, o99.row, (entryStreams_spec A c so sd w101 hA101 d3 ((hEG.keep kk101).sub (by decide))).mono ?_⟩
    rintro x w128 ⟨k128, st, rfl, _, s3⟩
    have hi := s3 d1
    rw [hste] at hi
    generalize hL : stE e.kind e.shard e.other = L at *
    have kk128 := kk101.trans k128
    have k52to128 := ((k83.trans k85).trans k101).trans k128
    have hrows128 := hrows49.keep k52to128
    have hlss := hrows128.lss
    have hal : acc.length = b.length := by have := congrArg List.length hacc; simpa using this
    have hall : acc.all (fun x => fallsB x.2) = true := by
      rw [List.all_eq_true]
      intro x hx
      have : x.2 ∈ b.map (·.2) := by rw [← hacc]; exact List.mem_map.2 ⟨x, hx, rfl⟩
      obtain ⟨y, hy, hxy⟩ := List.mem_map.1 this
      rw [← hxy]; exact hfl y hy
    refine ⟨st, rfl, (eqLs_spec st ls L acc w128 hi hlss (fun x hx => ?_) (by omega)).mono ?_⟩
    · have := List.all_eq_true.1 hall x hx
      have := (falls_in this).1
      omega
    rintro x w131 ⟨rfl, k131⟩
    have e1 : (decide (L.length = acc.length) && acc.all (fun x => fallsB x.2)) = true := by rw [hall, decide_eq_true (by omega)]; rfl
    rw [e1]
    refine ⟨_, rfl, BIf_mk (fun hh => by cases hh) (fun _ => ?_)⟩
    have kk131 := kk128.trans k131
    have hi131 := intsAt_keep hi k131
    have hrows131 := hrows128.keep k131
    have o131 := (o52.keep k52to128).keep k131
    have o99' := (o99.keep k128).keep k131
    have hil := hi.1
    have hLb : L = b.map (·.1) := by
      unfold backsOk at hbo
      simp only [Bool.and_eq_true, decide_eq_true_eq] at hbo
      exact hbo.1.symm
    have z131 := (k52to128.trans k131).size
    have hlsb : ∀ i (h : i < b.length) (h' : i < acc.length), acc[i].2 = b[i].2 := by
      intro i h h'
      have := congrArg (fun l => l[i]?) hacc
      simp only [List.getElem?_map, List.getElem?_eq_getElem h, List.getElem?_eq_getElem h', Option.map_some, Option.some.injEq] at this
      exact this
    refine ⟨fun bs i w2 => ∃ (k : Nat) (bk : List Bk) (cs : List (List Value)), i = k ∧ k ≤ b.length ∧ Rows BkR w2 bs bk cs ∧ pur bk = b.take k ∧ Keep w131 w2 ∧ Fresh w131 bs ∧ (∀ j, footC cs j → w20.heap.size ≤ j),
      fun _ i _ => ((b.length : Int) - i).toNat, ⟨0, [], [], rfl, by omega, Rows.nil _ _, rfl, Ext.refl _ _, Fresh.nil _ _ _, fun j ⟨_, hh, _⟩ => by simp at hh⟩, ?_⟩
    rintro bs i w152 ⟨k, bk, cs, rfl, hk, hrb, hpb, k152, hfb, hcb⟩
    intros
    have hrl := hrb.sl
    refine BIf_dec (fun hlt => ?_) (fun hge => ?_)
    · have hkb : k < b.length := by omega
      have hka : k < acc.length := by omega
      have hkL : k < L.length := by omega
      obtain ⟨p, hp, hcp⟩ := intsAt_cell (intsAt_keep hi131 k152) hkL
      have hl152 := (hlss.keep k131).keep k152
      obtain ⟨q, hq, hcq⟩ := hl152.cell k hka
      have hin := hl152.ints _ (List.getElem_mem hka)
      have hlen := hl152.len
      refine needSome_mk hp ⟨by omega, hlt, L[k], by rw [show Int.toNat (k : Int) * 1 = k by omega]; exact hcp, needSome_mk hq ⟨by omega, by omega, acc[k].1, by rw [show Int.toNat (k : Int) = k by omega]; exact hcq, ?_⟩⟩
      refine newS_mk (fun r173 w174 hr173 hb173 k174 hs174 => ?_)
      have hfx : ∀ j, footV (bkC (L[k], acc[k])) j → w20.heap.size ≤ j ∧ j < w131.heap.size := by
        intro j hj
        have h1 := foot_bk hj
        have hc : k < css.length := by rw [hrows131.len]; exact hka
        have hfc : footC css j := by
          refine ⟨css[k], List.getElem_mem hc, ?_⟩
          rw [(hrows131.row k hc hka).1]
          exact foot_ls_mk h1.1 h1.2
        exact ⟨hft j hfc, hrows131.flt j hfc⟩
      refine Rows.snoc (e := BkR) (hrb.keep k174) (cs := bkC (L[k], acc[k])) (x := (L[k], acc[k])) rfl ⟨rfl, intsAt_keep hin k174⟩ (fun j hj hh => ?_) hb173 (.inl (by simp)) ?_ (fun s' w' g1 g2 g3 => ?_)
      · have h1 := (hfx j hj).2
        have h2 := hfb j hh
        omega
      · have : bk.length = (pur bk).length := by simp [pur]
        rw [hpb, List.length_take] at this
        omega
      · have kk' : Keep w131 w' := (k152.trans k174).ext g2 (fun j hj => hfb j hj)
        refine ⟨inR64 (by omega), ⟨k + 1, _, _, rfl, hkb, g1, ?_, kk', fun j hj => ?_, fun j hj => ?_⟩, by dsimp only; omega⟩
        · unfold pur at hpb ⊢
          rw [List.map_append, hpb, List.take_succ_eq_append_getElem hkb]
          congr 1
          have : L[k] = b[k].1 := by subst hLb; simp
          simp [this, hlsb k hkb hka]
        · rcases g3 j hj with hh | hh
          · exact hfb j hh
          · have := (k152.trans k174).size; omega
        · obtain ⟨c0, hc0, hj0⟩ := hj
          rcases List.mem_append.1 hc0 with hc1 | hc1
          · exact hcb j ⟨c0, hc1, hj0⟩
          · rw [List.mem_singleton] at hc1; subst hc1
            exact (hfx j hj0).1
    · have hke : k = b.length := by omega
      subst hke
      rw [List.take_length] at hpb
      have o152 := o131.keep k152
      have hA152 := ((hA101.keep k128).keep k131).keep k152
      refine ⟨_, _, _, _, _, _, _, _, _, _, _, _, (o99'.keep k152).row, ?_⟩
      obtain ⟨cw, g⟩ := o152.setAll (n := 12) (cs := enC c so sd) rfl rfl
      refine ⟨cw, fun w189 h189 => ?_⟩
      obtain ⟨g1, g2, _⟩ := g w189 h189
      refine ⟨_, _, _, _, _, _, _, _, _, _, _, _, g1.row, so, sd, bs, bk, rfl, ⟨hA152.o.ext g2 (fun _ j hj hh => by have := fo j hj; have hh : j = r2 := hh; omega), bytesAt_ext hA152.d g2 (fun j hj hh => by have := fd j hj; have hh : j = r2 := hh; omega), hA152.c⟩, ?_, hpb, (kk131.trans k152).step (by omega) g2⟩
      exact (hrb.ext g2 (fun j hj hh => by have := hfb j hj; have hh : j = r2 := hh; omega) (fun j hj hh => by have := hcb j hj; have hh : j = r2 := hh; omega)).bks
end Go.D

set_option linter.unusedVariables false
set_option linter.unusedSimpArgs false
set_option maxRecDepth 8000
namespace Go.D
open Go Go.Proofs

/-! ### entries and backs, handed in -/
abbrev rdOp05 : Rd (Int × List UInt8 × List UInt8 × List UInt8 × Int) := Rd.pair (Rd.int .i64) (Rd.pair Rd.str (Rd.pair Rd.str (Rd.pair Rd.str (Rd.int .i64))))
abbrev rdEn : Rd (Int × Int × Int × Int × Int × Int × (Slc × List (Int × List UInt8 × List UInt8 × List UInt8 × Int)) × List UInt8 × Int × Int × Int × (Slc × List UInt8)) :=
  Rd.pair (Rd.int .i64) (Rd.pair (Rd.int .i64) (Rd.pair (Rd.int .i64) (Rd.pair (Rd.int .i64) (Rd.pair (Rd.int .i64) (Rd.pair (Rd.int .i64) (Rd.pair (Rd.slice rdOp05) (Rd.pair Rd.str (Rd.pair (Rd.int .i64) (Rd.pair (Rd.int .i64) (Rd.pair (Rd.int .i64) Rd.bytes))))))))))
def opOf (x : Int × List UInt8 × List UInt8 × List UInt8 × Int) : OpS := ⟨x.1, x.2.1, x.2.2.1, x.2.2.2.1, x.2.2.2.2⟩
theorem ops_of {w : World} {s : Slc} {xs : List (Int × List UInt8 × List UInt8 × List UInt8 × Int)} (h : rowsR rdOp05 w s xs) : OpsAt w s (xs.map opOf) := by
  obtain ⟨h1, h2, _, h3⟩ := h
  refine ⟨by rw [List.length_map]; exact h1, h2, fun i hi => ?_⟩
  rw [List.length_map] at hi
  obtain ⟨a, cs, ha, ⟨_, _, hcs, ⟨rfl, _⟩, ⟨_, _, rfl, ⟨rfl, _⟩, ⟨_, _, rfl, ⟨rfl, _⟩, ⟨_, _, rfl, ⟨rfl, _⟩, ⟨rfl, _⟩⟩⟩⟩⟩, hrow⟩ := h3 i hi
  subst hcs
  refine ⟨a, ha, ?_⟩
  rw [List.getElem_map]
  exact hrow
abbrev EnB := Int × Int × Int × Int × Int × Int × (Slc × List (Int × List UInt8 × List UInt8 × List UInt8 × Int)) × List UInt8 × Int × Int × Int × (Slc × List UInt8)
theorem en_args {w : World} {b : EnB} {l : List Value} (hx : rdEn.R w b l) : ∃ (e : EnS) (so sd : Slc), l = enC e so sd ∧ EnAt w e so sd := by
  obtain ⟨b1, b2, b3, b4, b5, b6, ⟨so, ops⟩, b8, b9, b10, b11, ⟨sd, dat⟩⟩ := b
  obtain ⟨_, _, hx, ⟨rfl, _⟩, ⟨_, _, rfl, ⟨rfl, _⟩, ⟨_, _, rfl, ⟨rfl, _⟩, ⟨_, _, rfl, ⟨rfl, _⟩, ⟨_, _, rfl, ⟨rfl, _⟩, ⟨_, _, rfl, ⟨rfl, _⟩, ⟨_, _, rfl, ⟨rfl, ho⟩, ⟨_, _, rfl, ⟨rfl, _⟩, ⟨_, _, rfl, ⟨rfl, _⟩, ⟨_, _, rfl, ⟨rfl, _⟩, ⟨_, _, rfl, ⟨rfl, _⟩, ⟨rfl, hd, hdc, _⟩⟩⟩⟩⟩⟩⟩⟩⟩⟩⟩⟩ := hx
  exact ⟨⟨b1, b2, b3, b4, b5, b6, ops.map opOf, b8, b9, b10, b11, dat⟩, so, sd, hx, ⟨ops_of ho, hd, hdc⟩⟩
abbrev rdBk : Rd (Int × (Slc × List Int)) := Rd.pair (Rd.int .i64) Rd.ints
end Go.D

set_option linter.unusedVariables false
set_option linter.unusedSimpArgs false
set_option maxRecDepth 8000
namespace Go.D
open Go Go.Proofs

theorem bks_of {w : World} {s : Slc} {xs : List Bk} (h : rowsR rdBk w s xs) : BksAt w s xs := by
  obtain ⟨h1, h2, _, h3⟩ := h
  refine ⟨h1, fun i hi => ?_, fun x hx => ?_⟩
  · obtain ⟨a, cs, ha, ⟨_, _, hcs, ⟨rfl, _⟩, ⟨rfl, _⟩⟩, hrow⟩ := h3 i hi
    subst hcs
    exact ⟨a, ha, hrow⟩
  · obtain ⟨i, hi, rfl⟩ := List.getElem_of_mem hx
    obtain ⟨a, cs, ha, ⟨_, _, hcs, _, ⟨_, hh, _⟩⟩, _⟩ := h3 i hi
    exact hh
theorem PageJunk_fin (sj : Slc) (j : List UInt8) (x : Array Value) (b : EnB) (sb : Slc) (bk : List Bk) (w : World) (hj : bytesAt w sj j) (hx : rdEn.R w b x.toList) (hb : rowsR rdBk w sb bk) (A : Nat → Addr) (hE0 : Errs A w) :
    Calls Tryd.prog fn_tidewaterlaw06_PageJunk ⟨[sj.v, .agg x, sb.v]⟩ w fun e w' => e = .returned (.bool true) ∧ Keep w w' := by
  obtain ⟨e, so, sd, hl, he⟩ := en_args hx
  obtain ⟨l⟩ := x
  rw [show l = _ from hl]
  exact PageJunk_walk A sj j e so sd sb bk w hj he (bks_of hb) hE0
end Go.D

set_option linter.unusedVariables false
set_option linter.unusedSimpArgs false
set_option maxRecDepth 8000
namespace Go.D
open Go Go.Proofs

/-- What a search by stream finds: nothing, or the list of a place. -/
def FoundB (w : World) (bk : List Bk) (m : Int) (t : Slc) (there : Bool) : Prop :=
  (there = false ∧ intsAt w t [] ∧ ∀ x ∈ bk, ¬ x.1 = m) ∨ (there = true ∧ ∃ (j : Nat) (h : j < bk.length), bk[j].1 = m ∧ intsAt w t bk[j].2.2)
theorem pageBacks_spec (A : Nat → Addr) {n0 : Nat} (e : EnS) (b : List (Int × List Int)) (s : Slc) (m : Int) (w : World) (hb : bytesAt w s (pageB e b)) (hp : pageE e b = none) (hs : SmallE e) (hE : ErrsB A n0 w) (hn0 : n0 ≤ w.heap.size) :
    Calls Tryd.prog fn_page_Backs ⟨[s.v, .int .i64 m]⟩ w fun x w' => ∃ (t : Slc) (there : Bool) (bk : List Bk), x = .returned (.tuple ⟨[t.v, .bool there]⟩) ∧ pur bk = b ∧ FoundB w' bk m t there ∧ Keep w w' := by
  refine page_Backs_ok _ _ ?_
  unfold page_Backs
  refine (pageRead_spec A e b s w hb hp hs hE hn0).mono ?_
  rintro x w4 ⟨so, sd, sl, bk, rfl, hA, hbk, hpb, k4⟩
  refine ⟨_, _, _, _, _, _, _, _, _, _, _, _, _, _, rfl, var_mk (cs := enC (cleanE (cleanE e)) so sd) rfl rfl (fun r19 w21 hr19 o19 k21 hs21 => ?_)⟩
  have kk21 := k4.trans k21
  have hbk21 := hbk.keep k21
  have hbl := hbk21.len
  have hbn3 : bk.length ≤ 3 := by
    have h1 := backsOk_len (pageE_none hp).2.2
    have h2 := stE_len e.kind e.shard e.other
    have h3 := congrArg List.length hpb
    simp [pur] at h3
    omega
  refine ⟨trivial, BIf_mk (fun hh => by cases hh) (fun _ => ?_)⟩
  refine ⟨fun i w2 => ∃ k : Nat, i = k ∧ k ≤ bk.length ∧ Keep w21 w2 ∧ ∀ x ∈ bk.take k, ¬ x.1 = m, fun i _ => ((bk.length : Int) - i).toNat, ⟨0, rfl, by omega, Ext.refl _ _, by simp⟩, ?_⟩
  rintro i w25 ⟨k, rfl, hk, k25, hno⟩
  intros
  refine BIf_dec (fun hlt => ?_) (fun hge => ?_)
  · have hkb : k < bk.length := by omega
    obtain ⟨q, hq, hcq⟩ := (hbk21.keep k25).row k hkb
    have hi := (hbk21.keep k25).ints _ (List.getElem_mem hkb)
    refine needSome_mk hq ⟨by omega, hlt, bk[k].1, bk[k].2.1, by rw [Int.toNat_natCast]; exact hcq, ?_⟩
    refine var_mk (cs := [.int .i64 bk[k].1, bk[k].2.1.v]) rfl rfl (fun r42 w44 hr42 o42 k44 hs44 => ?_)
    have kk44 := k25.trans k44
    refine ⟨_, o42.cell 0 (by simp), BIf_dec (fun h1 => ?_) (fun h1 => ?_)⟩
    · exact ⟨_, o42.cell 1 (by simp), _, true, bk, rfl, hpb, .inr ⟨rfl, k, hkb, h1, intsAt_keep hi k44⟩, kk21.trans kk44⟩
    · refine ⟨inR64 (by omega), ⟨k + 1, rfl, hkb, kk44, fun x hx => ?_⟩, by dsimp only; omega⟩
      rw [List.take_succ_eq_append_getElem hkb, List.mem_append, List.mem_singleton] at hx
      rcases hx with hx | rfl
      · exact hno x hx
      · exact h1
  · have hke : k = bk.length := by omega
    subst hke
    rw [List.take_length] at hno
    exact ⟨_, false, bk, rfl, hpb, .inl ⟨rfl, ⟨rfl, .inl rfl⟩, hno⟩, kk21.trans k25⟩

theorem SameBacks_spec (s t : Slc) (a b : List Bk) (w : World) (ha : BksAt w s a) (hb : BksAt w t b) (hab : pur a = pur b) (hl : ∀ x ∈ a, x.2.2.length ≤ 2 ^ 40) (hn : a.length ≤ 2 ^ 40) :
    Calls Tryd.prog fn_tidewaterref06_SameBacks ⟨[s.v, t.v]⟩ w fun x w' => x = .returned (.bool true) ∧ Keep w w' := by
  have hsl := ha.len
  have htl := hb.len
  have hlen : a.length = b.length := by have := congrArg List.length hab; simpa [pur] using this
  refine tidewaterref06_SameBacks_ok _ _ ?_
  unfold tidewaterref06_SameBacks
  refine BIf_ndec (fun h => (h (by omega)).elim) (fun h => ?_)
  refine ⟨fun i w2 => ∃ k : Nat, i = k ∧ k ≤ a.length ∧ Keep w w2, fun i _ => ((a.length : Int) - i).toNat, ⟨0, rfl, by omega, Ext.refl _ _⟩, ?_⟩
  rintro i w6 ⟨k, rfl, hk, k6⟩
  intros
  refine BIf_dec (fun hlt => ?_) (fun hge => ⟨rfl, k6⟩)
  have hka : k < a.length := by omega
  have hkb : k < b.length := by omega
  have hk1 : (a[k].1, a[k].2.2) = (b[k].1, b[k].2.2) := by
    have := congrArg (fun l => l[k]?) hab
    simp only [pur, List.getElem?_map, List.getElem?_eq_getElem hka, List.getElem?_eq_getElem hkb, Option.map_some, Option.some.injEq] at this
    exact this
  have e1 : a[k].1 = b[k].1 := (Prod.mk.inj hk1).1
  have e2 : a[k].2.2 = b[k].2.2 := (Prod.mk.inj hk1).2
  have kd := k6.drew
  obtain ⟨p, hp, hrp⟩ := (ha.keep kd).row k hka
  obtain ⟨q, hq, hrq⟩ := (hb.keep kd).row k hkb
  have hip := (ha.keep kd).ints _ (List.getElem_mem hka)
  have hiq := (hb.keep kd).ints _ (List.getElem_mem hkb)
  have p0 := rowAt_c hrp 0 (by simp [bkC])
  have p1 := rowAt_c hrp 1 (by simp [bkC])
  have q0 := rowAt_c hrq 0 (by simp [bkC])
  have q1 := rowAt_c hrq 1 (by simp [bkC])
  have z0 : ∀ a : Addr, a.add 0 = a := fun a => by simp [Addr.add]
  rw [z0] at p0 q0
  refine needSome_mk hp ⟨by omega, hlt, a[k].1, by rw [Int.toNat_natCast]; exact p0, needSome_mk hq ⟨by omega, by omega, b[k].1, by rw [Int.toNat_natCast]; exact q0, BIf_ndec (fun h => (h e1).elim) (fun _ => ?_)⟩⟩
  refine needSome_mk hp ⟨by omega, hlt, a[k].2.1, by rw [Int.toNat_natCast]; exact p1, needSome_mk hq ⟨by omega, by omega, b[k].2.1, by rw [Int.toNat_natCast]; exact q1, ?_⟩⟩
  refine (SameInts_spec _ _ _ _ _ hip hiq (hl _ (List.getElem_mem hka))).mono ?_
  rintro x w46 ⟨rfl, k46⟩
  rw [decide_eq_true e2]
  exact ⟨_, rfl, BIf_mk (fun hh => by cases hh) (fun _ => ⟨inR64 (by omega), ⟨k + 1, rfl, hka, kd.trans k46⟩, by dsimp only; omega⟩)⟩

theorem NumO_spec (A : Nat → Addr) {n0 : Nat} (o : Option Nat) (ho : ∀ k, o = some k → k < 19) (w : World) (hE : ErrsB A n0 w) :
    Calls Tryd.prog fn_tidewaternum_Num ⟨[errO A o]⟩ w fun e w' => e = .returned (.int .i64 (numE o)) ∧ Keep w w' := by
  cases o with
  | none => refine (Num_nil w).mono ?_; rintro e w' ⟨rfl, rfl⟩; exact ⟨rfl, Ext.refl _ _⟩
  | some k => exact Num_spec A k (ho k rfl) w hE.1
theorem pageE_lt {e : EnS} {b : List (Int × List Int)} : ∀ k, pageE e b = some k → k < 19 := by
  intro k h
  unfold pageE at h
  split at h <;> (try split at h) <;> (try split at h) <;> cases h <;> omega

theorem PageWrites_walk (A : Nat → Addr) (e : EnS) (so sd sb : Slc) (bk : List Bk) (w : World) (h : EnAt w e so sd) (hb : BksAt w sb bk) (hE0 : Errs A w) :
    Calls Tryd.prog fn_tidewaterlaw06_PageWrites ⟨[.agg ⟨enC e so sd⟩, sb.v]⟩ w fun x w' => x = .returned (.bool true) ∧ Keep w w' := by
  have hE := hE0.b
  have hbl := hb.len
  refine tidewaterlaw06_PageWrites_ok _ _ _ _ _ _ _ _ _ _ _ _ _ ?_
  unfold tidewaterlaw06_PageWrites
  refine newS_mk (fun r w16 hr hb16 k16 hs16 => ?_)
  have o : ObjAt w16 r (enC e so sd) := ObjAt.new' hb16
  have z16 := k16.size
  refine (alive06_spec A w16 (hE.keep k16) z16).mono ?_
  rintro x w18 ⟨rfl, k18⟩
  have kk18 := k16.trans k18
  have o18 := o.keep k18
  refine ⟨_, rfl, BIf_mk (fun hh => by cases hh) (fun _ => ?_)⟩
  refine ⟨_, _, _, _, _, _, _, _, _, _, _, _, o18.row, (long06_spec e so sd sb bk w18 (h.keep kk18) (hb.keep kk18)).mono ?_⟩
  rintro x w32 ⟨lg, rfl, hs, k32⟩
  have kk32 := kk18.trans k32
  have o32 := o18.keep k32
  refine ⟨_, rfl, BIf_mk (fun _ => ⟨rfl, kk32⟩) (fun hlg => ?_)⟩
  obtain ⟨hs, hbn, hbl20⟩ := hs hlg
  refine ⟨_, _, _, _, _, _, _, _, _, _, _, _, o32.row, (pageBytes_spec A e so sd sb bk w32 (h.keep kk32) (hb.keep kk32) hs (fun x hx => by have := hbl20 x hx; omega) (by omega) (hE.keep kk32)).mono ?_⟩
  rintro x w47 ⟨k47, t, rfl, b1, b2⟩
  have kk47 := kk32.trans k47
  have o47 := o32.keep k47
  refine ⟨t, _, rfl, _, _, _, _, _, _, _, _, _, _, _, _, o47.row, (refBytes06_spec e so sd sb bk w47 (h.keep kk47) (hb.keep kk47) hs (fun x hx => by have := hbl20 x hx; omega) (by omega)).mono ?_⟩
  rintro x w63 ⟨k63, t2, rfl, c1, c2⟩
  have kk63 := kk47.trans k63
  have o63 := o47.keep k63
  refine ⟨t2, _, rfl, fun w2 => Keep w63 w2, ?_, ?_⟩
  · have same : ∃ b, bytesAt w63 t b ∧ bytesAt w63 t2 b := by
      by_cases hp : pageE e (pur bk) = none
      · exact ⟨_, bytesAt_keep (b2 hp).1.bytes k63, c2 hp⟩
      · rw [b1 hp, c1 hp]
        exact ⟨[], ⟨rfl, .inl rfl⟩, ⟨rfl, .inl rfl⟩⟩
    obtain ⟨b, g1, g2⟩ := same
    refine ⟨b, g1, b, g2, BIf_ndec (fun hh => (hh rfl).elim) (fun _ => ?_)⟩
    refine (NumO_spec A _ pageE_lt w63 (hE.keep kk63)).mono ?_
    rintro x w70 ⟨rfl, k70⟩
    exact ⟨_, rfl, BIf_ndec (fun hh => (hh rfl).elim) (fun _ => k70)⟩
  rintro w72 k72
  intros
  have kk72 := kk63.trans k72
  have o72 := o63.keep k72
  have z72 := kk72.size
  refine BIf_ndec (fun hh => ⟨rfl, kk72⟩) (fun hz => ?_)
  have hp : pageE e (pur bk) = none := by
    cases hq : pageE e (pur bk) with
    | none => rfl
    | some k => rw [hq] at hz; change ((k + 1 : Nat) : Int) = 0 at hz; omega
  obtain ⟨g1, g2⟩ := b2 hp
  have hpl := pageB_len hp
  obtain ⟨hr, hel, hbo⟩ := pageE_none hp
  have hby := bytesAt_keep g1.bytes (k63.trans k72)
  have htl := hby.1
  refine (pageRead_spec A e (pur bk) t w72 hby hp hs (hE.keep kk72) z72).mono ?_
  rintro x w86 ⟨so2, sd2, sl2, bk2, rfl, hA2, hbk2, hpb2, k86⟩
  obtain ⟨q1, q2, q3⟩ := clean_ok hr hs
  obtain ⟨d1, d2, d3⟩ := clean_ok q1 q3
  have hcb : bytesE (cleanE (cleanE e)) = bytesE e := d2.trans q2
  generalize cleanE (cleanE e) = c at *
  refine ⟨_, _, _, _, _, _, _, _, _, _, _, _, _, _, rfl, var_mk (cs := enC c so2 sd2) rfl rfl (fun r101 w103 hr101 o101 k103 hs103 => ?_)⟩
  have k72103 := k86.trans k103
  have kk103 := kk72.trans k72103
  have o103 := o72.keep k72103
  refine ⟨fun w2 => Keep w103 w2, ?_, ?_⟩
  · refine ⟨trivial, BIf_mk (fun hh => by cases hh) (fun _ => ?_)⟩
    refine ⟨_, _, _, _, _, _, _, _, _, _, _, _, o101.row, _, _, _, _, _, _, _, _, _, _, _, _, o103.row, (refSame05_spec c e so2 sd2 so sd w103 (hA2.keep k103) (h.keep kk103) d3 hs).mono ?_⟩
    rintro x w130 ⟨rfl, k130⟩
    rw [d1, hr, hcb, decide_eq_true rfl]
    refine ⟨_, rfl, BIf_mk (fun hh => by cases hh) (fun _ => ?_)⟩
    have hbk130 := (hbk2.keep k103).keep k130
    have hl2 : ∀ x ∈ bk2, x.2.2.length ≤ 20 := by
      intro x hx
      have : (x.1, x.2.2) ∈ pur bk := by rw [← hpb2]; exact List.mem_map.2 ⟨x, hx, rfl⟩
      obtain ⟨y, hy, hxy⟩ := List.mem_map.1 this
      have := hbl20 y hy
      rw [(Prod.mk.inj hxy).2] at this
      exact this
    have hlen2 : bk2.length = bk.length := by have := congrArg List.length hpb2; simpa [pur] using this
    refine (SameBacks_spec sl2 sb bk2 bk w130 hbk130 (hb.keep (kk103.trans k130)) hpb2 (fun x hx => by have := hl2 x hx; omega) (by omega)).mono ?_
    rintro x w133 ⟨rfl, k133⟩
    refine ⟨_, rfl, BIf_mk (fun hh => by cases hh) (fun _ => ?_)⟩
    refine (IsJunk_spec t _ w133 (bytesAt_keep hby ((k72103.trans k130).trans k133))).mono ?_
    rintro x w136 ⟨rfl, rfl⟩
    refine ⟨_, rfl, BIf_dec (fun hh => ?_) (fun _ => BIf_dec (fun hh => by omega) (fun _ => k130.trans k133))⟩
    exfalso
    have := congrArg List.length hh
    simp at this
    omega
  rintro w138 k138
  intros
  have hnd := stE_nodup hr
  have hst : (pur bk).map (·.1) = stE e.kind e.shard e.other := by
    unfold backsOk at hbo
    simp only [Bool.and_eq_true, decide_eq_true_eq] at hbo
    exact hbo.1
  refine ⟨fun i w2 => ∃ k : Nat, i = k ∧ k ≤ 14 ∧ Keep w138 w2, fun i _ => (14 - i).toNat, ⟨0, rfl, by omega, Ext.refl _ _⟩, ?_⟩
  rintro i w166 ⟨k, rfl, hk, k166⟩
  intros
  have kk138 := kk103.trans k138
  have kk166 := kk138.trans k166
  refine BIf_dec (fun hlt => ?_) (fun hge => ⟨rfl, kk166⟩)
  refine (pageBacks_spec A e (pur bk) t k w166 (bytesAt_keep hby ((k72103.trans k138).trans k166)) hp hs (hE.keep kk166) kk166.size).mono ?_
  rintro x w207 ⟨got, there, bk3, rfl, hpb3, hfound, k207⟩
  refine ⟨got, there, rfl, newS_mk (fun r210 w211 hr210 hb210 k211 hs211 => ?_)⟩
  have kk211 := (kk166.trans k207).trans k211
  refine ⟨fun want has i w2 => ∃ j : Nat, i = j ∧ j ≤ bk.length ∧ Keep w211 w2 ∧ FoundB w2 (bk.take j) k want has, fun _ _ i _ => ((bk.length : Int) - i).toNat, ⟨0, rfl, by omega, Ext.refl _ _, .inl ⟨rfl, ⟨rfl, .inl rfl⟩, by simp⟩⟩, ?_⟩
  rintro want has i w217 ⟨j, rfl, hj, k217, hwant⟩
  intros
  refine BIf_dec (fun hlt2 => ?_) (fun hge2 => ?_)
  · have hjb : j < bk.length := by omega
    obtain ⟨q, hq, hcq⟩ := (hb.keep (kk211.trans k217)).row j hjb
    have hi := (hb.keep (kk211.trans k217)).ints _ (List.getElem_mem hjb)
    refine needSome_mk hq ⟨by omega, hlt2, bk[j].1, bk[j].2.1, by rw [Int.toNat_natCast]; exact hcq, ?_⟩
    refine var_mk (cs := [.int .i64 bk[j].1, bk[j].2.1.v]) rfl rfl (fun r232 w234 hr232 o232 k234 hs234 => ?_)
    have kk234 := k217.trans k234
    have hjt : j < (bk.take (j + 1)).length := by rw [List.length_take]; omega
    have hgj : (bk.take (j + 1))[j] = bk[j] := by simp
    refine ⟨_, o232.cell 0 (by simp), BIf_dec (fun h1 => ?_) (fun h1 => ?_)⟩
    · refine ⟨_, o232.cell 1 (by simp), inR64 (by omega), ⟨j + 1, rfl, hjb, kk234, .inr ⟨rfl, j, hjt, by rw [hgj]; exact h1, by rw [hgj]; exact intsAt_keep hi k234⟩⟩, by dsimp only; omega⟩
    · refine ⟨inR64 (by omega), ⟨j + 1, rfl, hjb, kk234, ?_⟩, by dsimp only; omega⟩
      rcases hwant with ⟨f1, f2, f3⟩ | ⟨f1, q, f2, f3, f4⟩
      · refine .inl ⟨f1, intsAt_keep f2 k234, fun x hx => ?_⟩
        rw [List.take_succ_eq_append_getElem hjb, List.mem_append, List.mem_singleton] at hx
        rcases hx with hx | rfl
        · exact f3 x hx
        · exact h1
      · have hq2 : q < bk.length := by rw [List.length_take] at f2; omega
        have hq3 : q < (bk.take (j + 1)).length := by rw [List.length_take] at f2 ⊢; omega
        have e1 : (bk.take (j + 1))[q] = (bk.take j)[q] := by simp
        exact .inr ⟨f1, q, hq3, by rw [e1]; exact f3, by rw [e1]; exact intsAt_keep f4 k234⟩
  · have hje : j = bk.length := by omega
    subst hje
    rw [List.take_length] at hwant
    have hlen3 : bk3.length = bk.length := by have := congrArg List.length hpb3; simpa [pur] using this
    have hel3 : ∀ q (h1 : q < bk3.length) (h2 : q < bk.length), bk3[q].1 = bk[q].1 ∧ bk3[q].2.2 = bk[q].2.2 := by
      intro q h1 h2
      have := congrArg (fun l => l[q]?) hpb3
      simp only [pur, List.getElem?_map, List.getElem?_eq_getElem h1, List.getElem?_eq_getElem h2, Option.map_some, Option.some.injEq] at this
      exact Prod.mk.inj this
    have hget : ∀ q (h : q < bk.length), (stE e.kind e.shard e.other)[q]? = some bk[q].1 := by
      intro q h
      rw [← hst]
      simp [pur, h]
    have key : there = has ∧ ∃ l, intsAt w217 got l ∧ intsAt w217 want l ∧ l.length ≤ 2 ^ 40 := by
      rcases hfound with ⟨f1, f2, f3⟩ | ⟨f1, q, f2, f3, f4⟩
      · rcases hwant with ⟨v1, v2, v3⟩ | ⟨v1, p, v2, v3, v4⟩
        · exact ⟨f1.trans v1.symm, [], intsAt_keep f2 (k211.trans k217), v2, by simp⟩
        · exfalso
          have hp3 : p < bk3.length := by omega
          exact f3 _ (List.getElem_mem hp3) ((hel3 p hp3 v2).1.trans v3)
      · have hq2 : q < bk.length := by omega
        rcases hwant with ⟨v1, v2, v3⟩ | ⟨v1, p, v2, v3, v4⟩
        · exact (v3 _ (List.getElem_mem hq2) ((hel3 q f2 hq2).1.symm.trans f3)).elim
        · have epq : p = q := by
            have a1 := hget p v2
            have a2 := hget q hq2
            have hql : q < (stE e.kind e.shard e.other).length := (List.getElem?_eq_some_iff.1 a2).1
            have hpl' : p < (stE e.kind e.shard e.other).length := (List.getElem?_eq_some_iff.1 a1).1
            have : bk[p].1 = bk[q].1 := v3.trans (f3.symm.trans (hel3 q f2 hq2).1)
            rw [this, ← a2] at a1
            exact (List.getElem?_inj hpl' hnd).1 a1
          subst epq
          refine ⟨f1.trans v1.symm, bk[p].2.2, ?_, v4, ?_⟩
          · rw [(hel3 p f2 v2).2] at f4
            exact intsAt_keep f4 (k211.trans k217)
          · have := hbl20 _ (List.getElem_mem v2); omega
    obtain ⟨e1, l, e2, e3, e4⟩ := key
    subst e1
    have hbeq : (!(there == there)) = false := by cases there <;> rfl
    rw [hbeq]
    refine BIf_mk (fun hh => by cases hh) (fun _ => ?_)
    refine (SameInts_spec got want l l w217 e2 e3 e4).mono ?_
    rintro x w238 ⟨rfl, k238⟩
    refine ⟨_, rfl, BIf_ndec (fun hh => (hh rfl).elim) (fun _ => ⟨inR64 (by omega), ⟨k + 1, rfl, by omega, ((((k166.trans k207).trans k211).trans k217).trans k238)⟩, by dsimp only; omega⟩)⟩
theorem PageWrites_fin (x : Array Value) (b : EnB) (sb : Slc) (bk : List Bk) (w : World) (hx : rdEn.R w b x.toList) (hb : rowsR rdBk w sb bk) (A : Nat → Addr) (hE0 : Errs A w) :
    Calls Tryd.prog fn_tidewaterlaw06_PageWrites ⟨[.agg x, sb.v]⟩ w fun e w' => e = .returned (.bool true) ∧ Keep w w' := by
  obtain ⟨e, so, sd, hl, he⟩ := en_args hx
  obtain ⟨l⟩ := x
  rw [show l = _ from hl]
  exact PageWrites_walk A e so sd sb bk w he (bks_of hb) hE0
end Go.D

