/-
  WHAT IS PROVED: contracts of functions, and the plain law, for this proof. No further conditions.
-/
import Derived.Test.YtlahdjoonioegaaDoorDisk3
set_option linter.unusedVariables false
set_option linter.unusedSimpArgs false
namespace Go.D
open Go Go.Proofs

/-! ### slices.Backward over the writes -/
theorem Backward_wr_spec (s : Slc) (w : World) :
    Calls Tryd.prog fn_slices_Backward_write ⟨[s.v]⟩ w fun e w' => ∃ b, e = .returned (.func (.func fn_slices_Backward_write_1) ⟨[]⟩ ⟨[ptrR' b]⟩) ∧ ObjAt w' b [s.v] ∧ Keep w w' ∧ w.heap.size ≤ b := by
  refine slices_Backward_write_ok _ ?_
  unfold slices_Backward_write
  exact newS_mk (fun r w1 hr hb hk hs => ⟨r, rfl, ObjAt.new' hb, hk, by omega⟩)

theorem Backward_wr_1_spec (s : Slc) (xs : List Wr) (css : List (List Value)) (lr b : Nat) (J : Nat → World → Prop) (X : World → Prop) (hl : xs.length ≤ 2 ^ 40)
    (hJ : ∀ k w, J k w → w.cell? ⟨b, 0, none⟩ = some s.v ∧ Rows WrR w s xs css)
    (hstep : ∀ k (hk : k < xs.length) (w : World) (sd : Slc), J (k + 1) w → bytesAt w sd xs[k].2 → sd.l ≤ sd.c →
      YieldC Tryd.prog lr ⟨[.int .i64 (k : Int), .agg ⟨wrC xs[k].1 sd⟩]⟩ w fun e w' => (e = .returned (.bool true) ∧ J k w') ∨ (e = .returned (.bool false) ∧ X w'))
    (w : World) (h0 : J xs.length w) :
    Calls Tryd.prog fn_slices_Backward_write_1 ⟨[.func (.yield lr) ⟨[]⟩ ⟨[]⟩, ptrR' b]⟩ w fun e w' => e = .returned (.tuple #[]) ∧ (J 0 w' ∨ X w') := by
  refine slices_Backward_write_1_ok _ _ ?_
  unfold slices_Backward_write_1
  obtain ⟨hc, hR⟩ := hJ _ _ h0
  have hsl := hR.sl
  refine needSome_mk rfl ⟨s, hc, inR64 (by omega), fun i w2 => ∃ k : Nat, i = (k : Int) - 1 ∧ k ≤ xs.length ∧ J k w2, fun i _ => (i + 1).toNat, ⟨xs.length, by omega, by omega, h0⟩, ?_⟩
  rintro i w8 ⟨k, rfl, hk, h8⟩
  intros
  obtain ⟨hc8, hR8⟩ := hJ _ _ h8
  refine BIf_dec (fun h1 => ?_) (fun h1 => ⟨rfl, .inl (by rw [show k = 0 by omega] at h8; exact h8)⟩)
  obtain ⟨m, rfl⟩ : ∃ m, k = m + 1 := ⟨k - 1, by omega⟩
  have hm : m < xs.length := by omega
  have hm2 : m < css.length := by rw [hR8.len]; exact hm
  obtain ⟨a, ha, _, hrow⟩ := hR8.get hm2
  obtain ⟨sd, hs, hb, hc⟩ := hR8.row m hm2 hm
  rw [hs] at hrow
  have e1 : (((m + 1 : Nat) : Int) - 1) = (m : Int) := by omega
  rw [e1]
  refine needSome_mk rfl ⟨s, hc8, needSome_mk ha ⟨by omega, by omega, _, _, by rw [show Int.toNat (m : Int) * 2 = m * 2 by omega]; exact hrow, ?_⟩⟩
  refine (hstep m hm w8 sd h8 hb hc).mono ?_
  rintro e w27 (⟨rfl, h27⟩ | ⟨rfl, h27⟩)
  · exact ⟨true, rfl, BIf_mk (fun h => by cases h) (fun _ => ⟨inR64 (by omega), ⟨m, rfl, by omega, h27⟩, by dsimp only; omega⟩)⟩
  · exact ⟨false, rfl, BIf_mk (fun _ => ⟨rfl, .inr h27⟩) (fun h => by cases h)⟩

/-! ### reading a sector -/
/-- The last write of a sector, or what is durable. -/
def lastW : List Wr → Int → Option (List UInt8)
  | [], _ => none
  | x :: l, i => match lastW l i with | some b => some b | none => if x.1 = i then some x.2 else none
def secD (d : DevS) (i : Nat) : List UInt8 := (d.img.drop (i * 64)).take 64
def readD (d : DevS) (i : Int) : List UInt8 := (lastW d.pend i).getD (secD d i.toNat)
theorem lastW_none {l : List Wr} {i : Int} (h : ∀ x ∈ l, x.1 ≠ i) : lastW l i = none := by
  induction l with
  | nil => rfl
  | cons x l ih => simp only [lastW]; rw [ih (fun y hy => h y (by simp [hy]))]; simp [h x (by simp)]
theorem lastW_at {l : List Wr} {i : Int} {k : Nat} (hk : k < l.length) (h : l[k].1 = i) (hno : ∀ j (hj : j < l.length), k < j → l[j].1 ≠ i) : lastW l i = some l[k].2 := by
  induction l generalizing k with
  | nil => simp at hk
  | cons x l ih =>
    simp only [lastW]
    cases k with
    | zero =>
      rw [lastW_none (fun y hy => by
        obtain ⟨j, hj, rfl⟩ := List.getElem_of_mem hy
        have := hno (j + 1) (by simp; omega) (by omega)
        simpa using this)]
      have : x.1 = i := by simpa using h
      simp [this]
    | succ k =>
      rw [ih (k := k) (by simpa using hk) (by simpa using h) (fun j hj hlt => by
        have := hno (j + 1) (by simp; omega) (by omega)
        simpa using this)]
      rfl

theorem Read_spec7 (A : Nat → Addr) {w : World} {r : Nat} {q : DevP} {d : DevS} (h : DevAt w r q d) (i : Int) {n0 : Nat} (hE : ErrsG dskG A n0 w) (hp : d.pend.length ≤ 2 ^ 40) :
    Calls Tryd.prog fn_disk_Device_Read ⟨[ptrR' r, .int .i64 i]⟩ w fun e w' => Keep w w' ∧
      (if hasD d i = false then e = .returned (.tuple ⟨[(⟨none, 0, 0⟩ : Slc).v, errO A (some 0)]⟩)
       else ∃ t : Slc, e = .returned (.tuple ⟨[t.v, .nilIface]⟩) ∧ Own w' t 1 ((readD d i).map byteV) ∧ Fresh w t) := by
  refine disk_Device_Read_ok _ _ ?_
  unfold disk_Device_Read
  refine newS_mk (fun r3 w4 hr3 hb3 k3 hs3 => newS_mk (fun r5 w6 hr5 hb5 k5 hs5 => newS_mk (fun r7 w8 hr7 hb7 k7 hs7 => ?_)))
  have k8 : Keep w w8 := (k3.trans k5).trans k7
  have h8 := h.keep k8
  have o3 : ObjAt w8 r3 [.int .i64 i] := ((ObjAt.new' hb3).keep k5).keep k7
  have o5 : ObjAt w8 r5 [(⟨none, 0, 0⟩ : Slc).v] := (ObjAt.new' hb5).keep k7
  have o7 : ObjAt w8 r7 [.nilIface] := ObjAt.new' hb7
  refine ⟨_, o3.cell 0 (by simp), ?_⟩
  refine (has_spec7 h8 i).mono ?_
  rintro e w11 ⟨rfl, rfl⟩
  refine ⟨_, rfl, BIf_mk (fun h0 => ?_) (fun h0 => ?_)⟩
  · -- out of range
    have hE8 := hE.keep k8
    have hEd := hE8.keep (Ext.drew _ _)
    obtain ⟨g1, g2⟩ := (o5.keep (Ext.drew none0 _)).setOne 0 (by simp) (⟨none, 0, 0⟩ : Slc).v
    have hv := errV_at hEd 0 (by omega) gl_ErrRange rfl
    refine ⟨_, hv, g1, fun w14 hw14 => ?_⟩
    obtain ⟨g3, g4, g5⟩ := g2 w14 hw14
    have hlt : gl_ErrRange < w.heap.size := by
      have := World.block_lt_of_cell? w _ (errV_at hE 0 (by omega) gl_ErrRange rfl)
      exact this
    refine ⟨⟨_, g4.cell hv (fun hh => by have : gl_ErrRange = r5 := hh; omega), rfl⟩, errO_one A _ _ (errO_one A _ _ ?_)⟩
    obtain ⟨f1, f2⟩ := ((o7.keep (Ext.drew none0 _)).ext g4 (fun hh => by omega)).setOne 0 (by simp) (errO A (some 0))
    refine ⟨f1, fun w16 hw16 => ?_⟩
    obtain ⟨f3, f4, f5⟩ := f2 w16 hw16
    have g3' := g3.ext f4 (fun hh => by omega)
    refine ⟨_, g3'.cell 0 (by simp), _, f3.cell 0 (by simp), ?_, by rw [if_pos (by simpa using h0)]; rfl⟩
    exact (k8.drew.ext g4 (fun k hk => by omega)).ext f4 (fun k hk => by omega)
  · have hin : hasD d i = true := by simpa using h0
    have hin2 := of_decide_eq_true (show decide (0 ≤ i ∧ i < (d.n : Int)) = true from hin)
    refine needSome_mk rfl ⟨_, h8.c1, ?_⟩
    refine (Backward_wr_spec q.sp w11).mono ?_
    rintro e w22 ⟨b, rfl, ob, k22, hb⟩
    refine ⟨_, rfl, fn_slices_Backward_write_1, [], [ptrR' b], rfl, by rfl, ?_⟩
    intro D lr rc w27 hD hlr hw27 hY
    have N := newRange hD hlr hw27
    have k27 : Keep w w27 := (k8.trans k22).trans N.k
    have hz := k22.size
    have hDw : w11.heap.size ≤ D := by have := N.dw; omega
    have h27 := h.keep k27
    have o3' := (o3.keep k22).keep N.k
    have o5' := (o5.keep k22).keep N.k
    have o7' := (o7.keep k22).keep N.k
    have ob' := ob.keep N.k
    have hdl := N.dl
    have hbD : b < D := by have := ob.lt; have := N.dw; omega
    have hdev : ∀ k, DevB r q k → k < D := fun k hk => by have := h8.lt k hk; omega
    -- between two rounds
    let J : Nat → World → Prop := fun k w2 => Ext (fun j => D ≤ j) w27 w2 ∧ w2.heap[lr]? = some (.loop (rc .ready none)) ∧ w2.heap[D]? = some (.deferred (some [])) ∧ ∀ j (hj : j < d.pend.length), k ≤ j → d.pend[j].1 ≠ i
    let X : World → Prop := fun w2 => Ext (fun j => j = r5 ∨ j = r7 ∨ D ≤ j) w27 w2 ∧ w2.heap[lr]? = some (.loop (rc .done (some Code.ret))) ∧ w2.heap[D]? = some (.deferred (some [])) ∧
      ∃ t : Slc, ObjAt w2 r5 [t.v] ∧ ObjAt w2 r7 [.nilIface] ∧ Own w2 t 1 ((readD d i).map byteV) ∧ ∀ k, ownB t k → lr < k
    have hdevJ : ∀ {k w2}, J k w2 → DevAt w2 r q d := fun hj => h27.ext hj.1 (fun k hk hh => by have := hdev k hk; omega)
    have step : ∀ k (hk : k < d.pend.length) (w : World) (sd : Slc), J (k + 1) w → bytesAt w sd d.pend[k].2 → sd.l ≤ sd.c →
        YieldC Tryd.prog lr ⟨[.int .i64 (k : Int), .agg ⟨wrC d.pend[k].1 sd⟩]⟩ w fun e w' => (e = .returned (.bool true) ∧ J k w') ∨ (e = .returned (.bool false) ∧ X w') := by
      intro k hk w28 sd hj hbd hcd
      refine hY _ _ _ _ _ hj.2.1 ?_
      refine var_mk (cs := wrC d.pend[k].1 sd) rfl rfl (fun r33 w35 hr33 o33 k33 hs33 => ?_)
      have hl35 := k33.heap hj.2.1
      have hD35 := k33.heap hj.2.2.1
      refine ⟨hl35, fun w36 hw36 => ?_⟩
      have e36 : Ext (fun j => j = lr) w35 w36 := by rw [hw36]; exact Ext.putObj _ _ _
      have hl36 : w36.heap[lr]? = some (.loop (rc .busy none)) := by rw [hw36]; exact putObj_new hl35
      have hD36 : w36.heap[D]? = some (.deferred (some [])) := e36.heap hD35 (fun hh => by omega)
      have hlrlt := lt_of_heap hj.2.1
      have o33' := o33.ext e36 (fun hh => by omega)
      have x36 : Ext (fun j => D ≤ j) w27 w36 := (hj.1.trans k33 (fun _ h => h) (fun _ h => h.elim)).trans e36 (fun _ h => h) (fun k hk => .inl (by omega))
      have o3'' := o3'.ext x36 (fun hh => by omega)
      refine ⟨_, o33'.cell 0 (by simp [wrC]), _, o3''.cell 0 (by simp), BIf_dec (fun he => ?_) (fun he => ?_)⟩
      · refine ⟨_, o33'.cell 1 (by simp [wrC]), ?_⟩
        have hx := h.ok.p _ (List.getElem_mem hk)
        have hbd36 : bytesAt w36 sd d.pend[k].2 := bytesAt_stayX (bytesAt_keep hbd k33) e36 (fun h0 j hj2 hh => by
          subst hh
          obtain ⟨a, ha, rfl⟩ := hj2
          obtain ⟨a', ha', hc'⟩ := cellsAt_get hbd.2 (i := 0) (by rw [List.length_map, hx.2.2]; omega)
          rw [ha] at ha'; cases ha'
          have hc2 := k33.cell hc'
          have : w35.cell? (a.add 0) = none := by
            unfold World.cell?
            rw [add_block, hl35]
          rw [this] at hc2; cases hc2)
        refine (CloneB_own sd _ w36 hbd36 (by rw [hbd36.1, hx.2.2]; omega)).mono ?_
        rintro e w41 ⟨t, rfl, ht, hf, k41⟩
        have hz41 := k41.size
        have hz36 : w36.heap.size = w35.heap.size := by rw [hw36]; exact putObj_size _ _ _
        have hz33 := k33.size
        have x41 : Ext (fun j => D ≤ j) w27 w41 := x36.trans k41 (fun _ h => h) (fun _ h => h.elim)
        have a5 := o5'.ext x41 (fun hh => by omega)
        have a7 := o7'.ext x41 (fun hh => by omega)
        obtain ⟨g1, g2⟩ := a5.setOne 0 (by simp) t.v
        refine ⟨t, rfl, g1, fun w43 hw43 => ?_⟩
        obtain ⟨g3, g4, g5⟩ := g2 w43 hw43
        obtain ⟨f1, f2⟩ := (a7.ext g4 (fun hh => by omega)).setOne 0 (by simp) (.nilIface)
        refine ⟨f1, fun w44 hw44 => ?_⟩
        obtain ⟨f3, f4, f5⟩ := f2 w44 hw44
        have hl44 := f4.heap (g4.heap (k41.heap hl36) (fun hh => by omega)) (fun hh => by omega)
        have hD44 := f4.heap (g4.heap (k41.heap hD36) (fun hh => by omega)) (fun hh => by omega)
        refine ⟨hl44, fun w45 hw45 => .inr ⟨rfl, ?_⟩⟩
        have e45 : Ext (fun j => j = lr) w44 w45 := by rw [hw45]; exact Ext.putObj _ _ _
        have htk : ∀ j, ownB t j → lr < j := fun j hj2 => by have := hf j hj2; omega
        refine ⟨?_, by rw [hw45]; exact putObj_new hl44, e45.heap hD44 (fun hh => by omega), t, (g3.ext f4 (fun hh => by omega)).ext e45 (fun hh => by omega), f3.ext e45 (fun hh => by omega), ?_, htk⟩
        · exact (((x41.mono (fun k hk => .inr (.inr hk))).trans g4 (fun _ h => h) (fun k hk => .inl (.inl hk))).trans f4 (fun _ h => h) (fun k hk => .inl (.inr (.inl hk)))).trans e45 (fun _ h => h) (fun k hk => .inl (.inr (.inr (by omega))))
        · have e9 : readD d i = d.pend[k].2 := by
            unfold readD
            rw [lastW_at hk he (fun j hj2 hlt => hj.2.2.2 j hj2 (by omega))]
            rfl
          rw [e9]
          exact ((ht.ext g4 (fun j hj2 hh => by have := htk j hj2; omega)).ext f4 (fun j hj2 hh => by have := htk j hj2; omega)).ext e45 (fun j hj2 hh => by have := htk j hj2; omega)
      · refine ⟨hl36, fun w46 hw46 => .inl ⟨rfl, ?_⟩⟩
        have e46 : Ext (fun j => j = lr) w36 w46 := by rw [hw46]; exact Ext.putObj _ _ _
        refine ⟨x36.trans e46 (fun _ h => h) (fun k hk => .inl (by omega)), by rw [hw46]; exact putObj_new hl36, e46.heap hD36 (fun hh => by omega), fun j hj2 hkj => ?_⟩
        by_cases hjk : j = k
        · subst hjk; exact he
        · exact hj.2.2.2 j hj2 (by omega)
    have hcall := Backward_wr_1_spec q.sp d.pend q.wss lr b J X hp (fun k w2 hj => ⟨(ob'.ext hj.1 (fun hh => by omega)).cell 0 (by simp), (hdevJ hj).p⟩) step w27 ⟨Ext.refl _ _, N.l, N.d, fun j hj hk => by omega⟩
    refine Calls.mono (show Calls Tryd.prog fn_slices_Backward_write_1 _ w27 _ from hcall) ?_
    rintro e w51 ⟨rfl, hj | hx⟩
    · refine ⟨⟨_, rfl⟩, .inr ⟨hj.2.1, fun w56 hw56 => ?_⟩⟩
      have e56 : Ext (fun j => j = lr) w51 w56 := by rw [hw56]; exact Ext.putObj _ _ _
      have x56 : Ext (fun j => D ≤ j) w27 w56 := hj.1.trans e56 (fun _ h => h) (fun k hk => .inl (by omega))
      have xd : Ext (fun j => D ≤ j) w27 w56.drew := x56.trans (Ext.drew none0 _) (fun _ h => h) (fun _ h => h.elim)
      have hdd : DevAt w56.drew r q d := h27.ext xd (fun k hk hh => by have := hdev k hk; omega)
      have hD56 : w56.heap[D]? = some (.deferred (some [])) := e56.heap hj.2.2.1 (fun hh => by omega)
      have od := o3'.ext xd (fun hh => by omega)
      have hil := hdd.il
      have hnl := h.ok.l
      have hic := hdd.i.le (by omega)
      have hn : d.n = d.img.length / 64 := rfl
      refine needSome_mk rfl ⟨_, hdd.c0, i, od.cell 0 (by simp), inR64 (by omega), i, od.cell 0 (by simp), inR64 (by omega), inR64 (by omega), by omega, by omega, by omega, by omega, ?_⟩
      have hsub := bytesAt_sub hdd.i.bytes (lo := (i * 64).toNat) (hi := ((i + 1) * 64).toNat) (c := q.si.c) (by omega) (by omega) (by omega)
      refine (CloneB_own _ _ w56.drew hsub (by rw [hsub.1]; simp only [List.length_drop, List.length_take]; omega)).mono ?_
      rintro e w63 ⟨t, rfl, ht, hf, k63⟩
      have x63 : Ext (fun j => D ≤ j) w27 w63 := xd.trans k63 (fun _ h => h) (fun _ h => h.elim)
      have a5 := o5'.ext x63 (fun hh => by omega)
      have a7 := o7'.ext x63 (fun hh => by omega)
      obtain ⟨g1, g2⟩ := a5.setOne 0 (by simp) t.v
      refine ⟨t, rfl, g1, fun w65 hw65 => ?_⟩
      obtain ⟨g3, g4, g5⟩ := g2 w65 hw65
      obtain ⟨f1, f2⟩ := (a7.ext g4 (fun hh => by omega)).setOne 0 (by simp) (.nilIface)
      refine ⟨f1, fun w66 hw66 => ?_⟩
      obtain ⟨f3, f4, f5⟩ := f2 w66 hw66
      have hD66 := f4.heap (g4.heap (k63.heap (show w56.drew.heap[D]? = _ from hD56)) (fun hh => by omega)) (fun hh => by omega)
      refine ⟨hD66, fun w67 hw67 => ?_⟩
      have e67 : Ext (fun j => j = D) w66 w67 := by rw [hw67]; exact Ext.putObj _ _ _
      have hz56 := x56.size
      have hs56 : w56.drew.heap.size = w56.heap.size := rfl
      have hlt51 := lt_of_heap hj.2.1
      have hz51 : w56.heap.size = w51.heap.size := by rw [hw56]; exact putObj_size _ _ _
      have htk : ∀ j, ownB t j → lr < j := fun j hj2 => by have := hf j hj2; omega
      refine ⟨t, ((g3.ext f4 (fun hh => by omega)).ext e67 (fun hh => by omega)).cell 0 (by simp), _, (f3.ext e67 (fun hh => by omega)).cell 0 (by simp), ?_, ?_⟩
      · exact ((k27.ext x63 (fun k hk => by have := k8.size; omega)).ext g4 (fun k hk => by omega) |>.ext f4 (fun k hk => by omega)).ext e67 (fun k hk => by have := k8.size; omega)
      · rw [if_neg (by rw [hin]; simp)]
        refine ⟨t, rfl, ?_, fun j hj2 => by have := htk j hj2; have := k8.size; omega⟩
        have e9 : readD d i = (d.img.take ((i + 1) * 64).toNat).drop (i * 64).toNat := by
          unfold readD secD
          rw [lastW_none (fun x hx => by
            obtain ⟨j, hj2, rfl⟩ := List.getElem_of_mem hx
            exact hj.2.2.2 j hj2 (by omega))]
          simp only [Option.getD_none]
          rw [List.drop_take]
          have e1 : (i * 64).toNat = i.toNat * 64 := by omega
          have e2 : ((i + 1) * 64).toNat = i.toNat * 64 + 64 := by omega
          rw [e1, e2]
          congr 1
          omega
        rw [e9]
        exact ((ht.ext g4 (fun j hj2 hh => by have := htk j hj2; omega)).ext f4 (fun j hj2 hh => by have := htk j hj2; omega)).ext e67 (fun j hj2 hh => by have := htk j hj2; omega)
    · obtain ⟨x1, x2, x3, t, x4, x5, x6, x7⟩ := hx
      refine ⟨⟨_, rfl⟩, .inl ⟨x2, fun w52 hw52 => ?_⟩⟩
      have e52 : Ext (fun j => j = lr) w51 w52 := by rw [hw52]; exact Ext.putObj _ _ _
      refine ⟨e52.heap x3 (fun hh => by omega), fun w53 hw53 => ?_⟩
      have e53 : Ext (fun j => j = D) w52 w53 := by rw [hw53]; exact Ext.putObj _ _ _
      refine ⟨t, ((x4.ext e52 (fun hh => by omega)).ext e53 (fun hh => by omega)).cell 0 (by simp), _, ((x5.ext e52 (fun hh => by omega)).ext e53 (fun hh => by omega)).cell 0 (by simp), ?_, ?_⟩
      · have hz8 := k8.size
        exact ((k27.ext x1 (fun k hk => by omega)).ext e52 (fun k hk => by omega)).ext e53 (fun k hk => by omega)
      · rw [if_neg (by rw [hin]; simp)]
        have hz8 := k8.size
        exact ⟨t, rfl, (x6.ext e52 (fun j hj2 hh => by have := x7 j hj2; omega)).ext e53 (fun j hj2 hh => by have := x7 j hj2; omega), fun j hj2 => by have := x7 j hj2; omega⟩
end Go.D
