/-
  WHAT IS PROVED: contracts of functions, and the plain law, for this proof. No further conditions.
-/
import Derived.Test.YtojcoegekkcojaaDoorVCref05
import Derived.Test.YtojcoegekkcojaaDoorRunes2
import Derived.Test.YtojcoegekkcojaaDoorPackRefB
import Derived.Test.YtojcoegekkcojaaDoorBytesX
import Derived.Test.YtojcoegekkcojaaDoorRowsM
import Derived.Test.YtojcoegekkcojaaDoorVCentry
import Derived.Test.YtojcoegekkcojaaDoorPackOutS
import Derived.Test.YtojcoegekkcojaaDoorIntsB
import Derived.Test.YtojcoegekkcojaaDoorSameInts
import Derived.Test.YtojcoegekkcojaaDoorTextsB
import Derived.Test.YtojcoegekkcojaaDoorVClaw05
import Derived.Test.YtojcoegekkcojaaDoorVCentry2
import Derived.Test.YtojcoegekkcojaaDoorPackIn2
set_option linter.unusedVariables false
set_option linter.unusedSimpArgs false
set_option maxRecDepth 4000
namespace Go.D
open Go Go.Proofs

/-! ### entries -/
structure OpS where
  kind : Int
  key : List UInt8
  val : List UInt8
  old : List UInt8
  ver : Int
structure EnS where
  kind : Int
  shard : Int
  other : Int
  server : Int
  client : Int
  seq : Int
  ops : List OpS
  key : List UInt8
  upto : Int
  part : Int
  parts : Int
  data : List UInt8
def opC (o : OpS) : List Value := [.int .i64 o.kind, strV o.key, strV o.val, strV o.old, .int .i64 o.ver]
def enC (e : EnS) (so sd : Slc) : List Value := [.int .i64 e.kind, .int .i64 e.shard, .int .i64 e.other, .int .i64 e.server, .int .i64 e.client, .int .i64 e.seq, so.v, strV e.key, .int .i64 e.upto, .int .i64 e.part, .int .i64 e.parts, sd.v]
def OpsAt (w : World) (s : Slc) (l : List OpS) : Prop := s.l = l.length ∧ s.l ≤ s.c ∧ ∀ i (h : i < l.length), ∃ a, s.p = some a ∧ rowAt w (a.add (i * 5)) 0 (opC l[i])
theorem OpsAt.ext {M : Nat → Prop} {w w' : World} {s : Slc} {l : List OpS} (h : OpsAt w s l) (he : Ext M w w') (hm : 0 < l.length → ∀ k, ownB s k → ¬ M k) : OpsAt w' s l :=
  ⟨h.1, h.2.1, fun i hi => let ⟨a, ha, hr⟩ := h.2.2 i hi; ⟨a, ha, rowAt_ext hr he (by rw [add_block]; exact hm (by omega) _ ⟨a, ha, rfl⟩)⟩⟩
theorem OpsAt.keep {w w' : World} {s : Slc} {l : List OpS} (h : OpsAt w s l) (he : Keep w w') : OpsAt w' s l := h.ext he (fun _ _ _ h => h)
structure EnAt (w : World) (e : EnS) (so sd : Slc) : Prop where
  o : OpsAt w so e.ops
  d : bytesAt w sd e.data
  c : sd.l ≤ sd.c
theorem EnAt.keep {w w' : World} {e : EnS} {so sd : Slc} (h : EnAt w e so sd) (k : Keep w w') : EnAt w' e so sd := ⟨h.o.keep k, bytesAt_keep h.d k, h.c⟩
/-- No more than is asked. -/
structure SmallE (e : EnS) : Prop where
  n : e.ops.length ≤ 20
  k : e.key.length ≤ 300
  d : e.data.length ≤ 600
  o : ∀ o ∈ e.ops, o.key.length ≤ 300 ∧ o.val.length ≤ 300 ∧ o.old.length ≤ 300

def uptoB (n m : Int) : Bool := decide (1 ≤ n) && decide (n ≤ m)
def keyOk (s : List UInt8) : Bool := (keyE s).isNone
def rightOp (o : OpS) : Bool := keyOk o.key && (if o.kind = 1 then decide (o.val.length ≤ 64) else if o.kind = 2 then true else if o.kind = 3 then decide (o.val.length ≤ 64) && decide (o.old.length ≤ 64) else if o.kind = 4 then decide (0 ≤ o.ver) && decide (o.ver ≤ 4096) else false)
def twoB (e : EnS) : Bool := uptoB e.shard 12 && (uptoB e.other 12 && decide (¬ e.shard = e.other))
def rightE (e : EnS) : Bool :=
  if e.kind = 1 then uptoB e.shard 12 && (uptoB e.client 4 && (uptoB e.seq 1073741824 && (uptoB (e.ops.length : Int) 8 && e.ops.all rightOp)))
  else if e.kind = 2 then uptoB e.shard 12 && uptoB e.server 4
  else if e.kind = 3 then twoB e && (uptoB e.server 4 && keyOk e.key)
  else if e.kind = 4 then twoB e
  else if e.kind = 5 then decide (0 ≤ e.shard) && (decide (e.shard ≤ 12) && (decide (0 ≤ e.upto) && (decide (e.upto ≤ 4096) && (uptoB e.parts 64 && (decide (0 ≤ e.part) && (decide (e.part < e.parts) && decide (e.data.length ≤ 256)))))))
  else false

theorem upto05_spec (n m : Int) (w : World) : Calls Tryd.prog fn_tidewaterref05_upto ⟨[.int .i64 n, .int .i64 m]⟩ w fun e w' => e = .returned (.bool (uptoB n m)) ∧ w' = w := by
  refine tidewaterref05_upto_ok _ _ ?_
  unfold tidewaterref05_upto uptoB
  refine BIf_dec (fun h => ⟨by rw [decide_eq_true h]; rfl, rfl⟩) (fun h => ⟨by rw [decide_eq_false h]; rfl, rfl⟩)
theorem keyN_zero (s : List UInt8) : decide (keyN s = 0) = keyOk s := by
  unfold keyN keyOk
  cases keyE s with
  | none => rfl
  | some k =>
    simp only [Option.isNone_some]
    exact decide_eq_false (by omega)
theorem key05_spec (s : List UInt8) (hl : s.length ≤ 2 ^ 20) (w : World) : Calls Tryd.prog fn_tidewaterref05_key ⟨[strV s]⟩ w fun e w' => e = .returned (.bool (keyOk s)) ∧ Keep w w' := by
  refine tidewaterref05_key_ok _ ?_
  unfold tidewaterref05_key
  refine (refKey_spec s hl w).mono ?_
  rintro e w3 ⟨rfl, k3⟩
  exact ⟨_, rfl, by rw [keyN_zero], k3⟩

theorem refRight05_spec (e : EnS) (so sd : Slc) (w : World) (h : EnAt w e so sd) (hs : SmallE e) :
    Calls Tryd.prog fn_tidewaterref05_Right ⟨[.agg ⟨enC e so sd⟩]⟩ w fun x w' => x = .returned (.bool (rightE e)) ∧ Keep w w' := by
  have hsl := h.o.1
  have hdl := h.d.1
  have hsn := hs.n
  refine tidewaterref05_Right_ok _ _ _ _ _ _ _ _ _ _ _ _ ?_
  unfold tidewaterref05_Right
  refine newS_mk (fun r w14 hr hb hk hs14 => ?_)
  have o : ObjAt w14 r (enC e so sd) := ObjAt.new' hb
  refine ⟨fun two w2 => w2 = w14 ∧ two = twoB e, ?_, ?_⟩
  · refine ⟨_, o.cell 1 (by simp [enC]), ?_⟩
    refine (upto05_spec _ _ w14).mono ?_
    rintro x w18 ⟨rfl, rfl⟩
    unfold twoB
    refine ⟨_, rfl, BIf_mk (fun h1 => ⟨_, o.cell 2 (by simp [enC]), ?_⟩) (fun h1 => ⟨rfl, by rw [h1]; rfl⟩)⟩
    refine (upto05_spec _ _ _).mono ?_
    rintro x w22 ⟨rfl, rfl⟩
    refine ⟨_, rfl, BIf_mk (fun h2 => ⟨_, o.cell 1 (by simp [enC]), _, o.cell 2 (by simp [enC]), rfl, by rw [h1, h2]; simp⟩) (fun h2 => ⟨rfl, by rw [h1, h2]; rfl⟩)⟩
  · rintro two w27 ⟨rfl, rfl⟩
    intros
    unfold rightE
    refine ⟨_, o.cell 0 (by simp [enC]), BIf_dec (fun h1 => ?_) (fun h1 => ?_)⟩
    · rw [if_pos h1]
      refine ⟨fun w2 => w2 = w27 ∧ (uptoB e.shard 12 && (uptoB e.client 4 && (uptoB e.seq 1073741824 && (uptoB (e.ops.length : Int) 8 && e.ops.all rightOp)))) = e.ops.all rightOp, ?_, ?_⟩
      · refine ⟨_, o.cell 1 (by simp [enC]), (upto05_spec _ _ _).mono ?_⟩
        rintro x w47 ⟨rfl, rfl⟩
        refine ⟨_, rfl, BIf_mk (fun h2 => ⟨by rw [show uptoB e.shard 12 = false by simpa using h2]; rfl, hk⟩) (fun h2 => ⟨_, o.cell 4 (by simp [enC]), (upto05_spec _ _ _).mono ?_⟩)⟩
        rintro x w51 ⟨rfl, rfl⟩
        refine ⟨_, rfl, BIf_mk (fun h3 => ⟨by rw [show uptoB e.client 4 = false by simpa using h3]; simp, hk⟩) (fun h3 => ⟨_, o.cell 5 (by simp [enC]), (upto05_spec _ _ _).mono ?_⟩)⟩
        rintro x w55 ⟨rfl, rfl⟩
        refine ⟨_, rfl, BIf_mk (fun h4 => ⟨by rw [show uptoB e.seq 1073741824 = false by simpa using h4]; simp, hk⟩) (fun h4 => ⟨_, o.cell 6 (by simp [enC]), (upto05_spec _ _ _).mono ?_⟩)⟩
        rintro x w59 ⟨rfl, rfl⟩
        rw [hsl]
        refine ⟨_, rfl, BIf_mk (fun h5 => ⟨by rw [show uptoB (e.ops.length : Int) 8 = false by simpa using h5]; simp, hk⟩) (fun h5 => ⟨rfl, ?_⟩)⟩
        rw [show uptoB e.shard 12 = true by simpa using h2, show uptoB e.client 4 = true by simpa using h3, show uptoB e.seq 1073741824 = true by simpa using h4, show uptoB (e.ops.length : Int) 8 = true by simpa using h5]
        rfl
      · rintro w61 ⟨rfl, hall⟩
        intros
        rw [hall]
        refine ⟨_, o.cell 6 (by simp [enC]), fun i w2 => ∃ k : Nat, i = k ∧ k ≤ e.ops.length ∧ Keep w61 w2 ∧ (e.ops.take k).all rightOp = true, fun i _ => ((e.ops.length : Int) - i).toNat, ⟨0, rfl, by omega, Ext.refl _ _, by simp⟩, ?_⟩
        rintro i w90 ⟨k, rfl, hkk, k90, hak⟩
        intros
        have kw := hk.trans k90
        refine BIf_dec (fun h2 => ?_) (fun h2 => ?_)
        · have hkl : k < e.ops.length := by omega
          obtain ⟨a, ha, hrow⟩ := (h.o.keep kw).2.2 k hkl
          have hsm := hs.o _ (List.getElem_mem hkl)
          have hmem : e.ops[k] ∈ e.ops := List.getElem_mem hkl
          have hnext : rightOp e.ops[k] = true → (e.ops.take (k + 1)).all rightOp = true := fun hh => by
            rw [List.take_succ_eq_append_getElem hkl, List.all_append, hak]; simp [hh]
          have hbad : rightOp e.ops[k] = false → e.ops.all rightOp = false := fun hh => List.all_eq_false.2 ⟨_, hmem, by rw [hh]; simp⟩
          generalize hop : e.ops[k] = op at *
          refine needSome_mk ha ⟨by omega, h2, _, _, _, _, _, by rw [Int.toNat_natCast]; exact hrow, ?_⟩
          refine var_mk (cs := opC op) rfl rfl (fun r150 w152 hr150 o150 k150 hs150 => ?_)
          refine ⟨_, o150.cell 1 (by simp [opC]), (key05_spec _ (by omega) w152).mono ?_⟩
          rintro x w155 ⟨rfl, k155⟩
          have k155' := (k90.trans k150).trans k155
          have kw155 := hk.trans k155'
          have o155 := o150.keep k155
          have bad : rightOp op = false → (Ending.returned (Value.bool false) = .returned (.bool (e.ops.all rightOp)) ∧ Keep w w155) := fun hh => ⟨by rw [hbad hh], kw155⟩
          have good : rightOp op = true → inR .i64 ((k : Int) + 1) ∧ (∃ k2 : Nat, ((k : Int) + 1) = k2 ∧ k2 ≤ e.ops.length ∧ Keep w61 w155 ∧ (e.ops.take k2).all rightOp = true) ∧ ((e.ops.length : Int) - ((k : Int) + 1)).toNat < ((e.ops.length : Int) - (k : Int)).toNat :=
            fun hh => ⟨inR64 (by omega), ⟨k + 1, rfl, hkl, k155', hnext hh⟩, by omega⟩
          unfold rightOp at bad good
          refine ⟨_, rfl, _, o155.cell 0 (by simp [opC]), BIf_dec (fun h3 => ?_) (fun h3 => BIf_dec (fun h4 => ?_) (fun h4 => BIf_dec (fun h5 => ?_) (fun h5 => BIf_dec (fun h6 => ?_) (fun h6 => ?_))))⟩
          · rw [if_pos h3] at bad good
            refine BIf_mk (fun h7 => ⟨_, o155.cell 2 (by simp [opC]), BIf_ndec (fun h8 => bad (by rw [h7]; simp; omega)) (fun h8 => good (by rw [h7]; simp; omega))⟩) (fun h7 => bad (by rw [h7]; rfl))
          · rw [if_neg h3, if_pos h4] at bad good
            refine BIf_mk (fun h7 => bad (by rw [show keyOk op.key = false by simpa using h7]; rfl)) (fun h7 => good (by rw [show keyOk op.key = true by simpa using h7]; rfl))
          · rw [if_neg h3, if_neg h4, if_pos h5] at bad good
            refine BIf_mk (fun h7 => ⟨_, o155.cell 2 (by simp [opC]), BIf_dec (fun h8 => ⟨_, o155.cell 3 (by simp [opC]), BIf_ndec (fun h9 => bad (by rw [h7]; simp; omega)) (fun h9 => good (by rw [h7]; simp; omega))⟩) (fun h8 => bad (by rw [h7]; simp; omega))⟩) (fun h7 => bad (by rw [h7]; rfl))
          · rw [if_neg h3, if_neg h4, if_neg h5, if_pos h6] at bad good
            refine BIf_mk (fun h7 => ⟨_, o155.cell 4 (by simp [opC]), BIf_dec (fun h8 => ⟨_, o155.cell 4 (by simp [opC]), BIf_ndec (fun h9 => bad (by rw [h7]; simp; omega)) (fun h9 => good (by rw [h7]; simp; omega))⟩) (fun h8 => bad (by rw [h7]; simp; omega))⟩) (fun h7 => bad (by rw [h7]; rfl))
          · rw [if_neg h3, if_neg h4, if_neg h5, if_neg h6] at bad
            exact bad (by simp)
        · rw [List.take_of_length_le (by omega)] at hak
          exact ⟨by rw [hak], kw⟩
    rw [if_neg h1]
    refine BIf_dec (fun h2 => ?_) (fun h2 => ?_)
    · rw [if_pos h2]
      refine ⟨_, o.cell 1 (by simp [enC]), (upto05_spec _ _ _).mono ?_⟩
      rintro x w165 ⟨rfl, rfl⟩
      refine ⟨_, rfl, BIf_mk (fun h3 => ⟨_, o.cell 3 (by simp [enC]), (upto05_spec _ _ _).mono ?_⟩) (fun h3 => ⟨by rw [h3]; rfl, hk⟩)⟩
      rintro x w169 ⟨rfl, rfl⟩
      exact ⟨_, rfl, by rw [h3]; rfl, hk⟩
    rw [if_neg h2]
    refine BIf_dec (fun h3 => ?_) (fun h3 => ?_)
    · rw [if_pos h3]
      refine BIf_mk (fun h4 => ⟨_, o.cell 3 (by simp [enC]), (upto05_spec _ _ _).mono ?_⟩) (fun h4 => ⟨by rw [h4]; rfl, hk⟩)
      rintro x w173 ⟨rfl, rfl⟩
      refine ⟨_, rfl, BIf_mk (fun h5 => ⟨_, o.cell 7 (by simp [enC]), (key05_spec _ (by have := hs.k; omega) _).mono ?_⟩) (fun h5 => ⟨by rw [h4, h5]; rfl, hk⟩)⟩
      rintro x w177 ⟨rfl, k177⟩
      exact ⟨_, rfl, by rw [h4, h5]; rfl, hk.trans k177⟩
    rw [if_neg h3]
    refine BIf_dec (fun h4 => ⟨by rw [if_pos h4], hk⟩) (fun h4 => ?_)
    rw [if_neg h4]
    refine BIf_dec (fun h5 => ?_) (fun h5 => ⟨by rw [if_neg h5], hk⟩)
    rw [if_pos h5]
    refine ⟨_, o.cell 1 (by simp [enC]), BIf_dec (fun g1 => ⟨_, o.cell 1 (by simp [enC]), BIf_dec (fun g2 => ⟨_, o.cell 8 (by simp [enC]), BIf_dec (fun g3 => ⟨_, o.cell 8 (by simp [enC]), BIf_dec (fun g4 => ⟨_, o.cell 10 (by simp [enC]), (upto05_spec _ _ _).mono ?_⟩) (fun g4 => ⟨by rw [decide_eq_false g4]; simp, hk⟩)⟩) (fun g3 => ⟨by rw [decide_eq_false g3]; simp, hk⟩)⟩) (fun g2 => ⟨by rw [decide_eq_false g2]; simp, hk⟩)⟩) (fun g1 => ⟨by rw [decide_eq_false g1]; simp, hk⟩)⟩
    rintro x w185 ⟨rfl, rfl⟩
    rw [decide_eq_true g1, decide_eq_true g2, decide_eq_true g3, decide_eq_true g4]
    refine ⟨_, rfl, BIf_mk (fun g5 => ⟨_, o.cell 9 (by simp [enC]), BIf_dec (fun g6 => ⟨_, o.cell 9 (by simp [enC]), _, o.cell 10 (by simp [enC]), BIf_dec (fun g7 => ⟨_, o.cell 11 (by simp [enC]), ?_, hk⟩) (fun g7 => ⟨by rw [decide_eq_false g7]; simp, hk⟩)⟩) (fun g6 => ⟨by rw [decide_eq_false g6]; simp, hk⟩)⟩) (fun g5 => ⟨by rw [g5]; simp, hk⟩)⟩
    rw [g5, decide_eq_true g6, decide_eq_true g7]
    have : decide (((sd.l : Nat) : Int) ≤ 256) = decide (e.data.length ≤ 256) := decide_eq_decide.2 (by omega)
    rw [this]; rfl
end Go.D

set_option linter.unusedVariables false
set_option linter.unusedSimpArgs false
set_option maxRecDepth 4000
namespace Go.D
open Go Go.Proofs

/-! ### a right entry's bytes -/
def numB (n : Int) : List UInt8 := encN n.toNat
def textB (t : List UInt8) : List UInt8 := encN t.length ++ t
def bytesOp (o : OpS) : List UInt8 := numB o.kind ++ textB o.key ++ (if o.kind = 3 then textB o.old else []) ++ (if o.kind = 1 ∨ o.kind = 3 then textB o.val else []) ++ (if o.kind = 4 then numB o.ver else [])
def headE (e : EnS) : List Int := [e.kind, e.shard] ++ (if e.kind = 1 then [e.client, e.seq, (e.ops.length : Int)] else if e.kind = 2 then [e.server] else if e.kind = 3 then [e.other, e.server] else if e.kind = 4 then [e.other] else if e.kind = 5 then [e.upto, e.parts, e.part] else [])
def tailE (e : EnS) : List UInt8 := if e.kind = 1 then e.ops.flatMap bytesOp else if e.kind = 3 then textB e.key else if e.kind = 5 then textB e.data else []
def bytesE (e : EnS) : List UInt8 := (headE e).flatMap numB ++ tailE e

theorem uptoB_iff {n m : Int} : uptoB n m = true ↔ 1 ≤ n ∧ n ≤ m := by unfold uptoB; simp
theorem twoB_iff {e : EnS} : twoB e = true ↔ (1 ≤ e.shard ∧ e.shard ≤ 12) ∧ (1 ≤ e.other ∧ e.other ≤ 12) ∧ ¬ e.shard = e.other := by
  unfold twoB
  simp only [Bool.and_eq_true, uptoB_iff, decide_eq_true_eq]
/-- What a right entry is. -/
theorem right_cases {e : EnS} (h : rightE e = true) :
    (e.kind = 1 ∧ (1 ≤ e.shard ∧ e.shard ≤ 12) ∧ (1 ≤ e.client ∧ e.client ≤ 4) ∧ (1 ≤ e.seq ∧ e.seq ≤ 1073741824) ∧ (1 ≤ (e.ops.length : Int) ∧ (e.ops.length : Int) ≤ 8) ∧ ∀ o ∈ e.ops, rightOp o = true) ∨
    (e.kind = 2 ∧ (1 ≤ e.shard ∧ e.shard ≤ 12) ∧ (1 ≤ e.server ∧ e.server ≤ 4)) ∨
    (e.kind = 3 ∧ ((1 ≤ e.shard ∧ e.shard ≤ 12) ∧ (1 ≤ e.other ∧ e.other ≤ 12) ∧ ¬ e.shard = e.other) ∧ (1 ≤ e.server ∧ e.server ≤ 4) ∧ keyOk e.key = true) ∨
    (e.kind = 4 ∧ ((1 ≤ e.shard ∧ e.shard ≤ 12) ∧ (1 ≤ e.other ∧ e.other ≤ 12) ∧ ¬ e.shard = e.other)) ∨
    (e.kind = 5 ∧ (0 ≤ e.shard ∧ e.shard ≤ 12) ∧ (0 ≤ e.upto ∧ e.upto ≤ 4096) ∧ (1 ≤ e.parts ∧ e.parts ≤ 64) ∧ (0 ≤ e.part ∧ e.part < e.parts) ∧ e.data.length ≤ 256) := by
  unfold rightE at h
  by_cases h1 : e.kind = 1
  · rw [if_pos h1] at h
    simp only [Bool.and_eq_true, uptoB_iff, List.all_eq_true] at h
    exact .inl ⟨h1, h.1, h.2.1, h.2.2.1, h.2.2.2.1, h.2.2.2.2⟩
  rw [if_neg h1] at h
  by_cases h2 : e.kind = 2
  · rw [if_pos h2] at h
    simp only [Bool.and_eq_true, uptoB_iff] at h
    exact .inr (.inl ⟨h2, h.1, h.2⟩)
  rw [if_neg h2] at h
  by_cases h3 : e.kind = 3
  · rw [if_pos h3] at h
    simp only [Bool.and_eq_true, uptoB_iff, twoB_iff] at h
    exact .inr (.inr (.inl ⟨h3, h.1, h.2.1, h.2.2⟩))
  rw [if_neg h3] at h
  by_cases h4 : e.kind = 4
  · rw [if_pos h4] at h
    exact .inr (.inr (.inr (.inl ⟨h4, twoB_iff.1 h⟩)))
  rw [if_neg h4] at h
  by_cases h5 : e.kind = 5
  · rw [if_pos h5] at h
    simp only [Bool.and_eq_true, uptoB_iff, decide_eq_true_eq] at h
    exact .inr (.inr (.inr (.inr ⟨h5, ⟨h.1, h.2.1⟩, ⟨h.2.2.1, h.2.2.2.1⟩, h.2.2.2.2.1, ⟨h.2.2.2.2.2.1, h.2.2.2.2.2.2.1⟩, h.2.2.2.2.2.2.2⟩)))
  · rw [if_neg h5] at h; cases h
theorem rightOp_cases {o : OpS} (h : rightOp o = true) : keyOk o.key = true ∧
    ((o.kind = 1 ∧ o.val.length ≤ 64) ∨ o.kind = 2 ∨ (o.kind = 3 ∧ o.val.length ≤ 64 ∧ o.old.length ≤ 64) ∨ (o.kind = 4 ∧ 0 ≤ o.ver ∧ o.ver ≤ 4096)) := by
  unfold rightOp at h
  rw [Bool.and_eq_true] at h
  refine ⟨h.1, ?_⟩
  have h := h.2
  by_cases h1 : o.kind = 1
  · rw [if_pos h1, decide_eq_true_eq] at h; exact .inl ⟨h1, h⟩
  rw [if_neg h1] at h
  by_cases h2 : o.kind = 2
  · exact .inr (.inl h2)
  rw [if_neg h2] at h
  by_cases h3 : o.kind = 3
  · rw [if_pos h3] at h
    simp only [Bool.and_eq_true, decide_eq_true_eq] at h
    exact .inr (.inr (.inl ⟨h3, h⟩))
  rw [if_neg h3] at h
  by_cases h4 : o.kind = 4
  · rw [if_pos h4] at h
    simp only [Bool.and_eq_true, decide_eq_true_eq] at h
    exact .inr (.inr (.inr ⟨h4, h⟩))
  · rw [if_neg h4] at h; cases h
theorem head_ok {e : EnS} (h : rightE e = true) : (headE e).length ≤ 5 ∧ ∀ n ∈ headE e, 0 ≤ n ∧ n ≤ 2 ^ 40 := by
  unfold headE
  rcases right_cases h with ⟨k, h1, h2, h3, h4, _⟩ | ⟨k, h1, h2⟩ | ⟨k, h1, h2, _⟩ | ⟨k, h1⟩ | ⟨k, h1, h2, h3, h4, _⟩ <;> rw [k]
  · refine ⟨by simp, fun n hn => ?_⟩
    simp at hn
    rcases hn with rfl | rfl | rfl | rfl | rfl <;> omega
  · refine ⟨by simp, fun n hn => ?_⟩
    simp at hn
    rcases hn with rfl | rfl | rfl <;> omega
  · refine ⟨by simp, fun n hn => ?_⟩
    simp at hn
    rcases hn with rfl | rfl | rfl | rfl <;> omega
  · refine ⟨by simp, fun n hn => ?_⟩
    simp at hn
    rcases hn with rfl | rfl | rfl <;> omega
  · refine ⟨by simp, fun n hn => ?_⟩
    simp at hn
    rcases hn with rfl | rfl | rfl | rfl | rfl <;> omega
theorem numB_len (n : Int) (h : n ≤ 2 ^ 40) : (numB n).length ≤ 6 := encN_len n.toNat 5 (by omega)
theorem textB_len (t : List UInt8) (h : t.length ≤ 2 ^ 20) : (textB t).length ≤ 6 + t.length := by
  have := encN_len t.length 5 (by omega)
  unfold textB; rw [List.length_append]; omega
theorem heads_len : ∀ (l : List Int), (∀ n ∈ l, n ≤ 2 ^ 40) → (l.flatMap numB).length ≤ 6 * l.length
  | [], _ => by simp
  | n :: l, h => by
    have h1 := heads_len l (fun n hn => h n (by simp [hn]))
    have h2 := numB_len n (h n (by simp))
    simp at h1 ⊢; omega
theorem bytesOp_len {o : OpS} (h : o.key.length ≤ 300 ∧ o.val.length ≤ 300 ∧ o.old.length ≤ 300) (hk : o.kind ≤ 2 ^ 40) (hv : o.ver ≤ 2 ^ 40) : (bytesOp o).length ≤ 1000 := by
  have h1 := numB_len o.kind hk
  have h2 := numB_len o.ver hv
  have h3 := textB_len o.key (by omega)
  have h4 := textB_len o.val (by omega)
  have h5 := textB_len o.old (by omega)
  unfold bytesOp
  simp only [List.length_append]
  split <;> split <;> split <;> (try simp only [List.length_nil]) <;> omega

/-! ### bytes behind bytes -/
theorem own_blen {w : World} {s : Slc} {b : List UInt8} (h : Own w s 1 (b.map byteV)) : s.l = b.length := by have := h.1; simpa using this
/-- What an appending keeps. -/
structure Added (w0 w w' : World) (out s' : Slc) (b : List UInt8) : Prop where
  own : Own w' s' 1 (b.map byteV)
  fr : Fresh w0 s'
  k : Keep w0 w'
  x : Ext (ownB out) w w'
  n : ∀ r, r < w.heap.size → ¬ ownB out r → ¬ ownB s' r
theorem addSlc {E : TypeId} {w0 w : World} {out s : Slc} {b c : List UInt8} {K : Slc → World → Prop} (ho : Own w out 1 (b.map byteV)) (hf : Fresh w0 out) (hk : Keep w0 w) (hs : bytesAt w s c) (hb : b.length + c.length ≤ 2 ^ 29)
    (h : ∀ s' w', Added w0 w w' out s' (b ++ c) → K s' w') : appendS 1 E [.int .u8 0] w out (.slc s) K := by
  have h1 := own_blen ho
  have h2 := hs.1
  exact append_bytes2 (w0 := w0) ho rfl hf hk (srcAt_bytes hs) (by simp only [Src.n]; omega) (fun s' w' g1 g2 g3 g4 g5 => h s' w' ⟨g1, g3, g2, g4, fun r hr hn hh => (g5 r hh).elim hn (fun h => by omega)⟩)
theorem addNum {E : TypeId} {w0 w : World} {out : Slc} {b : List UInt8} {n : Int} {K : Slc → World → Prop} (hn : 0 ≤ n ∧ n ≤ 2 ^ 40) (ho : Own w out 1 (b.map byteV)) (hf : Fresh w0 out) (hk : Keep w0 w) (hb : b.length ≤ 2 ^ 20)
    (h : ∀ s' w', Added w0 w w' out s' (b ++ numB n) → K s' w') :
    Calls Tryd.prog fn_tidewaterref04_Num ⟨[.int .i64 n]⟩ w fun e w2 => ∃ s : Slc, e = .returned s.v ∧ appendS 1 E [.int .u8 0] w2 out (.slc s) K := by
  refine (ref04_Num_specZ n.toNat n w (by omega) (by omega)).mono ?_
  rintro e w2 ⟨s, rfl, hs, fs, ks⟩
  have hl := numB_len n hn.2
  refine ⟨s, rfl, addSlc (ho.keep ks) hf (hk.trans ks) hs.bytes (by unfold numB at hl; omega) (fun s' w' g => h s' w' ⟨g.own, g.fr, g.k, Ext.trans ks g.x (fun _ h => h.elim) (fun _ h => .inl h), fun r hr hn => g.n r (by have := ks.size; omega) hn⟩)⟩
theorem addText {E : TypeId} {w0 w : World} {out : Slc} {b : List UInt8} {t : List UInt8} {K : Slc → World → Prop} (ht : t.length ≤ 2 ^ 19) (ho : Own w out 1 (b.map byteV)) (hf : Fresh w0 out) (hk : Keep w0 w) (hb : b.length ≤ 2 ^ 20)
    (h : ∀ s' w', Added w0 w w' out s' (b ++ textB t) → K s' w') :
    Calls Tryd.prog fn_tidewaterref04_Text ⟨[strV t]⟩ w fun e w2 => ∃ s : Slc, e = .returned s.v ∧ appendS 1 E [.int .u8 0] w2 out (.slc s) K := by
  refine (ref04_Text_spec t w (by omega)).mono ?_
  rintro e w2 ⟨s, rfl, hs, fs, ks⟩
  have hl := textB_len t (by omega)
  refine ⟨s, rfl, addSlc (ho.keep ks) hf (hk.trans ks) hs.bytes (by unfold textB at hl; omega) (fun s' w' g => h s' w' ⟨g.own, g.fr, g.k, Ext.trans ks g.x (fun _ h => h.elim) (fun _ h => .inl h), fun r hr hn => g.n r (by have := ks.size; omega) hn⟩)⟩

theorem refBytes05_spec (e : EnS) (so sd : Slc) (w : World) (h : EnAt w e so sd) (hs : SmallE e) (hr : rightE e = true) :
    Calls Tryd.prog fn_tidewaterref05_Bytes ⟨[.agg ⟨enC e so sd⟩]⟩ w fun x w' => ∃ t : Slc, x = .returned t.v ∧ Own w' t 1 ((bytesE e).map byteV) ∧ Fresh w t ∧ Keep w w' := by
  have hsl := h.o.1
  have hsn := hs.n
  refine tidewaterref05_Bytes_ok _ _ _ _ _ _ _ _ _ _ _ _ ?_
  unfold tidewaterref05_Bytes
  refine newS_mk (fun r w14 hrr hb hk hs14 => ?_)
  have o : ObjAt w14 r (enC e so sd) := ObjAt.new' hb
  refine ⟨_, o.cell 0 (by simp [enC]), _, o.cell 1 (by simp [enC]), newS_mk (fun r17 w18 hr17 hb17 k17 hs17 => ?_)⟩
  have o18 := o.keep k17
  have z14 := hk.size
  have z17 := k17.size
  have hf17 : ∀ j, ownB ⟨some ⟨r17, 0, none⟩, 2, 2⟩ j → j = r17 := by rintro j ⟨a, ha, rfl⟩; cases ha; rfl
  have k18 := hk.trans k17
  refine ⟨fun l w2 => Own w2 l 1 ((headE e).map intV) ∧ Keep w w2 ∧ Keep w14 w2, ?_, ?_⟩
  · have app : ∀ (l2 : List Int) {T E : TypeId}, headE e = [e.kind, e.shard] ++ l2 → l2.length ≤ 10 → newS w18 (.cells ⟨l2.map intV⟩ T) fun r wx => appendS 1 E [.int .i64 0] wx (⟨some ⟨r17, 0, none⟩, 2, 2⟩ : Slc) (.slc ⟨some ⟨r, 0, none⟩, l2.length, l2.length⟩) fun l w2 => Own w2 l 1 ((headE e).map intV) ∧ Keep w w2 ∧ Keep w14 w2 := by
      intro l2 T E hh hl2
      refine newS_mk (fun r47 w48 hr47 hb47 k47 hs47 => ?_)
      have o17 : Own w48 ⟨some ⟨r17, 0, none⟩, 2, 2⟩ 1 (([e.kind, e.shard] : List Int).map intV) := Own.keep (Own.new (sz := 1) (n := 2) hb17 (.inl (by simp)) rfl) k47
      have o47 : Own w48 ⟨some ⟨r47, 0, none⟩, l2.length, l2.length⟩ 1 (l2.map intV) := Own.new (sz := 1) (n := l2.length) hb47 (.inl (by simp)) (by simp)
      refine appendS_own o17 (by omega) rfl (srcAt_slc o47.cells (by simp)) (one_ints _) (by simp only [Src.n]; omega) (fun s' w' g1 g2 g3 g4 => ?_)
      refine ⟨by rw [hh]; simpa using g1, (k18.trans k47).ext g2 (fun j hj => by rw [hf17 j hj]; omega), (k17.trans k47).ext g2 (fun j hj => by rw [hf17 j hj]; omega)⟩
    refine ⟨_, o18.cell 0 (by simp [enC]), BIf_dec (fun h1 => ?_) (fun h1 => BIf_dec (fun h2 => ?_) (fun h2 => BIf_dec (fun h3 => ?_) (fun h3 => BIf_dec (fun h4 => ?_) (fun h4 => BIf_dec (fun h5 => ?_) (fun h5 => ?_)))))⟩
    · refine ⟨_, o18.cell 4 (by simp [enC]), _, o18.cell 5 (by simp [enC]), so, o18.cell 6 (by simp [enC]), ?_⟩
      rw [hsl]
      exact app [e.client, e.seq, (e.ops.length : Int)] (by unfold headE; rw [if_pos h1]) (by simp)
    · exact ⟨_, o18.cell 3 (by simp [enC]), app [e.server] (by unfold headE; rw [if_neg h1, if_pos h2]) (by simp)⟩
    · exact ⟨_, o18.cell 2 (by simp [enC]), _, o18.cell 3 (by simp [enC]), app [e.other, e.server] (by unfold headE; rw [if_neg h1, if_neg h2, if_pos h3]) (by simp)⟩
    · exact ⟨_, o18.cell 2 (by simp [enC]), app [e.other] (by unfold headE; rw [if_neg h1, if_neg h2, if_neg h3, if_pos h4]) (by simp)⟩
    · exact ⟨_, o18.cell 8 (by simp [enC]), _, o18.cell 10 (by simp [enC]), _, o18.cell 9 (by simp [enC]), app [e.upto, e.parts, e.part] (by unfold headE; rw [if_neg h1, if_neg h2, if_neg h3, if_neg h4, if_pos h5]) (by simp)⟩
    · rcases right_cases hr with ⟨k, _⟩ | ⟨k, _⟩ | ⟨k, _⟩ | ⟨k, _⟩ | ⟨k, _⟩
      · exact (h1 k).elim
      · exact (h2 k).elim
      · exact (h3 k).elim
      · exact (h4 k).elim
      · exact (h5 k).elim
  · rintro l51 w52 ⟨hl51, k52, k1452⟩
    intros
    obtain ⟨hh5, hin⟩ := head_ok hr
    have hll : l51.l = (headE e).length := by have := hl51.1; simpa using this
    have o52 := o.keep k1452
    refine newS_mk (fun r101 w102 hr101 hb101 k101 hs101 => ?_)
    have z52 := k52.size
    refine ⟨fun out i w2 => ∃ k : Nat, i = k ∧ k ≤ (headE e).length ∧ Own w2 out 1 ((((headE e).take k).flatMap numB).map byteV) ∧ Fresh w52 out ∧ Keep w52 w2, fun _ i _ => (((headE e).length : Int) - i).toNat,
      ⟨0, rfl, by omega, Own.new (sz := 1) (n := 0) hb101 (.inl (by simp)) rfl, Fresh.at (by omega), k101⟩, ?_⟩
    rintro out i w107 ⟨k, rfl, hk5, ho, hf, k107⟩
    intros
    have hole := heads_len ((headE e).take k) (fun n hn => (hin n (List.mem_of_mem_take hn)).2)
    have htk : ((headE e).take k).length ≤ 5 := by rw [List.length_take]; omega
    have hl51' := hl51.keep k107
    have o107 := o52.keep k107
    refine BIf_dec (fun h6 => ?_) (fun h6 => ?_)
    · have hk4 : k < (headE e).length := by omega
      obtain ⟨a, ha, hc⟩ := intsAt_cell hl51'.ints hk4
      refine needSome_mk ha ⟨by omega, by omega, _, by rw [show Int.toNat (k : Int) * 1 = k by omega]; exact hc, ?_⟩
      refine addNum (hin _ (List.getElem_mem hk4)) ho hf k107 (by omega) (fun s' w' g => ?_)
      refine ⟨inR64 (by omega), ⟨k + 1, rfl, hk4, ?_, g.fr, g.k⟩, by first | (dsimp only; omega) | omega⟩
      rw [List.take_succ_eq_append_getElem hk4, List.flatMap_append]
      simpa using g.own
    · have hkn : k = (headE e).length := by omega
      subst hkn
      rw [List.take_length] at ho hole
      generalize hH : (headE e).flatMap numB = H at ho hole
      have ret : ∀ {s' : Slc} {w' : World} {b : List UInt8}, Own w' s' 1 ((H ++ b).map byteV) → Fresh w52 s' → Keep w52 w' → b = tailE e → ∃ t : Slc, Ending.returned s'.v = .returned t.v ∧ Own w' t 1 ((bytesE e).map byteV) ∧ Fresh w t ∧ Keep w w' := by
        intro s' w' b g1 g2 g3 hb
        refine ⟨s', rfl, ?_, fun j hj => by have := g2 j hj; omega, k52.trans g3⟩
        unfold bytesE
        rw [hH, ← hb]; exact g1
      have hd107 := bytesAt_keep h.d (k52.trans k107)
      refine ⟨_, o107.cell 0 (by simp [enC]), BIf_dec (fun h1 => ?_) (fun h1 => BIf_dec (fun h3 => ?_) (fun h3 => BIf_dec (fun h5 => ?_) (fun h5 => ?_)))⟩
      · -- the operations
        have hrops : ∀ o ∈ e.ops, rightOp o = true := by
          rcases right_cases hr with ⟨k, _, _, _, _, hh⟩ | ⟨k, _⟩ | ⟨k, _⟩ | ⟨k, _⟩ | ⟨k, _⟩
          · exact hh
          all_goals omega
        refine ⟨so, o107.cell 6 (by simp [enC]), ?_⟩
        refine ⟨fun out i w2 => ∃ k : Nat, i = k ∧ k ≤ e.ops.length ∧ Own w2 out 1 ((H ++ (e.ops.take k).flatMap bytesOp).map byteV) ∧ Fresh w52 out ∧ Keep w52 w2 ∧ ((e.ops.take k).flatMap bytesOp).length ≤ 1000 * k, fun _ i _ => ((e.ops.length : Int) - i).toNat,
          ⟨0, rfl, by omega, by simpa using ho, hf, k107, by simp⟩, ?_⟩
        rintro out i w130 ⟨k, rfl, hk5, ho, hf, k130, hbl⟩
        intros
        refine BIf_dec (fun h7 => ?_) (fun h7 => ?_)
        · have hkl : k < e.ops.length := by omega
          obtain ⟨a, ha, hrow⟩ := (h.o.keep (k52.trans k130)).2.2 k hkl
          have hsm := hs.o _ (List.getElem_mem hkl)
          have hro := hrops _ (List.getElem_mem hkl)
          obtain ⟨_, hkind⟩ := rightOp_cases hro
          have hsp : (e.ops.take (k + 1)).flatMap bytesOp = (e.ops.take k).flatMap bytesOp ++ bytesOp e.ops[k] := by
            rw [List.take_succ_eq_append_getElem hkl, List.flatMap_append]; simp
          generalize hop : e.ops[k] = op at *
          have hk14 : 1 ≤ op.kind ∧ op.kind ≤ 4 := by rcases hkind with ⟨h, _⟩ | h | ⟨h, _⟩ | ⟨h, _⟩ <;> omega
          generalize hB : H ++ (e.ops.take k).flatMap bytesOp = B at ho
          have hBl : B.length ≤ 30 + 1000 * 20 := by rw [← hB, List.length_append]; omega
          refine needSome_mk ha ⟨by omega, h7, _, _, _, _, _, by rw [Int.toNat_natCast]; exact hrow, ?_⟩
          refine var_mk (cs := opC op) rfl rfl (fun r181 w183 hr181 o181 k183 hs181 => ?_)
          have hn0 : ¬ ownB out r181 := fun hh => by have := OwnLt ho _ hh; omega
          have k52183 := k130.trans k183
          refine ⟨_, o181.cell 0 (by simp [opC]), addNum (by omega) (ho.keep k183) hf k52183 (by omega) (fun s188 w189 g1 => ?_)⟩
          have o189 := o181.ext g1.x hn0
          have hn1 := g1.n r181 o181.lt hn0
          have l1 := numB_len op.kind (by omega)
          refine ⟨_, o189.cell 1 (by simp [opC]), addText (by omega) g1.own g1.fr g1.k (by rw [List.length_append]; omega) (fun s194 w195 g2 => ?_)⟩
          have o195 := o189.ext g2.x hn1
          have hn2 := g2.n r181 o189.lt hn1
          have l2 := textB_len op.key (by omega)
          -- what has an old value
          refine ⟨fun out w2 => Own w2 out 1 ((B ++ numB op.kind ++ textB op.key ++ (if op.kind = 3 then textB op.old else [])).map byteV) ∧ Fresh w52 out ∧ Keep w52 w2 ∧ ObjAt w2 r181 (opC op) ∧ ¬ ownB out r181, ?_, ?_⟩
          · refine ⟨_, o195.cell 0 (by simp [opC]), BIf_dec (fun h8 => ?_) (fun h8 => ⟨?_, g2.fr, g2.k, o195, hn2⟩)⟩
            · refine ⟨_, o195.cell 3 (by simp [opC]), addText (by omega) g2.own g2.fr g2.k (by simp only [List.length_append]; omega) (fun s202 w203 g3 => ?_)⟩
              exact ⟨by rw [if_pos h8]; exact g3.own, g3.fr, g3.k, o195.ext g3.x hn2, g3.n r181 o195.lt hn2⟩
            · rw [if_neg h8, List.append_nil]; exact g2.own
          rintro out204 w205 ⟨h204, f204, k205, o205, hn3⟩
          intros
          have l3 : (B ++ numB op.kind ++ textB op.key ++ (if op.kind = 3 then textB op.old else [])).length ≤ 30 + 1000 * 20 + 700 := by
            have := textB_len op.old (by omega)
            simp only [List.length_append]
            split <;> (try simp only [List.length_nil]) <;> omega
          -- the next operation
          have next : ∀ {s' : Slc} {w' : World} {b : List UInt8}, Own w' s' 1 (b.map byteV) → Fresh w52 s' → Keep w52 w' → b = B ++ bytesOp op → (bytesOp op).length ≤ 1000 →
              inR .i64 ((k : Int) + 1) ∧ (∃ k2 : Nat, ((k : Int) + 1) = k2 ∧ k2 ≤ e.ops.length ∧ Own w' s' 1 ((H ++ (e.ops.take k2).flatMap bytesOp).map byteV) ∧ Fresh w52 s' ∧ Keep w52 w' ∧ ((e.ops.take k2).flatMap bytesOp).length ≤ 1000 * k2) ∧ ((e.ops.length : Int) - ((k : Int) + 1)).toNat < ((e.ops.length : Int) - (k : Int)).toNat := by
            intro s' w' b q1 q2 q3 q4 q5
            refine ⟨inR64 (by omega), ⟨k + 1, rfl, hkl, ?_, q2, q3, by rw [hsp, List.length_append]; omega⟩, by omega⟩
            rw [hsp, ← List.append_assoc, hB, ← q4]; exact q1
          have lv := textB_len op.val (by omega)
          have lo := textB_len op.old (by omega)
          refine ⟨_, o205.cell 0 (by simp [opC]), BIf_dec (fun h8 => ?_) (fun h8 => ?_)⟩
          · refine ⟨_, o205.cell 2 (by simp [opC]), addText (by omega) h204 f204 k205 (by omega) (fun s219 w220 g4 => ?_)⟩
            have o220 := o205.ext g4.x hn3
            refine ⟨_, o220.cell 0 (by simp [opC]), BIf_dec (fun h9 => absurd (h8.symm.trans h9) (by omega)) (fun h9 => next g4.own g4.fr g4.k ?_ ?_)⟩
            · unfold bytesOp; rw [h8]; simp
            · unfold bytesOp; rw [h8]; simp at l1 ⊢; rw [h8] at l1; omega
          · refine ⟨_, o205.cell 0 (by simp [opC]), BIf_dec (fun h9 => ?_) (fun h9 => ?_)⟩
            · refine ⟨_, o205.cell 2 (by simp [opC]), addText (by omega) h204 f204 k205 (by omega) (fun s219 w220 g4 => ?_)⟩
              have o220 := o205.ext g4.x hn3
              refine ⟨_, o220.cell 0 (by simp [opC]), BIf_dec (fun h10 => absurd (h9.symm.trans h10) (by omega)) (fun h10 => next g4.own g4.fr g4.k ?_ ?_)⟩
              · unfold bytesOp; rw [h9]; simp
              · unfold bytesOp; rw [h9]; simp at l1 ⊢; rw [h9] at l1; omega
            · refine ⟨_, o205.cell 0 (by simp [opC]), BIf_dec (fun h10 => ?_) (fun h10 => next h204 f204 k205 ?_ ?_)⟩
              · have hver : 0 ≤ op.ver ∧ op.ver ≤ 4096 := by rcases hkind with ⟨h, _⟩ | h | ⟨h, _⟩ | ⟨h, h2⟩ <;> omega
                have l5 := numB_len op.ver (by omega)
                refine ⟨_, o205.cell 4 (by simp [opC]), addNum (by omega) h204 f204 k205 (by omega) (fun s219 w220 g4 => next g4.own g4.fr g4.k ?_ ?_)⟩
                · unfold bytesOp; rw [h10]; simp
                · unfold bytesOp; rw [h10]; simp at l1 ⊢; rw [h10] at l1; omega
              · unfold bytesOp; rw [if_neg h9, if_neg (by omega), if_neg h10]; simp
              · unfold bytesOp; rw [if_neg h9, if_neg (by omega), if_neg h10]; simp; omega
        · have hkn : k = e.ops.length := by omega
          subst hkn
          rw [List.take_length] at ho
          exact ret ho hf k130 (by unfold tailE; rw [if_pos h1])
      · refine ⟨_, o107.cell 7 (by simp [enC]), addText (by have := hs.k; omega) ho hf k107 (by omega) (fun s253 w254 g => ret g.own g.fr g.k (by unfold tailE; rw [if_neg h1, if_pos h3]))⟩
      · refine ⟨sd, o107.cell 11 (by simp [enC]), e.data, hd107, addText (by have := hs.d; omega) ho hf k107 (by omega) (fun s253 w254 g => ret g.own g.fr g.k (by unfold tailE; rw [if_neg h1, if_neg h3, if_pos h5]))⟩
      · exact ret (b := []) (by simpa using ho) hf k107 (by unfold tailE; rw [if_neg h1, if_neg h3, if_neg h5])
end Go.D

set_option linter.unusedVariables false
set_option linter.unusedSimpArgs false
set_option maxRecDepth 8000
namespace Go.D
open Go Go.Proofs

/-! ### records -/
def recC (e : EnS) (so sd : Slc) : List Value :=
  if e.kind = 1 then [.int .i64 e.shard, .int .i64 e.client, .int .i64 e.seq, so.v]
  else if e.kind = 2 then [.int .i64 e.shard, .int .i64 e.server]
  else if e.kind = 3 then [.int .i64 e.shard, .int .i64 e.other, .int .i64 e.server, strV e.key]
  else if e.kind = 4 then [.int .i64 e.shard, .int .i64 e.other]
  else [.int .i64 e.shard, .int .i64 e.upto, .int .i64 e.parts, .int .i64 e.part, sd.v]
def recT (e : EnS) : Nat := if e.kind = 1 then ty_entry_writing else if e.kind = 2 then ty_entry_moving else if e.kind = 3 then ty_entry_splitting else if e.kind = 4 then ty_entry_merging else ty_entry_checking
def kindOk (e : EnS) : Prop := 1 ≤ e.kind ∧ e.kind ≤ 5
def recV (e : EnS) (so sd : Slc) : Value := if 1 ≤ e.kind ∧ e.kind ≤ 5 then .iface (recT e) (.agg ⟨recC e so sd⟩) else .nilIface
def isMeth (t : Nat) (nm : String) (g : Nat) : Prop := ∀ (v : Value) (w : World), (method (Array.size Tryd.prog.types + Made.depth) t v nm).run Tryd.prog w = .ok (g, v) w
theorem meth_wr : isMeth ty_entry_writing "tidewater/entry.right" fn_entry_writing_right := fun v w => by kernel_rfl
theorem meth_mr : isMeth ty_entry_moving "tidewater/entry.right" fn_entry_moving_right := fun v w => by kernel_rfl
theorem meth_sr : isMeth ty_entry_splitting "tidewater/entry.right" fn_entry_splitting_right := fun v w => by kernel_rfl
theorem meth_gr : isMeth ty_entry_merging "tidewater/entry.right" fn_entry_merging_right := fun v w => by kernel_rfl
theorem meth_cr : isMeth ty_entry_checking "tidewater/entry.right" fn_entry_checking_right := fun v w => by kernel_rfl
theorem meth_ws : isMeth ty_entry_writing "tidewater/entry.streams" fn_entry_writing_streams := fun v w => by kernel_rfl
theorem meth_ms : isMeth ty_entry_moving "tidewater/entry.streams" fn_entry_moving_streams := fun v w => by kernel_rfl
theorem meth_ss : isMeth ty_entry_splitting "tidewater/entry.streams" fn_entry_splitting_streams := fun v w => by kernel_rfl
theorem meth_gs : isMeth ty_entry_merging "tidewater/entry.streams" fn_entry_merging_streams := fun v w => by kernel_rfl
theorem meth_cs : isMeth ty_entry_checking "tidewater/entry.streams" fn_entry_checking_streams := fun v w => by kernel_rfl
theorem meth_ww : isMeth ty_entry_writing "tidewater/entry.write" fn_entry_writing_write := fun v w => by kernel_rfl
theorem meth_mw : isMeth ty_entry_moving "tidewater/entry.write" fn_entry_moving_write := fun v w => by kernel_rfl
theorem meth_sw : isMeth ty_entry_splitting "tidewater/entry.write" fn_entry_splitting_write := fun v w => by kernel_rfl
theorem meth_gw : isMeth ty_entry_merging "tidewater/entry.write" fn_entry_merging_write := fun v w => by kernel_rfl
theorem meth_cw : isMeth ty_entry_checking "tidewater/entry.write" fn_entry_checking_write := fun v w => by kernel_rfl

theorem within_spec (n m : Int) (w : World) : Calls Tryd.prog fn_entry_within ⟨[.int .i64 n, .int .i64 m]⟩ w fun e w' => e = .returned (.bool (uptoB n m)) ∧ w' = w := by
  refine entry_within_ok _ _ ?_
  unfold entry_within uptoB
  refine BIf_dec (fun h => ⟨by rw [decide_eq_true h]; rfl, rfl⟩) (fun h => ⟨by rw [decide_eq_false h]; rfl, rfl⟩)
theorem shard_spec (n : Int) (w : World) : Calls Tryd.prog fn_entry_shard ⟨[.int .i64 n]⟩ w fun e w' => e = .returned (.bool (uptoB n 12)) ∧ w' = w := by
  refine entry_shard_ok _ ?_
  unfold entry_shard
  refine (within_spec n 12 w).mono ?_
  rintro e w3 ⟨rfl, rfl⟩
  exact ⟨_, rfl, rfl, rfl⟩
theorem opRight_spec (A : Nat → Addr) {n0 : Nat} (o : OpS) (w : World) (hE : ErrsG keyG A n0 w) (hk : o.key.length ≤ 2 ^ 40) :
    Calls Tryd.prog fn_entry_opRight ⟨[.agg ⟨opC o⟩]⟩ w fun e w' => e = .returned (.bool (rightOp o)) ∧ Keep w w' := by
  refine entry_opRight_ok _ _ _ _ _ ?_
  unfold entry_opRight rightOp
  refine newS_mk (fun r w7 hr hb k7 hs => ?_)
  have oo : ObjAt w7 r (opC o) := ObjAt.new' hb
  refine ⟨_, oo.cell 1 (by simp [opC]), (runesKey_spec A o.key hk w7 (hE.keep k7)).mono ?_⟩
  rintro e w10 ⟨rfl, k10⟩
  have kk := k7.trans k10
  have o10 := oo.keep k10
  have hnil : isNilI (errO A (keyE o.key)) = keyOk o.key := errO_nil A _
  refine ⟨_, rfl, errO_isI A _, ?_⟩
  rw [hnil]
  refine BIf_mk (fun h => ⟨by rw [show keyOk o.key = false by simpa using h]; rfl, kk⟩) (fun h => ?_)
  rw [show keyOk o.key = true by simpa using h, Bool.true_and]
  refine ⟨_, o10.cell 0 (by simp [opC]), BIf_dec (fun h1 => ?_) (fun h1 => ?_)⟩
  · rw [if_pos h1]
    refine ⟨_, o10.cell 2 (by simp [opC]), ?_, kk⟩
    have e1 : decide (((o.val.length : Nat) : Int) ≤ 64) = decide (o.val.length ≤ 64) := decide_eq_decide.2 (by omega)
    rw [e1]
  rw [if_neg h1]
  refine BIf_dec (fun h2 => ?_) (fun h2 => ?_)
  · rw [if_pos h2]; exact ⟨rfl, kk⟩
  rw [if_neg h2]
  refine BIf_dec (fun h3 => ?_) (fun h3 => ?_)
  · rw [if_pos h3]
    refine ⟨_, o10.cell 2 (by simp [opC]), BIf_dec (fun h4 => ⟨_, o10.cell 3 (by simp [opC]), ?_, kk⟩) (fun h4 => ⟨?_, kk⟩)⟩
    · rw [show decide (o.val.length ≤ 64) = true from decide_eq_true (by omega), Bool.true_and]
      have e1 : decide (((o.old.length : Nat) : Int) ≤ 64) = decide (o.old.length ≤ 64) := decide_eq_decide.2 (by omega)
      rw [e1]
    · rw [show decide (o.val.length ≤ 64) = false from decide_eq_false (by omega)]; rfl
  rw [if_neg h3]
  refine BIf_dec (fun h4 => ?_) (fun h4 => ?_)
  · rw [if_pos h4]
    refine ⟨_, o10.cell 4 (by simp [opC]), BIf_dec (fun h5 => ⟨_, o10.cell 4 (by simp [opC]), ?_, kk⟩) (fun h5 => ⟨?_, kk⟩)⟩
    · rw [decide_eq_true h5]; rfl
    · rw [decide_eq_false h5]; rfl
  · rw [if_neg h4]; exact ⟨rfl, kk⟩
theorem opsBad_spec (A : Nat → Addr) {n0 : Nat} (so : Slc) (l : List OpS) (w : World) (h : OpsAt w so l) (hE : ErrsG keyG A n0 w) (hl : l.length ≤ 2 ^ 40) (hk : ∀ o ∈ l, o.key.length ≤ 2 ^ 40) :
    Calls Tryd.prog fn_slices_ContainsFunc_Op ⟨[so.v, .func (.func fn_entry_writing_right_1) ⟨[]⟩ ⟨[]⟩]⟩ w fun e w' => e = .returned (.bool (!l.all rightOp)) ∧ Keep w w' := by
  have hsl := h.1
  refine slices_ContainsFunc_Op_entry_writing_right_1_ok _ ?_
  unfold slices_ContainsFunc_Op_entry_writing_right_1
  have hidx : Calls Tryd.prog fn_slices_IndexFunc_Op ⟨[so.v, .func (.func fn_entry_writing_right_1) ⟨[]⟩ ⟨[]⟩]⟩ w fun e w' => ∃ i : Int, e = .returned (.int .i64 i) ∧ (0 ≤ i ↔ l.all rightOp = false) ∧ Keep w w' := by
    refine slices_IndexFunc_Op_entry_writing_right_1_ok _ ?_
    unfold slices_IndexFunc_Op_entry_writing_right_1
    refine ⟨fun i w2 => ∃ k : Nat, i = k ∧ k ≤ l.length ∧ Keep w w2 ∧ (l.take k).all rightOp = true, fun i _ => ((l.length : Int) - i).toNat, ⟨0, rfl, by omega, Ext.refl _ _, by simp⟩, ?_⟩
    rintro i w5 ⟨k, rfl, hkk, k5, hall⟩
    intros
    refine BIf_dec (fun h1 => ?_) (fun h1 => ?_)
    · have hkl : k < l.length := by omega
      obtain ⟨a, ha, hrow⟩ := (h.keep k5).2.2 k hkl
      have hmem : l[k] ∈ l := List.getElem_mem hkl
      have hone : Calls Tryd.prog fn_entry_writing_right_1 ⟨[.agg ⟨opC l[k]⟩]⟩ w5 fun e w' => e = .returned (.bool (!rightOp l[k])) ∧ Keep w5 w' := by
        refine entry_writing_right_1_ok _ _ _ _ _ ?_
        unfold entry_writing_right_1
        refine newS_mk (fun r w7 hr hb k7 hs => ?_)
        have oo : ObjAt w7 r (opC l[k]) := ObjAt.new' hb
        refine ⟨_, _, _, _, _, oo.row, (opRight_spec A l[k] w7 (hE.keep (k5.trans k7)) (hk _ hmem)).mono ?_⟩
        rintro e w14 ⟨rfl, k14⟩
        exact ⟨_, rfl, rfl, k7.trans k14⟩
      refine needSome_mk ha ⟨by omega, h1, _, _, _, _, _, by rw [Int.toNat_natCast]; exact hrow, hone.mono ?_⟩
      rintro e w25 ⟨rfl, k25⟩
      refine ⟨_, rfl, BIf_mk (fun h2 => ⟨_, rfl, ⟨fun _ => List.all_eq_false.2 ⟨_, hmem, by simpa using h2⟩, fun _ => by omega⟩, k5.trans k25⟩) (fun h2 => ⟨inR64 (by omega), ⟨k + 1, rfl, hkl, k5.trans k25, ?_⟩, by first | (dsimp only; omega) | omega⟩)⟩
      rw [List.take_succ_eq_append_getElem hkl, List.all_append, hall]
      simpa using h2
    · rw [List.take_of_length_le (by omega)] at hall
      exact ⟨_, rfl, ⟨fun h => by omega, fun h => by rw [hall] at h; cases h⟩, k5⟩
  refine hidx.mono ?_
  rintro e w3 ⟨i, rfl, hi, k3⟩
  refine ⟨i, rfl, ?_, k3⟩
  cases hh : l.all rightOp
  · rw [decide_eq_true (hi.2 hh)]; rfl
  · rw [decide_eq_false (fun h2 => by rw [hi.1 h2] at hh; cases hh)]; rfl

/-- What right says of a record. -/
theorem recRight_spec (A : Nat → Addr) {n0 : Nat} (e : EnS) (so sd : Slc) (w : World) (h : EnAt w e so sd) (hs : SmallE e) (hkd : kindOk e) (hE : ErrsG keyG A n0 w) :
    ∃ g, isMeth (recT e) "tidewater/entry.right" g ∧ callB g = true ∧ Calls Tryd.prog g ⟨[.agg ⟨recC e so sd⟩]⟩ w fun x w' => x = .returned (.bool (rightE e)) ∧ Keep w w' := by
  have hsl := h.o.1
  have hdl := h.d.1
  unfold recT recC rightE
  by_cases h1 : e.kind = 1
  · simp only [if_pos h1]
    refine ⟨_, meth_wr, by rfl, entry_writing_right_ok _ _ _ _ ?_⟩
    unfold entry_writing_right
    refine newS_mk (fun r w6 hr hb k6 hs6 => ?_)
    have o : ObjAt w6 r [.int .i64 e.shard, .int .i64 e.client, .int .i64 e.seq, so.v] := ObjAt.new' hb
    refine ⟨so, o.cell 3 (by simp), (opsBad_spec A so e.ops w6 (h.o.keep k6) (hE.keep k6) (by have := hs.n; omega) (fun o ho => by have := hs.o o ho; omega)).mono ?_⟩
    rintro x w9 ⟨rfl, k9⟩
    have kk := k6.trans k9
    have o := o.keep k9
    refine ⟨_, rfl, _, o.cell 0 (by simp), (shard_spec _ _).mono ?_⟩
    rintro x w13 ⟨rfl, rfl⟩
    refine ⟨_, rfl, BIf_mk (fun g1 => ⟨_, o.cell 1 (by simp), (within_spec _ _ _).mono ?_⟩) (fun g1 => ⟨by rw [g1]; rfl, kk⟩)⟩
    rintro x w17 ⟨rfl, rfl⟩
    refine ⟨_, rfl, BIf_mk (fun g2 => ⟨_, o.cell 2 (by simp), (within_spec _ _ _).mono ?_⟩) (fun g2 => ⟨by rw [g1, g2]; rfl, kk⟩)⟩
    rintro x w21 ⟨rfl, rfl⟩
    refine ⟨_, rfl, BIf_mk (fun g3 => ⟨so, o.cell 3 (by simp), (within_spec _ _ _).mono ?_⟩) (fun g3 => ⟨by rw [g1, g2, g3]; rfl, kk⟩)⟩
    rintro x w25 ⟨rfl, rfl⟩
    rw [hsl]
    exact ⟨_, rfl, BIf_mk (fun g4 => ⟨by rw [g1, g2, g3, g4]; simp, kk⟩) (fun g4 => ⟨by rw [g1, g2, g3, g4]; rfl, kk⟩)⟩
  simp only [if_neg h1]
  by_cases h2 : e.kind = 2
  · simp only [if_pos h2]
    refine ⟨_, meth_mr, by rfl, entry_moving_right_ok _ _ ?_⟩
    unfold entry_moving_right
    refine newS_mk (fun r w6 hr hb k6 hs6 => ?_)
    have o : ObjAt w6 r [.int .i64 e.shard, .int .i64 e.server] := ObjAt.new' hb
    refine ⟨_, o.cell 0 (by simp), (shard_spec _ _).mono ?_⟩
    rintro x w13 ⟨rfl, rfl⟩
    refine ⟨_, rfl, BIf_mk (fun g1 => ⟨_, o.cell 1 (by simp), (within_spec _ _ _).mono ?_⟩) (fun g1 => ⟨by rw [g1]; rfl, k6⟩)⟩
    rintro x w17 ⟨rfl, rfl⟩
    exact ⟨_, rfl, by rw [g1]; rfl, k6⟩
  simp only [if_neg h2]
  by_cases h3 : e.kind = 3
  · simp only [if_pos h3]
    refine ⟨_, meth_sr, by rfl, entry_splitting_right_ok _ _ _ _ ?_⟩
    unfold entry_splitting_right twoB
    refine newS_mk (fun r w6 hr hb k6 hs6 => ?_)
    have o : ObjAt w6 r [.int .i64 e.shard, .int .i64 e.other, .int .i64 e.server, strV e.key] := ObjAt.new' hb
    refine ⟨_, o.cell 0 (by simp), (shard_spec _ _).mono ?_⟩
    rintro x w13 ⟨rfl, rfl⟩
    refine ⟨_, rfl, BIf_mk (fun g1 => ⟨_, o.cell 1 (by simp), (shard_spec _ _).mono ?_⟩) (fun g1 => ⟨by rw [g1]; rfl, k6⟩)⟩
    rintro x w17 ⟨rfl, rfl⟩
    refine ⟨_, rfl, BIf_mk (fun g2 => ⟨_, o.cell 0 (by simp), _, o.cell 1 (by simp), BIf_ndec (fun g3 => ⟨_, o.cell 2 (by simp), (within_spec _ _ _).mono ?_⟩) (fun g3 => ⟨by rw [g1, g2]; simp [g3], k6⟩)⟩) (fun g2 => ⟨by rw [g1, g2]; rfl, k6⟩)⟩
    rintro x w19 ⟨rfl, rfl⟩
    refine ⟨_, rfl, BIf_mk (fun g4 => ⟨_, o.cell 3 (by simp), (runesKey_spec A e.key (by have := hs.k; omega) _ (hE.keep k6)).mono ?_⟩) (fun g4 => ⟨by rw [g1, g2, g4]; simp, k6⟩)⟩
    rintro x w23 ⟨rfl, k23⟩
    refine ⟨_, rfl, errO_isI A _, ?_, k6.trans k23⟩
    rw [errO_nil, g1, g2, g4]
    simp [g3, keyOk]
  simp only [if_neg h3]
  by_cases h4 : e.kind = 4
  · simp only [if_pos h4]
    refine ⟨_, meth_gr, by rfl, entry_merging_right_ok _ _ ?_⟩
    unfold entry_merging_right twoB
    refine newS_mk (fun r w6 hr hb k6 hs6 => ?_)
    have o : ObjAt w6 r [.int .i64 e.shard, .int .i64 e.other] := ObjAt.new' hb
    refine ⟨_, o.cell 0 (by simp), (shard_spec _ _).mono ?_⟩
    rintro x w13 ⟨rfl, rfl⟩
    refine ⟨_, rfl, BIf_mk (fun g1 => ⟨_, o.cell 1 (by simp), (shard_spec _ _).mono ?_⟩) (fun g1 => ⟨by rw [g1]; rfl, k6⟩)⟩
    rintro x w17 ⟨rfl, rfl⟩
    exact ⟨_, rfl, BIf_mk (fun g2 => ⟨_, o.cell 0 (by simp), _, o.cell 1 (by simp), by rw [g1, g2]; simp, k6⟩) (fun g2 => ⟨by rw [g1, g2]; rfl, k6⟩)⟩
  have h5 : e.kind = 5 := by unfold kindOk at hkd; omega
  simp only [if_neg h4, if_pos h5]
  refine ⟨_, meth_cr, by rfl, entry_checking_right_ok _ _ _ _ _ ?_⟩
  unfold entry_checking_right
  refine newS_mk (fun r w6 hr hb k6 hs6 => ?_)
  have o : ObjAt w6 r [.int .i64 e.shard, .int .i64 e.upto, .int .i64 e.parts, .int .i64 e.part, sd.v] := ObjAt.new' hb
  have ed : decide (((sd.l : Nat) : Int) ≤ 256) = decide (e.data.length ≤ 256) := decide_eq_decide.2 (by omega)
  -- behind the shard
  have rest : ∀ (T U : Bool), T = true → U = true → ∃ n9 : Int, World.cell? w6 (⟨r, 1, none⟩ : Addr) = some (Value.int .i64 n9) ∧
      BIf (decide ((0 : Int) ≤ n9)) (
        ∃ n10 : Int, World.cell? w6 (⟨r, 1, none⟩ : Addr) = some (Value.int .i64 n10) ∧
        BIf (decide (n10 ≤ (4096 : Int))) (
          ∃ n11 : Int, World.cell? w6 (⟨r, 2, none⟩ : Addr) = some (Value.int .i64 n11) ∧
          Calls Tryd.prog fn_entry_within ⟨[(Value.int .i64 n11), (Value.int .i64 (64 : Int))]⟩ w6 fun e12 w13 =>
          ∃ b14 : Bool, e12 = .returned (Value.bool b14) ∧
          BIf b14 (
            ∃ n15 : Int, World.cell? w13 (⟨r, 3, none⟩ : Addr) = some (Value.int .i64 n15) ∧
            BIf (decide ((0 : Int) ≤ n15)) (
              ∃ n16 : Int, World.cell? w13 (⟨r, 3, none⟩ : Addr) = some (Value.int .i64 n16) ∧
              ∃ n17 : Int, World.cell? w13 (⟨r, 2, none⟩ : Addr) = some (Value.int .i64 n17) ∧
              BIf (decide (n16 < n17)) (
                ∃ s18 : Slc, World.cell? w13 (⟨r, 4, none⟩ : Addr) = some (Slc.v s18) ∧
                (Ending.returned (Value.bool (decide (((s18.l : Nat) : Int) ≤ (256 : Int)))) = .returned (.bool (T && (U && (decide (0 ≤ e.upto) && (decide (e.upto ≤ 4096) && (uptoB e.parts 64 && (decide (0 ≤ e.part) && (decide (e.part < e.parts) && decide (e.data.length ≤ 256))))))))) ∧ Keep w w13)) (
                (Ending.returned (Value.bool false) = .returned (.bool (T && (U && (decide (0 ≤ e.upto) && (decide (e.upto ≤ 4096) && (uptoB e.parts 64 && (decide (0 ≤ e.part) && (decide (e.part < e.parts) && decide (e.data.length ≤ 256))))))))) ∧ Keep w w13))) (
              (Ending.returned (Value.bool false) = .returned (.bool (T && (U && (decide (0 ≤ e.upto) && (decide (e.upto ≤ 4096) && (uptoB e.parts 64 && (decide (0 ≤ e.part) && (decide (e.part < e.parts) && decide (e.data.length ≤ 256))))))))) ∧ Keep w w13))) (
            (Ending.returned (Value.bool false) = .returned (.bool (T && (U && (decide (0 ≤ e.upto) && (decide (e.upto ≤ 4096) && (uptoB e.parts 64 && (decide (0 ≤ e.part) && (decide (e.part < e.parts) && decide (e.data.length ≤ 256))))))))) ∧ Keep w w13))) (
          (Ending.returned (Value.bool false) = .returned (.bool (T && (U && (decide (0 ≤ e.upto) && (decide (e.upto ≤ 4096) && (uptoB e.parts 64 && (decide (0 ≤ e.part) && (decide (e.part < e.parts) && decide (e.data.length ≤ 256))))))))) ∧ Keep w w6))) (
        (Ending.returned (Value.bool false) = .returned (.bool (T && (U && (decide (0 ≤ e.upto) && (decide (e.upto ≤ 4096) && (uptoB e.parts 64 && (decide (0 ≤ e.part) && (decide (e.part < e.parts) && decide (e.data.length ≤ 256))))))))) ∧ Keep w w6)) := by
    rintro T U rfl rfl
    refine ⟨_, o.cell 1 (by simp), BIf_dec (fun g1 => ⟨_, o.cell 1 (by simp), BIf_dec (fun g2 => ⟨_, o.cell 2 (by simp), (within_spec _ _ _).mono ?_⟩) (fun g2 => ⟨by rw [decide_eq_false g2]; simp, k6⟩)⟩) (fun g1 => ⟨by rw [decide_eq_false g1]; simp, k6⟩)⟩
    rintro x w13 ⟨rfl, rfl⟩
    rw [decide_eq_true g1, decide_eq_true g2]
    refine ⟨_, rfl, BIf_mk (fun g3 => ⟨_, o.cell 3 (by simp), BIf_dec (fun g4 => ⟨_, o.cell 3 (by simp), _, o.cell 2 (by simp), BIf_dec (fun g5 => ⟨sd, o.cell 4 (by simp), ?_, k6⟩) (fun g5 => ⟨by rw [decide_eq_false g5]; simp, k6⟩)⟩) (fun g4 => ⟨by rw [decide_eq_false g4]; simp, k6⟩)⟩) (fun g3 => ⟨by rw [g3]; simp, k6⟩)⟩
    rw [ed, g3, decide_eq_true g4, decide_eq_true g5]; rfl
  refine ⟨_, o.cell 0 (by simp), BIf_dec (fun g1 => rest _ _ (decide_eq_true (by omega)) (decide_eq_true (by omega))) (fun g1 => ?_)⟩
  refine ⟨_, o.cell 0 (by simp), (shard_spec _ _).mono ?_⟩
  rintro x w21 ⟨rfl, rfl⟩
  refine ⟨_, rfl, BIf_mk (fun g2 => ?_) (fun g2 => ⟨?_, k6⟩)⟩
  · have := uptoB_iff.1 g2
    exact rest _ _ (decide_eq_true (by omega)) (decide_eq_true (by omega))
  · have : ¬ (0 ≤ e.shard ∧ e.shard ≤ 12) := fun hh => by
      have : uptoB e.shard 12 = true := uptoB_iff.2 (by omega)
      rw [this] at g2; cases g2
    by_cases q : 0 ≤ e.shard
    · rw [decide_eq_true q, decide_eq_false (show ¬ e.shard ≤ 12 by omega)]; simp
    · rw [decide_eq_false q]; simp

theorem of_spec05 (e : EnS) (so sd : Slc) (w : World) :
    Calls Tryd.prog fn_entry_of ⟨[.agg ⟨enC e so sd⟩]⟩ w fun x w' => x = .returned (recV e so sd) ∧ Keep w w' := by
  refine entry_of_ok _ _ _ _ _ _ _ _ _ _ _ _ ?_
  unfold entry_of recV recT recC
  refine newS_mk (fun r w14 hr hb k14 hs => ?_)
  have o : ObjAt w14 r (enC e so sd) := ObjAt.new' hb
  refine ⟨_, o.cell 0 (by simp [enC]), BIf_dec (fun h1 => ?_) (fun h1 => BIf_dec (fun h2 => ?_) (fun h2 => BIf_dec (fun h3 => ?_) (fun h3 => BIf_dec (fun h4 => ?_) (fun h4 => BIf_dec (fun h5 => ?_) (fun h5 => ?_)))))⟩
  · refine ⟨_, o.cell 1 (by simp [enC]), _, o.cell 4 (by simp [enC]), _, o.cell 5 (by simp [enC]), so, o.cell 6 (by simp [enC]), ?_, k14⟩
    rw [if_pos (by omega), if_pos h1, if_pos h1]
  · refine ⟨_, o.cell 1 (by simp [enC]), _, o.cell 3 (by simp [enC]), ?_, k14⟩
    rw [if_pos (by omega), if_neg h1, if_neg h1, if_pos h2, if_pos h2]
  · refine ⟨_, o.cell 1 (by simp [enC]), _, o.cell 2 (by simp [enC]), _, o.cell 3 (by simp [enC]), _, o.cell 7 (by simp [enC]), ?_, k14⟩
    rw [if_pos (by omega), if_neg h1, if_neg h1, if_neg h2, if_neg h2, if_pos h3, if_pos h3]
  · refine ⟨_, o.cell 1 (by simp [enC]), _, o.cell 2 (by simp [enC]), ?_, k14⟩
    rw [if_pos (by omega), if_neg h1, if_neg h1, if_neg h2, if_neg h2, if_neg h3, if_neg h3, if_pos h4, if_pos h4]
  · refine ⟨_, o.cell 1 (by simp [enC]), _, o.cell 8 (by simp [enC]), _, o.cell 10 (by simp [enC]), _, o.cell 9 (by simp [enC]), sd, o.cell 11 (by simp [enC]), ?_, k14⟩
    rw [if_pos (by omega), if_neg h1, if_neg h1, if_neg h2, if_neg h2, if_neg h3, if_neg h3, if_neg h4, if_neg h4]
  · refine ⟨?_, k14⟩
    rw [if_neg (by omega)]
theorem right_kind {e : EnS} (h : rightE e = true) : kindOk e := by
  unfold kindOk
  rcases right_cases h with ⟨k, _⟩ | ⟨k, _⟩ | ⟨k, _⟩ | ⟨k, _⟩ | ⟨k, _⟩ <;> omega
theorem entryRight_spec (A : Nat → Addr) {n0 : Nat} (e : EnS) (so sd : Slc) (w : World) (h : EnAt w e so sd) (hs : SmallE e) (hE : ErrsG keyG A n0 w) :
    Calls Tryd.prog fn_entry_Right ⟨[.agg ⟨enC e so sd⟩]⟩ w fun x w' => x = .returned (.bool (rightE e)) ∧ Keep w w' := by
  refine entry_Right_ok _ _ _ _ _ _ _ _ _ _ _ _ ?_
  unfold entry_Right
  refine newS_mk (fun r w14 hr hb k14 hs14 => ?_)
  have o : ObjAt w14 r (enC e so sd) := ObjAt.new' hb
  refine ⟨_, _, _, _, _, _, _, _, _, _, _, _, o.row, (of_spec05 e so sd w14).mono ?_⟩
  rintro x w28 ⟨rfl, k28⟩
  have kk := k14.trans k28
  refine ⟨_, rfl, ?_⟩
  by_cases hk : kindOk e
  · have hv : recV e so sd = .iface (recT e) (.agg ⟨recC e so sd⟩) := if_pos hk
    rw [hv]
    refine ⟨trivial, BIf_mk (fun _ => ?_) (fun h => by cases h)⟩
    obtain ⟨g, hm, hcb, hc⟩ := recRight_spec A e so sd w28 (h.keep kk) hs hk (hE.keep kk)
    refine ⟨_, _, _, g, rfl, hm _, hcb, hc.mono ?_⟩
    rintro x w35 ⟨rfl, k35⟩
    exact ⟨_, rfl, rfl, kk.trans k35⟩
  · have hv : recV e so sd = .nilIface := if_neg hk
    rw [hv]
    refine ⟨trivial, BIf_mk (fun h => by cases h) (fun _ => ⟨?_, kk⟩)⟩
    have : rightE e = false := by
      cases hh : rightE e
      · rfl
      · exact (hk (right_kind hh)).elim
    rw [this]
end Go.D

set_option linter.unusedVariables false
set_option linter.unusedSimpArgs false
set_option maxRecDepth 8000
namespace Go.D
open Go Go.Proofs

/-! ### a writer without an error, whose blocks are new since w0 -/
structure OutK (A : Nat → Addr) (w0 w : World) (r : Nat) (s : Slc) (b : List UInt8) : Prop where
  o : OutS A w r s (b, none)
  m : ∀ k, OutM r s k → w0.heap.size ≤ k
  k : Keep w0 w
section
variable {A : Nat → Addr} {n0 : Nat} {w0 w : World} {r : Nat} {s : Slc} {b : List UInt8}
theorem OutK.keep {w' : World} (h : OutK A w0 w r s b) (k : Keep w w') : OutK A w0 w' r s b := ⟨OutAt.keep h.o k, h.m, h.k.trans k⟩
theorem OutK.lt (h : OutK A w0 w r s b) : ∀ k, OutM r s k → k < w.heap.size := by
  rintro k (rfl | hk)
  · exact h.o.1.lt
  · exact OwnLt h.o.2.1 k hk
theorem foot_obj {w' : World} {s' : Slc} {x : Nat} {cs : List Value} (f : Foot (OutM r s) (OutM r s') w w') (ho : ObjAt w x cs) (hn : ¬ OutM r s x) : ObjAt w' x cs ∧ ¬ OutM r s' x :=
  ⟨ho.ext f.1 hn, fun hh => (f.2 x hh).elim hn (fun h => by have := ho.lt; omega)⟩
theorem outNum {n : Int} (h : OutK A w0 w r s b) (hn : 0 ≤ n ∧ n ≤ 2 ^ 40) (hb : b.length ≤ 2 ^ 19) (hE : ErrsB A n0 w0) :
    Calls Tryd.prog fn_pack_Out_Num ⟨[.pointer (some ⟨r, 0, none⟩), .int .i64 n]⟩ w fun e w' => e = .returned (.tuple #[]) ∧ ∃ s', OutK A w0 w' r s' (b ++ numB n) ∧ Foot (OutM r s) (OutM r s') w w' := by
  refine (OutS_Num A n0 r s (b, none) n w h.o (by omega) (by simp only; omega) (hE.keep h.k)).mono ?_
  rintro e w' ⟨rfl, s', g1, g2⟩
  have e1 : oNum n (b, none) = (b ++ numB n, none) := by unfold oNum numB; rw [if_neg (by omega)]
  rw [e1] at g1
  obtain ⟨g3, g4⟩ := g2.new h.k h.m
  exact ⟨rfl, s', ⟨g1, g4, g3⟩, g2⟩
theorem outText {t : List UInt8} (h : OutK A w0 w r s b) (ht : t.length ≤ 2 ^ 19) (hb : b.length ≤ 2 ^ 19) (hE : ErrsB A n0 w0) :
    Calls Tryd.prog fn_pack_Out_Text ⟨[.pointer (some ⟨r, 0, none⟩), strV t]⟩ w fun e w' => e = .returned (.tuple #[]) ∧ ∃ s', OutK A w0 w' r s' (b ++ textB t) ∧ Foot (OutM r s) (OutM r s') w w' := by
  refine (OutS_Text A n0 r s (b, none) t w h.o (by simp only; omega) (by omega) (hE.keep h.k)).mono ?_
  rintro e w' ⟨rfl, s', g1, g2⟩
  have e1 : oText t (b, none) = (b ++ textB t, none) := by unfold oText textB; simp
  rw [e1] at g1
  obtain ⟨g3, g4⟩ := g2.new h.k h.m
  exact ⟨rfl, s', ⟨g1, g4, g3⟩, g2⟩
end

theorem nums_spec (A : Nat → Addr) {n0 : Nat} {w0 w : World} {r : Nat} {s : Slc} {b : List UInt8} (l : List Int) (rl : Nat) (h : OutK A w0 w r s b) (hE : ErrsB A n0 w0) (ho : ObjAt w rl (l.map intV)) (hr : ¬ OutM r s rl) (hl : l.length ≤ 10) (hn : ∀ n ∈ l, 0 ≤ n ∧ n ≤ 2 ^ 40) (hb : b.length ≤ 2 ^ 18) :
    Calls Tryd.prog fn_entry_nums ⟨[.pointer (some ⟨r, 0, none⟩), (⟨some ⟨rl, 0, none⟩, l.length, l.length⟩ : Slc).v]⟩ w fun e w' => e = .returned (.tuple #[]) ∧ ∃ s', OutK A w0 w' r s' (b ++ l.flatMap numB) ∧ Foot (OutM r s) (OutM r s') w w' := by
  refine entry_nums_ok _ _ ?_
  unfold entry_nums
  refine ⟨fun i w2 => ∃ (k : Nat) (s' : Slc), i = k ∧ k ≤ l.length ∧ OutK A w0 w2 r s' (b ++ (l.take k).flatMap numB) ∧ Foot (OutM r s) (OutM r s') w w2, fun i _ => ((l.length : Int) - i).toNat, ⟨0, s, rfl, by omega, by simpa using h, Foot.refl _ _⟩, ?_⟩
  rintro i w6 ⟨k, s', rfl, hk, h6, f6⟩
  intros
  obtain ⟨o6, hr6⟩ := foot_obj f6 ho hr
  have hlen := heads_len (l.take k) (fun n hn' => (hn n (List.mem_of_mem_take hn')).2)
  have htk : (l.take k).length ≤ 10 := by rw [List.length_take]; omega
  refine BIf_dec (fun h1 => ?_) (fun h1 => ?_)
  · have hkl : k < l.length := by simp only at h1; omega
    have hc := o6.cell k (by simpa using hkl)
    rw [List.getElem_map] at hc
    refine needSome_mk rfl ⟨by omega, by simp only; omega, l[k], by rw [add_lit, show 0 + Int.toNat (k : Int) * 1 = k by omega]; exact hc, ?_⟩
    refine (outNum h6 (hn _ (List.getElem_mem hkl)) (by rw [List.length_append]; omega) hE).mono ?_
    rintro e w18 ⟨rfl, s18, g1, g2⟩
    refine ⟨rfl, inR64 (by omega), ⟨k + 1, s18, rfl, hkl, ?_, f6.trans g2⟩, by first | (dsimp only; omega) | omega⟩
    rw [List.take_succ_eq_append_getElem hkl, List.flatMap_append, ← List.append_assoc]
    simpa using g1
  · rw [List.take_of_length_le (by simp only at h1; omega)] at h6
    exact ⟨rfl, s', h6, f6⟩

/-- What write writes of a record. -/
theorem recWrite_spec (A : Nat → Addr) {n0 : Nat} (e : EnS) (so sd : Slc) {w0 w : World} {r : Nat} {s : Slc} {b : List UInt8} (h : EnAt w0 e so sd) (hs : SmallE e) (hr : rightE e = true) (hO : OutK A w0 w r s b) (hE : ErrsB A n0 w0) (hb : b.length ≤ 2 ^ 16) :
    ∃ g, isMeth (recT e) "tidewater/entry.write" g ∧ callB g = true ∧ Calls Tryd.prog g ⟨[.agg ⟨recC e so sd⟩, .pointer (some ⟨r, 0, none⟩)]⟩ w fun x w' => x = .returned (.tuple #[]) ∧ ∃ s', OutK A w0 w' r s' (b ++ bytesE e) := by
  have hsl := h.o.1
  obtain ⟨hh5, hin⟩ := head_ok hr
  have hlt := hO.lt
  have hhl := heads_len (headE e) (fun n hn => (hin n hn).2)
  unfold bytesE recT recC
  by_cases h1 : e.kind = 1
  · simp only [if_pos h1]
    refine ⟨_, meth_ww, by rfl, entry_writing_write_ok _ _ _ _ _ ?_⟩
    unfold entry_writing_write
    refine newS_mk (fun r6 w7 hr6 hb6 k6 hs6 => ?_)
    have o6 : ObjAt w7 r6 [.int .i64 e.shard, .int .i64 e.client, .int .i64 e.seq, so.v] := ObjAt.new' hb6
    refine ⟨_, o6.cell 0 (by simp), _, o6.cell 1 (by simp), _, o6.cell 2 (by simp), so, o6.cell 3 (by simp), newS_mk (fun r12 w13 hr12 hb12 k12 hs12 => ?_)⟩
    have hhd : headE e = [1, e.shard, e.client, e.seq, (e.ops.length : Int)] := by unfold headE; rw [h1]; rfl
    rw [hsl] at hb12
    have z6 := k6.size
    have n6 : ¬ OutM r s r6 := fun hx => by have := hlt _ hx; omega
    have n12 : ¬ OutM r s r12 := fun hx => by have := hlt _ hx; omega
    have o12 : ObjAt w13 r12 ((headE e).map intV) := by rw [hhd]; exact ObjAt.new' hb12
    have hN := nums_spec A (headE e) r12 ((hO.keep k6).keep k12) hE o12 n12 (by omega) hin (by omega)
    rw [show (headE e).length = 5 by rw [hhd]; rfl] at hN
    refine hN.mono ?_
    rintro x w15 ⟨rfl, s15, g15, f15⟩
    obtain ⟨o15, n15⟩ := foot_obj f15 (o6.keep k12) n6
    refine ⟨rfl, so, o15.cell 3 (by simp), ?_⟩
    have hrops : ∀ o ∈ e.ops, rightOp o = true := by
      rcases right_cases hr with ⟨k, _, _, _, _, hh⟩ | ⟨k, _⟩ | ⟨k, _⟩ | ⟨k, _⟩ | ⟨k, _⟩
      · exact hh
      all_goals omega
    have hsn := hs.n
    generalize hH : (headE e).flatMap numB = H at *
    refine ⟨fun i w2 => ∃ (k : Nat) (s' : Slc), i = k ∧ k ≤ e.ops.length ∧ OutK A w0 w2 r s' (b ++ H ++ (e.ops.take k).flatMap bytesOp) ∧ ((e.ops.take k).flatMap bytesOp).length ≤ 1000 * k, fun i _ => ((e.ops.length : Int) - i).toNat, ⟨0, s15, rfl, by omega, by simpa using g15, by simp⟩, ?_⟩
    rintro i w20 ⟨k, s20, rfl, hk, g20, hbl⟩
    intros
    refine BIf_dec (fun h7 => ?_) (fun h7 => ?_)
    · have hkl : k < e.ops.length := by omega
      obtain ⟨a, ha, hrow⟩ := (h.o.keep g20.k).2.2 k hkl
      have hsm := hs.o _ (List.getElem_mem hkl)
      have hro := hrops _ (List.getElem_mem hkl)
      obtain ⟨_, hkind⟩ := rightOp_cases hro
      have hsp : (e.ops.take (k + 1)).flatMap bytesOp = (e.ops.take k).flatMap bytesOp ++ bytesOp e.ops[k] := by
        rw [List.take_succ_eq_append_getElem hkl, List.flatMap_append]; simp
      generalize hop : e.ops[k] = op at *
      have hk14 : 1 ≤ op.kind ∧ op.kind ≤ 4 := by rcases hkind with ⟨h, _⟩ | h | ⟨h, _⟩ | ⟨h, _⟩ <;> omega
      generalize hB : b ++ H ++ (e.ops.take k).flatMap bytesOp = B at g20
      have hBl : B.length ≤ 2 ^ 16 + 30 + 1000 * 20 := by rw [← hB]; simp only [List.length_append]; omega
      refine needSome_mk ha ⟨by omega, h7, _, _, _, _, _, by rw [Int.toNat_natCast]; exact hrow, ?_⟩
      refine var_mk (cs := opC op) rfl rfl (fun r64 w66 hr64 o64 k64 hs64 => ?_)
      have n64 : ¬ OutM r s20 r64 := fun hx => by have := g20.lt _ hx; omega
      have l1 := numB_len op.kind (by omega)
      have l2 := textB_len op.key (by omega)
      have lv := textB_len op.val (by omega)
      have lo := textB_len op.old (by omega)
      refine ⟨_, o64.cell 0 (by simp [opC]), (outNum (g20.keep k64) (by omega) (by omega) hE).mono ?_⟩
      rintro x w69 ⟨rfl, s69, g69, f69⟩
      obtain ⟨o69, n69⟩ := foot_obj f69 o64 n64
      refine ⟨rfl, _, o69.cell 1 (by simp [opC]), (outText g69 (by omega) (by rw [List.length_append]; omega) hE).mono ?_⟩
      rintro x w72 ⟨rfl, s72, g72, f72⟩
      obtain ⟨o72, n72⟩ := foot_obj f72 o69 n69
      have next : ∀ {s' : Slc} {w' : World} {c : List UInt8}, OutK A w0 w' r s' c → c = B ++ bytesOp op → (bytesOp op).length ≤ 1000 →
          inR .i64 ((k : Int) + 1) ∧ (∃ (k2 : Nat) (s' : Slc), ((k : Int) + 1) = k2 ∧ k2 ≤ e.ops.length ∧ OutK A w0 w' r s' (b ++ H ++ (e.ops.take k2).flatMap bytesOp) ∧ ((e.ops.take k2).flatMap bytesOp).length ≤ 1000 * k2) ∧ ((e.ops.length : Int) - ((k : Int) + 1)).toNat < ((e.ops.length : Int) - (k : Int)).toNat := by
        intro s' w' c q1 q4 q5
        refine ⟨inR64 (by omega), ⟨k + 1, s', rfl, hkl, ?_, by rw [hsp, List.length_append]; omega⟩, by omega⟩
        rw [hsp, ← List.append_assoc, hB, ← q4]; exact q1
      have l3 : (B ++ numB op.kind ++ textB op.key).length ≤ 2 ^ 18 := by simp only [List.length_append]; omega
      refine ⟨rfl, _, o72.cell 0 (by simp [opC]), BIf_dec (fun h8 => ?_) (fun h8 => BIf_dec (fun h9 => ?_) (fun h9 => BIf_dec (fun h10 => ?_) (fun h10 => next g72 ?_ ?_)))⟩
      · refine ⟨_, o72.cell 2 (by simp [opC]), (outText g72 (by omega) (by omega) hE).mono ?_⟩
        rintro x w76 ⟨rfl, s76, g76, f76⟩
        refine ⟨rfl, next g76 ?_ ?_⟩
        · unfold bytesOp; rw [h8]; simp
        · unfold bytesOp; rw [h8] at l1 ⊢; simp at l1 ⊢; omega
      · refine ⟨_, o72.cell 3 (by simp [opC]), (outText g72 (by omega) (by omega) hE).mono ?_⟩
        rintro x w79 ⟨rfl, s79, g79, f79⟩
        obtain ⟨o79, n79⟩ := foot_obj f79 o72 n72
        refine ⟨rfl, _, o79.cell 2 (by simp [opC]), (outText g79 (by omega) (by rw [List.length_append]; omega) hE).mono ?_⟩
        rintro x w82 ⟨rfl, s82, g82, f82⟩
        refine ⟨rfl, next g82 ?_ ?_⟩
        · unfold bytesOp; rw [h9]; simp
        · unfold bytesOp; rw [h9] at l1 ⊢; simp at l1 ⊢; omega
      · have hver : 0 ≤ op.ver ∧ op.ver ≤ 4096 := by rcases hkind with ⟨h, _⟩ | h | ⟨h, _⟩ | ⟨h, h2⟩ <;> omega
        have l5 := numB_len op.ver (by omega)
        refine ⟨_, o72.cell 4 (by simp [opC]), (outNum g72 (by omega) (by omega) hE).mono ?_⟩
        rintro x w85 ⟨rfl, s85, g85, f85⟩
        refine ⟨rfl, next g85 ?_ ?_⟩
        · unfold bytesOp; rw [h10]; simp
        · unfold bytesOp; rw [h10] at l1 ⊢; simp at l1 ⊢; omega
      · unfold bytesOp; rw [if_neg h9, if_neg (by omega), if_neg h10]; simp
      · unfold bytesOp; rw [if_neg h9, if_neg (by omega), if_neg h10]; simp; omega
    · have hkn : k = e.ops.length := by omega
      subst hkn
      rw [List.take_length] at g20
      refine ⟨rfl, s20, ?_⟩
      unfold tailE
      rw [if_pos h1, ← List.append_assoc]; exact g20
  simp only [if_neg h1]
  by_cases h2 : e.kind = 2
  · simp only [if_pos h2]
    refine ⟨_, meth_mw, by rfl, entry_moving_write_ok _ _ _ ?_⟩
    unfold entry_moving_write
    refine newS_mk (fun r6 w7 hr6 hb6 k6 hs6 => ?_)
    have o6 : ObjAt w7 r6 [.int .i64 e.shard, .int .i64 e.server] := ObjAt.new' hb6
    refine ⟨_, o6.cell 0 (by simp), _, o6.cell 1 (by simp), newS_mk (fun r12 w13 hr12 hb12 k12 hs12 => ?_)⟩
    have hhd : headE e = [2, e.shard, e.server] := by unfold headE; rw [h2]; rfl
    have z6 := k6.size
    have n12 : ¬ OutM r s r12 := fun hx => by have := hlt _ hx; omega
    have o12 : ObjAt w13 r12 ((headE e).map intV) := by rw [hhd]; exact ObjAt.new' hb12
    have hN := nums_spec A (headE e) r12 ((hO.keep k6).keep k12) hE o12 n12 (by omega) hin (by omega)
    rw [show (headE e).length = 3 by rw [hhd]; rfl] at hN
    refine hN.mono ?_
    rintro x w15 ⟨rfl, s15, g15, f15⟩
    refine ⟨rfl, rfl, s15, ?_⟩
    unfold tailE
    rw [if_neg h1, if_neg (by omega), if_neg (by omega), List.append_nil]; exact g15
  simp only [if_neg h2]
  by_cases h3 : e.kind = 3
  · simp only [if_pos h3]
    refine ⟨_, meth_sw, by rfl, entry_splitting_write_ok _ _ _ _ _ ?_⟩
    unfold entry_splitting_write
    refine newS_mk (fun r6 w7 hr6 hb6 k6 hs6 => ?_)
    have o6 : ObjAt w7 r6 [.int .i64 e.shard, .int .i64 e.other, .int .i64 e.server, strV e.key] := ObjAt.new' hb6
    refine ⟨_, o6.cell 0 (by simp), _, o6.cell 1 (by simp), _, o6.cell 2 (by simp), newS_mk (fun r12 w13 hr12 hb12 k12 hs12 => ?_)⟩
    have hhd : headE e = [3, e.shard, e.other, e.server] := by unfold headE; rw [h3]; rfl
    have z6 := k6.size
    have n6 : ¬ OutM r s r6 := fun hx => by have := hlt _ hx; omega
    have n12 : ¬ OutM r s r12 := fun hx => by have := hlt _ hx; omega
    have o12 : ObjAt w13 r12 ((headE e).map intV) := by rw [hhd]; exact ObjAt.new' hb12
    have hN := nums_spec A (headE e) r12 ((hO.keep k6).keep k12) hE o12 n12 (by omega) hin (by omega)
    rw [show (headE e).length = 4 by rw [hhd]; rfl] at hN
    refine hN.mono ?_
    rintro x w15 ⟨rfl, s15, g15, f15⟩
    obtain ⟨o15, n15⟩ := foot_obj f15 (o6.keep k12) n6
    refine ⟨rfl, _, o15.cell 3 (by simp), (outText g15 (by have := hs.k; omega) (by rw [List.length_append]; omega) hE).mono ?_⟩
    rintro x w17 ⟨rfl, s17, g17, f17⟩
    refine ⟨rfl, rfl, s17, ?_⟩
    unfold tailE
    rw [if_neg h1, if_pos h3, ← List.append_assoc]; exact g17
  simp only [if_neg h3]
  by_cases h4 : e.kind = 4
  · simp only [if_pos h4]
    refine ⟨_, meth_gw, by rfl, entry_merging_write_ok _ _ _ ?_⟩
    unfold entry_merging_write
    refine newS_mk (fun r6 w7 hr6 hb6 k6 hs6 => ?_)
    have o6 : ObjAt w7 r6 [.int .i64 e.shard, .int .i64 e.other] := ObjAt.new' hb6
    refine ⟨_, o6.cell 0 (by simp), _, o6.cell 1 (by simp), newS_mk (fun r12 w13 hr12 hb12 k12 hs12 => ?_)⟩
    have hhd : headE e = [4, e.shard, e.other] := by unfold headE; rw [h4]; rfl
    have z6 := k6.size
    have n12 : ¬ OutM r s r12 := fun hx => by have := hlt _ hx; omega
    have o12 : ObjAt w13 r12 ((headE e).map intV) := by rw [hhd]; exact ObjAt.new' hb12
    have hN := nums_spec A (headE e) r12 ((hO.keep k6).keep k12) hE o12 n12 (by omega) hin (by omega)
    rw [show (headE e).length = 3 by rw [hhd]; rfl] at hN
    refine hN.mono ?_
    rintro x w15 ⟨rfl, s15, g15, f15⟩
    refine ⟨rfl, rfl, s15, ?_⟩
    unfold tailE
    rw [if_neg h1, if_neg h3, if_neg (by omega), List.append_nil]; exact g15
  have h5 : e.kind = 5 := by have := right_kind hr; unfold kindOk at this; omega
  simp only [if_neg h4]
  refine ⟨_, meth_cw, by rfl, entry_checking_write_ok _ _ _ _ _ _ ?_⟩
  unfold entry_checking_write
  refine newS_mk (fun r6 w7 hr6 hb6 k6 hs6 => ?_)
  have o6 : ObjAt w7 r6 [.int .i64 e.shard, .int .i64 e.upto, .int .i64 e.parts, .int .i64 e.part, sd.v] := ObjAt.new' hb6
  refine ⟨_, o6.cell 0 (by simp), _, o6.cell 1 (by simp), _, o6.cell 2 (by simp), _, o6.cell 3 (by simp), newS_mk (fun r12 w13 hr12 hb12 k12 hs12 => ?_)⟩
  have hhd : headE e = [5, e.shard, e.upto, e.parts, e.part] := by unfold headE; rw [h5]; rfl
  have z6 := k6.size
  have n6 : ¬ OutM r s r6 := fun hx => by have := hlt _ hx; omega
  have n12 : ¬ OutM r s r12 := fun hx => by have := hlt _ hx; omega
  have o12 : ObjAt w13 r12 ((headE e).map intV) := by rw [hhd]; exact ObjAt.new' hb12
  have hN := nums_spec A (headE e) r12 ((hO.keep k6).keep k12) hE o12 n12 (by omega) hin (by omega)
  rw [show (headE e).length = 5 by rw [hhd]; rfl] at hN
  refine hN.mono ?_
  rintro x w15 ⟨rfl, s15, g15, f15⟩
  obtain ⟨o15, n15⟩ := foot_obj f15 (o6.keep k12) n6
  refine ⟨rfl, sd, o15.cell 4 (by simp), e.data, bytesAt_keep h.d g15.k, (outText g15 (by have := hs.d; omega) (by rw [List.length_append]; omega) hE).mono ?_⟩
  rintro x w17 ⟨rfl, s17, g17, f17⟩
  refine ⟨rfl, rfl, s17, ?_⟩
  unfold tailE
  rw [if_neg h1, if_neg h3, if_pos h5, ← List.append_assoc]; exact g17

theorem bytesE_len {e : EnS} (hs : SmallE e) (hr : rightE e = true) : (bytesE e).length ≤ 30000 := by
  obtain ⟨hh5, hin⟩ := head_ok hr
  have hhl := heads_len (headE e) (fun n hn => (hin n hn).2)
  unfold bytesE tailE
  rw [List.length_append]
  have hops : e.kind = 1 → (e.ops.flatMap bytesOp).length ≤ 1000 * e.ops.length := by
    intro h1
    have hrops : ∀ o ∈ e.ops, rightOp o = true := by
      rcases right_cases hr with ⟨k, _, _, _, _, hh⟩ | ⟨k, _⟩ | ⟨k, _⟩ | ⟨k, _⟩ | ⟨k, _⟩
      · exact hh
      all_goals omega
    have go : ∀ (l : List OpS), (∀ o ∈ l, rightOp o = true ∧ o.key.length ≤ 300 ∧ o.val.length ≤ 300 ∧ o.old.length ≤ 300) → (l.flatMap bytesOp).length ≤ 1000 * l.length := by
      intro l
      induction l with
      | nil => simp
      | cons o l ih =>
        intro hl
        have h1 := ih (fun o ho => hl o (by simp [ho]))
        obtain ⟨hro, q1, q2, q3⟩ := hl o (by simp)
        obtain ⟨_, hkind⟩ := rightOp_cases hro
        have hk14 : 1 ≤ o.kind ∧ o.kind ≤ 4 := by rcases hkind with ⟨h, _⟩ | h | ⟨h, _⟩ | ⟨h, _⟩ <;> omega
        have l1 := numB_len o.kind (by omega)
        have l2 := textB_len o.key (by omega)
        have lv := textB_len o.val (by omega)
        have lo := textB_len o.old (by omega)
        have : (bytesOp o).length ≤ 1000 := by
          unfold bytesOp
          simp only [List.length_append]
          by_cases h4 : o.kind = 4
          · have hver : 0 ≤ o.ver ∧ o.ver ≤ 4096 := by rcases hkind with ⟨h, _⟩ | h | ⟨h, _⟩ | ⟨h, h2⟩ <;> omega
            have l5 := numB_len o.ver (by omega)
            rw [if_neg (by omega), if_neg (by omega), if_pos h4]
            simp only [List.length_nil]; omega
          · rw [if_neg h4]
            split <;> split <;> simp only [List.length_nil] <;> omega
        simp at h1 ⊢; omega
    exact go e.ops (fun o ho => ⟨hrops o ho, hs.o o ho⟩)
  have := hs.n
  have l2 := textB_len e.key (by have := hs.k; omega)
  have l3 := textB_len e.data (by have := hs.d; omega)
  have := hs.k
  have := hs.d
  split
  · rename_i h1; have := hops h1; omega
  · split
    · omega
    · split <;> (try simp only [List.length_nil]) <;> omega

/-- What Bytes hands back. -/
def entG : List Nat := [gl_ErrForm, gl_ErrLong]
theorem entryBytes_spec (A : Nat → Addr) {n0 : Nat} (e : EnS) (so sd : Slc) (w : World) (h : EnAt w e so sd) (hs : SmallE e) (hE : ErrsB A n0 w) :
    Calls Tryd.prog fn_entry_Bytes ⟨[.agg ⟨enC e so sd⟩]⟩ w fun x w' => Keep w w' ∧ ∃ (t : Slc) (er : Option Nat), x = .returned (.tuple ⟨[t.v, errO A er]⟩) ∧
      (rightE e = false → er = some 3 ∧ t = ⟨none, 0, 0⟩) ∧ (rightE e = true → 1848 < (bytesE e).length → er = some 2 ∧ t = ⟨none, 0, 0⟩) ∧ (rightE e = true → (bytesE e).length ≤ 1848 → er = none ∧ bytesAt w' t (bytesE e)) := by
  have hEG := hE.g
  refine entry_Bytes_ok _ _ _ _ _ _ _ _ _ _ _ _ ?_
  unfold entry_Bytes
  refine newS_mk (fun r w14 hr hb k14 hs14 => ?_)
  have o : ObjAt w14 r (enC e so sd) := ObjAt.new' hb
  refine ⟨_, _, _, _, _, _, _, _, _, _, _, _, o.row, (entryRight_spec A e so sd w14 (h.keep k14) hs ((hEG.keep k14).sub (by decide))).mono ?_⟩
  rintro x w28 ⟨rfl, k28⟩
  have kk := k14.trans k28
  refine ⟨_, rfl, BIf_mk (fun hf => ?_) (fun ht => ?_)⟩
  · have hrf : rightE e = false := by simpa using hf
    refine ⟨_, errG_at (hEG.keep kk.drew) 3 gl_ErrForm rfl (by decide), kk.drew, ⟨none, 0, 0⟩, some 3, rfl, fun _ => ⟨rfl, rfl⟩, fun hh => ?_, fun hh => ?_⟩
    · rw [hrf] at hh; cases hh
    · rw [hrf] at hh; cases hh
  have hrt : rightE e = true := by simpa using ht
  refine newS_mk (fun r31 w32 hr31 hb31 k31 hs31 => ?_)
  have kk32 := kk.trans k31
  refine ⟨_, _, _, _, _, _, _, _, _, _, _, _, ((o.keep k28).keep k31).row, (of_spec05 e so sd w32).mono ?_⟩
  rintro x w46 ⟨rfl, k46⟩
  have kk46 := kk32.trans k46
  refine ⟨_, rfl, ?_⟩
  have hv : recV e so sd = .iface (recT e) (.agg ⟨recC e so sd⟩) := if_pos (right_kind hrt)
  rw [hv]
  have z28 := kk.size
  have hO : OutK A w w46 r31 ⟨none, 0, 0⟩ [] := OutK.keep (w := w32) ⟨OutS.new A hb31, fun k hk => by rw [OutM_nil hk]; omega, kk32⟩ k46
  obtain ⟨g, hm, hcb, hc⟩ := recWrite_spec A e so sd h hs hrt hO hE (by simp)
  refine ⟨_, _, _, g, rfl, hm _, hcb, hc.mono ?_⟩
  rintro x w53 ⟨rfl, s53, g53⟩
  rw [List.nil_append] at g53
  have hbl := bytesE_len hs hrt
  refine ⟨rfl, (OutS_Done A n0 r31 s53 _ w53 g53.o (by simp only; omega) (hE.keep g53.k)).mono ?_⟩
  rintro x w55 ⟨t, e2, rfl, k55, ft, he2, ht2, hby⟩
  have kk55 := g53.k.trans k55
  have he2' : e2 = none := by rw [he2]; simp only; rw [if_neg (by omega)]
  subst he2'
  have hby' := hby rfl
  have htl := hby'.1
  refine ⟨t, _, rfl, errO_isI A _, BIf_mk (fun _ => BIf_dec (fun h1 => ?_) (fun h1 => ?_)) (fun hh => by cases hh)⟩
  · refine ⟨_, errG_at (hEG.keep kk55.drew) 2 gl_ErrLong rfl (by decide), kk55.drew, ⟨none, 0, 0⟩, some 2, rfl, fun hh => ?_, fun _ _ => ⟨rfl, rfl⟩, fun _ hl => by simp only at htl; omega⟩
    rw [hrt] at hh; cases hh
  · refine ⟨kk55, t, none, rfl, fun hh => ?_, fun _ hl => by simp only at htl; omega, fun _ _ => ⟨rfl, hby'⟩⟩
    rw [hrt] at hh; cases hh
end Go.D

set_option linter.unusedVariables false
set_option linter.unusedSimpArgs false
set_option maxRecDepth 8000
namespace Go.D
open Go Go.Proofs

/-! ### streams -/
def inS (k s o n : Int) : Bool := (decide (n = 0) && (decide (2 ≤ k) && decide (k ≤ 4))) || (decide (n = s) || ((decide (k = 3) || decide (k = 4)) && decide (n = o)))
def stE (k s o : Int) : List Int := if k = 1 ∨ k = 5 then [s] else if k = 2 then [0, s] else [0, if o < s then o else s, if o > s then o else s]
def refS (k s o : Int) (n : Nat) : List Int := ((List.range n).filter fun j : Nat => inS k s o (j : Int)).map fun j : Nat => (j : Int)
theorem refS_succ (k s o : Int) (n : Nat) : refS k s o (n + 1) = refS k s o n ++ (if inS k s o n = true then [(n : Int)] else []) := by
  unfold refS
  rw [List.range_succ, List.filter_append, List.map_append]
  congr 1
  by_cases h : inS k s o n = true
  · rw [if_pos h, List.filter_cons_of_pos (p := fun j : Nat => inS k s o (j : Int)) h]; rfl
  · rw [if_neg h, List.filter_cons_of_neg (p := fun j : Nat => inS k s o (j : Int)) h]; rfl
theorem refS_len (k s o : Int) (n : Nat) : (refS k s o n).length ≤ n := by
  unfold refS
  rw [List.length_map]
  exact Nat.le_trans (List.length_filter_le _ _) (by rw [List.length_range]; exact Nat.le_refl _)
theorem st_fin : ∀ k : Fin 6, ∀ s : Fin 13, ∀ o : Fin 13, (1 ≤ k.1 ∧ (k.1 = 2 → 1 ≤ s.1) ∧ (k.1 = 3 ∨ k.1 = 4 → 1 ≤ s.1 ∧ 1 ≤ o.1 ∧ ¬ s.1 = o.1)) → refS (k.1 : Int) (s.1 : Int) (o.1 : Int) 13 = stE (k.1 : Int) (s.1 : Int) (o.1 : Int) := by decide +kernel
theorem st_one {k s o : Int} (hk : 1 ≤ k ∧ k ≤ 5) (hs : 0 ≤ s ∧ s ≤ 12) (ho : 0 ≤ o ∧ o ≤ 12) (h2 : k = 2 → 1 ≤ s) (h3 : k = 3 ∨ k = 4 → 1 ≤ s ∧ 1 ≤ o ∧ ¬ s = o) : refS k s o 13 = stE k s o := by
  have := st_fin ⟨k.toNat, by omega⟩ ⟨s.toNat, by omega⟩ ⟨o.toNat, by omega⟩ ⟨by simp only; omega, fun h => by simp only at h ⊢; omega, fun h => by simp only at h ⊢; omega⟩
  simp only [show ((k.toNat : Nat) : Int) = k by omega, show ((s.toNat : Nat) : Int) = s by omega, show ((o.toNat : Nat) : Int) = o by omega] at this
  exact this
theorem st_right {e : EnS} (h : rightE e = true) : refS e.kind e.shard e.other 13 = stE e.kind e.shard e.other := by
  have key : ∀ {k s o : Int}, ¬ (k = 3 ∨ k = 4) → refS k s o 13 = refS k s 0 13 ∧ stE k s o = stE k s 0 ∨ ¬ (1 ≤ k ∧ k ≤ 5) := by
    intro k s o hk
    by_cases h5 : 1 ≤ k ∧ k ≤ 5
    · refine .inl ⟨?_, ?_⟩
      · unfold refS inS
        rw [decide_eq_false (fun h => hk (.inl h)), decide_eq_false (fun h => hk (.inr h))]
        simp
      · unfold stE
        by_cases h1 : k = 1 ∨ k = 5
        · rw [if_pos h1, if_pos h1]
        · have h2 : k = 2 := by omega
          rw [if_neg h1, if_neg h1, if_pos h2, if_pos h2]
    · exact .inr h5
  have kd := right_kind h
  unfold kindOk at kd
  by_cases h34 : e.kind = 3 ∨ e.kind = 4
  · have ht : twoB e = true := by
      rcases right_cases h with ⟨k, _⟩ | ⟨k, _⟩ | ⟨k, hh⟩ | ⟨k, hh⟩ | ⟨k, _⟩
      · omega
      · omega
      · exact twoB_iff.2 hh.1
      · exact twoB_iff.2 hh
      · omega
    obtain ⟨⟨a1, a2⟩, ⟨a3, a4⟩, a5⟩ := twoB_iff.1 ht
    exact st_one kd (by omega) (by omega) (by omega) (fun _ => ⟨a1, a3, a5⟩)
  · rcases key (s := e.shard) (o := e.other) h34 with ⟨q1, q2⟩ | q
    · rw [q1, q2]
      have hsb : 0 ≤ e.shard ∧ e.shard ≤ 12 ∧ (e.kind = 2 → 1 ≤ e.shard) := by
        unfold rightE uptoB at h
        by_cases k1 : e.kind = 1
        · rw [if_pos k1] at h; simp at h; omega
        · by_cases k2 : e.kind = 2
          · rw [if_neg k1, if_pos k2] at h; simp at h; omega
          · rw [if_neg k1, if_neg k2, if_neg (by omega), if_neg (by omega), if_pos (by omega)] at h; simp at h; omega
      exact st_one kd ⟨hsb.1, hsb.2.1⟩ (by omega) hsb.2.2 (fun hh => (h34 hh).elim)
    · exact (q kd).elim

theorem refStreams05_spec (e : EnS) (so sd : Slc) (w : World) :
    Calls Tryd.prog fn_tidewaterref05_Streams ⟨[.agg ⟨enC e so sd⟩]⟩ w fun x w' => ∃ t : Slc, x = .returned t.v ∧ IntsAt w' t (refS e.kind e.shard e.other 13) ∧ Keep w w' := by
  refine tidewaterref05_Streams_ok _ _ _ _ _ _ _ _ _ _ _ _ ?_
  unfold tidewaterref05_Streams
  refine newS_mk (fun r w14 hr hb k14 hs14 => ?_)
  have o : ObjAt w14 r (enC e so sd) := ObjAt.new' hb
  refine newS_mk (fun r15 w16 hr15 hb15 k16 hs16 => ?_)
  refine ⟨fun out s w2 => ∃ k : Nat, s = k ∧ k ≤ 13 ∧ IntsAt w2 out (refS e.kind e.shard e.other k) ∧ Fresh w14 out ∧ Keep w14 w2, fun _ s _ => (13 - s).toNat, ⟨0, rfl, by omega, IntsAt.new hb15, fun j hj => ?_, k16⟩, ?_⟩
  · obtain ⟨a, ha, rfl⟩ := hj
    cases ha
    simp only at *
    omega
  rintro out s w2 ⟨k, rfl, hk, hi, hf, kk⟩
  intros
  have o2 := o.keep kk
  have hl : (refS e.kind e.shard e.other k).length < 2 ^ 30 := by have := refS_len e.kind e.shard e.other k; omega
  refine BIf_dec (fun hlt => ?_) (fun hge => ?_)
  · have P : inS e.kind e.shard e.other k = true → ∀ s' w', IntsAt w' s' (refS e.kind e.shard e.other k ++ [(k : Int)]) → Fresh w14 s' → Keep w14 w' →
        inR .i64 ((k : Int) + 1) ∧ (∃ k2 : Nat, ((k : Int) + 1) = k2 ∧ k2 ≤ 13 ∧ IntsAt w' s' (refS e.kind e.shard e.other k2) ∧ Fresh w14 s' ∧ Keep w14 w') ∧ (13 - ((k : Int) + 1)).toNat < (13 - (k : Int)).toNat := by
      intro hin s' w' g1 g2 g3
      refine ⟨inR64 (by omega), ⟨k + 1, rfl, by omega, ?_, g2, g3⟩, by omega⟩
      rw [refS_succ, if_pos hin]; exact g1
    have N : inS e.kind e.shard e.other k = false →
        inR .i64 ((k : Int) + 1) ∧ (∃ k2 : Nat, ((k : Int) + 1) = k2 ∧ k2 ≤ 13 ∧ IntsAt w2 out (refS e.kind e.shard e.other k2) ∧ Fresh w14 out ∧ Keep w14 w2) ∧ (13 - ((k : Int) + 1)).toNat < (13 - (k : Int)).toNat := by
      intro hin
      refine ⟨inR64 (by omega), ⟨k + 1, rfl, by omega, ?_, hf, kk⟩, by omega⟩
      rw [refS_succ, if_neg (by rw [hin]; decide), List.append_nil]; exact hi
    have c0 := o2.cell 0 (by simp [enC])
    have c1 := o2.cell 1 (by simp [enC])
    have c2 := o2.cell 2 (by simp [enC])
    refine BIf_dec (fun z => ⟨_, c0, BIf_dec (fun a => ⟨_, c0, BIf_dec (fun b => ?_) (fun b => ?_)⟩) (fun a => ?_)⟩) (fun z => ?_)
    · exact IntsAt.push hi hf kk hl (fun s' w' g1 g2 g3 _ _ => P (by unfold inS; simp; omega) s' w' g1 g2 g3)
    all_goals
      refine ⟨_, c1, BIf_dec (fun h1 => ?_) (fun h1 => ⟨_, c0, BIf_dec (fun h3 => ⟨_, c2, BIf_dec (fun h2 => ?_) (fun h2 => ?_)⟩) (fun h3 => ⟨_, c0, BIf_dec (fun h4 => ⟨_, c2, BIf_dec (fun h2 => ?_) (fun h2 => ?_)⟩) (fun h4 => ?_)⟩)⟩)⟩
      · exact IntsAt.push hi hf kk hl (fun s' w' g1 g2 g3 _ _ => P (by unfold inS; simp; omega) s' w' g1 g2 g3)
      · exact IntsAt.push hi hf kk hl (fun s' w' g1 g2 g3 _ _ => P (by unfold inS; simp; omega) s' w' g1 g2 g3)
      · exact N (by unfold inS; simp; omega)
      · exact IntsAt.push hi hf kk hl (fun s' w' g1 g2 g3 _ _ => P (by unfold inS; simp; omega) s' w' g1 g2 g3)
      · exact N (by unfold inS; simp; omega)
      · exact N (by unfold inS; simp; omega)
  · have : k = 13 := by omega
    subst this
    exact ⟨out, rfl, hi, k14.trans kk⟩

theorem ints_new {w : World} {r n : Nat} {l : List Int} {T : TypeId} (h : w.heap[r]? = some (.cells ⟨l.map intV⟩ T)) (hn : n = l.length) : intsAt w ⟨some ⟨r, 0, none⟩, n, n⟩ l := by
  refine ⟨hn, .inr ⟨_, rfl, fun i hi => ?_⟩⟩
  have := cell_of h i
  rw [show (Addr.add ⟨r, 0, none⟩ i) = ⟨r, i, none⟩ by simp [Addr.add]; intro hh; exact hh.symm]
  rw [this, List.getElem?_eq_getElem hi]
theorem recStreams_spec (e : EnS) (so sd : Slc) (hkd : kindOk e) (w : World) :
    ∃ g, isMeth (recT e) "tidewater/entry.streams" g ∧ callB g = true ∧ Calls Tryd.prog g ⟨[.agg ⟨recC e so sd⟩]⟩ w fun x w' => ∃ t : Slc, x = .returned t.v ∧ intsAt w' t (stE e.kind e.shard e.other) ∧ Keep w w' := by
  unfold recT recC stE
  obtain ⟨d1, d2⟩ := hkd
  by_cases h1 : e.kind = 1
  · rw [if_pos h1, if_pos h1, if_pos (.inl h1)]
    refine ⟨_, meth_ws, by kernel_rfl, entry_writing_streams_ok _ _ _ _ ?_⟩
    unfold entry_writing_streams
    refine newS_mk (fun r w4 hr hb k4 hs => ⟨_, (ObjAt.new' hb).cell 0 (by simp), newS_mk (fun r5 w5 hr5 hb5 k5 hs5 => ⟨_, rfl, ints_new hb5 rfl, k4.trans k5⟩)⟩)
  by_cases h2 : e.kind = 2
  · rw [if_neg h1, if_neg h1, if_pos h2, if_pos h2, if_neg (by omega), if_pos h2]
    refine ⟨_, meth_ms, by kernel_rfl, entry_moving_streams_ok _ _ ?_⟩
    unfold entry_moving_streams
    refine newS_mk (fun r w4 hr hb k4 hs => ⟨_, (ObjAt.new' hb).cell 0 (by simp), newS_mk (fun r5 w5 hr5 hb5 k5 hs5 => ⟨_, rfl, ints_new hb5 rfl, k4.trans k5⟩)⟩)
  by_cases h3 : e.kind = 3
  · rw [if_neg h1, if_neg h1, if_neg h2, if_neg h2, if_pos h3, if_pos h3, if_neg (by omega), if_neg h2]
    refine ⟨_, meth_ss, by kernel_rfl, entry_splitting_streams_ok _ _ _ _ ?_⟩
    unfold entry_splitting_streams
    refine newS_mk (fun r w4 hr hb k4 hs => ⟨_, (ObjAt.new' hb).cell 0 (by simp), _, (ObjAt.new' hb).cell 1 (by simp), _, (ObjAt.new' hb).cell 0 (by simp), _, (ObjAt.new' hb).cell 1 (by simp), newS_mk (fun r5 w5 hr5 hb5 k5 hs5 => ⟨_, rfl, ints_new hb5 rfl, k4.trans k5⟩)⟩)
  by_cases h4 : e.kind = 4
  · rw [if_neg h1, if_neg h1, if_neg h2, if_neg h2, if_neg h3, if_neg h3, if_pos h4, if_pos h4, if_neg (by omega), if_neg h2]
    refine ⟨_, meth_gs, by kernel_rfl, entry_merging_streams_ok _ _ ?_⟩
    unfold entry_merging_streams
    refine newS_mk (fun r w4 hr hb k4 hs => ⟨_, (ObjAt.new' hb).cell 0 (by simp), _, (ObjAt.new' hb).cell 1 (by simp), _, (ObjAt.new' hb).cell 0 (by simp), _, (ObjAt.new' hb).cell 1 (by simp), newS_mk (fun r5 w5 hr5 hb5 k5 hs5 => ⟨_, rfl, ints_new hb5 rfl, k4.trans k5⟩)⟩)
  · rw [if_neg h1, if_neg h1, if_neg h2, if_neg h2, if_neg h3, if_neg h3, if_neg h4, if_neg h4, if_pos (by omega)]
    refine ⟨_, meth_cs, by kernel_rfl, entry_checking_streams_ok _ _ _ _ _ ?_⟩
    unfold entry_checking_streams
    refine newS_mk (fun r w4 hr hb k4 hs => ⟨_, (ObjAt.new' hb).cell 0 (by simp), newS_mk (fun r5 w5 hr5 hb5 k5 hs5 => ⟨_, rfl, ints_new hb5 rfl, k4.trans k5⟩)⟩)
theorem entryStreams_spec (A : Nat → Addr) {n0 : Nat} (e : EnS) (so sd : Slc) (w : World) (h : EnAt w e so sd) (hs : SmallE e) (hE : ErrsG keyG A n0 w) :
    Calls Tryd.prog fn_entry_Streams ⟨[.agg ⟨enC e so sd⟩]⟩ w fun x w' => Keep w w' ∧ ∃ t : Slc, x = .returned t.v ∧ (rightE e = false → t = ⟨none, 0, 0⟩) ∧ (rightE e = true → intsAt w' t (stE e.kind e.shard e.other)) := by
  refine entry_Streams_ok _ _ _ _ _ _ _ _ _ _ _ _ ?_
  unfold entry_Streams
  refine newS_mk (fun r w14 hr hb k14 hs14 => ?_)
  have o : ObjAt w14 r (enC e so sd) := ObjAt.new' hb
  refine ⟨_, _, _, _, _, _, _, _, _, _, _, _, o.row, (entryRight_spec A e so sd w14 (h.keep k14) hs (hE.keep k14)).mono ?_⟩
  rintro x w28 ⟨rfl, k28⟩
  have kk := k14.trans k28
  refine ⟨_, rfl, BIf_mk (fun hf => ?_) (fun ht => ?_)⟩
  · have hrf : rightE e = false := by simpa using hf
    refine ⟨kk, _, rfl, fun _ => rfl, fun hh => ?_⟩
    rw [hrf] at hh; cases hh
  have hrt : rightE e = true := by simpa using ht
  refine ⟨_, _, _, _, _, _, _, _, _, _, _, _, (o.keep k28).row, (of_spec05 e so sd w28).mono ?_⟩
  rintro x w43 ⟨rfl, k43⟩
  have kk43 := kk.trans k43
  refine ⟨_, rfl, ?_⟩
  have hv : recV e so sd = .iface (recT e) (.agg ⟨recC e so sd⟩) := if_pos (right_kind hrt)
  rw [hv]
  obtain ⟨g, hm, hcb, hc⟩ := recStreams_spec e so sd (right_kind hrt) w43
  refine ⟨_, _, _, g, rfl, hm _, hcb, hc.mono ?_⟩
  rintro x w50 ⟨t, rfl, ht, k50⟩
  refine ⟨_, rfl, kk43.trans k50, t, rfl, fun hh => ?_, fun _ => ht⟩
  rw [hrt] at hh; cases hh
end Go.D

set_option linter.unusedVariables false
set_option linter.unusedSimpArgs false
set_option maxRecDepth 8000
namespace Go.D
open Go Go.Proofs

/-! ### keys -/
def keysE (e : EnS) : List (List UInt8) := if e.kind = 1 then e.ops.map (·.key) else if e.kind = 3 then [e.key] else []
theorem isOther_of {t T : Nat} {v : Value} (h : t ≠ T) : asrtK.isOther (.iface t v) T := .inr ⟨t, v, rfl, h⟩
theorem entryKeys_spec (A : Nat → Addr) {n0 : Nat} (e : EnS) (so sd : Slc) (w : World) (h : EnAt w e so sd) (hs : SmallE e) (hE : ErrsG keyG A n0 w) :
    Calls Tryd.prog fn_entry_Keys ⟨[.agg ⟨enC e so sd⟩]⟩ w fun x w' => Keep w w' ∧ ∃ t : Slc, x = .returned t.v ∧ (rightE e = false → t = ⟨none, 0, 0⟩) ∧ (rightE e = true → TxtAt w' t (keysE e)) := by
  refine entry_Keys_ok _ _ _ _ _ _ _ _ _ _ _ _ ?_
  unfold entry_Keys
  refine newS_mk (fun r w14 hr hb k14 hs14 => ?_)
  have o : ObjAt w14 r (enC e so sd) := ObjAt.new' hb
  refine ⟨_, _, _, _, _, _, _, _, _, _, _, _, o.row, (entryRight_spec A e so sd w14 (h.keep k14) hs (hE.keep k14)).mono ?_⟩
  rintro x w28 ⟨rfl, k28⟩
  have kk := k14.trans k28
  refine ⟨_, rfl, BIf_mk (fun hf => ?_) (fun ht => ?_)⟩
  · have hrf : rightE e = false := by simpa using hf
    refine ⟨kk, _, rfl, fun _ => rfl, fun hh => ?_⟩
    rw [hrf] at hh; cases hh
  have hrt : rightE e = true := by simpa using ht
  refine ⟨_, _, _, _, _, _, _, _, _, _, _, _, (o.keep k28).row, (of_spec05 e so sd w28).mono ?_⟩
  rintro x w43 ⟨rfl, k43⟩
  have kk43 := kk.trans k43
  have done : ∀ {t : Slc} {w' : World}, Keep w w' → TxtAt w' t (keysE e) → Keep w w' ∧ ∃ t' : Slc, Ending.returned t.v = .returned t'.v ∧ (rightE e = false → t' = ⟨none, 0, 0⟩) ∧ (rightE e = true → TxtAt w' t' (keysE e)) :=
    fun k t => ⟨k, _, rfl, (fun hh => by rw [hrt] at hh; cases hh), fun _ => t⟩
  refine ⟨_, rfl, ?_⟩
  have hkd := right_kind hrt
  have hv : recV e so sd = .iface (recT e) (.agg ⟨recC e so sd⟩) := if_pos hkd
  rw [hv]
  unfold kindOk at hkd
  unfold recT recC
  by_cases h1 : e.kind = 1
  · rw [if_pos h1, if_pos h1]
    refine .inr ⟨isOther_of (by decide), var_mk rfl rfl (fun r55 w57 hr55 o55 k55 hs55 => .inl ⟨_, _, _, _, rfl, var_mk rfl rfl (fun r62 w64 hr62 o62 k62 hs62 => ⟨so, o62.cell 3 (by simp), ?_⟩)⟩)⟩
    have kk64 := (kk43.trans k55).trans k62
    refine ⟨fun out i w2 => ∃ k : Nat, i = k ∧ k ≤ e.ops.length ∧ TxtAt w2 out ((e.ops.take k).map (·.key)) ∧ Fresh w64 out ∧ Keep w64 w2, fun _ i _ => ((e.ops.length : Int) - i).toNat, ⟨0, rfl, by omega, TxtAt.nil _, Fresh.nil _ _ _, Ext.refl _ _⟩, ?_⟩
    rintro out i w2 ⟨k, rfl, hk, ht, hf, k2⟩
    intros
    have kk2 := kk64.trans k2
    have hsl := h.o.1
    have hn := hs.n
    refine BIf_dec (fun hlt => ?_) (fun hge => ?_)
    · have hkl : k < e.ops.length := by omega
      obtain ⟨a, ha, hrow⟩ := (h.o.keep kk2).2.2 k hkl
      refine needSome_mk ha ⟨by omega, hlt, _, _, _, _, _, by rw [Int.toNat_natCast]; exact hrow, ?_⟩
      refine var_mk (cs := opC e.ops[k]) rfl rfl (fun r87 w89 hr87 o87 k87 hs87 => ⟨_, o87.cell 1 (by simp [opC]), ?_⟩)
      refine TxtAt.push (w0 := w64) (ht.keep k87) hf (k2.trans k87) (by rw [List.length_map, List.length_take]; omega) (fun s' w' g1 g2 g3 _ _ => ?_)
      refine ⟨inR64 (by omega), ⟨k + 1, rfl, by omega, ?_, g2, g3⟩, by dsimp only; omega⟩
      rw [List.take_succ_eq_append_getElem hkl, List.map_append]; exact g1
    · have hke : k = e.ops.length := by omega
      subst hke
      rw [List.take_length] at ht
      refine done kk2 ?_
      unfold keysE
      rw [if_pos h1]; exact ht
  by_cases h3 : e.kind = 3
  · have h2 : ¬ e.kind = 2 := by omega
    rw [if_neg h1, if_neg h1, if_neg h2, if_neg h2, if_pos h3, if_pos h3]
    refine .inl ⟨_, _, _, _, rfl, var_mk rfl rfl (fun r49 w51 hr49 o49 k49 hs49 => ⟨_, o49.cell 3 (by simp), newS_mk (fun r53 w54 hr53 hb53 k53 hs53 => done ((kk43.trans k49).trans k53) ?_)⟩)⟩
    unfold keysE
    rw [if_neg h1, if_pos h3]
    exact TxtAt.one hb53
  · have key : ∀ (t : Nat) (v : Value), t ≠ 55 → t ≠ 58 → keysE e = [] := fun _ _ _ _ => by unfold keysE; rw [if_neg h1, if_neg h3]
    have hke : keysE e = [] := by unfold keysE; rw [if_neg h1, if_neg h3]
    rw [if_neg h1, if_neg h1, if_neg h3, if_neg h3]
    have hT : ∀ T : Nat, T = 55 ∨ T = 58 → (if e.kind = 2 then ty_entry_moving else if e.kind = 4 then ty_entry_merging else ty_entry_checking) ≠ T := by
      intro T hT
      rcases hT with rfl | rfl <;> split <;> (try split) <;> decide
    refine .inr ⟨isOther_of (hT 55 (.inl rfl)), var_mk rfl rfl (fun r55 w57 hr55 o55 k55 hs55 => .inr ⟨isOther_of (hT 58 (.inr rfl)), var_mk rfl rfl (fun r62 w64 hr62 o62 k62 hs62 => done ((kk43.trans k55).trans k62) ?_)⟩)⟩
    rw [hke]
    exact TxtAt.nil _
theorem lawKeys_spec (A : Nat → Addr) {n0 : Nat} (e : EnS) (so sd : Slc) (w : World) (h : EnAt w e so sd) (hs : SmallE e) (hrr : rightE e = true) (hE : ErrsG keyG A n0 w) :
    Calls Tryd.prog fn_tidewaterlaw05_keys ⟨[.agg ⟨enC e so sd⟩]⟩ w fun x w' => x = .returned (.bool true) ∧ Keep w w' := by
  refine tidewaterlaw05_keys_ok _ _ _ _ _ _ _ _ _ _ _ _ ?_
  unfold tidewaterlaw05_keys
  refine newS_mk (fun r w14 hr hb k14 hs14 => ?_)
  have o : ObjAt w14 r (enC e so sd) := ObjAt.new' hb
  refine newS_mk (fun r15 w16 hr15 hb15 k16 hs16 => ?_)
  have o16 := o.keep k16
  have hn := hs.n
  have hkl : (keysE e).length ≤ 20 := by unfold keysE; split <;> (try split) <;> simp <;> omega
  have fin : ∀ {w2 : World} {want : Slc}, Keep w14 w2 → TxtAt w2 want (keysE e) →
      Calls Tryd.prog fn_entry_Keys ⟨[.agg ⟨enC e so sd⟩]⟩ w2 fun e1 w3 => ∃ s : Slc, e1 = .returned s.v ∧ Calls Tryd.prog fn_tidewaternum_SameTexts ⟨[s.v, want.v]⟩ w3 fun e2 w4 => ∃ b : Bool, e2 = .returned (.bool b) ∧ (Ending.returned (.bool b) = .returned (.bool true) ∧ Keep w w4) := by
    intro w2 want k2 ht
    have kk := k14.trans k2
    refine (entryKeys_spec A e so sd w2 (h.keep kk) hs (hE.keep kk)).mono ?_
    rintro x w3 ⟨k3, t, rfl, _, g⟩
    refine ⟨t, rfl, (SameTexts_spec t want _ _ w3 (g hrr) (ht.keep k3) (by omega)).mono ?_⟩
    rintro x w4 ⟨rfl, k4⟩
    exact ⟨_, rfl, by rw [decide_eq_true rfl], (kk.trans k3).trans k4⟩
  have f0 : Fresh w14 (⟨some ⟨r15, 0, none⟩, 0, 0⟩ : Slc) := Fresh.at (by omega)
  refine ⟨_, o16.cell 0 (by simp [enC]), BIf_dec (fun h1 => ⟨so, o16.cell 6 (by simp [enC]), ?_⟩) (fun h1 => BIf_dec (fun h3 => ⟨_, o16.cell 7 (by simp [enC]), ?_⟩) (fun h3 => ?_))⟩
  · refine ⟨fun out i w2 => ∃ k : Nat, i = k ∧ k ≤ e.ops.length ∧ TxtAt w2 out ((e.ops.take k).map (·.key)) ∧ Fresh w14 out ∧ Keep w14 w2, fun _ i _ => ((e.ops.length : Int) - i).toNat, ⟨0, rfl, by omega, TxtAt.new hb15, f0, k16⟩, ?_⟩
    rintro out i w2 ⟨k, rfl, hk, ht, hf, k2⟩
    intros
    have kk2 := k14.trans k2
    have hsl := h.o.1
    refine BIf_dec (fun hlt => ?_) (fun hge => ?_)
    · have hkl : k < e.ops.length := by omega
      obtain ⟨a, ha, hrow⟩ := (h.o.keep kk2).2.2 k hkl
      refine needSome_mk ha ⟨by omega, hlt, _, _, _, _, _, by rw [Int.toNat_natCast]; exact hrow, ?_⟩
      refine var_mk (cs := opC e.ops[k]) rfl rfl (fun r87 w89 hr87 o87 k87 hs87 => ⟨_, o87.cell 1 (by simp [opC]), ?_⟩)
      refine TxtAt.push (w0 := w14) (ht.keep k87) hf (k2.trans k87) (by rw [List.length_map, List.length_take]; omega) (fun s' w' g1 g2 g3 _ _ => ?_)
      refine ⟨inR64 (by omega), ⟨k + 1, rfl, by omega, ?_, g2, g3⟩, by dsimp only; omega⟩
      rw [List.take_succ_eq_append_getElem hkl, List.map_append]; exact g1
    · have hke : k = e.ops.length := by omega
      subst hke
      rw [List.take_length] at ht
      refine ⟨_, _, _, _, _, _, _, _, _, _, _, _, (o.keep k2).row, fin k2 ?_⟩
      unfold keysE
      rw [if_pos h1]; exact ht
  · refine TxtAt.push (w0 := w14) (TxtAt.new hb15) f0 k16 (by simp) (fun s' w' g1 g2 g3 _ _ => ?_)
    refine ⟨_, _, _, _, _, _, _, _, _, _, _, _, (o.keep g3).row, fin g3 ?_⟩
    unfold keysE
    rw [if_neg h1, if_pos h3]; exact g1
  · refine ⟨_, _, _, _, _, _, _, _, _, _, _, _, o16.row, fin k16 ?_⟩
    unfold keysE
    rw [if_neg h1, if_neg h3]; exact TxtAt.new hb15
end Go.D

set_option linter.unusedVariables false
set_option linter.unusedSimpArgs false
set_option maxRecDepth 8000
namespace Go.D
open Go Go.Proofs

/-! ### the same, alive, long -/
theorem EqualB_spec (s t : Slc) (a b : List UInt8) (w : World) (ha : bytesAt w s a) (hb : bytesAt w t b) (hl : a.length ≤ 2 ^ 40) :
    Calls Tryd.prog fn_slices_Equal_byte ⟨[s.v, t.v]⟩ w fun e w' => e = .returned (.bool (decide (a = b))) ∧ Keep w w' := by
  have hsl := ha.1
  have htl := hb.1
  refine slices_Equal_byte_ok _ _ ?_
  unfold slices_Equal_byte
  refine BIf_ndec (fun h => ?_) (fun h => ?_)
  · rw [decide_eq_false (fun hh => h (by rw [hsl, htl, hh]))]
    exact ⟨rfl, Ext.refl _ _⟩
  · have hlen : a.length = b.length := by omega
    refine ⟨fun i w2 => ∃ k : Nat, i = k ∧ k ≤ a.length ∧ Keep w w2 ∧ ∀ j, j < k → a[j]? = b[j]?, fun i _ => ((a.length : Int) - i).toNat, ⟨0, rfl, by omega, Ext.refl _ _, fun j h => by omega⟩, ?_⟩
    rintro i w2 ⟨k, rfl, hk, hkp, hpre⟩
    intros
    refine BIf_dec (fun h1 => ?_) (fun h1 => ?_)
    · have hka : k < a.length := by omega
      have hkb : k < b.length := by omega
      obtain ⟨p, hp, hcp⟩ := bytesAt_cell (bytesAt_keep ha hkp.drew) hka
      obtain ⟨q, hq, hcq⟩ := bytesAt_cell (bytesAt_keep hb hkp.drew) hkb
      refine needSome_mk hp ⟨by omega, h1, _, by rw [show Int.toNat (k : Int) * 1 = k by omega]; exact hcp, needSome_mk hq ⟨by omega, by omega, _, by rw [show Int.toNat (k : Int) * 1 = k by omega]; exact hcq, ?_⟩⟩
      refine BIf_ndec (fun h2 => ?_) (fun h2 => ?_)
      · rw [decide_eq_false (fun hh => h2 (by subst hh; rfl))]
        exact ⟨rfl, hkp.drew⟩
      · refine ⟨inR64 (by omega), ⟨k + 1, rfl, by omega, hkp.drew, fun j hj => ?_⟩, by dsimp only; omega⟩
        rcases Nat.lt_or_ge j k with h | h
        · exact hpre j h
        · have : j = k := by omega
          subst this
          rw [List.getElem?_eq_getElem hka, List.getElem?_eq_getElem hkb]
          exact congrArg some (UInt8.toNat_inj.1 (by omega))
    · rw [decide_eq_true (List.ext_getElem? fun j => ?_)]
      · exact ⟨rfl, hkp⟩
      · rcases Nat.lt_or_ge j k with h | h
        · exact hpre j h
        · rw [List.getElem?_eq_none (by omega), List.getElem?_eq_none (by omega)]

def okE (e : EnS) : Bool := rightE e && decide ((bytesE e).length ≤ 1848)
theorem errO_isN (A : Nat → Addr) (o : Option Nat) : isNilI (errO A o) = o.isNone := by cases o <;> rfl
theorem entryBytes_ok' (A : Nat → Addr) {n0 : Nat} (e : EnS) (so sd : Slc) (w : World) (h : EnAt w e so sd) (hs : SmallE e) (hE : ErrsB A n0 w) :
    Calls Tryd.prog fn_entry_Bytes ⟨[.agg ⟨enC e so sd⟩]⟩ w fun x w' => Keep w w' ∧ ∃ (t : Slc) (er : Option Nat), x = .returned (.tuple ⟨[t.v, errO A er]⟩) ∧ er.isNone = okE e ∧ (okE e = true → bytesAt w' t (bytesE e)) := by
  refine (entryBytes_spec A e so sd w h hs hE).mono ?_
  rintro x w' ⟨k, t, er, rfl, g1, g2, g3⟩
  refine ⟨k, t, er, rfl, ?_, ?_⟩
  · unfold okE
    cases hr : rightE e
    · rw [(g1 hr).1]; rfl
    · by_cases hl : (bytesE e).length ≤ 1848
      · rw [(g3 hr hl).1, decide_eq_true hl]; rfl
      · rw [(g2 hr (by omega)).1, decide_eq_false hl]; rfl
  · intro ho
    unfold okE at ho
    simp only [Bool.and_eq_true, decide_eq_true_eq] at ho
    exact (g3 ho.1 ho.2).2
theorem entrySame_spec (A : Nat → Addr) {n0 : Nat} (a b : EnS) (sa da sb db : Slc) (w : World) (ha : EnAt w a sa da) (hb : EnAt w b sb db) (ka : SmallE a) (kb : SmallE b) (hE : ErrsB A n0 w) :
    Calls Tryd.prog fn_entry_Same ⟨[.agg ⟨enC a sa da⟩, .agg ⟨enC b sb db⟩]⟩ w fun x w' => x = .returned (.bool (okE a && (okE b && decide (bytesE a = bytesE b)))) ∧ Keep w w' := by
  refine entry_Same_ok _ _ _ _ _ _ _ _ _ _ _ _ _ _ _ _ _ _ _ _ _ _ _ _ ?_
  unfold entry_Same
  refine newS_mk (fun r w1 hr hb1 k1 hs1 => newS_mk (fun r2 w2 hr2 hb2 k2 hs2 => ?_))
  have oa : ObjAt w1 r (enC a sa da) := ObjAt.new' hb1
  have ob : ObjAt w2 r2 (enC b sb db) := ObjAt.new' hb2
  have kk := k1.trans k2
  refine ⟨_, _, _, _, _, _, _, _, _, _, _, _, (oa.keep k2).row, (entryBytes_ok' A a sa da w2 (ha.keep kk) ka (hE.keep kk)).mono ?_⟩
  rintro x w3 ⟨k3, t, er, rfl, g1, g2⟩
  have kk3 := kk.trans k3
  refine ⟨_, _, rfl, _, _, _, _, _, _, _, _, _, _, _, _, (ob.keep k3).row, (entryBytes_ok' A b sb db w3 (hb.keep kk3) kb (hE.keep kk3)).mono ?_⟩
  rintro x w4 ⟨k4, t2, er2, rfl, g3, g4⟩
  have kk4 := kk3.trans k4
  refine ⟨_, _, rfl, errO_isI A _, BIf_mk (fun h1 => ⟨errO_isI A _, BIf_mk (fun h2 => ?_) (fun h2 => ?_)⟩) (fun h1 => ?_)⟩
  · rw [errO_isN, g1] at h1
    rw [errO_isN, g3] at h2
    have hl : (bytesE a).length ≤ 2 ^ 40 := by
      unfold okE at h1
      simp only [Bool.and_eq_true, decide_eq_true_eq] at h1
      omega
    refine (EqualB_spec t t2 _ _ w4 (bytesAt_keep (g2 h1) k4) (g4 h2) hl).mono ?_
    rintro x w5 ⟨rfl, k5⟩
    refine ⟨_, rfl, ?_, kk4.trans k5⟩
    rw [h1, h2]; rfl
  · rw [errO_isN, g3] at h2
    refine ⟨?_, kk4⟩
    rw [h2, Bool.false_and, Bool.and_false]
  · rw [errO_isN, g1] at h1
    refine ⟨?_, kk4⟩
    rw [h1, Bool.false_and]
theorem refSame05_spec (a b : EnS) (sa da sb db : Slc) (w : World) (ha : EnAt w a sa da) (hb : EnAt w b sb db) (ka : SmallE a) (kb : SmallE b) :
    Calls Tryd.prog fn_tidewaterref05_Same ⟨[.agg ⟨enC a sa da⟩, .agg ⟨enC b sb db⟩]⟩ w fun x w' => x = .returned (.bool (rightE a && (rightE b && decide (bytesE a = bytesE b)))) ∧ Keep w w' := by
  refine tidewaterref05_Same_ok _ _ _ _ _ _ _ _ _ _ _ _ _ _ _ _ _ _ _ _ _ _ _ _ ?_
  unfold tidewaterref05_Same
  refine newS_mk (fun r w1 hr hb1 k1 hs1 => newS_mk (fun r2 w2 hr2 hb2 k2 hs2 => ?_))
  have oa : ObjAt w1 r (enC a sa da) := ObjAt.new' hb1
  have ob : ObjAt w2 r2 (enC b sb db) := ObjAt.new' hb2
  have kk := (k1.trans k2).drew
  have kd : Keep w2 (World.drew w2) := Keep.drew (Ext.refl _ _)
  refine ⟨_, _, _, _, _, _, _, _, _, _, _, _, ((oa.keep k2).keep kd).row, (refRight05_spec a sa da _ (ha.keep kk) ka).mono ?_⟩
  rintro x w3 ⟨rfl, k3⟩
  have kk3 := kk.trans k3
  have ob3 := (ob.keep kd).keep k3
  refine ⟨_, rfl, BIf_mk (fun h1 => ⟨_, _, _, _, _, _, _, _, _, _, _, _, ob3.row, (refRight05_spec b sb db _ (hb.keep kk3) kb).mono ?_⟩) (fun h1 => ?_)⟩
  · rintro x w4 ⟨rfl, k4⟩
    have kk4 := kk3.trans k4
    refine ⟨_, rfl, BIf_mk (fun h2 => ?_) (fun h2 => ?_)⟩
    · refine ⟨_, _, _, _, _, _, _, _, _, _, _, _, ((((oa.keep k2).keep kd).keep k3).keep k4).row, _, _, _, _, _, _, _, _, _, _, _, _, (ob3.keep k4).row, (refBytes05_spec a sa da w4 (ha.keep kk4) ka h1).mono ?_⟩
      rintro x w5 ⟨t, rfl, w5o, _, k5⟩
      have kk5 := kk4.trans k5
      have g5 := w5o.bytes
      refine ⟨t, rfl, ⟨_, _, _, _, _, _, _, _, _, _, _, _, ((ob3.keep k4).keep k5).row, rfl⟩, _, g5, (refBytes05_spec b sb db w5 (hb.keep kk5) kb h2).mono ?_⟩
      rintro x w6 ⟨t2, rfl, w6o, _, k6⟩
      refine ⟨t2, rfl, ⟨_, bytesAt_keep g5 k6, rfl⟩, _, w6o.bytes, ?_, kk5.trans k6⟩
      rw [h1, h2]; rfl
    · refine ⟨?_, kk4⟩
      rw [h2, Bool.false_and, Bool.and_false]
  · refine ⟨?_, kk3⟩
    rw [h1, Bool.false_and]

def alE : EnS := ⟨4, 1, 2, 0, 0, 0, [], [], 0, 0, 0, []⟩
theorem alive05_spec (A : Nat → Addr) {n0 : Nat} (w : World) (hE : ErrsB A n0 w) : Calls Tryd.prog fn_tidewaterlaw05_alive ⟨[]⟩ w fun x w' => x = .returned (.bool true) ∧ Keep w w' := by
  refine tidewaterlaw05_alive_ok ?_
  unfold tidewaterlaw05_alive
  have h : EnAt w alE ⟨none, 0, 0⟩ ⟨none, 0, 0⟩ := ⟨⟨rfl, by decide, fun i hi => by simp [alE] at hi⟩, ⟨rfl, .inl rfl⟩, by decide⟩
  have hr : rightE alE = true := by decide
  have hb : bytesE alE = [4, 1, 2] := by decide +kernel
  refine (entryBytes_ok' A alE _ _ w h ⟨by decide, by decide, by decide, fun o ho => by simp [alE] at ho⟩ hE).mono ?_
  rintro x w2 ⟨k, t, er, rfl, g1, g2⟩
  have ho : okE alE = true := by unfold okE; rw [hr, hb]; rfl
  rw [ho] at g1
  refine ⟨t, _, rfl, errO_isI A _, BIf_mk (fun _ => ⟨_, g2 ho, ?_, k⟩) (fun hh => by rw [errO_isN, g1] at hh; cases hh)⟩
  rw [hb, decide_eq_true rfl]
theorem long_spec (e : EnS) (so sd : Slc) (w : World) (h : EnAt w e so sd) :
    Calls Tryd.prog fn_tidewaterlaw05_long ⟨[.agg ⟨enC e so sd⟩]⟩ w fun x w' => ∃ b : Bool, x = .returned (.bool b) ∧ (b = false → SmallE e) ∧ Keep w w' := by
  refine tidewaterlaw05_long_ok _ _ _ _ _ _ _ _ _ _ _ _ ?_
  unfold tidewaterlaw05_long
  refine newS_mk (fun r w14 hr hb k14 hs14 => ?_)
  have o : ObjAt w14 r (enC e so sd) := ObjAt.new' hb
  have yes : ∀ {w' : World}, Keep w w' → ∃ b : Bool, Ending.returned (.bool true) = .returned (.bool b) ∧ (b = false → SmallE e) ∧ Keep w w' := fun k => ⟨true, rfl, (fun h => by cases h), k⟩
  have hol := h.o.1
  have hdl := h.d.1
  refine ⟨fun w' => w' = w14 ∧ e.ops.length ≤ 20 ∧ e.key.length ≤ 300 ∧ e.data.length ≤ 600, ⟨so, o.cell 6 (by simp [enC]), BIf_dec (fun _ => yes k14) (fun h1 => ⟨_, o.cell 7 (by simp [enC]), BIf_dec (fun _ => yes k14) (fun h2 => ⟨sd, o.cell 11 (by simp [enC]), BIf_dec (fun _ => yes k14) (fun h3 => ⟨rfl, by omega, by omega, by omega⟩)⟩)⟩)⟩, ?_⟩
  rintro w' ⟨rfl, h1, h2, h3⟩
  intros
  refine ⟨so, o.cell 6 (by simp [enC]), ?_⟩
  refine ⟨fun i w2 => ∃ k : Nat, i = k ∧ k ≤ e.ops.length ∧ Keep w w2 ∧ ∀ o ∈ e.ops.take k, o.key.length ≤ 300 ∧ o.val.length ≤ 300 ∧ o.old.length ≤ 300, fun i _ => ((e.ops.length : Int) - i).toNat, ⟨0, rfl, by omega, k14, fun o ho => by simp at ho⟩, ?_⟩
  rintro i w2 ⟨k, rfl, hk, k2, hall⟩
  intros
  refine BIf_dec (fun hlt => ?_) (fun hge => ?_)
  · have hkl : k < e.ops.length := by omega
    obtain ⟨a, ha, hrow⟩ := (h.o.keep k2).2.2 k hkl
    refine needSome_mk ha ⟨by omega, hlt, _, _, _, _, _, by rw [Int.toNat_natCast]; exact hrow, ?_⟩
    refine var_mk (cs := opC e.ops[k]) rfl rfl (fun r87 w89 hr87 o87 k87 hs87 => ?_)
    have kk := k2.trans k87
    refine ⟨_, o87.cell 1 (by simp [opC]), BIf_dec (fun _ => yes kk) (fun h4 => ⟨_, o87.cell 2 (by simp [opC]), BIf_dec (fun _ => yes kk) (fun h5 => ⟨_, o87.cell 3 (by simp [opC]), BIf_dec (fun _ => yes kk) (fun h6 => ?_)⟩)⟩)⟩
    refine ⟨inR64 (by omega), ⟨k + 1, rfl, by omega, kk, fun o ho => ?_⟩, by dsimp only; omega⟩
    rw [List.take_succ_eq_append_getElem hkl, List.mem_append] at ho
    rcases ho with ho | ho
    · exact hall o ho
    · simp at ho; subst ho; omega
  · have hke : k = e.ops.length := by omega
    subst hke
    rw [List.take_length] at hall
    exact ⟨false, rfl, fun _ => ⟨h1, h2, h3, hall⟩, k2⟩
end Go.D

set_option linter.unusedVariables false
set_option linter.unusedSimpArgs false
set_option maxRecDepth 8000
namespace Go.D
open Go Go.Proofs

/-! ### operations, read -/
structure RdK (A : Nat → Addr) (n0 : Nat) (w0 w : World) (r : Nat) (F : Nat → Prop) (bs : List UInt8) : Prop where
  i : InR A w r F (bs, none)
  ge : w0.heap.size ≤ r
  l : r < w.heap.size
  f : ∀ k, F k → w0.heap.size ≤ k ∧ k < w.heap.size
  k : Keep w0 w
  e : ErrsB A n0 w0
  n : n0 ≤ w0.heap.size
  b : bs.length ≤ 2 ^ 20
section
variable {A : Nat → Addr} {n0 : Nat} {w0 w : World} {r : Nat} {F : Nat → Prop} {bs rest : List UInt8}
theorem RdK.ext {M : Nat → Prop} {w' : World} (h : RdK A n0 w0 w r F bs) (he : Ext M w w') (hm : ∀ k, M k → w.heap.size ≤ k ∨ (w0.heap.size ≤ k ∧ k ≠ r ∧ ¬ F k)) : RdK A n0 w0 w' r F bs := by
  have z := he.size
  have z0 := h.k.size
  refine ⟨h.i.ext he (fun hh => ?_) (fun k hk hh => ?_), h.ge, by have := h.l; omega, fun k hk => ⟨(h.f k hk).1, by have := (h.f k hk).2; omega⟩, h.k.ext he (fun k hk => ?_), h.e, h.n, h.b⟩
  · rcases hm _ hh with g | g
    · have := h.l; omega
    · exact g.2.1 rfl
  · rcases hm _ hh with g | g
    · have := (h.f k hk).2; omega
    · exact g.2.2 hk
  · rcases hm _ hk with g | g
    · omega
    · exact g.1
theorem RdK.keep {w' : World} (h : RdK A n0 w0 w r F bs) (he : Keep w w') : RdK A n0 w0 w' r F bs := h.ext he (fun _ h => h.elim)
theorem RdK.step {w' : World} {bs' : List UInt8} (h : RdK A n0 w0 w r F bs) (he : Ext (eqB r) w w') (hi : InR A w' r F (bs', none)) (hb : bs'.length ≤ 2 ^ 20) : RdK A n0 w0 w' r F bs' := by
  have z := he.size
  exact ⟨hi, h.ge, by have := h.l; omega, fun k hk => ⟨(h.f k hk).1, by have := (h.f k hk).2; omega⟩, h.k.ext he (fun k hk => by rw [show k = r from hk]; exact h.ge), h.e, h.n, hb⟩
theorem rdNum {n most : Int} (h : RdK A n0 w0 w r F (numB n ++ rest)) (hn : 0 ≤ n) (hm : n ≤ most) (hb : most ≤ 2 ^ 40) :
    Calls Tryd.prog fn_pack_In_Num ⟨[.pointer (some ⟨r, 0, none⟩), .int .i64 most]⟩ w fun e w' => e = .returned (.int .i64 n) ∧ RdK A n0 w0 w' r F rest ∧ Ext (eqB r) w w' := by
  have hl := h.b
  have q := rNum_enc most n.toNat rest (by omega) (by omega)
  have hrl : rest.length ≤ 2 ^ 20 := by rw [List.length_append] at hl; omega
  refine (In_Num_spec A n0 r F _ most w h.i (by dsimp only; omega) (h.e.keep h.k) (by have := h.n; have := h.ge; omega)).mono ?_
  rintro e w' ⟨rfl, g, k⟩
  unfold numB at *
  rw [q] at g ⊢
  refine ⟨?_, h.step k g hrl, k⟩
  rw [show ((n.toNat : Nat) : Int) = n by omega]
theorem rdText {t : List UInt8} {most : Int} (h : RdK A n0 w0 w r F (textB t ++ rest)) (hm : (t.length : Int) ≤ most) (hb : most ≤ 2 ^ 40) :
    Calls Tryd.prog fn_pack_In_Text ⟨[.pointer (some ⟨r, 0, none⟩), .int .i64 most]⟩ w fun e w' => e = .returned (strV t) ∧ RdK A n0 w0 w' r F rest ∧ Ext (eqB r) w w' := by
  have hl := h.b
  have q := rText_enc most t rest (by omega) (by omega)
  have hrl : rest.length ≤ 2 ^ 20 := by rw [List.length_append] at hl; omega
  refine (In_Text_spec A n0 r F _ most w h.i (by dsimp only; omega) (h.e.keep h.k) (by have := h.n; have := h.ge; omega)).mono ?_
  rintro e w' ⟨rfl, g, k⟩
  unfold textB at *
  rw [List.append_assoc] at g ⊢
  rw [q] at g ⊢
  exact ⟨rfl, h.step k g hrl, k⟩
end

def cleanOp (o : OpS) : OpS := if o.kind = 1 then ⟨o.kind, o.key, o.val, [], 0⟩ else if o.kind = 3 then ⟨o.kind, o.key, o.val, o.old, 0⟩ else if o.kind = 4 then ⟨o.kind, o.key, [], [], o.ver⟩ else ⟨o.kind, o.key, [], [], 0⟩
theorem clean_spec (o : OpS) (w : World) : Calls Tryd.prog fn_entry_clean ⟨[.agg ⟨opC o⟩]⟩ w fun x w' => x = .returned (.agg ⟨opC (cleanOp o)⟩) ∧ Keep w w' := by
  refine entry_clean_ok _ _ _ _ _ ?_
  unfold entry_clean
  refine newS_mk (fun r6 w7 hr6 hb6 k7 hs7 => newS_mk (fun r8 w9 hr8 hb8 k9 hs9 => ?_))
  have o6 : ObjAt w7 r6 (opC o) := ObjAt.new' hb6
  have o8 := ObjAt.new' hb8
  refine ⟨_, (o6.keep k9).cell 0 (by simp [opC]), _, (o6.keep k9).cell 1 (by simp [opC]), var_mk (cs := opC ⟨o.kind, o.key, [], [], 0⟩) rfl rfl (fun r12 w14 hr12 o12 k14 hs14 => ?_)⟩
  have kk := (k7.trans k9).trans k14
  have p6 := (o6.keep k9).keep k14
  have p8 := o8.keep k14
  have fin : ∀ {c : OpS} {w' : World}, ObjAt w' r12 (opC c) → ObjAt w' r8 [.int .i64 0, strV [], strV [], strV [], .int .i64 0] → Keep w w' → c = cleanOp o →
      ∃ n18 : Int, ∃ t19 : List UInt8, ∃ t20 : List UInt8, ∃ t21 : List UInt8, ∃ n22 : Int, rowAt w' (⟨r12, 0, none⟩ : Addr) 0 [(Value.int .i64 n18), (strV t19), (strV t20), (strV t21), (Value.int .i64 n22)] ∧
      canW w' (⟨r8, 0, none⟩ : Addr) 5 ∧ ∀ w23 : World, w23 = setCells w' (⟨r8, 0, none⟩ : Addr) 0 [(Value.int .i64 n18), (strV t19), (strV t20), (strV t21), (Value.int .i64 n22)] →
      ∃ n24 : Int, ∃ t25 : List UInt8, ∃ t26 : List UInt8, ∃ t27 : List UInt8, ∃ n28 : Int, rowAt w23 (⟨r8, 0, none⟩ : Addr) 0 [(Value.int .i64 n24), (strV t25), (strV t26), (strV t27), (Value.int .i64 n28)] ∧
      (Ending.returned (Value.agg ⟨[(Value.int .i64 n24), (strV t25), (strV t26), (strV t27), (Value.int .i64 n28)]⟩) = .returned (.agg ⟨opC (cleanOp o)⟩) ∧ Keep w w23) := by
    rintro c w' q12 q8 kw rfl
    obtain ⟨cw, g⟩ := q8.setAll (n := 5) (cs := opC (cleanOp o)) rfl rfl
    refine ⟨_, _, _, _, _, q12.row, cw, fun w23 h23 => ?_⟩
    obtain ⟨g1, g2, _⟩ := g w23 h23
    exact ⟨_, _, _, _, _, g1.row, rfl, kw.step (by have := k7.size; omega) g2⟩
  have n6 : r6 ≠ r12 := by have := k9.size; omega
  have n8 : r8 ≠ r12 := by omega
  have zz := (k7.trans k9).size
  refine ⟨_, p6.cell 0 (by simp [opC]), BIf_dec (fun h1 => ?_) (fun h1 => BIf_dec (fun h3 => ?_) (fun h3 => BIf_dec (fun h4 => ?_) (fun h4 => ?_)))⟩
  · refine ⟨_, p6.cell 2 (by simp [opC]), ?_⟩
    obtain ⟨cw, g⟩ := o12.setOne 2 (by simp [opC]) (strV o.val)
    refine ⟨cw, fun w17 h17 => ?_⟩
    obtain ⟨g1, g2, _⟩ := g w17 h17
    refine fin (c := ⟨o.kind, o.key, o.val, [], 0⟩) g1 (p8.ext g2 n8) (kk.step (by omega) g2) ?_
    unfold cleanOp; rw [if_pos h1]
  · have kd : Keep w14 (World.drew w14) := Keep.drew (Ext.refl _ _)
    refine ⟨_, (p6.keep kd).cell 3 (by simp [opC]), _, (p6.keep kd).cell 2 (by simp [opC]), ?_⟩
    obtain ⟨cw, g⟩ := (o12.keep kd).setOne 3 (by simp [opC]) (strV o.old)
    refine ⟨cw, fun w31 h31 => ?_⟩
    obtain ⟨g1, g2, _⟩ := g w31 h31
    obtain ⟨cw2, g3⟩ := g1.setOne 2 (by simp [opC]) (strV o.val)
    refine ⟨⟨_, ((p6.keep kd).ext g2 n6).cell 2 (by simp [opC]), rfl⟩, cw2, fun w33 h33 => ?_⟩
    obtain ⟨g4, g5, _⟩ := g3 w33 h33
    refine fin (c := ⟨o.kind, o.key, o.val, o.old, 0⟩) g4 (((p8.keep kd).ext g2 n8).ext g5 n8) (((kk.trans kd).step (by omega) g2).step (by omega) g5) ?_
    unfold cleanOp; rw [if_neg h1, if_pos h3]
  · refine ⟨_, p6.cell 4 (by simp [opC]), ?_⟩
    obtain ⟨cw, g⟩ := o12.setOne 4 (by simp [opC]) (.int .i64 o.ver)
    refine ⟨cw, fun w17 h17 => ?_⟩
    obtain ⟨g1, g2, _⟩ := g w17 h17
    refine fin (c := ⟨o.kind, o.key, [], [], o.ver⟩) g1 (p8.ext g2 n8) (kk.step (by omega) g2) ?_
    unfold cleanOp; rw [if_neg h1, if_neg h3, if_pos h4]
  · refine fin (c := ⟨o.kind, o.key, [], [], 0⟩) o12 p8 kk ?_
    unfold cleanOp; rw [if_neg h1, if_neg h3, if_neg h4]

theorem readOp_spec {A : Nat → Addr} {n0 : Nat} {w0 w : World} {r : Nat} {F : Nat → Prop} {rest : List UInt8} (o : OpS) (hr : rightOp o = true) (hs : o.key.length ≤ 300 ∧ o.val.length ≤ 300 ∧ o.old.length ≤ 300) (h : RdK A n0 w0 w r F (bytesOp o ++ rest)) :
    Calls Tryd.prog fn_entry_readOp ⟨[.pointer (some ⟨r, 0, none⟩)]⟩ w fun x w' => x = .returned (.agg ⟨opC (cleanOp o)⟩) ∧ RdK A n0 w0 w' r F rest ∧ Ext (eqB r) w w' := by
  refine entry_readOp_ok _ ?_
  unfold entry_readOp
  have hk14 : 1 ≤ o.kind ∧ o.kind ≤ 4 := by rcases (rightOp_cases hr).2 with ⟨h, _⟩ | h | ⟨h, _⟩ | ⟨h, _⟩ <;> omega
  have hver : o.kind = 4 → 0 ≤ o.ver ∧ o.ver ≤ 4096 := by
    intro h4
    rcases (rightOp_cases hr).2 with ⟨h, _⟩ | h | ⟨h, _⟩ | ⟨_, h⟩
    · omega
    · omega
    · omega
    · exact h
  refine newS_mk (fun r2 w3 hr2 hb2 k3 hs3 => ?_)
  have o2 := ObjAt.new' hb2
  have e3 : Ext (eqB r) w w3 := k3.mono (fun _ h => h.elim)
  unfold bytesOp at h
  simp only [List.append_assoc] at h
  have hrl := h.l
  refine (rdNum (h.keep k3) (by omega) (by omega) (by omega)).mono ?_
  rintro x w5 ⟨rfl, h5, e5⟩
  refine ⟨_, rfl, (rdText h5 (by omega) (by omega)).mono ?_⟩
  rintro x w8 ⟨rfl, h8, e8⟩
  have n2 : r2 ≠ r := by omega
  have e8' : Ext (eqB r) w w8 := (e3.trans' e5).trans' e8
  have q8 := (o2.ext e5 (fun hh => n2 hh)).ext e8 (fun hh => n2 hh)
  refine ⟨_, rfl, var_mk (cs := opC ⟨o.kind, o.key, [], [], 0⟩) rfl rfl (fun r10 w12 hr10 o10 k12 hs12 => ?_)⟩
  have h12 := h8.keep k12
  have e12 : Ext (eqB r) w w12 := e8'.trans' (k12.mono (fun _ h => h.elim))
  have z8 := e8'.size
  have q2 := q8.keep k12
  have hrl8 := h8.l
  have n10 : r10 ≠ r := by omega
  have nF : ¬ F r10 := fun hf => by have := (h8.f _ hf).2; omega
  have nF2 : ¬ F r2 := fun hf => by have := (h.f _ hf).2; omega
  have n210 : r2 ≠ r10 := by have := q8.lt; omega
  have fin : ∀ {c : OpS} {w' : World}, ObjAt w' r10 (opC c) → ObjAt w' r2 [.int .i64 0, strV [], strV [], strV [], .int .i64 0] → RdK A n0 w0 w' r F rest → Ext (eqB r) w w' → c = cleanOp o →
      ∃ n18 : Int, ∃ t19 : List UInt8, ∃ t20 : List UInt8, ∃ t21 : List UInt8, ∃ n22 : Int, rowAt w' (⟨r10, 0, none⟩ : Addr) 0 [(Value.int .i64 n18), (strV t19), (strV t20), (strV t21), (Value.int .i64 n22)] ∧
      canW w' (⟨r2, 0, none⟩ : Addr) 5 ∧ ∀ w23 : World, w23 = setCells w' (⟨r2, 0, none⟩ : Addr) 0 [(Value.int .i64 n18), (strV t19), (strV t20), (strV t21), (Value.int .i64 n22)] →
      ∃ n24 : Int, ∃ t25 : List UInt8, ∃ t26 : List UInt8, ∃ t27 : List UInt8, ∃ n28 : Int, rowAt w23 (⟨r2, 0, none⟩ : Addr) 0 [(Value.int .i64 n24), (strV t25), (strV t26), (strV t27), (Value.int .i64 n28)] ∧
      (Ending.returned (Value.agg ⟨[(Value.int .i64 n24), (strV t25), (strV t26), (strV t27), (Value.int .i64 n28)]⟩) = .returned (.agg ⟨opC (cleanOp o)⟩) ∧ RdK A n0 w0 w23 r F rest ∧ Ext (eqB r) w w23) := by
    rintro c w' p10 p2 hR he rfl
    obtain ⟨cw, g⟩ := p2.setAll (n := 5) (cs := opC (cleanOp o)) rfl rfl
    refine ⟨_, _, _, _, _, p10.row, cw, fun w23 h23 => ?_⟩
    obtain ⟨g1, g2, _⟩ := g w23 h23
    have z := h.k.size
    exact ⟨_, _, _, _, _, g1.row, rfl, hR.ext g2 (fun k hk => .inr (by rw [show k = r2 from hk]; exact ⟨by omega, n2, nF2⟩)), Ext.trans he g2 (fun _ h => h) (fun k hk => .inr (by rw [show k = r2 from hk]; omega))⟩
  have set1 : ∀ {w' : World} {cs : List Value} (bs : List UInt8) (i : Nat) (hi : i < cs.length) (v : Value), ObjAt w' r10 cs → ObjAt w' r2 [.int .i64 0, strV [], strV [], strV [], .int .i64 0] → RdK A n0 w0 w' r F bs → Ext (eqB r) w w' →
      canW w' (⟨r10, i, none⟩ : Addr) 1 ∧ ∀ w2 : World, w2 = World.setCell w' (⟨r10, i, none⟩ : Addr) v → ObjAt w2 r10 (cs.set i v) ∧ ObjAt w2 r2 [.int .i64 0, strV [], strV [], strV [], .int .i64 0] ∧ RdK A n0 w0 w2 r F bs ∧ Ext (eqB r) w w2 := by
    intro w' cs bs i hi v p10 p2 hR he
    obtain ⟨cw, g⟩ := p10.setOne i hi v
    refine ⟨cw, fun w2 h2 => ?_⟩
    obtain ⟨g1, g2, _⟩ := g w2 h2
    have z := h.k.size
    exact ⟨g1, p2.ext g2 n210, hR.ext g2 (fun k hk => .inr (by rw [show k = r10 from hk]; exact ⟨by omega, n10, nF⟩)), Ext.trans he g2 (fun _ h => h) (fun k hk => .inr (by rw [show k = r10 from hk]; omega))⟩
  refine ⟨_, o10.cell 0 (by simp [opC]), BIf_dec (fun h1 => ?_) (fun h1 => BIf_dec (fun h3 => ?_) (fun h3 => BIf_dec (fun h4 => ?_) (fun h4 => ?_)))⟩
  · have h1 : o.kind = 1 := h1
    rw [if_neg (show ¬ o.kind = 3 by omega), if_pos (.inl h1), if_neg (show ¬ o.kind = 4 by omega), List.nil_append, List.nil_append] at h12
    refine (rdText h12 (by omega) (by omega)).mono ?_
    rintro x w15 ⟨rfl, h15, e15⟩
    obtain ⟨cw, g⟩ := set1 _ 2 (by simp [opC]) (strV o.val) (o10.ext e15 (fun hh => n10 hh)) (q2.ext e15 (fun hh => n2 hh)) h15 (e12.trans' e15)
    refine ⟨_, rfl, cw, fun w17 h17 => ?_⟩
    obtain ⟨g1, g2, g3, g4⟩ := g w17 h17
    refine fin (c := ⟨o.kind, o.key, o.val, [], 0⟩) g1 g2 g3 g4 ?_
    unfold cleanOp; rw [if_pos h1]
  · have h1 : ¬ o.kind = 1 := h1
    have h3 : o.kind = 3 := h3
    rw [if_pos h3, if_pos (.inr h3), if_neg (show ¬ o.kind = 4 by omega), List.nil_append] at h12
    refine (rdText h12 (by omega) (by omega)).mono ?_
    rintro x w30 ⟨rfl, h30, e30⟩
    obtain ⟨cw, g⟩ := set1 _ 3 (by simp [opC]) (strV o.old) (o10.ext e30 (fun hh => n10 hh)) (q2.ext e30 (fun hh => n2 hh)) h30 (e12.trans' e30)
    refine ⟨_, rfl, cw, fun w32 h32 => ?_⟩
    obtain ⟨g1, g2, g3, g4⟩ := g w32 h32
    refine (rdText g3 (by omega) (by omega)).mono ?_
    rintro x w34 ⟨rfl, h34, e34⟩
    obtain ⟨cw2, gg⟩ := set1 _ 2 (by simp [opC]) (strV o.val) (g1.ext e34 (fun hh => n10 hh)) (g2.ext e34 (fun hh => n2 hh)) h34 (g4.trans' e34)
    refine ⟨_, rfl, cw2, fun w36 h36 => ?_⟩
    obtain ⟨g5, g6, g7, g8⟩ := gg w36 h36
    refine fin (c := ⟨o.kind, o.key, o.val, o.old, 0⟩) g5 g6 g7 g8 ?_
    unfold cleanOp; rw [if_neg h1, if_pos h3]
  · have h1 : ¬ o.kind = 1 := h1
    have h3 : ¬ o.kind = 3 := h3
    have h4 : o.kind = 4 := h4
    rw [if_neg h3, if_neg (show ¬ (o.kind = 1 ∨ o.kind = 3) by omega), if_pos h4, List.nil_append, List.nil_append] at h12
    refine (rdNum h12 (hver h4).1 (hver h4).2 (by omega)).mono ?_
    rintro x w15 ⟨rfl, h15, e15⟩
    obtain ⟨cw, g⟩ := set1 _ 4 (by simp [opC]) (.int .i64 o.ver) (o10.ext e15 (fun hh => n10 hh)) (q2.ext e15 (fun hh => n2 hh)) h15 (e12.trans' e15)
    refine ⟨_, rfl, cw, fun w17 h17 => ?_⟩
    obtain ⟨g1, g2, g3, g4⟩ := g w17 h17
    refine fin (c := ⟨o.kind, o.key, [], [], o.ver⟩) g1 g2 g3 g4 ?_
    unfold cleanOp; rw [if_neg h1, if_neg h3, if_pos h4]
  · have h1 : ¬ o.kind = 1 := h1
    have h3 : ¬ o.kind = 3 := h3
    have h4 : ¬ o.kind = 4 := h4
    rw [if_neg h3, if_neg (show ¬ (o.kind = 1 ∨ o.kind = 3) by omega), if_neg h4, List.nil_append, List.nil_append, List.nil_append] at h12
    refine fin (c := ⟨o.kind, o.key, [], [], 0⟩) o10 q2 h12 e12 ?_
    unfold cleanOp; rw [if_neg h1, if_neg h3, if_neg h4]
end Go.D

set_option linter.unusedVariables false
set_option linter.unusedSimpArgs false
set_option maxRecDepth 8000
namespace Go.D
open Go Go.Proofs

/-! ### records, read -/
theorem foot_op {x : OpS} {k : Nat} : ¬ footV (opC x) k := by rintro ⟨s, hs, _⟩; simp [opC, Slc.v, strV] at hs
def OpR : RowD OpS where
  n := 5
  pos := by omega
  R _ x cs := cs = opC x
  len h := by rw [h]; rfl
  one h := by rw [h]; intro v hv; simp [opC] at hv; rcases hv with rfl | rfl | rfl | rfl | rfl <;> rfl
  ext h _ _ := h
  lt h := by rw [h]; intro k hk; exact (foot_op hk).elim
def OpO (w : World) (s : Slc) (l : List OpS) : Prop := Rows OpR w s l (l.map opC)
theorem footC_op {l : List OpS} {k : Nat} : ¬ footC (l.map opC) k := by
  rintro ⟨cs, hc, hk⟩
  obtain ⟨x, _, rfl⟩ := List.mem_map.1 hc
  exact foot_op hk
theorem OpO.ext {M : Nat → Prop} {w w' : World} {s : Slc} {l : List OpS} (h : OpO w s l) (he : Ext M w w') (h1 : ∀ k, ownB s k → ¬ M k) : OpO w' s l := Rows.ext h he h1 (fun k hk => (footC_op hk).elim)
theorem OpO.keep {w w' : World} {s : Slc} {l : List OpS} (h : OpO w s l) (he : Keep w w') : OpO w' s l := h.ext he (fun _ _ h => h)
theorem OpO.nil (w : World) : OpO w ⟨none, 0, 0⟩ [] := Rows.nil _ _
theorem OpO.at {w : World} {s : Slc} {l : List OpS} (h : OpO w s l) : OpsAt w s l := by
  refine ⟨Rows.sl h, Rows.cap h, fun i hi => ?_⟩
  obtain ⟨a, ha, _, hrow⟩ := Rows.get h (i := i) (by simpa using hi)
  rw [List.getElem_map] at hrow
  exact ⟨a, ha, hrow⟩
theorem OpO.push {T E : TypeId} {w : World} {s : Slc} {l : List OpS} {x : OpS} {r : Nat} {K : Slc → World → Prop} (h : OpO w s l) (hb : w.heap[r]? = some (.cells ⟨opC x⟩ T)) (hlen : l.length < 2 ^ 30)
    (hK : ∀ s' w', OpO w' s' (l ++ [x]) → Ext (ownB s) w w' → (∀ k, ownB s' k → ownB s k ∨ w.heap.size ≤ k) → K s' w') :
    appendS 5 E [.int .i64 0, strV [], strV [], strV [], .int .i64 0] w s (.slc ⟨some ⟨r, 0, none⟩, 1, 1⟩) K := by
  refine Rows.snoc (e := OpR) h (cs := opC x) (x := x) rfl rfl (fun k hk => (foot_op hk).elim) hb (.inl (by simp)) hlen (fun s' w' g1 g2 g3 => hK s' w' ?_ g2 g3)
  have : (l ++ [x]).map opC = l.map opC ++ [opC x] := by simp
  unfold OpO; rw [this]; exact g1

def sliceLen : Option Value → Nat
  | some (.slice _ l _) => l
  | _ => 0

theorem readWriting_spec {A : Nat → Addr} {n0 : Nat} {w0 w : World} {r : Nat} {F : Nat → Prop} {rest : List UInt8} (e : EnS) (h1 : e.kind = 1) (hr : rightE e = true) (hs : SmallE e)
    (h : RdK A n0 w0 w r F (numB e.shard ++ (numB e.client ++ (numB e.seq ++ (numB (e.ops.length : Int) ++ (e.ops.flatMap bytesOp ++ rest)))))) :
    Calls Tryd.prog fn_entry_readWriting ⟨[.pointer (some ⟨r, 0, none⟩)]⟩ w fun x w' => ∃ s : Slc, x = .returned (.iface ty_entry_writing (.agg ⟨[.int .i64 e.shard, .int .i64 e.client, .int .i64 e.seq, s.v]⟩)) ∧
      OpO w' s (e.ops.map cleanOp) ∧ RdK A n0 w0 w' r F rest ∧ Ext (eqB r) w w' := by
  have hh : (1 ≤ e.shard ∧ e.shard ≤ 12) ∧ (1 ≤ e.client ∧ e.client ≤ 4) ∧ (1 ≤ e.seq ∧ e.seq ≤ 1073741824) ∧ (1 ≤ (e.ops.length : Int) ∧ (e.ops.length : Int) ≤ 8) ∧ e.ops.all rightOp = true := by
    unfold rightE at hr
    rw [if_pos h1] at hr
    simp only [Bool.and_eq_true, uptoB_iff] at hr
    exact hr
  obtain ⟨a1, a2, a3, a4, a5⟩ := hh
  have a5' : ∀ o ∈ e.ops, rightOp o = true := by simpa [List.all_eq_true] using a5
  refine entry_readWriting_ok _ ?_
  unfold entry_readWriting
  have hrl := h.l
  refine (rdNum h (by omega) (by omega) (by omega)).mono ?_
  rintro x w3 ⟨rfl, h3, e3⟩
  refine ⟨_, rfl, (rdNum h3 (by omega) (by omega) (by omega)).mono ?_⟩
  rintro x w6 ⟨rfl, h6, e6⟩
  refine ⟨_, rfl, (rdNum h6 (by omega) (by omega) (by omega)).mono ?_⟩
  rintro x w9 ⟨rfl, h9, e9⟩
  have ee9 := (e3.trans' e6).trans' e9
  have z9 := ee9.size
  refine ⟨_, rfl, var_mk (cs := [.int .i64 e.shard, .int .i64 e.client, .int .i64 e.seq, (⟨none, 0, 0⟩ : Slc).v]) rfl rfl (fun r11 w13 hr11 o11 k13 hs13 => ?_)⟩
  have n11 : r11 ≠ r := by omega
  refine (rdNum (h9.keep k13) (by omega) a4.2 (by omega)).mono ?_
  rintro x w15 ⟨rfl, h15, e15⟩
  have ee15 := (ee9.trans' (k13.mono (fun _ h => h.elim))).trans' e15
  have z0 := h.k.size
  refine ⟨_, rfl, fun w2 => ∃ (k : Nat) (s : Slc), k ≤ e.ops.length ∧ ObjAt w2 r11 [.int .i64 e.shard, .int .i64 e.client, .int .i64 e.seq, s.v] ∧ OpO w2 s ((e.ops.take k).map cleanOp) ∧ RdK A n0 w0 w2 r F ((e.ops.drop k).flatMap bytesOp ++ rest) ∧ Ext (eqB r) w w2 ∧ (∀ j, ownB s j → w.heap.size ≤ j ∧ j ≠ r11) ∧ s.l = k, fun w2 => e.ops.length - sliceLen (w2.cell? ⟨r11, 3, none⟩), ⟨0, ⟨none, 0, 0⟩, by omega, o11.ext e15 (fun hh => n11 hh), OpO.nil _, h15, ee15, fun j hj => (by obtain ⟨a, ha, _⟩ := hj; cases ha), rfl⟩, ?_⟩
  rintro w19 ⟨k, s, hk, o19, q19, h19, e19, f19, hsl⟩
  intros
  have n11' := n11
  have z11 : w.heap.size ≤ r11 := by omega
  have hn := hs.n
  have z19 := e19.size
  have F11 : ¬ F r11 := fun hf => by have := (h.f _ hf).2; omega
  have c3 := o19.cell 3 (by simp)
  refine ⟨s, c3, BIf_dec (fun hlt => ?_) (fun hge => ?_)⟩
  · have hkl : k < e.ops.length := by omega
    have kd : Keep w19 (World.drew w19) := Keep.drew (Ext.refl _ _)
    have hsp : (e.ops.drop k).flatMap bytesOp ++ rest = bytesOp e.ops[k] ++ ((e.ops.drop (k + 1)).flatMap bytesOp ++ rest) := by
      rw [List.drop_eq_getElem_cons hkl, List.flatMap_cons, List.append_assoc]
    rw [hsp] at h19
    refine ⟨s, (o19.keep kd).cell 3 (by simp), (readOp_spec e.ops[k] (a5' _ (List.getElem_mem hkl)) (hs.o _ (List.getElem_mem hkl)) (h19.keep kd)).mono ?_⟩
    rintro x w35 ⟨rfl, h35, e35⟩
    have o35 := (o19.keep kd).ext e35 (fun hh => n11 hh)
    have q35 := (q19.keep kd).ext e35 (fun j hj hh => by have := (f19 j hj).1; rw [show j = r from hh] at this; omega)
    have ee35 : Ext (eqB r) w w35 := (e19.trans' (kd.mono (fun _ h => h.elim))).trans' e35
    refine ⟨_, _, _, _, _, rfl, ⟨s, o35.cell 3 (by simp), rfl⟩, newS_mk (fun r42 w43 hr42 hb42 k43 hs43 => ?_)⟩
    have o43 := o35.keep k43
    refine ⟨⟨s, o43.cell 3 (by simp), rfl⟩, ?_⟩
    have ee43 : Ext (eqB r) w w43 := ee35.trans' (k43.mono (fun _ h => h.elim))
    have z43 := ee43.size
    have zr11 := o43.lt
    refine OpO.push (x := cleanOp e.ops[k]) (q35.keep k43) hb42 (by rw [List.length_map, List.length_take]; omega) (fun s' w46 g1 g2 g3 => ?_)
    have o46 := o43.ext g2 (fun hh => (f19 _ hh).2 rfl)
    obtain ⟨cw, g⟩ := o46.setOne 3 (by simp) s'.v
    refine ⟨cw, fun w47 h47 => ?_⟩
    obtain ⟨g4, g5, _⟩ := g w47 h47
    have f' : ∀ j, ownB s' j → w.heap.size ≤ j ∧ j ≠ r11 := fun j hj => by
      rcases g3 j hj with hh | hh
      · exact f19 j hh
      · exact ⟨by omega, by omega⟩
    have h46 := (h35.keep k43).ext g2 (fun j hj => .inr ⟨by have := (f19 j hj).1; omega, by have := (f19 j hj).1; omega, fun hf => by have := (h.f _ hf).2; have := (f19 j hj).1; omega⟩)
    have ee46 : Ext (eqB r) w w46 := Ext.trans ee43 g2 (fun _ h => h) (fun j hj => .inr (f19 j hj).1)
    have hlk : s'.l = k + 1 := by
      have := Rows.sl g1
      rw [this, List.length_append, List.length_map, List.length_take]
      simp
      omega
    refine ⟨⟨k + 1, s', by omega, g4, ?_, h46.ext g5 (fun j hj => .inr (by rw [show j = r11 from hj]; exact ⟨by omega, n11, F11⟩)), Ext.trans ee46 g5 (fun _ h => h) (fun j hj => .inr (by rw [show j = r11 from hj]; exact z11)), f', hlk⟩, ?_⟩
    · have := g1.ext g5 (fun j hj hh => (f' j hj).2 hh)
      rw [List.take_succ_eq_append_getElem hkl, List.map_append]; exact this
    · have c4 := g4.cell 3 (by simp)
      dsimp only
      rw [c3, c4]
      simp [sliceLen, Slc.v]
      omega
  · have hke : k = e.ops.length := by omega
    subst hke
    rw [List.take_length] at q19
    rw [List.drop_length, List.flatMap_nil, List.nil_append] at h19
    exact ⟨_, _, _, s, o19.row, s, rfl, q19, h19, e19⟩
end Go.D

set_option linter.unusedVariables false
set_option linter.unusedSimpArgs false
set_option maxRecDepth 8000
namespace Go.D
open Go Go.Proofs

/-! ### a record's entry -/
def cleanE (e : EnS) : EnS :=
  if e.kind = 1 then ⟨1, e.shard, 0, 0, e.client, e.seq, e.ops.map cleanOp, [], 0, 0, 0, []⟩
  else if e.kind = 2 then ⟨2, e.shard, 0, e.server, 0, 0, [], [], 0, 0, 0, []⟩
  else if e.kind = 3 then ⟨3, e.shard, e.other, e.server, 0, 0, [], e.key, 0, 0, 0, []⟩
  else if e.kind = 4 then ⟨4, e.shard, e.other, 0, 0, 0, [], [], 0, 0, 0, []⟩
  else ⟨5, e.shard, 0, 0, 0, 0, [], [], e.upto, e.part, e.parts, e.data⟩
theorem opsAt_nil (w : World) : OpsAt w ⟨none, 0, 0⟩ [] := ⟨rfl, by decide, fun i hi => by simp at hi⟩
theorem bytesAt_nil' (w : World) : bytesAt w ⟨none, 0, 0⟩ [] := ⟨rfl, .inl rfl⟩
def zE : List Value := [.int .i64 0, .int .i64 0, .int .i64 0, .int .i64 0, .int .i64 0, .int .i64 0, (⟨none, 0, 0⟩ : Slc).v, strV [], .int .i64 0, .int .i64 0, .int .i64 0, (⟨none, 0, 0⟩ : Slc).v]
theorem entry_spec (e : EnS) (so sd : Slc) (w : World) (h : EnAt w e so sd) (hs : SmallE e) (hkd : kindOk e) :
    Calls Tryd.prog fn_entry_entry ⟨[.iface (recT e) (.agg ⟨recC e so sd⟩)]⟩ w fun x w' => ∃ so' sd' : Slc, x = .returned (.agg ⟨enC (cleanE e) so' sd'⟩) ∧ EnAt w' (cleanE e) so' sd' ∧ Fresh w so' ∧ Fresh w sd' ∧ Keep w w' := by
  refine entry_entry_ok _ ?_
  unfold entry_entry
  refine newS_mk (fun r2 w3 hr2 hb2 k3 hs3 => ?_)
  have o2 : ObjAt w3 r2 zE := ObjAt.new' hb2
  have z3 := k3.size
  unfold kindOk at hkd
  have hn := hs.n
  have fin : ∀ {w' : World} {so' sd' : Slc}, ObjAt w' r2 zE → Keep w w' → EnAt w' (cleanE e) so' sd' → (∀ j, ownB so' j → w3.heap.size ≤ j) → (∀ j, ownB sd' j → w3.heap.size ≤ j) →
      canW w' (⟨r2, 0, none⟩ : Addr) 12 ∧ ∀ w2 : World, w2 = setCells w' (⟨r2, 0, none⟩ : Addr) 0 (enC (cleanE e) so' sd') → ObjAt w2 r2 (enC (cleanE e) so' sd') ∧ ∃ so2 sd2 : Slc, Ending.returned (.agg ⟨enC (cleanE e) so' sd'⟩) = .returned (.agg ⟨enC (cleanE e) so2 sd2⟩) ∧ EnAt w2 (cleanE e) so2 sd2 ∧ Fresh w so2 ∧ Fresh w sd2 ∧ Keep w w2 := by
    intro w' so' sd' p2 kw hE f1 f2
    obtain ⟨cw, g⟩ := p2.setAll (n := 12) (cs := enC (cleanE e) so' sd') rfl rfl
    refine ⟨cw, fun w2 h2 => ?_⟩
    obtain ⟨g1, g2, _⟩ := g w2 h2
    exact ⟨g1, so', sd', rfl, ⟨hE.o.ext g2 (fun _ k hk hh => by have := f1 k hk; have hh : k = r2 := hh; omega), bytesAt_ext hE.d g2 (fun k hk hh => by have := f2 k hk; have hh : k = r2 := hh; omega), hE.c⟩, fun j hj => by have := f1 j hj; omega, fun j hj => by have := f2 j hj; omega, kw.step (by omega) g2⟩
  have nn : ∀ j, ownB (⟨none, 0, 0⟩ : Slc) j → w3.heap.size ≤ j := fun j hj => by obtain ⟨a, ha, _⟩ := hj; cases ha
  by_cases h1 : e.kind = 1
  · unfold recT recC
    rw [if_pos h1, if_pos h1]
    refine .inl ⟨_, _, _, _, rfl, var_mk rfl rfl (fun r8 w10 hr8 o8 k10 hs10 => ?_)⟩
    refine ⟨_, o8.cell 0 (by simp), _, o8.cell 1 (by simp), _, o8.cell 2 (by simp), var_mk (cs := [.int .i64 1, .int .i64 e.shard, .int .i64 0, .int .i64 0, .int .i64 e.client, .int .i64 e.seq, (⟨none, 0, 0⟩ : Slc).v, strV [], .int .i64 0, .int .i64 0, .int .i64 0, (⟨none, 0, 0⟩ : Slc).v]) rfl rfl (fun r14 w16 hr14 o14 k16 hs16 => ?_)⟩
    refine ⟨so, (o8.keep k16).cell 3 (by simp), ?_⟩
    have kk16 := (k3.trans k10).trans k16
    have p2 := (o2.keep k10).keep k16
    have zz16 := (k10.trans k16).size
    refine ⟨fun i w21 => ∃ (k : Nat) (s : Slc), i = k ∧ k ≤ e.ops.length ∧ Keep w w21 ∧ w16.heap.size ≤ w21.heap.size ∧ ObjAt w21 r2 zE ∧ ObjAt w21 r14 [.int .i64 1, .int .i64 e.shard, .int .i64 0, .int .i64 0, .int .i64 e.client, .int .i64 e.seq, s.v, strV [], .int .i64 0, .int .i64 0, .int .i64 0, (⟨none, 0, 0⟩ : Slc).v] ∧ OpO w21 s ((e.ops.take k).map cleanOp) ∧ Fresh w16 s, fun i _ => ((e.ops.length : Int) - i).toNat, ⟨0, _, rfl, by omega, kk16, Nat.le_refl _, p2, o14, OpO.nil _, Fresh.nil _ _ _⟩, ?_⟩
    rintro i w21 ⟨k, s, rfl, hk, k21, z21, q2, q14, q21, f21⟩
    intros
    have hsl := h.o.1
    refine BIf_dec (fun hlt => ?_) (fun hge => ?_)
    · have hkl : k < e.ops.length := by omega
      obtain ⟨a, ha, hrow⟩ := (h.o.keep k21).2.2 k hkl
      refine needSome_mk ha ⟨by omega, hlt, _, _, _, _, _, by rw [Int.toNat_natCast]; exact hrow, ?_⟩
      refine var_mk (cs := opC e.ops[k]) rfl rfl (fun r40 w42 hr40 o40 k42 hs42 => ?_)
      have kd : Keep w42 (World.drew w42) := Keep.drew (Ext.refl _ _)
      have k42d := k42.trans kd
      refine ⟨s, (q14.keep k42d).cell 6 (by simp), _, _, _, _, _, (o40.keep kd).row, (clean_spec e.ops[k] _).mono ?_⟩
      rintro x w50 ⟨rfl, k50⟩
      have kq := k42d.trans k50
      refine ⟨_, _, _, _, _, rfl, ⟨s, (q14.keep kq).cell 6 (by simp), rfl⟩, newS_mk (fun r57 w58 hr57 hb57 k58 hs58 => ?_)⟩
      have kq58 := kq.trans k58
      have z58 := kq58.size
      refine ⟨⟨s, (q14.keep kq58).cell 6 (by simp), rfl⟩, OpO.push (x := cleanOp e.ops[k]) (q21.keep kq58) hb57 (by rw [List.length_map, List.length_take]; omega) (fun s' w61 g1 g2 g3 => ?_)⟩
      have n14 : ¬ ownB s r14 := fun hh => by have := f21 _ hh; omega
      have n2 : ¬ ownB s r2 := fun hh => by have := f21 _ hh; omega
      have f' : Fresh w16 s' := fun j hj => (g3 j hj).elim (fun hh => f21 j hh) (fun hh => by omega)
      obtain ⟨cw, g⟩ := ((q14.keep kq58).ext g2 n14).setOne 6 (by simp) s'.v
      refine ⟨cw, fun w62 h62 => ?_⟩
      obtain ⟨g4, g5, z62⟩ := g w62 h62
      have z61 := g2.size
      have kw61 : Keep w w61 := (k21.trans kq58).ext g2 (fun j hj => by have := f21 j hj; have := kk16.size; omega)
      refine ⟨inR64 (by omega), ⟨k + 1, s', rfl, by omega, kw61.step (by have := k3.size; have := k10.size; omega) g5, by omega, ((q2.keep kq58).ext g2 n2).ext g5 (fun hh => by have hh : r2 = r14 := hh; have := k10.size; omega), g4, ?_, f'⟩, by dsimp only; omega⟩
      have := g1.ext g5 (fun j hj hh => by have := f' j hj; have hh : j = r14 := hh; omega)
      rw [List.take_succ_eq_append_getElem hkl, List.map_append]; exact this
    · have hke : k = e.ops.length := by omega
      subst hke
      rw [List.take_length] at q21
      have hce : cleanE e = ⟨1, e.shard, 0, 0, e.client, e.seq, e.ops.map cleanOp, [], 0, 0, 0, []⟩ := if_pos h1
      have hEA : EnAt w21 (cleanE e) s ⟨none, 0, 0⟩ := by rw [hce]; exact ⟨q21.at, bytesAt_nil' _, by decide⟩
      obtain ⟨cw, g⟩ := fin q2 k21 hEA (fun j hj => by have := f21 j hj; omega) nn
      rw [hce] at g
      refine ⟨_, _, _, _, _, _, _, _, _, _, _, _, q14.row, cw, fun w75 h75 => ?_⟩
      obtain ⟨g1, so2, sd2, g2, g3, g4⟩ := g w75 h75
      rw [hce]
      exact ⟨_, _, _, _, _, _, _, _, _, _, _, _, g1.row, so2, sd2, g2, g3, g4⟩
  by_cases h2 : e.kind = 2
  · unfold recT recC
    rw [if_neg h1, if_neg h1, if_pos h2, if_pos h2]
    refine .inr ⟨isOther_of (by decide), .inl ⟨_, _, rfl, var_mk rfl rfl (fun r8 w10 hr8 o8 k10 hs10 => ?_)⟩⟩
    have hce : cleanE e = ⟨2, e.shard, 0, e.server, 0, 0, [], [], 0, 0, 0, []⟩ := by unfold cleanE; rw [if_neg h1, if_pos h2]
    have hEA : EnAt w10 (cleanE e) ⟨none, 0, 0⟩ ⟨none, 0, 0⟩ := by rw [hce]; exact ⟨opsAt_nil _, bytesAt_nil' _, by decide⟩
    obtain ⟨cw, g⟩ := fin (o2.keep k10) (k3.trans k10) hEA nn nn
    rw [hce] at g
    refine ⟨_, o8.cell 0 (by simp), _, o8.cell 1 (by simp), cw, fun w75 h75 => ?_⟩
    obtain ⟨g1, so2, sd2, g2, g3, g4⟩ := g w75 h75
    rw [hce]
    exact ⟨_, _, _, _, _, _, _, _, _, _, _, _, g1.row, so2, sd2, g2, g3, g4⟩
  by_cases h3 : e.kind = 3
  · unfold recT recC
    rw [if_neg h1, if_neg h1, if_neg h2, if_neg h2, if_pos h3, if_pos h3]
    refine .inr ⟨isOther_of (by decide), .inr ⟨isOther_of (by decide), .inl ⟨_, _, _, _, rfl, var_mk rfl rfl (fun r8 w10 hr8 o8 k10 hs10 => ?_)⟩⟩⟩
    have hce : cleanE e = ⟨3, e.shard, e.other, e.server, 0, 0, [], e.key, 0, 0, 0, []⟩ := by unfold cleanE; rw [if_neg h1, if_neg h2, if_pos h3]
    have hEA : EnAt w10 (cleanE e) ⟨none, 0, 0⟩ ⟨none, 0, 0⟩ := by rw [hce]; exact ⟨opsAt_nil _, bytesAt_nil' _, by decide⟩
    obtain ⟨cw, g⟩ := fin (o2.keep k10) (k3.trans k10) hEA nn nn
    rw [hce] at g
    refine ⟨_, o8.cell 0 (by simp), _, o8.cell 1 (by simp), _, o8.cell 2 (by simp), _, o8.cell 3 (by simp), cw, fun w75 h75 => ?_⟩
    obtain ⟨g1, so2, sd2, g2, g3, g4⟩ := g w75 h75
    rw [hce]
    exact ⟨_, _, _, _, _, _, _, _, _, _, _, _, g1.row, so2, sd2, g2, g3, g4⟩
  by_cases h4 : e.kind = 4
  · unfold recT recC
    rw [if_neg h1, if_neg h1, if_neg h2, if_neg h2, if_neg h3, if_neg h3, if_pos h4, if_pos h4]
    refine .inr ⟨isOther_of (by decide), .inr ⟨isOther_of (by decide), .inr ⟨isOther_of (by decide), .inl ⟨_, _, rfl, var_mk rfl rfl (fun r8 w10 hr8 o8 k10 hs10 => ?_)⟩⟩⟩⟩
    have hce : cleanE e = ⟨4, e.shard, e.other, 0, 0, 0, [], [], 0, 0, 0, []⟩ := by unfold cleanE; rw [if_neg h1, if_neg h2, if_neg h3, if_pos h4]
    have hEA : EnAt w10 (cleanE e) ⟨none, 0, 0⟩ ⟨none, 0, 0⟩ := by rw [hce]; exact ⟨opsAt_nil _, bytesAt_nil' _, by decide⟩
    obtain ⟨cw, g⟩ := fin (o2.keep k10) (k3.trans k10) hEA nn nn
    rw [hce] at g
    refine ⟨_, o8.cell 0 (by simp), _, o8.cell 1 (by simp), cw, fun w75 h75 => ?_⟩
    obtain ⟨g1, so2, sd2, g2, g3, g4⟩ := g w75 h75
    rw [hce]
    exact ⟨_, _, _, _, _, _, _, _, _, _, _, _, g1.row, so2, sd2, g2, g3, g4⟩
  · unfold recT recC
    rw [if_neg h1, if_neg h1, if_neg h2, if_neg h2, if_neg h3, if_neg h3, if_neg h4, if_neg h4]
    refine .inr ⟨isOther_of (by decide), .inr ⟨isOther_of (by decide), .inr ⟨isOther_of (by decide), .inr ⟨isOther_of (by decide), _, _, _, _, _, rfl, var_mk rfl rfl (fun r8 w10 hr8 o8 k10 hs10 => ?_)⟩⟩⟩⟩
    have kd : Keep w10 (World.drew w10) := Keep.drew (Ext.refl _ _)
    have o8' := o8.keep kd
    have kk10 := (k3.trans k10).trans kd
    have hdl := h.d.1
    have hdd := hs.d
    refine ⟨_, o8'.cell 0 (by simp), _, o8'.cell 1 (by simp), _, o8'.cell 2 (by simp), _, o8'.cell 3 (by simp), sd, o8'.cell 4 (by simp), (CloneB_own sd e.data _ (bytesAt_keep h.d kk10) (by omega)).mono ?_⟩
    rintro x w166 ⟨t, rfl, ht, hf, k166⟩
    have p8 := o8'.keep k166
    refine ⟨t, rfl, ⟨_, p8.cell 3 (by simp), rfl⟩, ⟨_, p8.cell 2 (by simp), rfl⟩, ⟨_, p8.cell 1 (by simp), rfl⟩, ⟨_, p8.cell 0 (by simp), rfl⟩, ?_⟩
    have hce : cleanE e = ⟨5, e.shard, 0, 0, 0, 0, [], [], e.upto, e.part, e.parts, e.data⟩ := by unfold cleanE; rw [if_neg h1, if_neg h2, if_neg h3, if_neg h4]
    have hEA : EnAt w166 (cleanE e) ⟨none, 0, 0⟩ t := by rw [hce]; exact ⟨opsAt_nil _, ht.bytes, ht.le (by omega)⟩
    have p2 := (o2.keep k10).keep kd
    obtain ⟨cw, g⟩ := fin (p2.keep k166) (kk10.trans k166) hEA nn (fun j hj => by have := hf j hj; have := (k10.trans kd).size; omega)
    rw [hce] at g
    refine ⟨cw, fun w75 h75 => ?_⟩
    obtain ⟨g1, so2, sd2, g2, g3, g4⟩ := g w75 h75
    rw [hce]
    exact ⟨_, _, _, _, _, _, _, _, _, _, _, _, g1.row, so2, sd2, g2, g3, g4⟩
end Go.D

set_option linter.unusedVariables false
set_option linter.unusedSimpArgs false
set_option maxRecDepth 8000
namespace Go.D
open Go Go.Proofs

/-! ### what is cleaned is the same -/
theorem bytesOp_clean (o : OpS) : bytesOp (cleanOp o) = bytesOp o := by
  unfold cleanOp bytesOp
  by_cases h1 : o.kind = 1
  · rw [if_pos h1]; simp [h1]
  by_cases h3 : o.kind = 3
  · rw [if_neg h1, if_pos h3]; simp [h3]
  by_cases h4 : o.kind = 4
  · rw [if_neg h1, if_neg h3, if_pos h4]; simp [h4]
  · rw [if_neg h1, if_neg h3, if_neg h4]; simp [h1, h3, h4]
theorem rightOp_clean {o : OpS} (h : rightOp o = true) : rightOp (cleanOp o) = true := by
  unfold cleanOp rightOp at *
  by_cases h1 : o.kind = 1
  · rw [if_pos h1]; simpa [h1] using h
  by_cases h3 : o.kind = 3
  · rw [if_neg h1, if_pos h3]; simpa [h3] using h
  by_cases h4 : o.kind = 4
  · rw [if_neg h1, if_neg h3, if_pos h4]; simpa [h4] using h
  · rw [if_neg h1, if_neg h3, if_neg h4]; simpa [h1, h3, h4] using h
theorem small_clean {o : OpS} (h : o.key.length ≤ 300 ∧ o.val.length ≤ 300 ∧ o.old.length ≤ 300) : (cleanOp o).key.length ≤ 300 ∧ (cleanOp o).val.length ≤ 300 ∧ (cleanOp o).old.length ≤ 300 := by
  unfold cleanOp
  split <;> (try split) <;> (try split) <;> simp <;> omega
theorem flat_clean (l : List OpS) : (l.map cleanOp).flatMap bytesOp = l.flatMap bytesOp := by
  induction l with
  | nil => rfl
  | cons a l ih => rw [List.map_cons, List.flatMap_cons, List.flatMap_cons, ih, bytesOp_clean]
theorem clean_ok {e : EnS} (hr : rightE e = true) (hs : SmallE e) : rightE (cleanE e) = true ∧ bytesE (cleanE e) = bytesE e ∧ SmallE (cleanE e) := by
  have hk := right_kind hr
  unfold kindOk at hk
  unfold cleanE
  by_cases h1 : e.kind = 1
  · rw [if_pos h1]
    refine ⟨?_, ?_, ⟨by simpa using hs.n, by simp, by simp, fun o ho => ?_⟩⟩
    · unfold rightE at hr ⊢
      rw [if_pos h1] at hr
      rw [if_pos rfl]
      simp only [Bool.and_eq_true, List.all_eq_true, List.length_map] at hr ⊢
      refine ⟨hr.1, hr.2.1, hr.2.2.1, hr.2.2.2.1, fun o ho => ?_⟩
      obtain ⟨p, hp, rfl⟩ := List.mem_map.1 ho
      exact rightOp_clean (hr.2.2.2.2 p hp)
    · unfold bytesE headE tailE
      simp [h1, flat_clean]
    · obtain ⟨p, hp, rfl⟩ := List.mem_map.1 ho
      exact small_clean (hs.o p hp)
  have nil : ∀ o ∈ ([] : List OpS), o.key.length ≤ 300 ∧ o.val.length ≤ 300 ∧ o.old.length ≤ 300 := fun o ho => by simp at ho
  by_cases h2 : e.kind = 2
  · rw [if_neg h1, if_pos h2]
    refine ⟨?_, ?_, ⟨by simp, by simp, by simp, nil⟩⟩
    · unfold rightE at hr ⊢
      simpa [h2] using hr
    · unfold bytesE headE tailE
      simp [h2]
  by_cases h3 : e.kind = 3
  · rw [if_neg h1, if_neg h2, if_pos h3]
    refine ⟨?_, ?_, ⟨by simp, hs.k, by simp, nil⟩⟩
    · unfold rightE twoB at hr ⊢
      simpa [h3] using hr
    · unfold bytesE headE tailE
      simp [h3]
  by_cases h4 : e.kind = 4
  · rw [if_neg h1, if_neg h2, if_neg h3, if_pos h4]
    refine ⟨?_, ?_, ⟨by simp, by simp, by simp, nil⟩⟩
    · unfold rightE twoB at hr ⊢
      simpa [h4] using hr
    · unfold bytesE headE tailE
      simp [h4]
  · have h5 : e.kind = 5 := by omega
    rw [if_neg h1, if_neg h2, if_neg h3, if_neg h4]
    refine ⟨?_, ?_, ⟨by simp, by simp, hs.d, nil⟩⟩
    · unfold rightE at hr ⊢
      simpa [h5] using hr
    · unfold bytesE headE tailE
      simp [h5]

theorem entryRead_spec (A : Nat → Addr) {n0 : Nat} (e : EnS) (s : Slc) (w : World) (hb : bytesAt w s (bytesE e)) (hr : rightE e = true) (hs : SmallE e) (hE : ErrsB A n0 w) (hn0 : n0 ≤ w.heap.size) :
    Calls Tryd.prog fn_entry_Read ⟨[s.v]⟩ w fun x w' => ∃ so sd : Slc, x = .returned (.tuple ⟨[.agg ⟨enC (cleanE (cleanE e)) so sd⟩, .nilIface]⟩) ∧ EnAt w' (cleanE (cleanE e)) so sd ∧ Keep w w' := by
  have hlen := bytesE_len hs hr
  have hsl := hb.1
  have hkd := right_kind hr
  obtain ⟨c1, c2, c3⟩ := clean_ok hr hs
  have ckd := right_kind c1
  refine entry_Read_ok _ ?_
  unfold entry_Read
  refine newS_mk (fun r2 w3 hr2 hb2 k3 hs3 => ?_)
  have o2 : ObjAt w3 r2 zE := ObjAt.new' hb2
  have z3 := k3.size
  refine (Read_spec A s _ w3 (bytesAt_keep hb k3) (by omega)).mono ?_
  rintro x w5 ⟨r, F, rfl, hI, k5, hr5, hF5⟩
  have hR : RdK A n0 w3 w5 r F (bytesE e) := ⟨hI, hr5, by obtain ⟨_, h, _⟩ := hI; exact h.1.lt, hF5, k5, hE.keep k3, by omega, by omega⟩
  have p2 := o2.keep k5
  have n2 : r2 ≠ r := by omega
  refine ⟨_, rfl, fun v w2 => ∃ so sd : Slc, v = .iface (recT (cleanE e)) (.agg ⟨recC (cleanE e) so sd⟩) ∧ EnAt w2 (cleanE e) so sd ∧ RdK A n0 w3 w2 r F [] ∧ ObjAt w2 r2 zE, ?_, ?_⟩
  · unfold bytesE headE tailE at hR
    unfold kindOk at hkd
    have hk0 : 0 ≤ e.kind ∧ e.kind ≤ 5 := by omega
    by_cases h1 : e.kind = 1
    · simp [h1, List.append_assoc] at hR
      refine (rdNum (n := 1) hR (by omega) (by omega) (by omega)).mono ?_
      rintro x w9 ⟨rfl, h9, e9⟩
      refine ⟨_, rfl, BIf_dec (fun _ => ?_) (fun hh => (hh rfl).elim)⟩
      refine (readWriting_spec (rest := []) e h1 hr hs (by simpa using h9)).mono ?_
      rintro x w12 ⟨t, rfl, ht, h12, e12⟩
      have hce : cleanE e = ⟨1, e.shard, 0, 0, e.client, e.seq, e.ops.map cleanOp, [], 0, 0, 0, []⟩ := if_pos h1
      refine ⟨_, rfl, t, ⟨none, 0, 0⟩, by rw [hce]; rfl, by rw [hce]; exact ⟨ht.at, bytesAt_nil' _, by decide⟩, h12, (p2.ext e9 (fun hh => n2 hh)).ext e12 (fun hh => n2 hh)⟩
    by_cases h2 : e.kind = 2
    · have hb2 : (1 ≤ e.shard ∧ e.shard ≤ 12) ∧ (1 ≤ e.server ∧ e.server ≤ 4) := by
        unfold rightE at hr
        rw [if_neg h1, if_pos h2] at hr
        simpa only [Bool.and_eq_true, uptoB_iff] using hr
      simp [h2, List.append_assoc] at hR
      refine (rdNum (n := 2) hR (by omega) (by omega) (by omega)).mono ?_
      rintro x w9 ⟨rfl, h9, e9⟩
      refine ⟨_, rfl, BIf_dec (fun hh => by cases hh) (fun _ => BIf_dec (fun _ => ?_) (fun hh => (hh rfl).elim))⟩
      refine (rdNum h9 (by omega) (by omega) (by omega)).mono ?_
      rintro x w15 ⟨rfl, h15, e15⟩
      refine ⟨_, rfl, (rdNum (rest := []) (by simpa using h15) (by omega) (by omega) (by omega)).mono ?_⟩
      rintro x w18 ⟨rfl, h18, e18⟩
      have hce : cleanE e = ⟨2, e.shard, 0, e.server, 0, 0, [], [], 0, 0, 0, []⟩ := by unfold cleanE; rw [if_neg h1, if_pos h2]
      exact ⟨_, rfl, ⟨none, 0, 0⟩, ⟨none, 0, 0⟩, by rw [hce]; rfl, by rw [hce]; exact ⟨opsAt_nil _, bytesAt_nil' _, by decide⟩, h18, ((p2.ext e9 (fun hh => n2 hh)).ext e15 (fun hh => n2 hh)).ext e18 (fun hh => n2 hh)⟩
    by_cases h3 : e.kind = 3
    · have ht : twoB e = true ∧ (1 ≤ e.server ∧ e.server ≤ 4) := by
        unfold rightE at hr
        rw [if_neg h1, if_neg h2, if_pos h3] at hr
        simp only [Bool.and_eq_true, uptoB_iff] at hr
        exact ⟨hr.1, hr.2.1⟩
      obtain ⟨⟨a1, a2⟩, ⟨a3, a4⟩, a5⟩ := twoB_iff.1 ht.1
      have hkl := hs.k
      simp [h3, List.append_assoc] at hR
      refine (rdNum (n := 3) hR (by omega) (by omega) (by omega)).mono ?_
      rintro x w9 ⟨rfl, h9, e9⟩
      refine ⟨_, rfl, BIf_dec (fun hh => by cases hh) (fun _ => BIf_dec (fun hh => by cases hh) (fun _ => BIf_dec (fun _ => ?_) (fun hh => (hh rfl).elim)))⟩
      refine (rdNum h9 (by omega) (by omega) (by omega)).mono ?_
      rintro x w15 ⟨rfl, h15, e15⟩
      refine ⟨_, rfl, (rdNum h15 (by omega) (by omega) (by omega)).mono ?_⟩
      rintro x w18 ⟨rfl, h18, e18⟩
      refine ⟨_, rfl, (rdNum h18 (by omega) (by omega) (by omega)).mono ?_⟩
      rintro x w21 ⟨rfl, h21, e21⟩
      refine ⟨_, rfl, (rdText (rest := []) (by simpa using h21) (by omega) (by omega)).mono ?_⟩
      rintro x w24 ⟨rfl, h24, e24⟩
      have hce : cleanE e = ⟨3, e.shard, e.other, e.server, 0, 0, [], e.key, 0, 0, 0, []⟩ := by unfold cleanE; rw [if_neg h1, if_neg h2, if_pos h3]
      exact ⟨_, rfl, ⟨none, 0, 0⟩, ⟨none, 0, 0⟩, by rw [hce]; rfl, by rw [hce]; exact ⟨opsAt_nil _, bytesAt_nil' _, by decide⟩, h24, ((((p2.ext e9 (fun hh => n2 hh)).ext e15 (fun hh => n2 hh)).ext e18 (fun hh => n2 hh)).ext e21 (fun hh => n2 hh)).ext e24 (fun hh => n2 hh)⟩
    by_cases h4 : e.kind = 4
    · have ht : twoB e = true := by
        unfold rightE at hr
        rw [if_neg h1, if_neg h2, if_neg h3, if_pos h4] at hr
        exact hr
      obtain ⟨⟨a1, a2⟩, ⟨a3, a4⟩, a5⟩ := twoB_iff.1 ht
      simp [h4, List.append_assoc] at hR
      refine (rdNum (n := 4) hR (by omega) (by omega) (by omega)).mono ?_
      rintro x w9 ⟨rfl, h9, e9⟩
      refine ⟨_, rfl, BIf_dec (fun hh => by cases hh) (fun _ => BIf_dec (fun hh => by cases hh) (fun _ => BIf_dec (fun hh => by cases hh) (fun _ => BIf_dec (fun _ => ?_) (fun hh => (hh rfl).elim))))⟩
      refine (rdNum h9 (by omega) (by omega) (by omega)).mono ?_
      rintro x w15 ⟨rfl, h15, e15⟩
      refine ⟨_, rfl, (rdNum (rest := []) (by simpa using h15) (by omega) (by omega) (by omega)).mono ?_⟩
      rintro x w18 ⟨rfl, h18, e18⟩
      have hce : cleanE e = ⟨4, e.shard, e.other, 0, 0, 0, [], [], 0, 0, 0, []⟩ := by unfold cleanE; rw [if_neg h1, if_neg h2, if_neg h3, if_pos h4]
      exact ⟨_, rfl, ⟨none, 0, 0⟩, ⟨none, 0, 0⟩, by rw [hce]; rfl, by rw [hce]; exact ⟨opsAt_nil _, bytesAt_nil' _, by decide⟩, h18, ((p2.ext e9 (fun hh => n2 hh)).ext e15 (fun hh => n2 hh)).ext e18 (fun hh => n2 hh)⟩
    · have h5 : e.kind = 5 := by omega
      have hbb : (0 ≤ e.shard ∧ e.shard ≤ 12) ∧ (0 ≤ e.upto ∧ e.upto ≤ 4096) ∧ (1 ≤ e.parts ∧ e.parts ≤ 64) ∧ (0 ≤ e.part ∧ e.part < e.parts) ∧ e.data.length ≤ 256 := by
        unfold rightE at hr
        rw [if_neg h1, if_neg h2, if_neg h3, if_neg h4, if_pos h5] at hr
        simp only [Bool.and_eq_true, uptoB_iff, decide_eq_true_eq] at hr
        omega
      simp [h5, List.append_assoc] at hR
      refine (rdNum (n := 5) hR (by omega) (by omega) (by omega)).mono ?_
      rintro x w9 ⟨rfl, h9, e9⟩
      refine ⟨_, rfl, BIf_dec (fun hh => by cases hh) (fun _ => BIf_dec (fun hh => by cases hh) (fun _ => BIf_dec (fun hh => by cases hh) (fun _ => BIf_dec (fun hh => by cases hh) (fun _ => BIf_dec (fun _ => ?_) (fun hh => (hh rfl).elim)))))⟩
      refine (rdNum h9 (by omega) (by omega) (by omega)).mono ?_
      rintro x w15 ⟨rfl, h15, e15⟩
      refine ⟨_, rfl, (rdNum h15 (by omega) (by omega) (by omega)).mono ?_⟩
      rintro x w18 ⟨rfl, h18, e18⟩
      refine ⟨_, rfl, (rdNum h18 (by omega) (by omega) (by omega)).mono ?_⟩
      rintro x w21 ⟨rfl, h21, e21⟩
      refine ⟨_, rfl, (rdNum h21 (by omega) (by omega) (by omega)).mono ?_⟩
      rintro x w24 ⟨rfl, h24, e24⟩
      have q24 := ((((p2.ext e9 (fun hh => n2 hh)).ext e15 (fun hh => n2 hh)).ext e18 (fun hh => n2 hh)).ext e21 (fun hh => n2 hh)).ext e24 (fun hh => n2 hh)
      refine ⟨_, rfl, var_mk (cs := [.int .i64 e.shard, .int .i64 e.upto, .int .i64 e.parts, .int .i64 e.part, (⟨none, 0, 0⟩ : Slc).v]) rfl rfl (fun r50 w52 hr50 o50 k52 hs52 => ?_)⟩
      have n50 : r50 ≠ r := by have := h24.l; omega
      have hF50 : ¬ F r50 := fun hf => by have := (h24.f _ hf).2; omega
      refine (rdText (rest := []) (by simpa using h24.keep k52) (by omega) (by omega)).mono ?_
      rintro x w54 ⟨rfl, h54, e54⟩
      have q54 := (q24.keep k52).ext e54 (fun hh => n2 hh)
      refine ⟨_, rfl, bytesK_mk (fun t w57 ht hc hf k57 => ?_)⟩
      obtain ⟨cw, g⟩ := ((o50.ext e54 (fun hh => n50 hh)).keep k57).setOne 4 (by simp) t.v
      refine ⟨cw, fun w58 h58 => ?_⟩
      obtain ⟨g1, g2, _⟩ := g w58 h58
      have z54 := e54.size
      have hce : cleanE e = ⟨5, e.shard, 0, 0, 0, 0, [], [], e.upto, e.part, e.parts, e.data⟩ := by unfold cleanE; rw [if_neg h1, if_neg h2, if_neg h3, if_neg h4]
      have zk := h24.k.size
      refine ⟨_, _, _, _, _, g1.row, ⟨none, 0, 0⟩, t, by rw [hce]; rfl, ?_, (h54.keep k57).ext g2 (fun k hk => .inr (by rw [show k = r50 from hk]; exact ⟨by omega, n50, hF50⟩)), (q54.keep k57).ext g2 (fun hh => by have := q24.lt; have hh : r2 = r50 := hh; omega)⟩
      rw [hce]
      exact ⟨opsAt_nil _, bytesAt_ext ht g2 (fun k hk hh => by have := hf k hk; have hh : k = r50 := hh; omega), hc⟩
  · rintro v w65 ⟨so, sd, rfl, hA, h65, q65⟩
    intros
    refine (In_End_spec A n0 r F _ w65 h65.i (h65.e.keep h65.k)).mono ?_
    rintro x w119 ⟨rfl, rfl⟩
    have kk : Keep w w119 := k3.trans h65.k
    refine ⟨_, rfl, errO_isI A _, BIf_mk (fun hh => by cases hh) (fun _ => ⟨trivial, BIf_mk (fun hh => by cases hh) (fun _ => ?_)⟩)⟩
    obtain ⟨g, hm, hcb, hc⟩ := recRight_spec A (cleanE e) so sd w119 hA c3 ckd ((hE.keep kk).g.sub (by decide))
    refine ⟨_, _, _, g, rfl, hm _, hcb, hc.mono ?_⟩
    rintro x w154 ⟨rfl, k154⟩
    refine ⟨_, rfl, BIf_mk (fun hh => by rw [c1] at hh; cases hh) (fun _ => ?_)⟩
    refine (entry_spec (cleanE e) so sd w154 (hA.keep k154) c3 ckd).mono ?_
    rintro x w172 ⟨so2, sd2, rfl, hA2, f1, f2, k172⟩
    obtain ⟨cw, g⟩ := ((q65.keep k154).keep k172).setAll (n := 12) (cs := enC (cleanE (cleanE e)) so2 sd2) rfl rfl
    refine ⟨_, _, _, _, _, _, _, _, _, _, _, _, rfl, cw, fun w185 h185 => ?_⟩
    obtain ⟨g1, g2, _⟩ := g w185 h185
    have z2 := (q65.keep k154).lt
    refine ⟨_, _, _, _, _, _, _, _, _, _, _, _, g1.row, so2, sd2, rfl, ⟨hA2.o.ext g2 (fun _ k hk hh => by have := f1 k hk; have hh : k = r2 := hh; omega), bytesAt_ext hA2.d g2 (fun k hk hh => by have := f2 k hk; have hh : k = r2 := hh; omega), hA2.c⟩, ((kk.trans k154).trans k172).step (by omega) g2⟩
end Go.D

set_option linter.unusedVariables false
set_option linter.unusedSimpArgs false
set_option maxRecDepth 8000
namespace Go.D
open Go Go.Proofs

theorem EntryWrites_walk (A : Nat → Addr) (e : EnS) (so sd : Slc) (w : World) (h : EnAt w e so sd) (hE0 : Errs A w) :
    Calls Tryd.prog fn_tidewaterlaw05_EntryWrites ⟨[.agg ⟨enC e so sd⟩]⟩ w fun x w' => x = .returned (.bool true) ∧ Keep w w' := by
  have hE := hE0.b
  have hG : ErrsG keyG A w.heap.size w := hE.g.sub (by decide)
  refine tidewaterlaw05_EntryWrites_ok _ _ _ _ _ _ _ _ _ _ _ _ ?_
  unfold tidewaterlaw05_EntryWrites
  refine newS_mk (fun r w14 hr hb k14 hs14 => ?_)
  have o : ObjAt w14 r (enC e so sd) := ObjAt.new' hb
  refine (alive05_spec A w14 (hE.keep k14)).mono ?_
  rintro x w16 ⟨rfl, k16⟩
  have o16 := o.keep k16
  have kk16 := k14.trans k16
  refine ⟨_, rfl, BIf_mk (fun hh => by cases hh) (fun _ => ⟨_, _, _, _, _, _, _, _, _, _, _, _, o16.row, (long_spec e so sd w16 (h.keep kk16)).mono ?_⟩)⟩
  rintro x w31 ⟨lg, rfl, hs, k31⟩
  have o31 := o16.keep k31
  have kk31 := kk16.trans k31
  refine ⟨_, rfl, BIf_mk (fun _ => ⟨rfl, kk31⟩) (fun hlg => ?_)⟩
  have hs := hs hlg
  refine ⟨_, _, _, _, _, _, _, _, _, _, _, _, o31.row, (refRight05_spec e so sd w31 (h.keep kk31) hs).mono ?_⟩
  rintro x w46 ⟨rfl, k46⟩
  have o46 := o31.keep k46
  have kk46 := kk31.trans k46
  refine ⟨_, rfl, _, _, _, _, _, _, _, _, _, _, _, _, o46.row, (entryBytes_spec A e so sd w46 (h.keep kk46) hs (hE.keep kk46)).mono ?_⟩
  rintro x w61 ⟨k61, t, er, rfl, b1, b2, b3⟩
  have o61 := o46.keep k61
  have kk61 := kk46.trans k61
  refine ⟨_, _, rfl, _, _, _, _, _, _, _, _, _, _, _, _, o61.row, (entryRight_spec A e so sd w61 (h.keep kk61) hs (hG.keep kk61)).mono ?_⟩
  rintro x w77 ⟨rfl, k77⟩
  have o77 := o61.keep k77
  have kk77 := kk61.trans k77
  refine ⟨_, rfl, BIf_mk (fun hh => by simp at hh) (fun _ => BIf_mk (fun hf => ?_) (fun ht => ?_))⟩
  · have hrf : rightE e = false := by simpa using hf
    obtain ⟨rfl, rfl⟩ := b1 hrf
    refine BIf_dec (fun _ => ?_) (fun hh => (hh rfl).elim)
    refine (Num_spec A 3 (by omega) w77 (hE.keep kk77).1).mono ?_
    rintro x w80 ⟨rfl, k80⟩
    have o80 := o77.keep k80
    have kk80 := kk77.trans k80
    refine ⟨_, rfl, BIf_dec (fun _ => ⟨_, _, _, _, _, _, _, _, _, _, _, _, o80.row, (entryStreams_spec A e so sd w80 (h.keep kk80) hs (hG.keep kk80)).mono ?_⟩) (fun hh => (hh rfl).elim)⟩
    rintro x w95 ⟨k95, s2, rfl, s3, _⟩
    have hs2 := s3 hrf
    subst hs2
    have o95 := o80.keep k95
    have kk95 := kk80.trans k95
    refine ⟨_, rfl, BIf_dec (fun _ => ⟨_, _, _, _, _, _, _, _, _, _, _, _, o95.row, (entryKeys_spec A e so sd w95 (h.keep kk95) hs (hG.keep kk95)).mono ?_⟩) (fun hh => (hh rfl).elim)⟩
    rintro x w110 ⟨k110, s4, rfl, s5, _⟩
    have hs4 := s5 hrf
    subst hs4
    have o110 := o95.keep k110
    have kk110 := kk95.trans k110
    refine ⟨_, rfl, BIf_dec (fun _ => ⟨_, _, _, _, _, _, _, _, _, _, _, _, o110.row, _, _, _, _, _, _, _, _, _, _, _, _, o110.row, (entrySame_spec A e e so sd so sd w110 (h.keep kk110) (h.keep kk110) hs hs (hE.keep kk110)).mono ?_⟩) (fun hh => (hh rfl).elim)⟩
    rintro x w137 ⟨rfl, k137⟩
    refine ⟨_, rfl, ?_, kk110.trans k137⟩
    have : okE e = false := by unfold okE; rw [hrf]; rfl
    rw [this]; rfl
  have hrt : rightE e = true := by simpa using ht
  refine ⟨_, _, _, _, _, _, _, _, _, _, _, _, o77.row, (refBytes05_spec e so sd w77 (h.keep kk77) hs hrt).mono ?_⟩
  rintro x w152 ⟨T, rfl, hT, _, k152⟩
  have kk152 := kk77.trans k152
  have kd : Keep w152 (World.drew w152) := Keep.drew (Ext.refl _ _)
  have kkd := kk152.trans kd
  have od := (o77.keep k152).keep kd
  have hTb := hT.bytes
  have hTl := hTb.1
  refine ⟨T, rfl, fun w2 => Keep w152 w2, ?_, ?_⟩
  · refine ⟨_, _, _, _, _, _, _, _, _, _, _, _, od.row, _, _, _, _, _, _, _, _, _, _, _, _, od.row, (entryStreams_spec A e so sd _ (h.keep kkd) hs (hG.keep kkd)).mono ?_⟩
    rintro x w180 ⟨k180, s2, rfl, _, s3⟩
    have hi := s3 hrt
    have o180 := od.keep k180
    refine ⟨s2, rfl, ⟨_, _, _, _, _, _, _, _, _, _, _, _, o180.row, rfl⟩, (refStreams05_spec e so sd w180).mono ?_⟩
    rintro x w195 ⟨s4, rfl, hi4, k195⟩
    have hil : (stE e.kind e.shard e.other).length ≤ 2 ^ 40 := by unfold stE; split <;> (try split) <;> simp
    refine ⟨s4, rfl, (SameInts_spec s2 s4 _ _ w195 (intsAt_keep hi k195) hi4.ints hil).mono ?_⟩
    rintro x w198 ⟨rfl, k198⟩
    rw [st_right hrt, decide_eq_true rfl]
    have kq := ((kd.trans k180).trans k195).trans k198
    have kk198 := kk152.trans kq
    refine ⟨_, rfl, BIf_mk (fun hh => by cases hh) (fun _ => ⟨_, _, _, _, _, _, _, _, _, _, _, _, ((o180.keep k195).keep k198).row, (lawKeys_spec A e so sd w198 (h.keep kk198) hs hrt (hG.keep kk198)).mono ?_⟩)⟩
    rintro x w213 ⟨rfl, k213⟩
    exact ⟨_, rfl, BIf_mk (fun hh => by cases hh) (fun _ => kq.trans k213)⟩
  · intro w215 k215
    intros
    have kk215 := kk152.trans k215
    have o215 := (o77.keep k152).keep k215
    refine BIf_dec (fun hl => ?_) (fun hl => ?_)
    · obtain ⟨rfl, rfl⟩ := b2 hrt (by omega)
      refine BIf_dec (fun _ => ?_) (fun hh => (hh rfl).elim)
      refine (Num_spec A 2 (by omega) w215 (hE.keep kk215).1).mono ?_
      rintro x w229 ⟨rfl, k229⟩
      have o229 := o215.keep k229
      have kk229 := kk215.trans k229
      refine ⟨_, rfl, BIf_dec (fun _ => ⟨_, _, _, _, _, _, _, _, _, _, _, _, o229.row, _, _, _, _, _, _, _, _, _, _, _, _, o229.row, (entrySame_spec A e e so sd so sd w229 (h.keep kk229) (h.keep kk229) hs hs (hE.keep kk229)).mono ?_⟩) (fun hh => (hh rfl).elim)⟩
      rintro x w256 ⟨rfl, k256⟩
      refine ⟨_, rfl, ?_, kk229.trans k256⟩
      have : okE e = false := by unfold okE; rw [hrt, decide_eq_false (by omega)]; rfl
      rw [this]; rfl
    · have hl' : (bytesE e).length ≤ 1848 := by omega
      obtain ⟨rfl, hbt⟩ := b3 hrt hl'
      have k61' := (k77.trans k152).trans k215
      refine (entryRead_spec A e t w215 (bytesAt_keep hbt k61') hrt hs (hE.keep kk215) kk215.size).mono ?_
      rintro x w259 ⟨so2, sd2, rfl, hA, k259⟩
      obtain ⟨c1, c2, c3⟩ := clean_ok hrt hs
      obtain ⟨d1, d2, d3⟩ := clean_ok c1 c3
      generalize cleanE (cleanE e) = c at *
      have hcb : bytesE c = bytesE e := d2.trans c2
      refine ⟨_, _, _, _, _, _, _, _, _, _, _, _, _, rfl, var_mk (cs := enC c so2 sd2) rfl rfl (fun r273 w275 hr273 o273 k275 hs275 => ?_)⟩
      have kq := k259.trans k275
      have kk275 := kk215.trans kq
      have o275 := o215.keep kq
      have hA275 := hA.keep k275
      refine ⟨trivial, BIf_mk (fun _ => ⟨_, bytesAt_keep hbt (k61'.trans kq), _, bytesAt_keep hTb (k215.trans kq), BIf_dec (fun _ => ⟨trivial, BIf_mk (fun _ => ?_) (fun hh => by cases hh)⟩) (fun hh => (hh rfl).elim)⟩) (fun hh => by cases hh)⟩
      refine ⟨_, _, _, _, _, _, _, _, _, _, _, _, o273.row, _, _, _, _, _, _, _, _, _, _, _, _, o275.row, (refSame05_spec c e so2 sd2 so sd w275 hA275 (h.keep kk275) d3 hs).mono ?_⟩
      rintro x w303 ⟨rfl, k303⟩
      rw [d1, hrt, hcb, decide_eq_true rfl]
      have kk303 := kk275.trans k303
      refine ⟨_, rfl, BIf_mk (fun _ => ?_) (fun hh => by cases hh)⟩
      refine ⟨_, _, _, _, _, _, _, _, _, _, _, _, (o273.keep k303).row, _, _, _, _, _, _, _, _, _, _, _, _, (o275.keep k303).row, (entrySame_spec A c e so2 sd2 so sd w303 (hA275.keep k303) (h.keep kk303) d3 hs (hE.keep kk303)).mono ?_⟩
      rintro x w330 ⟨rfl, k330⟩
      refine ⟨_, rfl, ?_, kk303.trans k330⟩
      have e1 : okE c = true := by unfold okE; rw [d1, hcb, decide_eq_true hl']; rfl
      have e2 : okE e = true := by unfold okE; rw [hrt, decide_eq_true hl']; rfl
      rw [e1, e2, hcb, decide_eq_true rfl]; rfl

abbrev rdOp05 : Rd (Int × List UInt8 × List UInt8 × List UInt8 × Int) := Rd.pair (Rd.int .i64) (Rd.pair Rd.str (Rd.pair Rd.str (Rd.pair Rd.str (Rd.int .i64))))
abbrev rdEn : Rd (Int × Int × Int × Int × Int × Int × (Slc × List (Int × List UInt8 × List UInt8 × List UInt8 × Int)) × List UInt8 × Int × Int × Int × (Slc × List UInt8)) :=
  Rd.pair (Rd.int .i64) (Rd.pair (Rd.int .i64) (Rd.pair (Rd.int .i64) (Rd.pair (Rd.int .i64) (Rd.pair (Rd.int .i64) (Rd.pair (Rd.int .i64) (Rd.pair (Rd.slice rdOp05) (Rd.pair Rd.str (Rd.pair (Rd.int .i64) (Rd.pair (Rd.int .i64) (Rd.pair (Rd.int .i64) Rd.bytes))))))))))
def opOf (x : Int × List UInt8 × List UInt8 × List UInt8 × Int) : OpS := ⟨x.1, x.2.1, x.2.2.1, x.2.2.2.1, x.2.2.2.2⟩
theorem ops_of {w : World} {s : Slc} {xs : List (Int × List UInt8 × List UInt8 × List UInt8 × Int)} (h : rowsR rdOp05 w s xs) : OpsAt w s (xs.map opOf) := by
  obtain ⟨h1, h2, _, h3⟩ := h
  refine ⟨by rw [List.length_map]; exact h1, h2, fun i hi => ?_⟩
  rw [List.length_map] at hi
  obtain ⟨a, cs, ha, ⟨_, _, hcs, ⟨rfl, _⟩, ⟨_, _, rfl, ⟨rfl, _⟩, ⟨_, _, rfl, ⟨rfl, _⟩, ⟨_, _, rfl, ⟨rfl, _⟩, ⟨rfl, _⟩⟩⟩⟩⟩, hrow⟩ := h3 i hi
  subst hcs
  refine ⟨a, ha, ?_⟩
  rw [List.getElem_map]
  exact hrow
theorem EntryWrites_fin (x : Array Value) (b : Int × Int × Int × Int × Int × Int × (Slc × List (Int × List UInt8 × List UInt8 × List UInt8 × Int)) × List UInt8 × Int × Int × Int × (Slc × List UInt8)) (w : World) (hx : rdEn.R w b x.toList) (A : Nat → Addr) (hE0 : Errs A w) :
    Calls Tryd.prog fn_tidewaterlaw05_EntryWrites ⟨[.agg x]⟩ w fun e w' => e = .returned (.bool true) ∧ Keep w w' := by
  obtain ⟨b1, b2, b3, b4, b5, b6, ⟨so, ops⟩, b8, b9, b10, b11, ⟨sd, dat⟩⟩ := b
  obtain ⟨_, _, hx, ⟨rfl, _⟩, ⟨_, _, rfl, ⟨rfl, _⟩, ⟨_, _, rfl, ⟨rfl, _⟩, ⟨_, _, rfl, ⟨rfl, _⟩, ⟨_, _, rfl, ⟨rfl, _⟩, ⟨_, _, rfl, ⟨rfl, _⟩, ⟨_, _, rfl, ⟨rfl, ho⟩, ⟨_, _, rfl, ⟨rfl, _⟩, ⟨_, _, rfl, ⟨rfl, _⟩, ⟨_, _, rfl, ⟨rfl, _⟩, ⟨_, _, rfl, ⟨rfl, _⟩, ⟨rfl, hd, hdc, _⟩⟩⟩⟩⟩⟩⟩⟩⟩⟩⟩⟩ := hx
  obtain ⟨l⟩ := x
  rw [show l = _ from hx]
  exact EntryWrites_walk A ⟨b1, b2, b3, b4, b5, b6, ops.map opOf, b8, b9, b10, b11, dat⟩ so sd w ⟨ops_of ho, hd, hdc⟩ hE0
end Go.D

