/-
  WHAT IS PROVED: contracts of functions, and the plain law, for this proof. No further conditions.
-/
import Derived.Test.YtpnchpkklamnnaaDoorPackRef
import Derived.Test.YtpnchpkklamnnaaDoorPackLeast
import Derived.Test.YtpnchpkklamnnaaDoorSumsOpens
import Derived.Test.YtpnchpkklamnnaaDoorWire1
import Derived.Test.YtpnchpkklamnnaaDoorVCwire2
set_option linter.unusedVariables false
set_option linter.unusedSimpArgs false
namespace Go.D
open Go Go.Proofs

theorem within_spec (n m : Int) (w : World) : Calls Tryd.prog fn_wire_within ⟨[.int .i64 n, .int .i64 m]⟩ w fun e w' => e = .returned (.bool (decide (0 ≤ n ∧ n ≤ m))) ∧ w' = w := by
  refine wire_within_ok _ _ ?_
  unfold wire_within
  refine BIf_dec (fun h => ⟨?_, rfl⟩) (fun h => ⟨?_, rfl⟩)
  · rw [decide_eq_decide.2]; exact ⟨fun h2 => ⟨h, h2⟩, fun h2 => h2.2⟩
  · rw [decide_eq_false]; omega
theorem upto_spec (n m : Int) (w : World) : Calls Tryd.prog fn_tidewaterref33_upto ⟨[.int .i64 n, .int .i64 m]⟩ w fun e w' => e = .returned (.bool (decide (0 ≤ n ∧ n ≤ m))) ∧ w' = w := by
  refine tidewaterref33_upto_ok _ _ ?_
  unfold tidewaterref33_upto
  refine BIf_dec (fun h => ⟨?_, rfl⟩) (fun h => ⟨?_, rfl⟩)
  · rw [decide_eq_decide.2]; exact ⟨fun h2 => ⟨h, h2⟩, fun h2 => h2.2⟩
  · rw [decide_eq_false]; omega

/-- A request is right. -/
abbrev rightQ (t k e a : Int) (l : Nat) : Prop := (0 ≤ t ∧ t ≤ 1073741824) ∧ (1 ≤ k ∧ k ≤ 5) ∧ (0 ≤ e ∧ e ≤ 1073741824) ∧ (0 ≤ a ∧ a ≤ 4096) ∧ l ≤ 2000 ∧ (l = 0 ∨ k = 1)
/-- A reply is right. -/
abbrev rightP (t e n : Int) (l : Nat) : Prop := (0 ≤ t ∧ t ≤ 1073741824) ∧ (0 ≤ e ∧ e ≤ 19) ∧ (0 ≤ n ∧ n ≤ 4096) ∧ l ≤ 2000
abbrev reqV (t k e a : Int) (s : Slc) : List Value := [.int .i64 t, .int .i64 k, .int .i64 e, .int .i64 a, s.v]
abbrev repV (t e n : Int) (s : Slc) : List Value := [.int .i64 t, .int .i64 e, .int .i64 n, s.v]

theorem Request_right_spec (t k e a : Int) (s : Slc) (w : World) :
    Calls Tryd.prog fn_wire_Request_right ⟨[.agg ⟨reqV t k e a s⟩]⟩ w fun x w' => x = .returned (.bool (decide (rightQ t k e a s.l))) ∧ Keep w w' := by
  refine wire_Request_right_ok _ _ _ _ _ ?_
  unfold wire_Request_right
  refine newS_mk (fun r w7 hr hb hk hs => ?_)
  have ho := ObjAt.new' hb
  have no : ∀ {X : Prop}, ¬ rightQ t k e a s.l → (Ending.returned (Value.bool false) = .returned (.bool (decide (rightQ t k e a s.l))) ∧ Keep w w7) := fun h => ⟨by rw [decide_eq_false h], hk⟩
  refine ⟨t, ho.cell 0 (by simp), (within_spec _ _ w7).mono ?_⟩
  rintro x w8 ⟨rfl, rfl⟩
  refine ⟨_, rfl, BIf_dec (fun h1 => ⟨k, ho.cell 1 (by simp), BIf_dec (fun h2 => ⟨k, ho.cell 1 (by simp), BIf_dec (fun h3 => ⟨e, ho.cell 2 (by simp), (within_spec _ _ w8).mono ?_⟩) (fun h3 => no (X := True) (fun h => h3 h.2.1.2))⟩) (fun h2 => no (X := True) (fun h => h2 h.2.1.1))⟩) (fun h1 => no (X := True) (fun h => h1 h.1))⟩
  rintro x w9 ⟨rfl, rfl⟩
  refine ⟨_, rfl, BIf_dec (fun h4 => ⟨a, ho.cell 3 (by simp), (within_spec _ _ w9).mono ?_⟩) (fun h4 => no (X := True) (fun h => h4 h.2.2.1))⟩
  rintro x w10 ⟨rfl, rfl⟩
  refine ⟨_, rfl, BIf_dec (fun h5 => ⟨s, ho.cell 4 (by simp), BIf_dec (fun h6 => ⟨s, ho.cell 4 (by simp), BIf_dec (fun h7 => ?_) (fun h7 => ⟨k, ho.cell 1 (by simp), ?_, hk⟩)⟩) (fun h6 => no (X := True) (fun h => by have := h.2.2.2.2.1; omega))⟩) (fun h5 => no (X := True) (fun h => h5 h.2.2.2.1))⟩
  · rw [decide_eq_true (show rightQ t k e a s.l from ⟨h1, ⟨h2, h3⟩, h4, h5, by omega, .inl (by omega)⟩)]
    exact ⟨rfl, hk⟩
  · rw [decide_eq_decide.2]
    exact ⟨fun h8 => ⟨h1, ⟨h2, h3⟩, h4, h5, by omega, .inr h8⟩, fun h => h.2.2.2.2.2.elim (fun h => by omega) (fun h => h)⟩

theorem RightAsk_spec (t k e a : Int) (s : Slc) (w : World) :
    Calls Tryd.prog fn_tidewaterref33_RightAsk ⟨[.agg ⟨reqV t k e a s⟩]⟩ w fun x w' => x = .returned (.bool (decide (rightQ t k e a s.l))) ∧ Keep w w' := by
  refine tidewaterref33_RightAsk_ok _ _ _ _ _ ?_
  unfold tidewaterref33_RightAsk
  refine newS_mk (fun r w7 hr hb hk hs => ?_)
  have ho := ObjAt.new' hb
  have no : ∀ {X : Prop}, ¬ rightQ t k e a s.l → (Ending.returned (Value.bool false) = .returned (.bool (decide (rightQ t k e a s.l))) ∧ Keep w w7) := fun h => ⟨by rw [decide_eq_false h], hk⟩
  refine ⟨t, ho.cell 0 (by simp), (upto_spec _ _ w7).mono ?_⟩
  rintro x w8 ⟨rfl, rfl⟩
  refine ⟨_, rfl, BIf_dec (fun h1 => ⟨k, ho.cell 1 (by simp), BIf_dec (fun h2 => ⟨k, ho.cell 1 (by simp), BIf_dec (fun h3 => ⟨e, ho.cell 2 (by simp), (upto_spec _ _ w8).mono ?_⟩) (fun h3 => no (X := True) (fun h => h3 h.2.1.2))⟩) (fun h2 => no (X := True) (fun h => h2 h.2.1.1))⟩) (fun h1 => no (X := True) (fun h => h1 h.1))⟩
  rintro x w9 ⟨rfl, rfl⟩
  refine ⟨_, rfl, BIf_dec (fun h4 => ⟨a, ho.cell 3 (by simp), (upto_spec _ _ w9).mono ?_⟩) (fun h4 => no (X := True) (fun h => h4 h.2.2.1))⟩
  rintro x w10 ⟨rfl, rfl⟩
  refine ⟨_, rfl, BIf_dec (fun h5 => ⟨s, ho.cell 4 (by simp), BIf_dec (fun h6 => ⟨k, ho.cell 1 (by simp), BIf_dec (fun h7 => ?_) (fun h7 => ⟨s, ho.cell 4 (by simp), ?_, hk⟩)⟩) (fun h6 => no (X := True) (fun h => by have := h.2.2.2.2.1; omega))⟩) (fun h5 => no (X := True) (fun h => h5 h.2.2.2.1))⟩
  · rw [decide_eq_true (show rightQ t k e a s.l from ⟨h1, ⟨h2, h3⟩, h4, h5, by omega, .inr h7⟩)]
    exact ⟨rfl, hk⟩
  · rw [decide_eq_decide.2]
    exact ⟨fun h8 => ⟨h1, ⟨h2, h3⟩, h4, h5, by omega, .inl (by omega)⟩, fun h => h.2.2.2.2.2.elim (fun h => by omega) (fun h => absurd h h7)⟩

theorem Reply_right_spec (A : Nat → Addr) (t e n : Int) (s : Slc) (w : World) (hE : Errs A w) :
    Calls Tryd.prog fn_wire_Reply_right ⟨[.agg ⟨repV t e n s⟩]⟩ w fun x w' => x = .returned (.bool (decide (rightP t e n s.l))) ∧ Keep w w' := by
  refine wire_Reply_right_ok _ _ _ _ ?_
  unfold wire_Reply_right
  refine newS_mk (fun r w6 hr hb hk hs => ?_)
  have ho := ObjAt.keep (ObjAt.new' hb) (Ext.drew _ _)
  refine ⟨t, ho.cell 0 (by simp), (within_spec _ _ _).mono ?_⟩
  rintro x w8 ⟨rfl, rfl⟩
  refine ⟨_, rfl, BIf_dec (fun h1 => ⟨e, ho.cell 1 (by simp), ?_⟩) (fun h1 => ⟨by rw [decide_eq_false (fun h => h1 h.1)], hk.drew⟩)⟩
  refine (table_spec A _ (hE.keep hk.drew)).mono ?_
  rintro x w13 ⟨tb, rfl, htl, _, k13⟩
  have ho13 := ho.keep k13
  have kk := hk.drew.trans k13
  refine ⟨tb, rfl, ⟨e, ho13.cell 1 (by simp), rfl⟩, (within_spec _ _ _).mono ?_⟩
  rintro x w17 ⟨rfl, rfl⟩
  rw [htl]
  refine ⟨_, rfl, BIf_dec (fun h2 => ⟨n, ho13.cell 2 (by simp), (within_spec _ _ _).mono ?_⟩) (fun h2 => ⟨by rw [decide_eq_false (fun h => h2 h.2.1)], kk⟩)⟩
  rintro x w21 ⟨rfl, rfl⟩
  refine ⟨_, rfl, BIf_dec (fun h3 => ⟨s, ho13.cell 3 (by simp), ?_, kk⟩) (fun h3 => ⟨by rw [decide_eq_false (fun h => h3 h.2.2.1)], kk⟩)⟩
  rw [decide_eq_decide.2]
  exact ⟨fun h => ⟨h1, h2, h3, by omega⟩, fun h => by have := h.2.2.2; omega⟩

theorem RightTell_spec (t e n : Int) (s : Slc) (w : World) :
    Calls Tryd.prog fn_tidewaterref33_RightTell ⟨[.agg ⟨repV t e n s⟩]⟩ w fun x w' => x = .returned (.bool (decide (rightP t e n s.l))) ∧ Keep w w' := by
  refine tidewaterref33_RightTell_ok _ _ _ _ ?_
  unfold tidewaterref33_RightTell
  refine newS_mk (fun r w6 hr hb hk hs => ?_)
  have ho := ObjAt.new' hb
  refine ⟨t, ho.cell 0 (by simp), (upto_spec _ _ _).mono ?_⟩
  rintro x w8 ⟨rfl, rfl⟩
  refine ⟨_, rfl, BIf_dec (fun h1 => ⟨e, ho.cell 1 (by simp), (upto_spec _ _ _).mono ?_⟩) (fun h1 => ⟨by rw [decide_eq_false (fun h => h1 h.1)], hk⟩)⟩
  rintro x w17 ⟨rfl, rfl⟩
  refine ⟨_, rfl, BIf_dec (fun h2 => ⟨n, ho.cell 2 (by simp), (upto_spec _ _ _).mono ?_⟩) (fun h2 => ⟨by rw [decide_eq_false (fun h => h2 h.2.1)], hk⟩)⟩
  rintro x w21 ⟨rfl, rfl⟩
  refine ⟨_, rfl, BIf_dec (fun h3 => ⟨s, ho.cell 3 (by simp), ?_, hk⟩) (fun h3 => ⟨by rw [decide_eq_false (fun h => h3 h.2.2.1)], hk⟩)⟩
  rw [decide_eq_decide.2]
  exact ⟨fun h => ⟨h1, h2, h3, by omega⟩, fun h => by have := h.2.2.2; omega⟩

/-- The bytes in a message's frame. -/
def encs (l : List Int) : List UInt8 := (l.map fun n => encN n.toNat).flatten
def payload (l : List Int) (d : List UInt8) : List UInt8 := encs l ++ encN d.length ++ d

theorem encs_cons (n : Int) (l : List Int) : encs (n :: l) = encN n.toNat ++ encs l := by simp [encs]
theorem oFold_bytes (l : List Int) (b : List UInt8) (h : ∀ n ∈ l, 0 ≤ n ∧ n ≤ 4611686018427387903) : l.foldl (fun st n => oNum n st) (b, none) = (b ++ encs l, none) := by
  induction l generalizing b with
  | nil => simp [encs]
  | cons n l ih =>
    rw [List.foldl_cons, oNum, if_neg (by have := h n (by simp); omega), ih _ (fun m hm => h m (by simp [hm])), encs_cons]; simp

theorem framed_spec (A : Nat → Addr) (d nl : Slc) (db : List UInt8) (l : List Int) (w : World) (hd : bytesAt w d db) (hn : intsAt w nl l) (hl : l.length ≤ 10) (hr : ∀ n ∈ l, 0 ≤ n ∧ n ≤ 4611686018427387903) (hp : (payload l db).length ≤ 2048) (hE : ErrsB A w.heap.size w) :
    Calls Tryd.prog fn_wire_framed ⟨[d.v, nl.v]⟩ w fun x w' => ∃ f : Slc, x = .returned (.tuple ⟨[f.v, .nilIface]⟩) ∧ Own w' f 1 ((frameB (payload l db)).map byteV) ∧ Fresh w f ∧ Keep w w' := by
  have hnl := hn.1
  have hpl : (encs l).length + (encN db.length).length + db.length ≤ 2048 := by simpa [payload, Nat.add_assoc] using hp
  refine wire_framed_ok _ _ ?_
  unfold wire_framed
  refine newS_mk (fun r w4 hr4 hb hk hs => ?_)
  refine ⟨fun i w8 => ∃ (k : Nat) (s : Slc), i = k ∧ k ≤ l.length ∧ OutS A w8 r s ((l.take k).foldl (fun st n => oNum n st) ([], none)) ∧ Foot (OutM r ⟨none, 0, 0⟩) (OutM r s) w4 w8, fun i _ => ((l.length : Int) - i).toNat, ⟨0, _, rfl, by omega, OutS.new A hb, Foot.refl _ _⟩, ?_⟩
  rintro i w8 ⟨k, s, rfl, hkl, ho, hf⟩
  intros
  have m0 : ∀ k, OutM r ⟨none, 0, 0⟩ k → w.heap.size ≤ k := fun k hk => by rw [OutM_nil hk]; omega
  obtain ⟨k8, hold⟩ := hf.new hk m0
  refine BIf_dec (fun hlt => ?_) (fun hlt => ?_)
  · have hk2 : k < l.length := by omega
    obtain ⟨a, ha, hc⟩ := intsAt_cell (intsAt_keep hn k8) hk2
    have hmem := hr _ (List.getElem_mem hk2)
    refine needSome_mk ha ⟨by omega, hlt, l[k], by rw [show Int.toNat (k : Int) * 1 = k by omega]; exact hc, ?_⟩
    have hst : ((l.take k).foldl (fun st n => oNum n st) ([], none)).1.length ≤ 9 * 10 := by
      have := oNums_len (l.take k) ([], none)
      have h2 : (l.take k).length ≤ l.length := by simp; omega
      simp only [List.length_nil] at this; omega
    refine (OutS_Num A _ r s _ _ w8 ho (by omega) (by omega) (hE.keep k8)).mono ?_
    rintro x w20 ⟨rfl, s20, h20, f20⟩
    refine ⟨rfl, inR64 (by omega), ⟨k + 1, s20, rfl, hk2, ?_, hf.trans f20⟩, by dsimp only; omega⟩
    rw [List.take_succ_eq_append_getElem hk2, List.foldl_append]
    exact h20
  · have : k = l.length := by omega
    subst this
    rw [List.take_length, oFold_bytes l [] hr, List.nil_append] at ho
    refine ⟨db, bytesAt_keep hd k8, (OutS_Text A _ r s _ db w8 ho (by dsimp only; omega) (by omega) (hE.keep k8)).mono ?_⟩
    rintro x w23 ⟨rfl, s23, h23, f23⟩
    have e1 : oText db (encs l, none) = (payload l db, none) := rfl
    rw [e1] at h23
    have f23' := hf.trans f23
    obtain ⟨k23, _⟩ := f23'.new hk m0
    refine ⟨rfl, (OutS_Done A _ r s23 _ w23 h23 (by dsimp only; omega) (hE.keep k23)).mono ?_⟩
    rintro x w25 ⟨t, e2, rfl, g1, g2, g3, g5, g6⟩
    dsimp only at g3 g6
    rw [if_neg (by omega)] at g3
    subst g3
    refine ⟨t, _, rfl, trivial, BIf_mk (fun h => by cases h) (fun _ => ?_)⟩
    refine (Frame_spec t _ w25 (g6 rfl) hp).mono ?_
    rintro x w29 ⟨f, rfl, q1, q2, q3⟩
    exact ⟨f, _, rfl, f, rfl, q1, q2.mono (k23.trans g1).size, (k23.trans g1).trans q3⟩

theorem ref_framed_spec (d nl : Slc) (db : List UInt8) (l : List Int) (w : World) (hd : bytesAt w d db) (hn : intsAt w nl l) (hl : l.length ≤ 10) (hr : ∀ n ∈ l, 0 ≤ n ∧ n ≤ 4611686018427387903) (hp : (payload l db).length ≤ 2048) :
    Calls Tryd.prog fn_tidewaterref33_framed ⟨[d.v, nl.v]⟩ w fun x w' => ∃ f : Slc, x = .returned f.v ∧ bytesAt w' f (frameB (payload l db)) ∧ Fresh w f ∧ Keep w w' := by
  have hnl := hn.1
  have hpl : (encs l).length + (encN db.length).length + db.length ≤ 2048 := by simpa [payload, Nat.add_assoc] using hp
  refine tidewaterref33_framed_ok _ _ ?_
  unfold tidewaterref33_framed
  refine newS_mk (fun r w4 hr4 hb hk hs => ?_)
  refine ⟨fun out i w9 => ∃ k : Nat, i = k ∧ k ≤ l.length ∧ Own w9 out 1 ((encs (l.take k)).map byteV) ∧ Fresh w out ∧ Keep w w9, fun _ i _ => ((l.length : Int) - i).toNat, ⟨0, rfl, by omega, Own.new (sz := 1) (n := 0) hb (.inl (by simp)) rfl, Fresh.at (by omega), hk⟩, ?_⟩
  rintro out i w9 ⟨k, rfl, hkl, ho, hf, hkp⟩
  intros
  have hol := ho.bytes.1
  refine BIf_dec (fun hlt => ?_) (fun hlt => ?_)
  · have hk2 : k < l.length := by omega
    obtain ⟨a, ha, hc⟩ := intsAt_cell (intsAt_keep hn hkp) hk2
    obtain ⟨m, hm⟩ : ∃ m : Nat, l[k] = (m : Int) := ⟨l[k].toNat, by have := hr _ (List.getElem_mem hk2); omega⟩
    have hmr := hr _ (List.getElem_mem hk2)
    refine needSome_mk ha ⟨by omega, hlt, l[k], by rw [show Int.toNat (k : Int) * 1 = k by omega]; exact hc, ?_⟩
    rw [hm]
    refine (ref04_Num_spec m w9 (by omega)).mono ?_
    rintro e w22 ⟨s23, rfl, h23, f23, k23⟩
    have hle2 := encN_len m 8 (by omega)
    have h231 := h23.bytes.1
    have hfl := encs_len (l.take k) (fun n hn => (hr n (List.mem_of_mem_take hn)).2)
    have htk : (l.take k).length ≤ 10 := by simp; omega
    have hel : (encs (l.take k)).length ≤ 90 := by rw [encs]; omega
    refine ⟨s23, rfl, append_bytes (w0 := w) (ho.keep k23) rfl hf (hkp.trans k23) (srcAt_bytes h23.bytes) (by simp only [Src.n]; omega) (fun s24 w25 g1 g2 g3 g4 => ?_)⟩
    refine ⟨inR64 (by omega), ⟨k + 1, rfl, hk2, ?_, g3, g2⟩, by dsimp only; omega⟩
    rw [List.take_succ_eq_append_getElem hk2]
    simpa [encs, hm] using g1
  · have : k = l.length := by omega
    subst this
    rw [List.take_length] at ho hol
    refine ⟨db, bytesAt_keep hd hkp, (ref04_Text_spec db w9 (by omega)).mono ?_⟩
    rintro x w28 ⟨s29, rfl, h29, f29, k29⟩
    have h291 := h29.bytes.1
    simp only [List.length_append] at h291
    refine ⟨s29, rfl, append_bytes (w0 := w) (ho.keep k29) rfl hf (hkp.trans k29) (srcAt_bytes h29.bytes) (by simp only [Src.n]; omega) (fun s30 w31 g1 g2 g3 g4 => ?_)⟩
    have e1 : encs l ++ (encN db.length ++ db) = payload l db := by simp [payload]
    rw [e1] at g1
    have g11 := g1.bytes.1
    refine (refFrame_spec s30 _ w31 g1.bytes (by omega)).mono ?_
    rintro x w33 ⟨f, rfl, q1, q2, q3⟩
    exact ⟨f, rfl, f, rfl, q1.bytes, q2.mono g2.size, g2.trans q3⟩
end Go.D
