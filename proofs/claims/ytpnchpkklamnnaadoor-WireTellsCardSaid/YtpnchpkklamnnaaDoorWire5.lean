/-
  WHAT IS PROVED: contracts of functions, and the plain law, for this proof. No further conditions.
-/
import Derived.Test.YtpnchpkklamnnaaDoorWire4
import Derived.Test.YtpnchpkklamnnaaDoorSumsBurst
set_option linter.unusedVariables false
set_option linter.unusedSimpArgs false
namespace Go.D
open Go Go.Proofs

theorem sameAsk_spec (t k e a : Int) (s s' : Slc) (d : List UInt8) (w : World) (h : bytesAt w s d) (h' : bytesAt w s' d) :
    Calls Tryd.prog fn_tidewaterlaw33_sameAsk ⟨[.agg ⟨reqV t k e a s⟩, .agg ⟨reqV t k e a s'⟩]⟩ w fun x w' => x = .returned (.bool true) ∧ Keep w w' := by
  refine tidewaterlaw33_sameAsk_ok _ _ _ _ _ _ _ _ _ _ ?_
  unfold tidewaterlaw33_sameAsk
  refine newS_mk (fun r w1 hr hb k1 hs => newS_mk (fun r2 w2 hr2 hb2 k2 hs2 => ?_))
  have o := ObjAt.keep (ObjAt.new' hb) k2
  have o2 := ObjAt.new' hb2
  have kk := k1.trans k2
  refine ⟨_, o.cell 0 (by simp), _, o2.cell 0 (by simp), BIf_dec (fun _ => ⟨_, o.cell 1 (by simp), _, o2.cell 1 (by simp), BIf_dec (fun _ => ⟨_, o.cell 2 (by simp), _, o2.cell 2 (by simp), BIf_dec (fun _ => ⟨_, o.cell 3 (by simp), _, o2.cell 3 (by simp), BIf_dec (fun _ => ⟨s, o.cell 4 (by simp), d, bytesAt_keep h kk, s', o2.cell 4 (by simp), d, bytesAt_keep h' kk, by simp, kk⟩) (fun h => absurd rfl h)⟩) (fun h => absurd rfl h)⟩) (fun h => absurd rfl h)⟩) (fun h => absurd rfl h)⟩
theorem sameTell_spec (t e n : Int) (s s' : Slc) (d : List UInt8) (w : World) (h : bytesAt w s d) (h' : bytesAt w s' d) :
    Calls Tryd.prog fn_tidewaterlaw33_sameTell ⟨[.agg ⟨repV t e n s⟩, .agg ⟨repV t e n s'⟩]⟩ w fun x w' => x = .returned (.bool true) ∧ Keep w w' := by
  refine tidewaterlaw33_sameTell_ok _ _ _ _ _ _ _ _ ?_
  unfold tidewaterlaw33_sameTell
  refine newS_mk (fun r w1 hr hb k1 hs => newS_mk (fun r2 w2 hr2 hb2 k2 hs2 => ?_))
  have o := ObjAt.keep (ObjAt.new' hb) k2
  have o2 := ObjAt.new' hb2
  have kk := k1.trans k2
  refine ⟨_, o.cell 0 (by simp), _, o2.cell 0 (by simp), BIf_dec (fun _ => ⟨_, o.cell 1 (by simp), _, o2.cell 1 (by simp), BIf_dec (fun _ => ⟨_, o.cell 2 (by simp), _, o2.cell 2 (by simp), BIf_dec (fun _ => ⟨s, o.cell 3 (by simp), d, bytesAt_keep h kk, s', o2.cell 3 (by simp), d, bytesAt_keep h' kk, by simp, kk⟩) (fun h => absurd rfl h)⟩) (fun h => absurd rfl h)⟩) (fun h => absurd rfl h)⟩

/-! ### what was written is read -/
theorem rNum_encs (most n : Int) (rest : List UInt8) (h : 0 ≤ n ∧ n ≤ 4611686018427387903) (hm : n ≤ most) : rNum most (encN n.toNat ++ rest, none) = (n, (rest, none)) := by
  rw [rNum_enc most n.toNat rest (by omega) (by omega), show ((n.toNat : Nat) : Int) = n by omega]
theorem openR_frame0 (b : List UInt8) (hl : b.length ≤ 2048) : openR (frameB b) = .ok (b, []) := by
  have := openR_frame b [] hl
  simpa using this
theorem readR_ask {t k e a : Int} {d : List UInt8} (h : rightQ t k e a d.length) : readR (frameB (payload [1, t, k, e, a] d)) = .ok (.ask t k e a d) := by
  have h0 := h
  obtain ⟨h1, h2, h3, h4, h5, h6⟩ := h
  rw [readR, openR_frame0 _ (payQ_len h0)]
  dsimp only
  rw [if_neg (by simp)]
  have e0 : payload [1, t, k, e, a] d = encN (1 : Int).toNat ++ (encN t.toNat ++ (encN k.toNat ++ (encN e.toNat ++ (encN a.toNat ++ (encN d.length ++ (d ++ [])))))) := by
    simp [payload, encs]
  have e1 : rNum 2 (payload [1, t, k, e, a] d, none) = (1, (encN t.toNat ++ (encN k.toNat ++ (encN e.toNat ++ (encN a.toNat ++ (encN d.length ++ (d ++ []))))), none)) := by
    rw [e0]; exact rNum_encs 2 1 _ (by omega) (by omega)
  rw [e1]
  have e2 : pAsk (encN t.toNat ++ (encN k.toNat ++ (encN e.toNat ++ (encN a.toNat ++ (encN d.length ++ (d ++ []))))), none) = ⟨t, k, e, a, d, ([], none)⟩ := by
    rw [pAsk]
    rw [rNum_encs 1073741824 t _ (by omega) (by omega), rNum_encs 5 k _ (by omega) (by omega), rNum_encs 1073741824 e _ (by omega) (by omega), rNum_encs 4096 a _ (by omega) (by omega), rText_enc 2000 d [] (by omega) (by omega)]
  dsimp only
  rw [e2, if_neg (by omega)]
  dsimp only [rEnd]
  rw [if_neg (by simp)]
  dsimp only
  rw [if_pos ⟨rfl, h0⟩]
theorem readR_tell {t e n : Int} {d : List UInt8} (h : rightP t e n d.length) : readR (frameB (payload [2, t, e, n] d)) = .ok (.tell t e n d) := by
  have h0 := h
  obtain ⟨h1, h2, h3, h5⟩ := h
  rw [readR, openR_frame0 _ (payP_len h0)]
  dsimp only
  rw [if_neg (by simp)]
  have e0 : payload [2, t, e, n] d = encN (2 : Int).toNat ++ (encN t.toNat ++ (encN e.toNat ++ (encN n.toNat ++ (encN d.length ++ (d ++ []))))) := by
    simp [payload, encs]
  have e1 : rNum 2 (payload [2, t, e, n] d, none) = (2, (encN t.toNat ++ (encN e.toNat ++ (encN n.toNat ++ (encN d.length ++ (d ++ [])))), none)) := by
    rw [e0]; exact rNum_encs 2 2 _ (by omega) (by omega)
  rw [e1]
  have e2 : pTell (encN t.toNat ++ (encN e.toNat ++ (encN n.toNat ++ (encN d.length ++ (d ++ [])))), none) = ⟨t, e, n, d, ([], none)⟩ := by
    rw [pTell]
    rw [rNum_encs 1073741824 t _ (by omega) (by omega), rNum_encs 19 e _ (by omega) (by omega), rNum_encs 4096 n _ (by omega) (by omega), rText_enc 2000 d [] (by omega) (by omega)]
  dsimp only
  rw [e2, if_pos rfl]
  dsimp only [rEnd]
  rw [if_neg (by simp)]

abbrev rdReq : Rd (Int × Int × Int × Int × (Slc × List UInt8)) := Rd.pair (Rd.int .i64) (Rd.pair (Rd.int .i64) (Rd.pair (Rd.int .i64) (Rd.pair (Rd.int .i64) Rd.bytes)))
abbrev rdRep : Rd (Int × Int × Int × (Slc × List UInt8)) := Rd.pair (Rd.int .i64) (Rd.pair (Rd.int .i64) (Rd.pair (Rd.int .i64) Rd.bytes))
theorem rdReq_get {w : World} {y : Int × Int × Int × Int × (Slc × List UInt8)} {cs : List Value} (h : rdReq.R w y cs) : ∃ (t k e a : Int) (s : Slc) (d : List UInt8), cs = reqV t k e a s ∧ bytesAt w s d ∧ s.l ≤ s.c := by
  obtain ⟨_, _, rfl, ⟨rfl, _⟩, _, _, rfl, ⟨rfl, _⟩, _, _, rfl, ⟨rfl, _⟩, _, _, rfl, ⟨rfl, _⟩, rfl, h1, h2, _⟩ := h
  exact ⟨_, _, _, _, _, _, rfl, h1, h2⟩
theorem rdRep_get {w : World} {y : Int × Int × Int × (Slc × List UInt8)} {cs : List Value} (h : rdRep.R w y cs) : ∃ (t e n : Int) (s : Slc) (d : List UInt8), cs = repV t e n s ∧ bytesAt w s d ∧ s.l ≤ s.c := by
  obtain ⟨_, _, rfl, ⟨rfl, _⟩, _, _, rfl, ⟨rfl, _⟩, _, _, rfl, ⟨rfl, _⟩, rfl, h1, h2, _⟩ := h
  exact ⟨_, _, _, _, _, rfl, h1, h2⟩

theorem WireAsks_walk (cs : Array Value) (y : Int × Int × Int × Int × (Slc × List UInt8)) (w : World) (h : rdReq.R w y cs.toList) (A : Nat → Addr) (hE0 : Errs A w) :
    Calls Tryd.prog fn_tidewaterlaw33_WireAsks ⟨[.agg cs]⟩ w fun x w' => x = .returned (.bool true) ∧ Keep w w' := by
  obtain ⟨l⟩ := cs
  obtain ⟨t, k, e, a, s, d, rfl, hd, hc⟩ := rdReq_get h
  have hE := hE0.b
  have hsl := hd.1
  refine tidewaterlaw33_WireAsks_ok _ _ _ _ _ ?_
  unfold tidewaterlaw33_WireAsks
  refine newS_mk (fun r6 w7 hr6 hb6 k7 hs7 => ?_)
  have o7 := ObjAt.new' hb6
  refine (alive33_spec A w7 (hE.keep k7).1).mono ?_
  rintro x w9 ⟨rfl, k9'⟩
  have k9 := k7.trans k9'
  have o9 := o7.keep k9'
  refine ⟨_, rfl, BIf_mk (fun h => by cases h) (fun _ => ⟨s, o9.cell 4 (by simp), BIf_dec (fun _ => ⟨rfl, k9⟩) (fun h3 => ⟨_, _, _, _, _, o9.row, ?_⟩)⟩)⟩
  refine (Ask_spec A t k e a s d w9 (bytesAt_keep hd k9) (hE.keep k9).1.b).mono ?_
  rintro x w18 ⟨f, ev, rfl, k18', hres⟩
  have k18 := k9.trans k18'
  have o18 := o9.keep k18'
  refine ⟨f, ev, rfl, _, _, _, _, _, o18.row, var_mk rfl rfl (fun r26 w28 hr26 o28 k28' hs28 => ⟨_, _, _, _, _, o28.row, ?_⟩)⟩
  have k28 := k18.trans k28'
  refine (RightAsk_spec t k e a s w28).mono ?_
  rintro x w35 ⟨rfl, k35'⟩
  have k35 := k28.trans k35'
  rw [hsl]
  refine ⟨_, rfl, BIf_ndec (fun hb => ?_) (fun hb => ?_)⟩
  · rcases hres with ⟨h1, _⟩ | ⟨_, rfl, rfl⟩
    · exact absurd h1 hb
    · refine BIf_dec (fun _ => ?_) (fun h => absurd rfl h)
      refine (Num_spec A 3 (by omega) w35 (hE.keep k35).1).mono ?_
      rintro x w38 ⟨rfl, k38⟩
      exact ⟨_, rfl, rfl, k35.trans k38⟩
  · rcases hres with ⟨_, rfl, hf, hff⟩ | ⟨h1, _⟩
    · have hf35 := (hf.keep k28').keep k35'
      have hfl := hf35.bytes.1
      have hpl := payQ_len hb
      rw [frameB_length] at hfl
      refine (Read33_spec A f _ w35 hf35.bytes (by omega) hf35.cap (hE.keep k35).1.b).mono ?_
      rintro x w41 ⟨q, p, is, ev, rfl, hrr, k41'⟩
      rw [readR_ask hb] at hrr
      obtain ⟨sd, rfl, hsd, hsdc, hsdf, rfl, rfl, rfl⟩ := hrr
      refine ⟨_, _, _, _, _, _, _, _, _, _, _, rfl, newS_mk (fun r53 w54 hr53 hb53 k54 hs54 => newS_mk (fun r55 w56 hr55 hb55 k56 hs56 => ?_))⟩
      have k56' := k41'.trans (k54.trans k56)
      have k56w := k35.trans k56'
      have h35s := k35'.size
      have h41s := k41'.size
      refine ret_mk (ObjAt.keep (ObjAt.new' hb53) k56) (ObjAt.new' hb55) (by omega) rfl rfl rfl rfl (fun w58 o53 o55 he => ⟨trivial, BIf_mk (fun _ => ?_) (fun h => by cases h)⟩)
      have k58' : Keep w41 w58 := (k54.trans k56).ext he (fun k hk => by omega)
      have kd : Keep w35 w58.drew := (k41'.trans k58').drew
      have o26 := o28.keep (k35'.trans kd)
      refine ⟨_, (hf35.keep kd).bytes, _, _, _, _, _, o26.row, ?_⟩
      refine (refAsk_spec t k e a s d w58.drew (bytesAt_keep hd (k35.trans kd)) hb).mono ?_
      rintro x w66 ⟨g, rfl, k66, hg⟩
      have kdr : Keep w58 w58.drew := Ext.drew _ _
      refine ⟨g, rfl, ⟨_, ((hf35.keep kd).keep k66).bytes, rfl⟩, _, hg, BIf_dec (fun _ => ⟨trivial, BIf_mk (fun _ => BIf_mk (fun _ => ?_) (fun h => by cases h)) (fun h => by cases h)⟩) (fun h => absurd rfl h)⟩
      refine ⟨_, _, _, _, _, ((o53.keep kdr).keep k66).row, _, _, _, _, _, (o26.keep k66).row, ?_⟩
      refine (sameAsk_spec t k e a sd s d w66 (bytesAt_keep hsd ((k58'.drew).trans k66)) (bytesAt_keep hd ((k35.trans kd).trans k66))).mono ?_
      rintro x w81 ⟨rfl, k81⟩
      refine ⟨_, rfl, BIf_mk (fun _ => ⟨_, _, _, _, (((o55.keep kdr).keep k66).keep k81).row, ?_⟩) (fun h => by cases h)⟩
      refine (sameTell_spec 0 0 0 _ _ [] w81 (nil_bytes _) (nil_bytes _)).mono ?_
      rintro x w88 ⟨rfl, k88⟩
      exact ⟨_, rfl, rfl, (k35.trans kd).trans (k66.trans (k81.trans k88))⟩
    · exact absurd hb h1

theorem WireTells_walk (cs : Array Value) (y : Int × Int × Int × (Slc × List UInt8)) (w : World) (h : rdRep.R w y cs.toList) (A : Nat → Addr) (hE0 : Errs A w) :
    Calls Tryd.prog fn_tidewaterlaw33_WireTells ⟨[.agg cs]⟩ w fun x w' => x = .returned (.bool true) ∧ Keep w w' := by
  obtain ⟨l⟩ := cs
  obtain ⟨t, e, n, s, d, rfl, hd, hc⟩ := rdRep_get h
  have hE := hE0.b
  have hsl := hd.1
  refine tidewaterlaw33_WireTells_ok _ _ _ _ ?_
  unfold tidewaterlaw33_WireTells
  refine newS_mk (fun r6 w7 hr6 hb6 k7 hs7 => ?_)
  have o7 := ObjAt.new' hb6
  refine (alive33_spec A w7 (hE.keep k7).1).mono ?_
  rintro x w9 ⟨rfl, k9'⟩
  have k9 := k7.trans k9'
  have o9 := o7.keep k9'
  refine ⟨_, rfl, BIf_mk (fun h => by cases h) (fun _ => ⟨s, o9.cell 3 (by simp), BIf_dec (fun _ => ⟨rfl, k9⟩) (fun h3 => ⟨_, _, _, _, o9.row, ?_⟩)⟩)⟩
  refine (Tell_spec A t e n s d w9 (bytesAt_keep hd k9) (hE.keep k9).1.b).mono ?_
  rintro x w18 ⟨f, ev, rfl, k18', hres⟩
  have k18 := k9.trans k18'
  have o18 := o9.keep k18'
  refine ⟨f, ev, rfl, _, _, _, _, o18.row, var_mk rfl rfl (fun r26 w28 hr26 o28 k28' hs28 => ⟨_, _, _, _, o28.row, ?_⟩)⟩
  have k28 := k18.trans k28'
  refine (RightTell_spec t e n s w28).mono ?_
  rintro x w35 ⟨rfl, k35'⟩
  have k35 := k28.trans k35'
  rw [hsl]
  refine ⟨_, rfl, BIf_ndec (fun hb => ?_) (fun hb => ?_)⟩
  · rcases hres with ⟨h1, _⟩ | ⟨_, rfl, rfl⟩
    · exact absurd h1 hb
    · refine BIf_dec (fun _ => ?_) (fun h => absurd rfl h)
      refine (Num_spec A 3 (by omega) w35 (hE.keep k35).1).mono ?_
      rintro x w38 ⟨rfl, k38⟩
      exact ⟨_, rfl, rfl, k35.trans k38⟩
  · rcases hres with ⟨_, rfl, hf, hff⟩ | ⟨h1, _⟩
    · have hf35 := (hf.keep k28').keep k35'
      have hfl := hf35.bytes.1
      have hpl := payP_len hb
      rw [frameB_length] at hfl
      refine (Read33_spec A f _ w35 hf35.bytes (by omega) hf35.cap (hE.keep k35).1.b).mono ?_
      rintro x w41 ⟨q, p, is, ev, rfl, hrr, k41'⟩
      rw [readR_tell hb] at hrr
      obtain ⟨sd, rfl, hsd, hsdc, hsdf, rfl, rfl, rfl⟩ := hrr
      refine ⟨_, _, _, _, _, _, _, _, _, _, _, rfl, newS_mk (fun r53 w54 hr53 hb53 k54 hs54 => newS_mk (fun r55 w56 hr55 hb55 k56 hs56 => ?_))⟩
      have k56' := k41'.trans (k54.trans k56)
      have k56w := k35.trans k56'
      have h35s := k35'.size
      have h41s := k41'.size
      refine ret_mk (ObjAt.keep (ObjAt.new' hb53) k56) (ObjAt.new' hb55) (by omega) rfl rfl rfl rfl (fun w58 o53 o55 he => ⟨trivial, BIf_mk (fun _ => ?_) (fun h => by cases h)⟩)
      have k58' : Keep w41 w58 := (k54.trans k56).ext he (fun k hk => by omega)
      have kd : Keep w35 w58.drew := (k41'.trans k58').drew
      have o26 := o28.keep (k35'.trans kd)
      refine ⟨_, (hf35.keep kd).bytes, _, _, _, _, o26.row, ?_⟩
      refine (refTell_spec t e n s d w58.drew (bytesAt_keep hd (k35.trans kd)) hb).mono ?_
      rintro x w66 ⟨g, rfl, k66, hg⟩
      have kdr : Keep w58 w58.drew := Ext.drew _ _
      refine ⟨g, rfl, ⟨_, ((hf35.keep kd).keep k66).bytes, rfl⟩, _, hg, BIf_dec (fun _ => ⟨trivial, BIf_mk (fun _ => BIf_mk (fun _ => ?_) (fun h => by cases h)) (fun h => by cases h)⟩) (fun h => absurd rfl h)⟩
      refine ⟨_, _, _, _, ((o55.keep kdr).keep k66).row, _, _, _, _, (o26.keep k66).row, ?_⟩
      refine (sameTell_spec t e n sd s d w66 (bytesAt_keep hsd ((k58'.drew).trans k66)) (bytesAt_keep hd ((k35.trans kd).trans k66))).mono ?_
      rintro x w81 ⟨rfl, k81⟩
      refine ⟨_, rfl, BIf_mk (fun _ => ⟨_, _, _, _, _, (((o53.keep kdr).keep k66).keep k81).row, ?_⟩) (fun h => by cases h)⟩
      refine (sameAsk_spec 0 0 0 0 _ _ [] w81 (nil_bytes _) (nil_bytes _)).mono ?_
      rintro x w88 ⟨rfl, k88⟩
      exact ⟨_, rfl, rfl, (k35.trans kd).trans (k66.trans (k81.trans k88))⟩
    · exact absurd hb h1

theorem wrap64u_idx9 (at2 : Int) (l : Nat) (hl : 10 ≤ l) (hl2 : l ≤ 100000) :
    ∃ r : Nat, r + 10 ≤ l ∧ IntKind.wrap .i64 ((IntKind.wrap .u64 at2) % (IntKind.wrap .u64 ((l : Int) - 9))) = (r : Int) ∧ 0 ≤ IntKind.wrap .u64 at2 ∧ 0 < IntKind.wrap .u64 ((l : Int) - 9) := by
  have hm : IntKind.wrap .u64 ((l : Int) - 9) = (l : Int) - 9 := by
    simp [IntKind.wrap, IntKind.signed, IntKind.bits]; omega
  have hu : 0 ≤ IntKind.wrap .u64 at2 := by
    simp [IntKind.wrap, IntKind.signed, IntKind.bits]; omega
  rw [hm]
  generalize IntKind.wrap .u64 at2 = u at hu
  have h1 : 0 ≤ u % ((l : Int) - 9) := Int.emod_nonneg _ (by omega)
  have h2 : u % ((l : Int) - 9) < (l : Int) - 9 := Int.emod_lt_of_pos _ (by omega)
  refine ⟨(u % ((l : Int) - 9)).toNat, by omega, ?_, hu, by omega⟩
  generalize u % ((l : Int) - 9) = v at h1 h2
  simp [IntKind.wrap, IntKind.signed, IntKind.bits]
  omega

theorem payload_pos (l : List Int) (d : List UInt8) (h : 3 ≤ l.length) : 4 ≤ (payload l d).length := by
  match l, h with
  | a :: b :: c :: r, _ =>
    have h1 := encN_pos a.toNat
    have h2 := encN_pos b.toNat
    have h3 := encN_pos c.toNat
    have h4 := encN_pos d.length
    simp only [payload, encs_cons, List.length_append]; omega

theorem WireBurst_walk (cs : Array Value) (y : Int × Int × Int × Int × (Slc × List UInt8)) (at6 by7 : Int) (w : World) (h : rdReq.R w y cs.toList) (hby : 0 ≤ by7 ∧ by7 ≤ 4294967295) (A : Nat → Addr) (hE0 : Errs A w) :
    Calls Tryd.prog fn_tidewaterlaw33_WireBurst ⟨[.agg cs, .int .i64 at6, .int .u32 by7]⟩ w fun x w' => x = .returned (.bool true) ∧ Keep w w' := by
  obtain ⟨l⟩ := cs
  obtain ⟨t, k, e, a, s, d, rfl, hd, hc⟩ := rdReq_get h
  have hE := hE0.b
  have hsl := hd.1
  refine tidewaterlaw33_WireBurst_ok _ _ _ _ _ _ _ ?_
  unfold tidewaterlaw33_WireBurst
  refine newS_mk (fun r6 w7 hr6 hb6 k7 hs7 => ?_)
  have o7 := ObjAt.new' hb6
  refine (alive33_spec A w7 (hE.keep k7).1).mono ?_
  rintro x w9 ⟨rfl, k9'⟩
  have k9 := k7.trans k9'
  have o9 := o7.keep k9'
  refine ⟨_, rfl, BIf_mk (fun h => by cases h) (fun _ => ⟨fun w2 => w2 = w9 ∧ by7 ≠ 0, ⟨s, o9.cell 4 (by simp), BIf_dec (fun _ => ⟨rfl, k9⟩) (fun h3 => BIf_dec (fun _ => ⟨rfl, k9⟩) (fun h4 => ⟨rfl, h4⟩))⟩, ?_⟩)⟩
  rintro w15 ⟨rfl, hby0⟩
  intros
  obtain ⟨y, rfl⟩ : ∃ y : Nat, by7 = (y : Int) := ⟨by7.toNat, by omega⟩
  refine ⟨_, _, _, _, _, o9.row, ?_⟩
  refine (Ask_spec A t k e a s d w15 (bytesAt_keep hd k9) (hE.keep k9).1.b).mono ?_
  rintro x w31 ⟨f, ev, rfl, k31', hres⟩
  have k31 := k9.trans k31'
  refine ⟨f, ev, rfl, ?_⟩
  rcases hres with ⟨hq, rfl, hf, hff⟩ | ⟨_, rfl, rfl⟩
  · refine ⟨trivial, BIf_mk (fun h => by cases h) (fun _ => ?_)⟩
    have hpl := payQ_len hq
    have hpp := payload_pos [1, t, k, e, a] d (by simp)
    have flen : (frameB (payload [1, t, k, e, a] d)).length = (payload [1, t, k, e, a] d).length + 6 := frameB_length _
    generalize payload [1, t, k, e, a] d = b at hpl hpp hf flen
    have fl : f.l = b.length + 6 := by have := hf.bytes.1; rw [flen] at this; exact this
    obtain ⟨r, hr, hr1, hr2, hr3⟩ := wrap64u_idx9 at6 f.l (by omega) (by omega)
    rw [hr1]
    have fr : Fresh w f := hff.mono k9.size
    refine BIf_dec (fun h => by omega) (fun _ => ⟨inR64 (by omega), hr2, hr3, inR64 (by omega), ?_⟩)
    refine ⟨fun i w2 => ∃ k : Nat, i = k ∧ k ≤ 4 ∧ Own w2 f 1 ((burst (frameB b) (6 + r) y k).map byteV) ∧ Keep w w2, fun i _ => (4 - i).toNat, ⟨0, rfl, by omega, by simpa [burst] using hf, k31⟩, ?_⟩
    rintro i w37 ⟨k, rfl, hk4, o28, k37⟩
    intros
    refine BIf_dec (fun hlt => ?_) (fun hge => ?_)
    · have hmin : min (Int.toNat ((8 : Int) * (k : Int))) 32 = 8 * k := by omega
      rw [hmin]
      have wr := wrap8_range ((y : Int) / ((2 ^ (8 * k) : Nat) : Int))
      have o28d := o28.keep (Ext.drew _ w37)
      obtain ⟨a, ha, hc, hcan, hset, hext⟩ := o28d.setByte (i := 6 + r + k) (by rw [burst_length, flen]; omega) ((burst (frameB b) (6 + r) y k)[6 + r + k]'(by rw [burst_length, flen]; omega) ^^^ UInt8.ofNat (y / 2 ^ (8 * k)))
      have ei : (Int.toNat ((6 : Int) + (r : Int) + (k : Int))) * 1 = 6 + r + k := by omega
      have clt := ((burst (frameB b) (6 + r) y k)[6 + r + k]'(by rw [burst_length, flen]; omega)).toNat_lt
      rw [ei]
      refine ⟨inR64 (by omega), needSome_mk ha ⟨by omega, by omega, _, hc, inR64 (by omega), by omega, by omega, by omega, wr.1, inR8 (by omega), inR8 wr, needSome_mk ha ⟨by omega, by omega, hcan, ?_⟩⟩⟩
      rintro w70 rfl
      rw [xor8]
      refine ⟨inR64 (by omega), ⟨k + 1, rfl, by omega, ?_, (k37.drew).ext hext (fun k hk => fr k hk)⟩, by dsimp only; omega⟩
      rw [burst]
      have eg : (burst (frameB b) (6 + r) y k).getD (6 + r + k) 0 = (burst (frameB b) (6 + r) y k)[6 + r + k]'(by rw [burst_length, flen]; omega) := by
        simp [List.getD, burst_length, flen, show 6 + r + k < b.length + 6 by omega]
      rw [eg]
      exact hset
    · obtain rfl : k = 4 := by omega
      have hrr : readR (burst (frameB b) (6 + r) y 4) = .error 4 := by
        rw [readR, openR_text b r y (by omega) (by omega) (by omega) (by omega)]
      refine (Read33_spec A f _ w37 o28.bytes (by omega) o28.cap (hE.keep k37).1.b).mono ?_
      rintro x w60 ⟨q, p, is, ev, rfl, hrd, k60'⟩
      rw [hrr] at hrd
      obtain ⟨rfl, rfl, rfl, rfl⟩ := hrd
      refine ⟨_, _, _, _, _, _, _, _, _, _, _, rfl, ?_⟩
      refine (Num_spec A 4 (by omega) w60 (hE.keep (k37.trans k60')).1).mono ?_
      rintro x w73 ⟨rfl, k73⟩
      exact ⟨_, rfl, rfl, (k37.trans k60').trans k73⟩
  · exact ⟨trivial, BIf_mk (fun _ => ⟨rfl, k31⟩) (fun h => by cases h)⟩
end Go.D
