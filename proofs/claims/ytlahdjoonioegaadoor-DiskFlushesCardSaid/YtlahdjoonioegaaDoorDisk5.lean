/-
  WHAT IS PROVED: contracts of functions, and the plain law, for this proof. No further conditions.
-/
import Derived.Test.YtlahdjoonioegaaDoorDisk4
import Derived.Test.YtlahdjoonioegaaDoorVClaw07
set_option linter.unusedVariables false
set_option linter.unusedSimpArgs false
namespace Go.D
open Go Go.Proofs

theorem Foot.ext {M M' : Nat → Prop} {w0 w w' : World} (h : Foot M M' w w') (hk : Keep w0 w) (hm : ∀ k, M k → w0.heap.size ≤ k) : Keep w0 w' ∧ ∀ k, M' k → w0.heap.size ≤ k := h.new hk hm

theorem crashL_none (l : List Wr) (m : List UInt8) : ∀ k, crashL 0 (-1) 0 k l m = m := by
  induction l with
  | nil => intro k; rfl
  | cons x l ih =>
    intro k
    have h1 : keptB 0 k = false := by unfold keptB; simp [bitsI]
    rw [crashL, if_neg (by omega), if_neg (by rw [h1]; simp), ih]
theorem crashS_none (d : DevS) : crashS d 0 (-1) 0 = { d with pend := [], stops := false } := by unfold crashS; rw [crashL_none]

theorem alive07_spec (A : Nat → Addr) (w : World) (hE0 : ErrsOn tyErr dskG A w) : Calls Tryd.prog fn_tidewaterlaw07_alive ⟨[]⟩ w fun e w' => e = .returned (.bool true) ∧ Keep w w' := by
  have hE := hE0.g
  refine tidewaterlaw07_alive_ok ?_
  unfold tidewaterlaw07_alive
  refine (New_spec7 A 2 w hE).mono ?_
  rintro e w2 ⟨k2, h2⟩
  rw [if_neg (by omega)] at h2
  obtain ⟨r, q, rfl, hd, hB⟩ := h2
  refine ⟨_, _, rfl, fun w' => w' = w2, ⟨trivial, BIf_mk (fun h => by cases h) (fun _ => BIf_mk (fun h => by cases h) (fun _ => rfl))⟩, ?_⟩
  rintro w6 rfl
  intros
  refine ⟨by omega, by omega, by omega, newS_mk (fun r14 w15 hr14 hb14 k14 hs14 => ?_)⟩
  have o14 : ObjAt w15 r14 (repl 64 [Value.int .u8 0]) := ObjAt.new' hb14
  rw [repl_bytes] at o14
  obtain ⟨g1, g2⟩ := o14.setOne 0 (by simp) (.int .u8 7)
  refine ⟨by omega, by omega, g1, fun w16 hw16 => ?_⟩
  obtain ⟨g3, g4, g5⟩ := g2 w16 hw16
  have hrl := hd.o.lt
  have k16 : Keep w w16 := (k2.trans k14).ext g4 (fun k hk => by have := k2.size; omega)
  have hd16 : DevAt w16 r q (newD 2) := (hd.keep k14).ext g4 (fun k hk hh => by have := hd.lt k hk; omega)
  let b : List UInt8 := 7 :: List.replicate 63 0
  have hbl : b.length = 64 := by simp [b]
  have hbs : bytesAt w16 ⟨some ⟨r14, 0, none⟩, 64, 64⟩ b := by
    refine ⟨by rw [hbl], .inr ⟨_, rfl, fun i hi => ?_⟩⟩
    rw [add_lit, Nat.zero_add]
    have := g3.cell i (by simpa [b] using hi)
    rw [this]
    congr 1
  have hEr : w.heap.size ≤ r := hB r (.inl rfl)
  refine (Write_spec7 A hd16 1 _ b hbs (by show 64 ≤ 2 ^ 30; omega) (hE.keep k16) hEr (fun k hk hh => by obtain ⟨a, ha, rfl⟩ := hk; cases ha; simp only at hh; omega) (by simp [newD])).mono ?_
  rintro e w18 ⟨q', rfl, hd18, f18⟩
  have hw : writeS (newD 2) 1 b = (none, { newD 2 with pend := [(1, b)] }) := by
    unfold writeS
    rw [if_neg (by simp [hasD, newD, DevS.n]), if_neg (by rw [hbl]; simp)]
    rfl
  rw [hw] at hd18 ⊢
  obtain ⟨k18, hB18⟩ := f18.new k16 hB
  refine ⟨_, rfl, trivial, BIf_mk (fun h => by cases h) (fun _ => ?_)⟩
  refine (Read_spec7 A hd18 1 (hE.keep k18) (by simp)).mono ?_
  rintro e w21 ⟨k21, h21⟩
  have hin : hasD { newD 2 with pend := [(1, b)] } 1 = true := by simp [hasD, newD, DevS.n]
  rw [if_neg (by rw [hin]; simp)] at h21
  obtain ⟨t, rfl, ht, hf⟩ := h21
  have hrd : readD { newD 2 with pend := [(1, b)] } 1 = b := by simp [readD, lastW]
  rw [hrd] at ht
  refine ⟨_, _, rfl, ?_⟩
  have hd21 := hd18.keep k21
  refine (Crash_spec hd21 0 (-1) 0 (inRu64 (by omega)) (by simp)).mono ?_
  rintro e w25 ⟨q'', rfl, hd25, f25⟩
  rw [crashS_none] at hd25
  refine ⟨rfl, ?_⟩
  obtain ⟨k25, hB25⟩ := f25.new (k18.trans k21) hB18
  refine (Read_spec7 A hd25 1 (hE.keep k25) (by simp)).mono ?_
  rintro e w27 ⟨k27, h27⟩
  have hin : hasD { newD 2 with pend := [], stops := false } 1 = true := by simp [hasD, newD, DevS.n]
  rw [if_neg (by rw [hin]; simp)] at h27
  obtain ⟨t2, rfl, ht2, hf2⟩ := h27
  have hrd : readD { newD 2 with pend := [], stops := false } 1 = List.replicate 64 0 := by simp [readD, lastW, secD, newD]
  rw [hrd] at ht2
  have ht27 : Own w27 t 1 (b.map byteV) := (ht.ext f25.1 (fun k hk hh => by have := hf k hk; have := hd18.lt k hh; omega)).keep k27
  refine ⟨_, _, rfl, trivial, BIf_mk (fun _ => ⟨trivial, BIf_mk (fun _ => ?_) (fun h => by cases h)⟩) (fun h => by cases h)⟩
  obtain ⟨a, ha, hc⟩ := bytesAt_cell ht27.bytes (i := 0) (by omega)
  obtain ⟨a2, ha2, hc2⟩ := bytesAt_cell ht2.bytes (i := 0) (by simp)
  have hl1 := ht27.bytes.1
  have hl2 := ht2.bytes.1
  rw [hbl] at hl1
  rw [List.length_replicate] at hl2
  have e1 : a.add 0 = a := by simp [Addr.add]
  have e2 : a2.add 0 = a2 := by simp [Addr.add]
  rw [e1] at hc
  rw [e2] at hc2
  refine needSome_mk ha ⟨by omega, by omega, 7, hc, BIf_dec (fun _ => ?_) (fun h => by omega)⟩
  exact needSome_mk ha2 ⟨by omega, by omega, 0, by rw [hc2]; simp [byteV], rfl, k25.trans k27⟩

abbrev rdAct7 : Rd (Int × Int × Int × Int × Int × Int × Int) := Rd.pair (Rd.int .i64) (Rd.pair (Rd.int .i64) (Rd.pair (Rd.int .i64) (Rd.pair (Rd.int .u8) (Rd.pair (Rd.int .u64) (Rd.pair (Rd.int .i64) (Rd.int .i64))))))
abbrev Act7 := Int × Int × Int × Int × Int × Int × Int
def actC7 (x : Act7) : List Value := [.int .i64 x.1, .int .i64 x.2.1, .int .i64 x.2.2.1, .int .u8 x.2.2.2.1, .int .u64 x.2.2.2.2.1, .int .i64 x.2.2.2.2.2.1, .int .i64 x.2.2.2.2.2.2]
theorem rdAct7_get {w : World} {s : Slc} {xs : List Act7} (h : rowsR rdAct7 w s xs) {i : Nat} (hi : i < xs.length) :
    ∃ a, s.p = some a ∧ rowAt w (Addr.add a (i * 7)) 0 (actC7 xs[i]) ∧ inR .u8 xs[i].2.2.2.1 := by
  obtain ⟨a, cs, ha, hc, hrow⟩ := h.2.2.2 i hi
  obtain ⟨_, _, rfl, ⟨rfl, _⟩, _, _, rfl, ⟨rfl, _⟩, _, _, rfl, ⟨rfl, _⟩, _, _, rfl, ⟨rfl, h8⟩, _, _, rfl, ⟨rfl, _⟩, _, _, rfl, ⟨rfl, _⟩, ⟨rfl, _⟩⟩ := hc
  exact ⟨a, ha, hrow, h8⟩

theorem writeS_keep (d : DevS) (i : Int) (b : List UInt8) (hs : d.stops = false) : (writeS d i b).2.img = d.img ∧ (writeS d i b).2.stops = false ∧ (writeS d i b).2.pend.length ≤ d.pend.length + 1 := by
  unfold writeS
  split
  · exact ⟨rfl, hs, Nat.le_succ _⟩
  · split
    · exact ⟨rfl, hs, Nat.le_succ _⟩
    · split
      · exact ⟨downS_img d, by rw [downS_stops]; exact hs, by rw [downS_pend]; omega⟩
      · exact ⟨downS_img d, by show (downS d).2.stops = false; rw [downS_stops]; exact hs, by simp⟩

theorem DiskFlushes_walk (s t : Slc) (xs ys : List Act7) (w : World) (hx : rowsR rdAct7 w s xs) (hy : rowsR rdAct7 w t ys) (A : Nat → Addr) (hE0 : ErrsOn tyErr dskG A w) :
    Calls Tryd.prog fn_tidewaterlaw07_DiskFlushes ⟨[s.v, t.v]⟩ w fun e w' => e = .returned (.bool true) ∧ Keep w w' := by
  have hE := hE0.g
  have hxl := hx.1
  have hyl := hy.1
  refine tidewaterlaw07_DiskFlushes_ok _ _ ?_
  unfold tidewaterlaw07_DiskFlushes
  refine (alive07_spec A w hE0).mono ?_
  rintro e w4 ⟨rfl, k4⟩
  refine ⟨_, rfl, BIf_mk (fun h => by cases h) (fun _ => ?_)⟩
  refine ⟨fun w' => w' = w4 ∧ xs.length ≤ 50 ∧ ys.length ≤ 50, BIf_dec (fun _ => ⟨rfl, k4⟩) (fun h1 => BIf_dec (fun _ => ⟨rfl, k4⟩) (fun h2 => ⟨rfl, by omega, by omega⟩)), ?_⟩
  rintro w7 ⟨rfl, hx50, hy50⟩
  intros
  refine (New_spec7 A 6 w7 (hE.keep k4)).mono ?_
  rintro e w18 ⟨k18, h18⟩
  rw [if_neg (by omega)] at h18
  obtain ⟨r, q, rfl, hd, hB⟩ := h18
  have kk := k4.trans k18
  have hB' : ∀ k, DevB r q k → w.heap.size ≤ k := fun k hk => by have := hB k hk; have := k4.size; omega
  refine ⟨_, _, rfl, trivial, BIf_mk (fun h => by cases h) (fun _ => ?_)⟩
  refine ⟨fun i w2 => ∃ (k : Nat) (q : DevP) (d : DevS), i = k ∧ k ≤ xs.length ∧ DevAt w2 r q d ∧ d.stops = false ∧ d.pend.length ≤ k ∧ Keep w w2 ∧ ∀ k, DevB r q k → w.heap.size ≤ k, fun i _ => ((xs.length : Int) - i).toNat,
    ⟨0, q, newD 6, rfl, by omega, hd, rfl, Nat.le_refl 0, kk, hB'⟩, ?_⟩
  rintro i w24 ⟨k, q2, d2, rfl, hk, hd24, hst, hpl, k24, hB24⟩
  intros
  have hr0 : w.heap.size ≤ r := hB' r (.inl rfl)
  refine BIf_dec (fun h3 => ?_) (fun h3 => ?_)
  · have hkl : k < xs.length := by omega
    obtain ⟨a, ha, hrow, hu8⟩ := rdAct7_get (rowsR_keep hx k24) hkl
    refine needSome_mk ha ⟨by omega, h3, _, _, _, _, _, _, _, by rw [show Int.toNat (k : Int) * 7 = k * 7 by omega]; exact hrow, ?_⟩
    refine var_mk (cs := actC7 xs[k]) rfl rfl (fun r54 w56 hr54 o54 k54 hs54 => ?_)
    refine ⟨by omega, by omega, by omega, newS_mk (fun r57 w58 hr57 hb57 k57 hs57 => ?_)⟩
    have o58 := o54.keep k57
    have hwr : 0 ≤ IntKind.wrap .u64 xs[k].2.2.2.2.2.2 := by
      simp [IntKind.wrap, IntKind.signed, IntKind.bits]; omega
    generalize hcut : IntKind.wrap .u64 xs[k].2.2.2.2.2.2 = cu at hwr
    have hcm : 0 ≤ cu % 64 ∧ cu % 64 < 64 := by omega
    have hwi : IntKind.wrap .i64 (cu % 64) = cu % 64 := wrap_inR (inR64 (by omega))
    refine ⟨_, o58.cell 6 (by simp [actC7]), by rw [hcut]; exact hwr, by omega, _, o58.cell 3 (by simp [actC7]), ?_⟩
    rw [hcut, hwi]
    have o57 : ObjAt w58 r57 (repl 64 [Value.int .u8 0]) := ObjAt.new' hb57
    rw [repl_bytes] at o57
    obtain ⟨g1, g2⟩ := o57.setOne (cu % 64).toNat (by simp; omega) (.int .u8 xs[k].2.2.2.1)
    rw [add_lit, show 0 + Int.toNat (cu % 64) * 1 = (cu % 64).toNat by omega]
    refine ⟨by omega, by omega, g1, fun w61 hw61 => ?_⟩
    obtain ⟨g3, g4, g5⟩ := g2 w61 hw61
    have hrl := hd24.o.lt
    have z24 := k24.size
    have k61 : Keep w w61 := ((k24.trans k54).trans k57).ext g4 (fun k hk => by have := k54.size; omega)
    have hd61 : DevAt w61 r q2 d2 := ((hd24.keep k54).keep k57).ext g4 (fun k hk hh => by have := hd24.lt k hk; have := k54.size; omega)
    have o61 := o58.ext g4 (fun hh => by omega)
    refine ⟨_, o61.cell 1 (by simp [actC7]), ?_⟩
    let b : List UInt8 := (List.replicate 64 (0 : UInt8)).set (cu % 64).toNat (UInt8.ofNat xs[k].2.2.2.1.toNat)
    have hbl : b.length = 64 := by simp [b]
    have hbv : b.map byteV = ((List.replicate 64 (0 : UInt8)).map byteV).set (cu % 64).toNat (.int .u8 xs[k].2.2.2.1) := by
      simp only [b, List.map_set]
      congr 1
      have h8 := hu8
      simp only [inR, IntKind.min, IntKind.max, IntKind.signed, IntKind.bits] at h8
      simp at h8
      simp only [byteV, Value.int.injEq, true_and]
      rw [UInt8.toNat_ofNat']
      omega
    rw [← hbv] at g3
    have hbs : bytesAt w61 ⟨some ⟨r57, 0, none⟩, 64, 64⟩ b := by
      refine ⟨by rw [hbl], .inr ⟨_, rfl, fun i hi => ?_⟩⟩
      rw [add_lit, Nat.zero_add]
      exact g3.cell i hi
    refine (Write_spec7 A hd61 xs[k].2.1 _ b hbs (by show 64 ≤ 2 ^ 30; omega) (hE.keep k61) hr0 (fun k hk hh => by obtain ⟨a, ha, rfl⟩ := hk; cases ha; simp only at hh; have := k54.size; omega) (by omega)).mono ?_
    rintro e w64 ⟨q', rfl, hd64, f64⟩
    obtain ⟨k64, hB64⟩ := f64.new k61 hB24
    obtain ⟨p1, p2, p3⟩ := writeS_keep d2 xs[k].2.1 b hst
    exact ⟨_, rfl, inR64 (by omega), ⟨k + 1, q', _, rfl, hkl, hd64, p2, by omega, k64, hB64⟩, by dsimp only; omega⟩
  · -- flushed
    have hkl : k = xs.length := by omega
    subst hkl
    refine (Flush_spec A hd24 (hE.keep k24) hr0 (by omega)).mono ?_
    rintro e w67 ⟨q3, rfl, hd67, f67⟩
    obtain ⟨k67, hB67⟩ := f67.new k24 hB24
    have hds : downS d2 = (false, d2) := by unfold downS; rw [if_pos hst]
    have hfl : flushS d2 = (none, { d2 with img := applyL d2.pend d2.img, pend := [] }) := by unfold flushS; rw [hds]; rfl
    rw [hfl] at hd67 ⊢
    refine ⟨_, rfl, trivial, BIf_mk (fun h => by cases h) (fun _ => ?_)⟩
    generalize hd3 : ({ d2 with img := applyL d2.pend d2.img, pend := [] } : DevS) = d3 at hd67
    have hs3 : d3.stops = false := by rw [← hd3]; exact hst
    have hp3 : d3.pend = [] := by rw [← hd3]
    refine (Image_spec hd67).mono ?_
    rintro e w70 ⟨ti, rfl, hti, hfi, k70⟩
    refine ⟨_, rfl, d3.img, hti.bytes, ?_⟩
    refine ⟨fun i w2 => ∃ (k : Nat) (q : DevP) (d : DevS), i = k ∧ k ≤ ys.length ∧ DevAt w2 r q d ∧ d.stops = false ∧ d.pend.length ≤ k ∧ d.img = d3.img ∧ Keep w w2 ∧ ∀ k, DevB r q k → w.heap.size ≤ k, fun i _ => ((ys.length : Int) - i).toNat,
      ⟨0, q3, d3, rfl, by omega, hd67.keep k70, hs3, by rw [hp3]; simp, rfl, k67.trans k70, hB67⟩, ?_⟩
    rintro i w76 ⟨k, q4, d4, rfl, hk4, hd76, hst4, hpl4, him4, k76, hB76⟩
    intros
    refine BIf_dec (fun h4 => ?_) (fun h4 => ?_)
    · have hkl : k < ys.length := by omega
      obtain ⟨a, ha, hrow, hu8⟩ := rdAct7_get (rowsR_keep hy k76) hkl
      refine needSome_mk ha ⟨by omega, h4, _, _, _, _, _, _, _, by rw [show Int.toNat (k : Int) * 7 = k * 7 by omega]; exact hrow, ?_⟩
      refine var_mk (cs := actC7 ys[k]) rfl rfl (fun r101 w103 hr101 o101 k101 hs101 => ?_)
      have od := o101.keep (Ext.drew none0 _)
      refine ⟨_, od.cell 1 (by simp [actC7]), by omega, by omega, by omega, newS_mk (fun r105 w106 hr105 hb105 k105 hs105 => ?_)⟩
      have k106 : Keep w76 w106 := (k101.drew).trans k105
      refine ⟨⟨_, (od.keep k105).cell 1 (by simp [actC7]), rfl⟩, ?_⟩
      have hbs : bytesAt w106 ⟨some ⟨r105, 0, none⟩, 64, 64⟩ (List.replicate 64 0) := (Own.zeros hb105).bytes
      have hrl := hd76.o.lt
      have z101 := k101.size
      have zd : w103.drew.heap.size = w103.heap.size := rfl
      refine (Write_spec7 A (hd76.keep k106) ys[k].2.1 _ _ hbs (by show 64 ≤ 2 ^ 30; omega) (hE.keep (k76.trans k106)) hr0 (fun k hk hh => by obtain ⟨a, ha, rfl⟩ := hk; cases ha; simp only at hh; omega) (by omega)).mono ?_
      rintro e w109 ⟨q', rfl, hd109, f109⟩
      obtain ⟨k109, hB109⟩ := f109.new (k76.trans k106) hB76
      obtain ⟨p1, p2, p3⟩ := writeS_keep d4 ys[k].2.1 (List.replicate 64 0) hst4
      refine ⟨_, rfl, ?_⟩
      refine (Image_spec hd109).mono ?_
      rintro e w112 ⟨t2, rfl, ht2, hf2, k112⟩
      refine ⟨_, rfl, _, ht2.bytes, BIf_ndec (fun hne => absurd (p1.trans him4) hne) (fun _ => ?_)⟩
      exact ⟨inR64 (by omega), ⟨k + 1, q', _, rfl, hkl, hd109.keep k112, p2, by omega, p1.trans him4, k109.trans k112, hB109⟩, by dsimp only; omega⟩
    · refine (Crash_spec hd76 0 (-1) 0 (inRu64 (by omega)) (by omega)).mono ?_
      rintro e w116 ⟨q'', rfl, hd116, f116⟩
      rw [crashS_none] at hd116
      obtain ⟨k116, hB116⟩ := f116.new k76 hB76
      refine ⟨rfl, ?_⟩
      refine (Image_spec hd116).mono ?_
      rintro e w118 ⟨t2, rfl, ht2, hf2, k118⟩
      refine ⟨_, rfl, _, ht2.bytes, BIf_dec (fun _ => ?_) (fun hne => absurd him4 hne)⟩
      have hd118 := hd116.keep k118
      refine (Pending_spec hd118).mono ?_
      rintro e w122 ⟨rfl, rfl⟩
      refine ⟨_, rfl, BIf_dec (fun _ => ?_) (fun hne => absurd rfl hne)⟩
      refine (Down_spec hd118).mono ?_
      rintro e w125 ⟨rfl, rfl⟩
      exact ⟨_, rfl, rfl, k116.trans k118⟩
end Go.D
