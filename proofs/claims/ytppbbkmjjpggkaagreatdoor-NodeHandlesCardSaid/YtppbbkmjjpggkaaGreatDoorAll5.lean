/-
  WHAT IS PROVED: contracts of functions, and the plain law, for this proof. No further conditions.
-/
import Derived.Test.YtppbbkmjjpggkaaGreatDoorAll4
import Derived.Test.YtppbbkmjjpggkaaGreatDoorAll3
import Derived.Test.YtppbbkmjjpggkaaGreatDoorVCref34
import Derived.Test.YtppbbkmjjpggkaaGreatDoorVClaw34
set_option linter.unusedVariables false
set_option linter.unusedSimpArgs false
namespace Go.D
open Go Go.Proofs
section
variable {w w' : World} {r k m : Nat} {f : RuF} {P : List RuE} {top : Int} {s : UnS}
theorem jU.AY {tr ep tr' ep' : Int} (h : jU w r k f P tr ep top) (he : Ext (fun j => j = r) w w') (ho : aq w' r [aw f.rs, f.sa.v, f.sp.v, f.si.v, .int .i64 tr', .int .i64 ep', .int .i64 top]) : jU w' r k f P tr' ep' top := by
 obtain ⟨c, hc⟩ := h.c
 have no : ∀ j, c j ≠ 0 -> ¬ j = r := fun j h1 h2 => h1 (by rw [h2]; exact hc.cr)
 exact ⟨ho, h.R.ext he (fun j hj => no j (by rw [hc.cf j hj]; omega)) (fun j hj => no j (by rw [hc.cy j (.inl hj)]; omega)), h.a.ext he (fun j hj => no j (by rw [hc.ca j hj]; omega)), h.p.ext he (fun j hj => no j (by rw [hc.cp j hj]; omega)) (fun j hj => no j (by rw [hc.cy j (.inr hj)]; omega)),
  h.i.ext he (fun j hj => no j (by rw [hc.ci j hj]; omega)), c, hc⟩
theorem dD.Hc (he : Ext (fun j => j = r) w w') : dD r f f w w' := ⟨he.mono (fun j hj => .inl hj), fun j hj => .inl hj, fun j hj => .inl hj⟩
theorem xo (h : RuS w r k f P top s) (hP : P.length <= 2 ^ 20) (epoch a : Int) :
  Calls Tryz.prog dt ⟨[aw r, .int .i64 epoch, .int .i64 a]⟩ w fun e w' => ∃ t : Slc, e = .returned (.tuple ⟨[t.v, .int .i64 (eN (readE s.tr s.ep (pgM s.U s.tr) epoch a))]⟩) /\ ag w' t (if (readE s.tr s.ep (pgM s.U s.tr) epoch a).isNone then (pgM s.U s.tr a).getD [] else []) /\ ak w w' /\ aF w t := by
 refine kg _ _ _ ?_
 unfold gG
 have nilB : ∀ w2, ag w2 (⟨none, 0, 0⟩ : Slc) [] := fun w2 => (show Own w2 ⟨none, 0, 0⟩ 1 (([] : List UInt8).map aJ) from Own.nil _ _).bytes
 refine (kZ h.A epoch a 4095).mono ?_
 rintro e w5 ⟨rfl, rfl⟩
 unfold readE
 cases hc : eV s.ep epoch a 4095 with
 | some c =>
  have : eN (some c) ≠ 0 := by show ((c + 1 : Nat) : Int) ≠ 0; omega
  exact ⟨_, rfl, av (fun _ => ⟨_, rfl, nilB _, Ext.refl _ _, aF.nil _ _ _⟩) (fun hh => by simp [this] at hh)⟩
 | none =>
  have ha : 0 <= a /\ a <= 4095 := by
   unfold eV at hc
   split at hc
   ·cases hc
   ·split at hc
    ·cases hc
    ·omega
  obtain ⟨an, rfl⟩ : ∃ an : Nat, a = an := ⟨a.toNat, by omega⟩
  dsimp only
  refine ⟨_, rfl, av (fun hh => by simp [eN] at hh) (fun _ => aa rfl ⟨_, h.A.cs.2.2.2.2.1, ae (fun h1 => ?_) (fun h1 => ?_)⟩)⟩
  ·rw [if_pos h1]
   exact ⟨_, rfl, nilB _, Ext.refl _ _, aF.nil _ _ _⟩
  rw [if_neg h1]
  refine (xj h.A hP (an : Int)).mono ?_
  rintro e w10 ⟨rfl, rfl⟩
  refine ⟨_, rfl, ?_⟩
  rcases h.K.get an with ⟨g1, g2⟩ | ⟨i, hi, g1, g2⟩
  ·rw [g1, g2]
   exact ae (fun _ => ⟨_, rfl, nilB _, Ext.refl _ _, aF.nil _ _ _⟩) (fun hh => absurd (by omega) hh)
  ·rw [g1, g2]
   refine ae (fun hh => absurd hh (by omega)) (fun _ => au (fun r12 w13 hr12 hb12 k12 hs12 => ?_))
   have hA := h.A.af k12
   have hic : i < f.css.length := by rw [hA.p.len, List.length_map]; exact hi
   obtain ⟨a16, ha16, _, hrow⟩ := hA.p.get (i := i) hic
   obtain ⟨s17, hcs, hb17⟩ := hA.p.row i hic (by simpa using hi)
   rw [hcs] at hrow
   rw [List.getElem_map] at hb17
   have hsl := hA.p.sl
   rw [List.length_map] at hsl
   have hok := (h.K.ok _ (List.getElem_mem hi)).2
   have hbl := hb17.1
   refine aa rfl ⟨_, hA.cs.2.2.1, aa ha16 ⟨by omega, by omega, s17, by rw [Int.toNat_natCast]; exact gl hrow 0 (by simp), ?_⟩⟩
   refine aX (vs := []) (w0 := w10) (Own.new (sz := 1) (n := 0) hb12 (.inl (by simp)) rfl) rfl (aF.at (by omega)) k12 (aO hb17) (by simp only [Src.n]; omega) (fun s' w' q1 q2 q3 q4 => ?_)
   exact ⟨s', rfl, Own.bytes (by simpa using q1), q2, q3⟩
theorem xU (h : RuS w r k f P top s) (hu : UOk k m s) (hm : m <= 2 ^ 59) (epoch : Int) :
  Calls Tryz.prog dx ⟨[aw r, .int .i64 epoch]⟩ w fun e w' => e = .returned (.tuple ⟨[.int .i64 (if (dW k s epoch).1 = none then ((dW k s epoch).2.T : Int) else 0), .int .i64 (eN (dW k s epoch).1)]⟩) /\ ∃ f', RuS w' r k f' P top (dW k s epoch).2 /\ dD r f f' w w' := by
 refine ki _ _ ?_
 unfold gJ
 have hep := hu.t.2
 have htt := h.K.t
 refine ⟨fun w2 => ¬ (epoch < 0 \/ 1073741824 < epoch) /\ w2 = w, ae (fun h0 => ?_) (fun h0 => ae (fun h1 => ?_) (fun h1 => ⟨by omega, rfl⟩)), ?_⟩
 ·have hq : dW k s epoch = (some 13, s) := by unfold dW; rw [if_pos (.inl h0)]
  rw [hq]
  exact ⟨rfl, f, h, dD.refl _ _ _⟩
 ·have hq : dW k s epoch = (some 13, s) := by unfold dW; rw [if_pos (.inr h1)]
  rw [hq]
  exact ⟨rfl, f, h, dD.refl _ _ _⟩
 rintro w4 ⟨h0, rfl⟩
 intros
 refine aa rfl ⟨_, h.A.cs.2.2.2.2.2.1, ae (fun h1 => ?_) (fun h1 => aa rfl ⟨_, h.A.cs.2.2.2.2.2.1, ?_⟩)⟩
 ·have hq : dW k s epoch = (some 7, s) := by unfold dW; rw [if_neg h0, if_pos h1]
  rw [hq]
  exact ⟨rfl, f, h, dD.refl _ _ _⟩
 refine ae (fun h2 => ?_) (fun h2 => ?_)
 ·obtain ⟨en, rfl⟩ : ∃ en : Nat, epoch = en := ⟨epoch.toNat, by omega⟩
  have hq : dW k s (en : Int) = match appU k s.U (.shut en) with | none => (some 12, s) | some (n, V) => (none, ⟨V, s.tr, en, s.T⟩) := by
   unfold dW; rw [if_neg h0, if_neg h1, if_neg (by omega), Int.toNat_natCast]; try rfl
  rw [hq]
  have hok : okR (.shut en) := show en <= 2 ^ 30 by omega
  have kd : ak w4 (World.drew w4) := Ext.drew _ _
  have lt := h.A.lt
  have cell0 : ∀ {w3}, ak w4 w3 -> World.cell? w3 (⟨r, 0, none⟩ : Addr) = some (Value.pointer (some ⟨f.rs, 0, none⟩)) := fun hk => (h.A.af hk).cs.1
  refine aa rfl ⟨_, cell0 kd, (cq 3 _ (by omega)).mono ?_⟩
  rintro e w28 ⟨s29, rfl, o29, f29, k29⟩
  have k28 := kd.trans k29
  refine ⟨s29, rfl, ⟨_, cell0 k28, rfl⟩, (cq en _ (by omega)).mono ?_⟩
  rintro e w33 ⟨s34, rfl, o34, f34, k34⟩
  have k33 := k28.trans k34
  refine ⟨s34, rfl, ⟨_, cell0 k33, rfl⟩, au (fun r41 w42 hr41 hb41 k42 hs42 => ⟨⟨_, cell0 (k33.trans k42), rfl⟩, ?_⟩)⟩
  have k42' := k33.trans k42
  have z42 := k42.size
  have b29 : ∀ j, ao s29 j -> j < w33.heap.size := gq (o29.af k34)
  have b34 : ∀ j, ao s34 j -> j < w33.heap.size := gq o34
  have hrows := xk (w := w42) [s29, s34] [aT 3, aT en] hb41 rfl (fun i h h' => by
   match i, h with
   | 0, _ => exact ((o29.af k34).af k42).bytes
   | 1, _ => exact (o34.af k42).bytes) (fun x hx j hj => by
   simp only [List.mem_cons, List.not_mem_nil, or_false] at hx
   rcases hx with rfl | rfl
   ·have := b29 j hj; omega
   ·have := b34 j hj; omega)
  have hel := kV hok
  have henc : [aT 3, aT en].flatten = encR (.shut en) := by simp [encR, nL]
  have hlens : ∀ b ∈ [aT 3, aT en], b.length <= 2 ^ 20 := fun b hb9 => by
   have hle : b.length <= ([aT 3, aT en].flatten).length := by
    rw [List.length_flatten]
    exact vj (List.mem_map.2 ⟨b, hb9, rfl⟩)
   rw [henc] at hle; omega
  refine (ub _ _ _ hrows (by simp) hlens).mono ?_
  rintro e w45 ⟨s46, rfl, o46, f46, k46⟩
  rw [henc] at o46
  have k45 := k42'.trans k46
  have h45 := h.af k45
  refine ⟨s46, rfl, ⟨_, cell0 k45, rfl⟩, (nT h45 hu hm (.shut en) hok s46 o46.bytes (fun j hj hh => ?_)).mono ?_⟩
  ·have := f46 j hj
   have := lt.1 j hh
   have := k42'.size
   omega
  rintro e w49 (⟨ha1, ⟨n, rfl⟩, sl', zs', hS', hto⟩ | ⟨n, V, ha1, rfl, sl', zs', hg', hA', hto⟩)
  ·rw [ha1]
   exact ⟨_, _, rfl, av (fun _ => ⟨rfl, _, hS', (dD.af k45).trans hto⟩) (fun hh => by simp at hh)⟩
  ·rw [ha1]
   refine ⟨_, _, rfl, av (fun hh => by simp at hh) (fun _ => aa rfl ?_)⟩
   obtain ⟨c1, c2⟩ := hA'.o.aM 5 (by simp) (.int .i64 (en : Int))
   rw [add_lit]
   refine ⟨c1, fun w39 hw39 => ?_⟩
   obtain ⟨o39, e39, _⟩ := c2 w39 hw39
   have hA9 := hA'.AY e39 o39
   refine (mj hA9).mono ?_
   rintro e w41 ⟨rfl, k41⟩
   refine ⟨_, rfl, ?_, _, ⟨hA9.af k41, hg', h.K.note ha1 hu.so (fun _ _ hh => by cases hh) (Nat.le_refl _) htt.2⟩, (((dD.af k45).trans hto).trans (dD.Hc e39)).trans (dD.af k41)⟩
   rw [htt.2]; rfl
 ·have hq : dW k s epoch = (none, s) := by unfold dW; rw [if_neg h0, if_neg h1, if_pos (by omega)]
  rw [hq]
  refine (mj h.A).mono ?_
  rintro e w44 ⟨rfl, k44⟩
  refine ⟨_, rfl, ?_, f, h.af k44, dD.af k44⟩
  rw [htt.2]; rfl
def muT (r : Nat) (w2 : World) : Nat := match w2.cell? ⟨r, 0, none⟩ with | some (.pointer (some a)) => (match w2.cell? (a.add 1) with | some (.slice _ l _) => l | _ => 0) | _ => 0
theorem xV (h : RuS w r k f P top s) (hu : UOk k m s) (hm : m <= 2 ^ 59) (hP : P.length <= 2 ^ 20) (epoch to : Int) :
  Calls Tryz.prog du ⟨[aw r, .int .i64 epoch, .int .i64 to]⟩ w fun e w' => e = .returned (.int .i64 (eN (qA k s epoch to).1)) /\ ∃ f', RuS w' r k f' P top (qA k s epoch to).2 /\ dD r f f' w w' := by
 refine kh _ _ _ ?_
 unfold gH
 have hep := hu.t.2
 have htt := h.K.t
 refine (kZ h.A epoch to 4096).mono ?_
 rintro e w5 ⟨rfl, rfl⟩
 unfold qA
 cases hc : eV s.ep epoch to 4096 with
 | some c =>
  have : eN (some c) ≠ 0 := by show ((c + 1 : Nat) : Int) ≠ 0; omega
  exact ⟨_, rfl, av (fun _ => ⟨rfl, f, h, dD.refl _ _ _⟩) (fun hh => by simp [this] at hh)⟩
 | none =>
  have ha : 0 <= to /\ to <= 4096 := by
   unfold eV at hc
   split at hc
   ·cases hc
   ·split at hc
    ·cases hc
    ·omega
  obtain ⟨tn, rfl⟩ : ∃ tn : Nat, to = tn := ⟨to.toNat, by omega⟩
  dsimp only
  refine ⟨_, rfl, av (fun hh => by simp [eN] at hh) (fun _ => aa rfl ⟨_, h.A.cs.2.2.2.2.1, ae (fun h1 => ?_) (fun h1 => ?_)⟩)⟩
  ·rw [if_pos h1]
   exact ⟨rfl, f, h, dD.refl _ _ _⟩
  rw [if_neg h1, Int.toNat_natCast]
  have hok : okR (.trim tn s.ep) := ⟨by omega, by omega⟩
  have kd : ak w5 (World.drew w5) := Ext.drew _ _
  have lt := h.A.lt
  have cell0 : ∀ {w3}, ak w5 w3 -> World.cell? w3 (⟨r, 0, none⟩ : Addr) = some (Value.pointer (some ⟨f.rs, 0, none⟩)) := fun hk => (h.A.af hk).cs.1
  have cell5 : ∀ {w3}, ak w5 w3 -> World.cell? w3 ((⟨r, 0, none⟩ : Addr).add 5) = some (Value.int .i64 (s.ep : Int)) := fun hk => (h.A.af hk).cs.2.2.2.2.2.1
  refine aa rfl ⟨_, cell0 kd, aa rfl ⟨_, cell5 kd, (cq 2 _ (by omega)).mono ?_⟩⟩
  rintro e w28 ⟨s29, rfl, o29, f29, k29⟩
  have k28 := kd.trans k29
  refine ⟨s29, rfl, ⟨_, cell5 k28, rfl⟩, ⟨_, cell0 k28, rfl⟩, (cq tn _ (by omega)).mono ?_⟩
  rintro e w33 ⟨s34, rfl, o34, f34, k34⟩
  have k33 := k28.trans k34
  refine ⟨s34, rfl, ⟨_, cell5 k33, rfl⟩, ⟨_, cell0 k33, rfl⟩, (cq s.ep _ (by omega)).mono ?_⟩
  rintro e w38 ⟨s39, rfl, o39, f39, k39⟩
  have k38 := k33.trans k39
  refine ⟨s39, rfl, ⟨_, cell0 k38, rfl⟩, au (fun r41 w42 hr41 hb41 k42 hs42 => ⟨⟨_, cell0 (k38.trans k42), rfl⟩, ?_⟩)⟩
  have k42' := k38.trans k42
  have z42 := k42.size
  have b29 : ∀ j, ao s29 j -> j < w38.heap.size := gq (o29.af (k34.trans k39))
  have b34 : ∀ j, ao s34 j -> j < w38.heap.size := gq (o34.af k39)
  have b39 : ∀ j, ao s39 j -> j < w38.heap.size := gq o39
  have hrows := xk (w := w42) [s29, s34, s39] [aT 2, aT tn, aT s.ep] hb41 rfl (fun i h h' => by
   match i, h with
   | 0, _ => exact ((o29.af (k34.trans k39)).af k42).bytes
   | 1, _ => exact ((o34.af k39).af k42).bytes
   | 2, _ => exact (o39.af k42).bytes) (fun x hx j hj => by
   simp only [List.mem_cons, List.not_mem_nil, or_false] at hx
   rcases hx with rfl | rfl | rfl
   ·have := b29 j hj; omega
   ·have := b34 j hj; omega
   ·have := b39 j hj; omega)
  have hel := kV hok
  have henc : [aT 2, aT tn, aT s.ep].flatten = encR (.trim tn s.ep) := by simp [encR, nL]
  have hlens : ∀ b ∈ [aT 2, aT tn, aT s.ep], b.length <= 2 ^ 20 := fun b hb9 => by
   have hle : b.length <= ([aT 2, aT tn, aT s.ep].flatten).length := by
    rw [List.length_flatten]
    exact vj (List.mem_map.2 ⟨b, hb9, rfl⟩)
   rw [henc] at hle; omega
  refine (ub _ _ _ hrows (by simp) hlens).mono ?_
  rintro e w45 ⟨s46, rfl, o46, f46, k46⟩
  rw [henc] at o46
  have k45 := k42'.trans k46
  have h45 := h.af k45
  refine ⟨s46, rfl, ⟨_, cell0 k45, rfl⟩, (nT h45 hu hm (.trim tn s.ep) hok s46 o46.bytes (fun j hj hh => ?_)).mono ?_⟩
  ·have := f46 j hj
   have := lt.1 j hh
   have := k42'.size
   omega
  rintro e w49 (⟨ha1, ⟨n, rfl⟩, sl', zs', hS', hto⟩ | ⟨n, V, ha1, rfl, sl', zs', hg', hA', hto⟩)
  ·rw [ha1]
   exact ⟨_, _, rfl, av (fun _ => ⟨rfl, _, hS', (dD.af k45).trans hto⟩) (fun hh => by simp at hh)⟩
  rw [ha1]
  refine ⟨_, _, rfl, av (fun hh => by simp at hh) (fun _ => aa rfl ?_)⟩
  obtain ⟨c1, c2⟩ := hA'.o.aM 4 (by simp) (.int .i64 (tn : Int))
  rw [add_lit]
  refine ⟨c1, fun w39 hw39 => ?_⟩
  obtain ⟨o39', e39, _⟩ := c2 w39 hw39
  have hA9 := hA'.AY e39 o39'
  have hto9 := ((dD.af k45).trans hto).trans (dD.Hc e39)
  have hK9 : iu P top ⟨V, tn, s.ep, max s.T tn⟩ := h.K.note ha1 hu.so (fun _ _ hh => by cases hh) (by omega) (by omega)
  -- what is left to be given back
  refine ⟨fun w2 => ∃ (f2 : RuF) (U2 : List aQ), RuS w2 r k f2 P top ⟨U2, tn, s.ep, max s.T tn⟩ /\ eu tn U2 = eu tn V /\ dD r f f2 w5 w2 /\ U2.length <= 2 ^ 20, muT r,
   ⟨_, V, ⟨hA9, hg', hK9⟩, rfl, hto9, ?_⟩, ?_⟩
  ·obtain ⟨M, g, hV, hM⟩ := (gm ha1).2.2
   have hl := hu.l
   rcases hM with e | ⟨p, _, e, _⟩
   ·have : V.length = s.U.length := by rw [hV, <- e]; simp
    omega
   ·have : V.length = s.U.length + 1 := by rw [hV, e]; simp
    omega
  rintro w42 ⟨f2, U2, hS2, hrec, hto2, hl2⟩
  intros
  have hzl : f2.zs.length = U2.length := by
   have := congrArg List.length hS2.z
   simpa using this
  have hsl := hS2.A.R.s.sl
  have mu : ∀ {w9 : World} {f9 : RuF} {U9 : List aQ}, RuS w9 r k f9 P top ⟨U9, tn, s.ep, max s.T tn⟩ -> muT r w9 = U9.length := by
   intro w9 f9 U9 h9
   have hz9 : f9.zs.length = U9.length := by
    have := congrArg List.length h9.z
    simpa using this
   unfold muT
   rw [h9.A.cs.1]
   simp only
   rw [h9.A.R.c1]
   simp only [Slc.v]
   rw [h9.A.R.s.sl, hz9]
  refine aa rfl ⟨_, hS2.A.cs.1, aa rfl ⟨_, hS2.A.R.c1, ae (fun h2 => ?_) (fun h2 => ?_)⟩⟩
  ·obtain ⟨g, g', t', rfl⟩ : ∃ g g' t', U2 = g :: g' :: t' := by
    match U2, hzl with
    | [], e => simp at e; rw [e] at hsl; simp at hsl; omega
    | [g], e => simp at e; omega
    | g :: g' :: t', _ => exact ⟨g, g', t', rfl⟩
   have h0z : 0 < f2.zs.length := by rw [hzl]; simp
   obtain ⟨a105, ha105, hrow⟩ := hS2.A.R.at h0z
   have hz0 : f2.zs[0].g = g.s := by
    have e0 : (gL f2.zs)[0]'(by simpa using h0z) = f2.zs[0].g := List.getElem_map _
    have e1 : (gL f2.zs)[0]'(by simpa using h0z) = (sU (g :: g' :: t'))[0]'(by simp) := by simp only [hS2.z]
    rw [<- e0, e1]; rfl
   have hc105 := gl hrow 1 (by simp [rzC])
   have e105 : (a105.add (0 * 4)).add 1 = a105.add 1 := by
    rw [Nat.zero_mul]
    have : a105.add 0 = a105 := by simp [Addr.add]
    rw [this]
   rw [e105] at hc105
   have hv : (rzC f2.zs[0])[1]'(by simp [rzC]) = .int .i64 (g.num : Int) := by simp [rzC, hz0, aQ.s]
   rw [hv] at hc105
   have hsi := Rows.sl hS2.A.i
   have hsa := Rows.sl hS2.A.a
   rw [List.length_map] at hsi hsa
   have hall := hS2.K.all (U := g' :: t') tn
   refine aa rfl ⟨_, hS2.A.cs.1, aa rfl ⟨_, hS2.A.R.c1, aa ha105 ⟨by omega, by omega, _, hc105, aa rfl ⟨_, hS2.A.cs.2.2.2.1, fun i w2 => ∃ n : Nat, i = n /\ n <= P.length /\ (∀ j (hj : j < P.length), j < n -> P[j].n = g.num -> P[j].a < tn) /\ w2 = w42, fun i _ => ((P.length : Int) - i).toNat, ⟨0, rfl, by omega, fun j _ hj => by omega, rfl⟩, ?_⟩⟩⟩⟩
   rintro i w112 ⟨n9, rfl, hn, hno, rfl⟩
   intros
   refine ae (fun h3 => ?_) (fun h3 => ?_)
   ·have hnl : n9 < P.length := by omega
    obtain ⟨a135, ha135, hc135⟩ := hS2.A.i.get (i := n9) (by simpa using hnl)
    obtain ⟨a139, ha139, hc139⟩ := hS2.A.a.get (i := n9) (by simpa using hnl)
    rw [List.getElem_map] at hc135 hc139
    have step : (P[n9].n = g.num -> P[n9].a < tn) -> ∀ j (hj : j < P.length), j < n9 + 1 -> P[j].n = g.num -> P[j].a < tn := fun hs j hj hjn => by
     by_cases e : j = n9
     ·subst e; exact hs
     ·exact hno j hj (by omega)
    refine aa ha135 ⟨by omega, h3, _, by rw [Int.toNat_natCast]; exact hc135, ae (fun h4 => aa rfl ⟨_, hS2.A.cs.2.1, aa ha139 ⟨by omega, by omega, _, by rw [Int.toNat_natCast]; exact hc139, ae (fun h5 => ?_) (fun h5 => ?_)⟩⟩) (fun h4 => ?_)⟩
    ·refine ⟨rfl, f2, ?_, hto2⟩
     have hf : (pagesOf g.rs).all (fun y => decide (y.1 < tn)) = false := by
      rw [hall, Bool.eq_false_iff]
      intro hh
      have := List.all_eq_true.1 hh _ (List.getElem_mem hnl)
      rw [decide_eq_true_eq] at this
      have := this (by omega)
      omega
     have : eu tn V = g :: g' :: t' := by
      rw [<- hrec]
      show (if _ then _ else _) = _
      rw [hf, if_neg (by simp)]
     simp only
     rw [this]; exact hS2
    ·exact ⟨aA (by omega), ⟨n9 + 1, rfl, hnl, step (fun _ => by omega), rfl⟩, by dsimp only; omega⟩
    ·exact ⟨aA (by omega), ⟨n9 + 1, rfl, hnl, step (fun hh => absurd (by omega) h4), rfl⟩, by dsimp only; omega⟩
   ·have hnn : n9 = P.length := by omega
    subst hnn
    have hf : (pagesOf g.rs).all (fun y => decide (y.1 < tn)) = true := by
     rw [hall, List.all_eq_true]
     intro e he
     obtain ⟨j, hj, rfl⟩ := List.getElem_of_mem he
     rw [decide_eq_true_eq]
     exact hno j hj hj
    refine aa rfl ⟨_, hS2.A.cs.1, (xS hS2.A.R (by omega) (g.num : Int)).mono ?_⟩
    rintro e w144 ⟨rfl, sl', zs', hg3, hR3, ht3⟩
    have hz2 : gL f2.zs = sU (g :: g' :: t') := hS2.z
    rw [hz2, wU] at hg3 ⊢
    have hS3 : RuS w144 r k { f2 with sl := sl', zs := zs' } P top ⟨g' :: t', tn, s.ep, max s.T tn⟩ := ⟨hS2.A.store hR3 ht3, hg3, hS2.K.drop (fun a ha => by
     have hp : pgU (g :: g' :: t') = pagesOf g.rs ++ pgU (g' :: t') := by unfold pgU; rw [show fa (g :: g' :: t') = g.rs ++ fa (g' :: t') by simp [fa], aS]
     rw [hp, qy (fun x hx => by
      have := List.all_eq_true.1 hf x hx
      rw [decide_eq_true_eq] at this
      omega)])⟩
    refine ⟨_, rfl, ⟨_, g' :: t', hS3, ?_, hto2.trans (dD.store ht3), by simp at hl2 ⊢; omega⟩, ?_⟩
    ·rw [<- hrec]
     show _ = (if _ then _ else _)
     rw [hf, if_pos rfl]
    ·rw [mu hS3, mu hS2]; simp
  ·refine ⟨rfl, f2, ?_, hto2⟩
   have : eu tn U2 = U2 := by
    match U2, hzl with
    | [], _ => rfl
    | [g], _ => rfl
    | g :: g' :: t', e => simp at e; omega
   simp only
   rw [<- hrec, this]; exact hS2
end
end Go.D
namespace Go.D
open Go Go.Proofs
section
variable {w w' : World} {r k m : Nat} {f : RuF} {P : List RuE} {top : Int} {s : UnS}
theorem zG (w : World) (k : Nat) :
  Calls Tryz.prog fG ⟨[.int .i64 (k : Int)]⟩ w fun e w' => ∃ r f, e = .returned (aw r) /\ RuS w' r k f [] 0 ⟨[], 0, 0, 0⟩ /\ (∀ j, RuW r f j -> w.heap.size <= j) /\ (∀ j, ¬ RuY f j) /\ ak w w' := by
 refine oM _ ?_
 unfold kL
 refine au (fun r2 w3 hr2 hb2 k2 hs2 => au (fun r4 w5 hr4 hb4 k4 hs4 => ?_))
 have nob : ∀ j, ¬ ao (⟨none, 0, 0⟩ : Slc) j := by rintro j ⟨a, ha, _⟩; cases ha
 have R0 : gn w5 r2 k ⟨none, 0, 0⟩ [] := ⟨(aq.cJ hb2).af k4, Rows.nil _ _, by simp, by simp, List.Pairwise.nil, nob _, by simp, by simp⟩
 have noW : ∀ j, RfW r2 ⟨none, 0, 0⟩ [] j -> j = r2 := by
  rintro j (hj | hj | ⟨z, hz, _⟩)
  ·exact hj
  ·exact (nob j hj).elim
  ·simp at hz
 have noY : ∀ j, ¬ RuY ⟨r2, ⟨none, 0, 0⟩, [], ⟨none, 0, 0⟩, ⟨none, 0, 0⟩, ⟨none, 0, 0⟩, []⟩ j := by
  rintro j (⟨z, hz, _⟩ | ⟨cs, hc, _⟩)
  ·simp at hz
  ·simp at hc
 have z2 := k2.size
 refine ⟨r4, ⟨r2, ⟨none, 0, 0⟩, [], ⟨none, 0, 0⟩, ⟨none, 0, 0⟩, ⟨none, 0, 0⟩, []⟩, rfl, ⟨⟨aq.cJ hb4, R0, bf.nil _, Rows.nil _ _, bf.nil _, fun j => if j = r4 then 0 else 1, ?_, fun j hj => ?_, fun j hj => (nob j hj).elim, fun j hj => (nob j hj).elim, fun j hj => (nob j hj).elim, fun j hj => (noY j hj).elim⟩, rfl, iu.nil⟩, ?_, noY, k2.trans k4⟩
 ·rw [if_pos rfl]
 ·have := noW j hj
  rw [if_neg (by omega)]
 ·rintro j (hj | hj | hj | hj | hj)
  ·omega
  ·have := noW j hj; omega
  ·exact (nob j hj).elim
  ·exact (nob j hj).elim
  ·exact (nob j hj).elim
end
end Go.D
namespace Go.D
open Go Go.Proofs
section
variable {w0 w w' : World} {rd r r2 r' k m m' : Nat} {f f' : UnF} {d d' : aU} {fr fr' : RuF} {P P' : List RuE} {top top' : Int} {s s' : UnS}
end
end Go.D
namespace Go.D
open Go Go.Proofs
theorem zH {t e n : Int} {s : Slc} {k : Nat} (h : jA (cP t e n s) k) : 0 < s.l /\ ao s k := by
 obtain ⟨s', hs, h1, h2⟩ := h
 have : s' = s := by
  obtain ⟨p, l, c⟩ := s
  obtain ⟨p', l', c'⟩ := s'
  simp [cP, Slc.v] at hs
  obtain ⟨rfl, rfl, rfl⟩ := hs
  rfl
 subst this
 exact ⟨h1, h2⟩
theorem GG (t e n : Int) (s : Slc) : ∀ v ∈ cP t e n s, v.oneCell' = true := by
 intro v hv
 simp [cP] at hv
 rcases hv with rfl | rfl | rfl | rfl <;> rfl
def RpR : xA NdE where
 n := 4
 pos := by omega
 R w x cs := ∃ s : Slc, cs = cP x.t (eN x.e) x.n s /\ ag w s x.d
 len := by rintro w x cs ⟨s, rfl, _⟩; rfl
 one := by rintro w x cs ⟨s, rfl, _⟩; exact GG _ _ _ _
 ext := by
  rintro M w w' x cs ⟨s, rfl, h⟩ he hm
  exact ⟨s, rfl, aN h he (fun h0 k hk => hm k ⟨s, by simp [cP], h0, hk⟩)⟩
 lt := by
  rintro w x cs ⟨s, rfl, h⟩ k hk
  obtain ⟨h0, hk⟩ := zH hk
  exact cA h h0 k hk
structure RdP where
 fs : Slc
 ts : Slc
 css : List (List Value)
def RdM (rn : Nat) (q : RdP) (j : Nat) : Prop := j = rn \/ ao q.fs j \/ ao q.ts j
def RdF (q : RdP) (j : Nat) : Prop := bD q.css j
structure nV (w : World) (rn r : Nat) (q : RdP) (T : List NdE) : Prop where
 o : aq w rn [aw r, q.fs.v, q.ts.v]
 f : bf w q.fs (T.map (·.f))
 t : Rows RpR w q.ts T q.css
 dn : ¬ ao q.fs rn /\ ¬ ao q.ts rn
 dd : ∀ j, ao q.fs j -> ¬ ao q.ts j
 df : ∀ j, bD q.css j -> j ≠ rn /\ ¬ ao q.fs j
section
variable {w w' w2 : World} {rn r k m : Nat} {fr fr' : RuF} {P P' : List RuE} {top top' : Int} {s s' : UnS} {q q' : RdP} {T T' : List NdE}
theorem nV.ext {M : Nat -> Prop} (h : nV w rn r q T) (he : Ext M w w') (h1 : ∀ j, RdM rn q j -> ¬ M j) (h2 : ∀ j, RdF q j -> ¬ M j) : nV w' rn r q T :=
 ⟨h.o.ext he (h1 _ (.inl rfl)), h.f.ext he (fun j hj => h1 j (.inr (.inl hj))), h.t.ext he (fun j hj => h1 j (.inr (.inr hj))) h2, h.dn, h.dd, h.df⟩
theorem nV.lt (h : nV w rn r q T) : (∀ j, RdM rn q j -> j < w.heap.size) /\ ∀ j, RdF q j -> j < w.heap.size := by
 refine ⟨?_, h.t.flt⟩
 rintro j (rfl | hj | hj)
 ·exact h.o.lt
 ·exact Rows.lt h.f j hj
 ·exact h.t.lt j hj
theorem nV.c0 (h : nV w rn r q T) : w.cell? ⟨rn, 0, none⟩ = some (aw r) := h.o.cell 0 (by simp)
theorem nV.c1 (h : nV w rn r q T) : w.cell? ((⟨rn, 0, none⟩ : Addr).add 1) = some q.fs.v := by rw [add_lit]; exact h.o.cell 1 (by simp)
theorem nV.c2 (h : nV w rn r q T) : w.cell? ((⟨rn, 0, none⟩ : Addr).add 2) = some q.ts.v := by rw [add_lit]; exact h.o.cell 2 (by simp)
theorem nV.get (h : nV w rn r q T) {i : Nat} (hi : i < T.length) : (∃ a, q.fs.p = some a /\ w.cell? (Addr.add a (i * 1)) = some (.int .i64 T[i].f)) /\ ∃ (a : Addr) (u : Slc), q.ts.p = some a /\ rowAt w (Addr.add a (i * 4)) 0 (cP T[i].t (eN T[i].e) T[i].n u) /\ ag w u T[i].d /\ (0 < u.l -> ∀ j, ao u j -> RdF q j) := by
 constructor
 ·obtain ⟨a, ha, hc⟩ := h.f.get (i := i) (by simpa using hi)
  exact ⟨a, ha, by rw [hc]; simp⟩
 ·have hk2 : i < q.css.length := by rw [h.t.len]; exact hi
  obtain ⟨a, ha, hsp, hrow⟩ := h.t.get hk2
  obtain ⟨u, hu, hb⟩ := h.t.row i hk2 hi
  refine ⟨a, u, ha, by rw [hu] at hrow; exact hrow, hb, fun h0 j hj => ⟨_, List.getElem_mem hk2, ?_⟩⟩
  rw [hu]
  exact ⟨u, by simp [cP], h0, hj⟩
structure oR (w : World) (rn r k : Nat) (fr : RuF) (P : List RuE) (top : Int) (s : UnS) (q : RdP) (T : List NdE) : Prop where
 R : RuS w r k fr P top s
 D : nV w rn r q T
 sm : ∀ j, RdM rn q j -> ¬ RuW r fr j /\ ¬ RuY fr j
 sf : ∀ j, RdF q j -> ¬ RuW r fr j
def RB (rn r : Nat) (fr : RuF) (q : RdP) (j : Nat) : Prop := RuW r fr j \/ RdM rn q j
def RY (fr : RuF) (q : RdP) (j : Nat) : Prop := RuY fr j \/ RdF q j
def zI (rn r : Nat) (fr : RuF) (q : RdP) (fr' : RuF) (q' : RdP) (w w' : World) : Prop := Ext (RB rn r fr q) w w' /\ (∀ j, RB rn r fr' q' j -> RB rn r fr q j \/ w.heap.size <= j) /\ ∀ j, RY fr' q' j -> RY fr q j \/ w.heap.size <= j
theorem zI.af (hk : ak w w') : zI rn r fr q fr q w w' := ⟨hk.mono (fun _ h => h.elim), fun j hj => .inl hj, fun j hj => .inl hj⟩
theorem RuS.ext {M : Nat -> Prop} (h : RuS w r k fr P top s) (he : Ext M w w') (h1 : ∀ j, RuW r fr j -> ¬ M j) (h2 : ∀ j, RuY fr j -> ¬ M j) : RuS w' r k fr P top s := ⟨h.A.ext he h1 h2, h.z, h.K⟩
theorem oR.ext {M : Nat -> Prop} (h : oR w rn r k fr P top s q T) (he : Ext M w w') (h1 : ∀ j, RB rn r fr q j -> ¬ M j) (h2 : ∀ j, RY fr q j -> ¬ M j) : oR w' rn r k fr P top s q T :=
 ⟨h.R.ext he (fun j hj => h1 j (.inl hj)) (fun j hj => h2 j (.inl hj)), h.D.ext he (fun j hj => h1 j (.inr hj)) (fun j hj => h2 j (.inr hj)), h.sm, h.sf⟩
theorem oR.af (h : oR w rn r k fr P top s q T) (he : ak w w') : oR w' rn r k fr P top s q T := h.ext he (fun _ _ h => h) (fun _ _ h => h)
theorem oR.lt (h : oR w rn r k fr P top s q T) : (∀ j, RB rn r fr q j -> j < w.heap.size) /\ ∀ j, RY fr q j -> j < w.heap.size :=
 ⟨fun j hj => hj.elim (h.R.A.lt.1 j) (h.D.lt.1 j), fun j hj => hj.elim (h.R.A.lt.2 j) (h.D.lt.2 j)⟩
theorem oR.next {wa wb : World} {r4 : Nat} (h : oR w rn r k fr P top s q T) (hk : ak w wa) (hU : RuS wb r k fr' P' top' s') (ht : dD r fr fr' wa wb) (h4 : w.heap.size <= r4 /\ r4 < wa.heap.size) (he : Ext (fun j => RdM rn q j \/ j = r4) wb w2) (hD : nV w2 rn r q' T')
  (hm : ∀ j, RdM rn q' j -> RdM rn q j \/ wb.heap.size <= j) (hf : ∀ j, RdF q' j -> RdF q j \/ (w.heap.size <= j /\ ¬ RuW r fr' j)) : oR w2 rn r k fr' P' top' s' q' T' /\ zI rn r fr q fr' q' w w2 := by
 have lt := h.lt
 have ltU := hU.A.lt
 have z1 := hk.size
 have z2 := ht.1.size
 have hM : ∀ j, RdM rn q j -> ¬ RuW r fr' j /\ ¬ RuY fr' j := fun j hj => ⟨fun hh => (ht.2.1 j hh).elim (h.sm j hj).1 (fun g => by have := lt.1 j (.inr hj); omega), fun hh => (ht.2.2 j hh).elim (h.sm j hj).2 (fun g => by have := lt.1 j (.inr hj); omega)⟩
 have h4' : ¬ RuW r fr' r4 /\ ¬ RuY fr' r4 := ⟨fun hh => (ht.2.1 _ hh).elim (fun g => by have := lt.1 _ (.inl g); omega) (fun g => by omega), fun hh => (ht.2.2 _ hh).elim (fun g => by have := lt.2 _ (.inl g); omega) (fun g => by omega)⟩
 refine ⟨⟨hU.ext he (fun j hj hh => ?_) (fun j hj hh => ?_), hD, fun j hj => ?_, fun j hj hh => ?_⟩, ?_, fun j hj => ?_, fun j hj => ?_⟩
 ·rcases hh with hh | rfl
  ·exact (hM j hh).1 hj
  ·exact h4'.1 hj
 ·rcases hh with hh | rfl
  ·exact (hM j hh).2 hj
  ·exact h4'.2 hj
 ·rcases hm j hj with g | g
  ·exact hM j g
  ·exact ⟨fun hh => by have := ltU.1 j hh; omega, fun hh => by have := ltU.2 j hh; omega⟩
 ·rcases hf j hj with g | g
  ·exact (ht.2.1 j hh).elim (h.sf j g) (fun g2 => by have := lt.2 j (.inr g); omega)
  ·exact g.2 hh
 ·refine (Ext.trans hk (ht.1.mono (fun j hj => Or.inl hj)) (fun _ h => h.elim) (fun _ h => .inl h)).trans he (fun _ h => h) (fun j hj => ?_)
  rcases hj with hj | rfl
  ·exact .inl (.inr hj)
  ·exact .inr h4.1
 ·rcases hj with hj | hj
  ·exact (ht.2.1 j hj).imp .inl (fun g => by omega)
  ·exact (hm j hj).imp .inr (fun g => by omega)
 ·rcases hj with hj | hj
  ·exact (ht.2.2 j hj).imp .inl (fun g => by omega)
  ·exact (hf j hj).imp .inr (fun g => g.1)
def yG (rn r4 r114 : Nat) (w255 : World) (s244 s254 : Slc) (K : Value -> World -> Prop) : Prop :=
 needSome (some (⟨rn, 0, none⟩ : Addr)) fun a256 =>
 ar w255 (a256.add 1) 1 /\ ∀ w257 : World, w257 = World.setCell w255 (a256.add 1) (Slc.v s244) ->
 needSome (some (⟨rn, 0, none⟩ : Addr)) fun a258 =>
 ar w257 (a258.add 2) 1 /\ ∀ w259 : World, w259 = World.setCell w257 (a258.add 2) (Slc.v s254) ->
 ∃ n260 : Int, ∃ n261 : Int, ∃ n262 : Int, ∃ s263 : Slc, rowAt w259 (⟨r114, 0, none⟩ : Addr) 0 [(Value.int .i64 n260), (Value.int .i64 n261), (Value.int .i64 n262), (Slc.v s263)] /\
 ar w259 (⟨r4, 0, none⟩ : Addr) 4 /\ ∀ w264 : World, w264 = setCells w259 (⟨r4, 0, none⟩ : Addr) 0 [(Value.int .i64 n260), (Value.int .i64 n261), (Value.int .i64 n262), (Slc.v s263)] ->
 ∃ n265 : Int, ∃ n266 : Int, ∃ n267 : Int, ∃ s268 : Slc, rowAt w264 (⟨r4, 0, none⟩ : Addr) 0 [(Value.int .i64 n265), (Value.int .i64 n266), (Value.int .i64 n267), (Slc.v s268)] /\
 K (Value.tuple ⟨[(Value.agg ⟨[(Value.int .i64 n265), (Value.int .i64 n266), (Value.int .i64 n267), (Slc.v s268)]⟩), (Value.bool true)]⟩) w264
theorem Cn {w255 : World} {r4 r114 : Nat} {s244 s254 u : Slc} {x : NdE} {css' : List (List Value)} {K : Value -> World -> Prop} (o : aq w255 rn [aw r, q.fs.v, q.ts.v]) (rB : aq w255 r114 (cP x.t (eN x.e) x.n u)) (o4 : aq w255 r4 Z4) (hu : ag w255 u x.d) (F : bf w255 s244 (T.map (·.f))) (R : Rows RpR w255 s254 T css')
  (dn : ¬ ao s244 rn /\ ¬ ao s254 rn) (dd : ∀ j, ao s244 j -> ¬ ao s254 j) (df : ∀ j, bD css' j -> j ≠ rn /\ ¬ ao s244 j /\ j ≠ r4) (d4 : ¬ ao s244 r4 /\ ¬ ao s254 r4) (hu2 : ∀ j, ao u j -> j ≠ rn /\ j ≠ r4) (hne : rn ≠ r4 /\ r114 ≠ rn /\ r114 ≠ r4)
  (hK : ∀ w', nV w' rn r ⟨s244, s254, css'⟩ T -> Ext (fun j => j = rn \/ j = r4) w255 w' -> ag w' u x.d -> K (.tuple ⟨[.agg ⟨cP x.t (eN x.e) x.n u⟩, .bool true]⟩) w') : yG rn r4 r114 w255 s244 s254 K := by
 unfold yG
 obtain ⟨c1, c2⟩ := o.aM 1 (by simp) s244.v
 refine aa rfl ?_
 rw [add_lit]
 refine ⟨c1, fun w257 hw => aa rfl ?_⟩
 obtain ⟨o2, e2, _⟩ := c2 w257 hw
 obtain ⟨d1, d2⟩ := o2.aM 2 (by simp) s254.v
 rw [add_lit]
 refine ⟨d1, fun w259 hw2 => ?_⟩
 obtain ⟨o3, e3, _⟩ := d2 w259 hw2
 have e23 : Ext (fun j => j = rn) w255 w259 := e2.trans e3 (fun _ h => h) (fun _ h => .inl h)
 obtain ⟨g1, g2⟩ := (o4.ext e23 (fun hh => hne.1 hh.symm)).cQ (n := 4) (cs := cP x.t (eN x.e) x.n u) rfl rfl
 refine ⟨_, _, _, _, (rB.ext e23 hne.2.1).row, g1, fun w264 hw3 => ?_⟩
 obtain ⟨o4', e4, _⟩ := g2 w264 hw3
 have ee : Ext (fun j => j = rn \/ j = r4) w255 w264 := (e23.mono (fun j hj => Or.inl hj)).trans e4 (fun _ h => h) (fun j hj => .inl (.inr hj))
 refine ⟨_, _, _, _, o4'.row, hK w264 ⟨o3.ext e4 hne.1, F.ext ee (fun j hj hh => ?_), R.ext ee (fun j hj hh => ?_) (fun j hj hh => ?_), dn, dd, fun j hj => ⟨(df j hj).1, (df j hj).2.1⟩⟩ ee (aD hu ee (fun j hj hh => ?_))⟩
 ·rcases hh with rfl | rfl
  ·exact dn.1 hj
  ·exact d4.1 hj
 ·rcases hh with rfl | rfl
  ·exact dn.2 hj
  ·exact d4.2 hj
 ·rcases hh with rfl | rfl
  ·exact (df _ hj).1 rfl
  ·exact (df _ hj).2.2 rfl
 ·rcases hh with rfl | rfl
  ·exact (hu2 _ hj).1 rfl
  ·exact (hu2 _ hj).2 rfl
end
theorem Ck.CS {w w' : World} {q p : List Value} {kind e : Int} {R : Except Nat Msg} (h : Ck w w' q p kind e R) :
    ∃ (t k ep a : Int) (sq : Slc) (t2 e2 n2 : Int) (sp : Slc), q = lg t k ep a sq /\ p = cP t2 e2 n2 sp /\
      ((e = 0 /\ kind = 1 /\ ∃ d, R = .ok (.ask t k ep a d) /\ ag w' sq d /\ sq.l <= sq.c /\ aF w sq) \/
       (e = 0 /\ kind = 2 /\ ∃ d, R = .ok (.tell t2 e2 n2 d) /\ ag w' sp d /\ sp.l <= sp.c /\ aF w sp) \/
       (e ≠ 0 /\ kind = 0 /\ ∃ j, R = .error j)) := by
  cases R with
  | error j =>
    obtain ⟨rfl, rfl, rfl, rfl⟩ := h
    exact ⟨0, 0, 0, 0, ⟨none, 0, 0⟩, 0, 0, 0, ⟨none, 0, 0⟩, rfl, rfl, .inr (.inr ⟨by omega, rfl, j, rfl⟩)⟩
  | ok x =>
    cases x with
    | ask t k ep a d =>
      obtain ⟨s, rfl, h1, h2, h3, rfl, rfl, rfl⟩ := h
      exact ⟨t, k, ep, a, s, 0, 0, 0, ⟨none, 0, 0⟩, rfl, rfl, .inl ⟨rfl, rfl, d, rfl, h1, h2, h3⟩⟩
    | tell t e2 n d =>
      obtain ⟨s, rfl, h1, h2, h3, rfl, rfl, rfl⟩ := h
      exact ⟨0, 0, 0, 0, ⟨none, 0, 0⟩, t, e2, n, s, rfl, rfl, .inr (.inl ⟨rfl, rfl, d, rfl, h1, h2, h3⟩)⟩
end Go.D
namespace Go.D
open Go Go.Proofs
def Fh (tyI tyR : TypeId) (rn r4 r114 : Nat) (fm : Int) (w161 : World) (K : Value -> World -> Prop) : Prop :=
 needSome (some (⟨rn, 0, none⟩ : Addr)) fun a228 =>
 ∃ s229 : Slc, World.cell? (World.drew w161) (a228.add 1) = some (Slc.v s229) /\
 needSome (some (⟨rn, 0, none⟩ : Addr)) fun a230 =>
 ∃ s231 : Slc, World.cell? (World.drew w161) (a230.add 2) = some (Slc.v s231) /\
 ∃ n232 : Int, ∃ n233 : Int, ∃ n234 : Int, ∃ s235 : Slc, rowAt (World.drew w161) (⟨r114, 0, none⟩ : Addr) 0 [(Value.int .i64 n232), (Value.int .i64 n233), (Value.int .i64 n234), (Slc.v s235)] /\
 (
  aC (World.drew w161) (.cells ⟨[(Value.int .i64 fm)]⟩ tyI) fun r236 w237 =>
  (∃ n238 : Int, ∃ n239 : Int, ∃ n240 : Int, ∃ s241 : Slc, rowAt w237 (⟨r114, 0, none⟩ : Addr) 0 [(Value.int .i64 n238), (Value.int .i64 n239), (Value.int .i64 n240), (Slc.v s241)] /\
  (Value.agg ⟨[(Value.int .i64 n238), (Value.int .i64 n239), (Value.int .i64 n240), (Slc.v s241)]⟩) = (Value.agg ⟨[(Value.int .i64 n232), (Value.int .i64 n233), (Value.int .i64 n234), (Slc.v s235)]⟩)) /\
  (∃ s242 : Slc, World.cell? w237 (a230.add 2) = some (Slc.v s242) /\
  (Slc.v s242) = (Slc.v s231)) /\
  (∃ s243 : Slc, World.cell? w237 (a228.add 1) = some (Slc.v s243) /\
  (Slc.v s243) = (Slc.v s229)) /\
  (
   aj 1 tyI [(Value.int .i64 (0 : Int))] w237 s229 (.slc (⟨(some (⟨r236, 0, none⟩ : Addr)), 1, 1⟩ : Slc)) fun s244 w245 =>
   (∃ n246 : Int, ∃ n247 : Int, ∃ n248 : Int, ∃ s249 : Slc, rowAt w245 (⟨r114, 0, none⟩ : Addr) 0 [(Value.int .i64 n246), (Value.int .i64 n247), (Value.int .i64 n248), (Slc.v s249)] /\
   (Value.agg ⟨[(Value.int .i64 n246), (Value.int .i64 n247), (Value.int .i64 n248), (Slc.v s249)]⟩) = (Value.agg ⟨[(Value.int .i64 n232), (Value.int .i64 n233), (Value.int .i64 n234), (Slc.v s235)]⟩)) /\
   (∃ s250 : Slc, World.cell? w245 (a230.add 2) = some (Slc.v s250) /\
   (Slc.v s250) = (Slc.v s231)) /\
   aC w245 (.cells ⟨[(Value.int .i64 n232), (Value.int .i64 n233), (Value.int .i64 n234), (Slc.v s235)]⟩ tyR) fun r251 w252 =>
   (∃ s253 : Slc, World.cell? w252 (a230.add 2) = some (Slc.v s253) /\
   (Slc.v s253) = (Slc.v s231)) /\
   aj 4 tyR [(Value.int .i64 (0 : Int)), (Value.int .i64 (0 : Int)), (Value.int .i64 (0 : Int)), (Slc.v (⟨none, 0, 0⟩ : Slc))] w252 s231 (.slc (⟨(some (⟨r251, 0, none⟩ : Addr)), 1, 1⟩ : Slc)) fun s254 w255 =>
   yG rn r4 r114 w255 s244 s254 K) /\
  (
   aC w237 (.cells ⟨[(Value.int .i64 n232), (Value.int .i64 n233), (Value.int .i64 n234), (Slc.v s235)]⟩ tyR) fun r269 w270 =>
   (∃ s271 : Slc, World.cell? w270 (a230.add 2) = some (Slc.v s271) /\
   (Slc.v s271) = (Slc.v s231)) /\
   (∃ s272 : Slc, World.cell? w270 (a228.add 1) = some (Slc.v s272) /\
   (Slc.v s272) = (Slc.v s229)) /\
   aj 1 tyI [(Value.int .i64 (0 : Int))] w270 s229 (.slc (⟨(some (⟨r236, 0, none⟩ : Addr)), 1, 1⟩ : Slc)) fun s273 w274 =>
   (∃ s275 : Slc, World.cell? w274 (a230.add 2) = some (Slc.v s275) /\
   (Slc.v s275) = (Slc.v s231)) /\
   aj 4 tyR [(Value.int .i64 (0 : Int)), (Value.int .i64 (0 : Int)), (Value.int .i64 (0 : Int)), (Slc.v (⟨none, 0, 0⟩ : Slc))] w274 s231 (.slc (⟨(some (⟨r269, 0, none⟩ : Addr)), 1, 1⟩ : Slc)) fun s276 w277 =>
   yG rn r4 r114 w277 s273 s276 K)) /\
 (
  aC (World.drew w161) (.cells ⟨[(Value.int .i64 n232), (Value.int .i64 n233), (Value.int .i64 n234), (Slc.v s235)]⟩ tyR) fun r291 w292 =>
  (∃ s293 : Slc, World.cell? w292 (a230.add 2) = some (Slc.v s293) /\
  (Slc.v s293) = (Slc.v s231)) /\
  (∃ s294 : Slc, World.cell? w292 (a228.add 1) = some (Slc.v s294) /\
  (Slc.v s294) = (Slc.v s229)) /\
  aC w292 (.cells ⟨[(Value.int .i64 fm)]⟩ tyI) fun r295 w296 =>
  (∃ s297 : Slc, World.cell? w296 (a230.add 2) = some (Slc.v s297) /\
  (Slc.v s297) = (Slc.v s231)) /\
  (∃ s298 : Slc, World.cell? w296 (a228.add 1) = some (Slc.v s298) /\
  (Slc.v s298) = (Slc.v s229)) /\
  aj 1 tyI [(Value.int .i64 (0 : Int))] w296 s229 (.slc (⟨(some (⟨r295, 0, none⟩ : Addr)), 1, 1⟩ : Slc)) fun s299 w300 =>
  (∃ s301 : Slc, World.cell? w300 (a230.add 2) = some (Slc.v s301) /\
  (Slc.v s301) = (Slc.v s231)) /\
  aj 4 tyR [(Value.int .i64 (0 : Int)), (Value.int .i64 (0 : Int)), (Value.int .i64 (0 : Int)), (Slc.v (⟨none, 0, 0⟩ : Slc))] w300 s231 (.slc (⟨(some (⟨r291, 0, none⟩ : Addr)), 1, 1⟩ : Slc)) fun s302 w303 =>
  yG rn r4 r114 w303 s299 s302 K)
section
variable {w161 : World} {rn r r4 r114 : Nat} {q : RdP} {T : List NdE}
structure xW (w : World) (rn r r4 r114 : Nat) (q : RdP) (T : List NdE) (x : NdE) (u : Slc) : Prop where
 D : nV w rn r q T
 rB : aq w r114 (cP x.t (eN x.e) x.n u)
 o4 : aq w r4 Z4
 b : ag w u x.d
 u : ∀ j, ao u j -> ¬ RdM rn q j /\ j ≠ r4
 ne : rn ≠ r4 /\ r114 ≠ rn /\ r114 ≠ r4
 n4 : ¬ ao q.fs r4 /\ ¬ ao q.ts r4 /\ ¬ RdF q r4
 n1 : ¬ ao q.fs r114 /\ ¬ ao q.ts r114
variable {x : NdE} {u : Slc}
theorem xW.ext {M : Nat -> Prop} {w w' : World} (h : xW w rn r r4 r114 q T x u) (he : Ext M w w') (h1 : ∀ j, RdM rn q j -> ¬ M j) (h2 : ∀ j, RdF q j -> ¬ M j) (h3 : ¬ M r114) (h4 : ¬ M r4) (h5 : ∀ j, ao u j -> ¬ M j) : xW w' rn r r4 r114 q T x u :=
 ⟨h.D.ext he h1 h2, h.rB.ext he h3, h.o4.ext he h4, aD h.b he h5, h.u, h.ne, h.n4, h.n1⟩
theorem xW.af {w w' : World} (h : xW w rn r r4 r114 q T x u) (hk : ak w w') : xW w' rn r r4 r114 q T x u := h.ext hk (fun _ _ h => h) (fun _ _ h => h) (fun h => h) (fun h => h) (fun _ _ h => h)
theorem GH {wx : World} {E T0 : TypeId} {rb : Nat} {fm : Int} {K : Slc -> World -> Prop} (h : xW wx rn r r4 r114 q T x u) (hb : wx.heap[rb]? = some (.cells ⟨[.int .i64 fm]⟩ T0)) (hT : T.length < 2 ^ 30)
  (hK : ∀ s' w', bf w' s' (T.map (·.f) ++ [fm]) -> Ext (ao q.fs) wx w' -> (∀ j, ao s' j -> ao q.fs j \/ wx.heap.size <= j) -> aq w' rn [aw r, q.fs.v, q.ts.v] -> aq w' r114 (cP x.t (eN x.e) x.n u) -> aq w' r4 Z4 -> ag w' u x.d -> Rows RpR w' q.ts T q.css -> K s' w') :
  aj 1 E [.int .i64 0] wx q.fs (.slc ⟨some ⟨rb, 0, none⟩, 1, 1⟩) K := by
 have F : Rows BQ wx q.fs (T.map (·.f)) ((T.map (·.f)).map rh) := h.D.f
 refine F.snoc (x := fm) (cs := rh fm) rfl rfl (fun k hk => (kS hk).elim) hb (.inl (by simp)) (by simpa using hT) (fun s' w' F' x' n' => ?_)
 exact hK s' w' (bf.of F') x' n' (h.D.o.ext x' h.D.dn.1) (h.rB.ext x' h.n1.1) (h.o4.ext x' h.n4.1) (aD h.b x' (fun j hj hh => (h.u j hj).1 (.inr (.inl hh)))) (h.D.t.ext x' (fun j hj hh => h.D.dd j hh hj) (fun j hj hh => (h.D.df j hj).2 hh))
theorem GI {wx wf wy : World} {sF : Slc} {fm : Int} {E T0 : TypeId} {rb : Nat} {K : Value -> World -> Prop} (h : xW w161 rn r r4 r114 q T x u) (hfm : x.f = fm) (hT : T.length < 2 ^ 30) (kx : ak w161 wx) (F : bf wf sF (T.map (·.f) ++ [fm])) (xf : Ext (ao q.fs) wx wf) (nf : ∀ j, ao sF j -> ao q.fs j \/ wx.heap.size <= j)
  (of : aq wf rn [aw r, q.fs.v, q.ts.v]) (rB : aq wf r114 (cP x.t (eN x.e) x.n u)) (o4 : aq wf r4 Z4) (hb : ag wf u x.d) (R : Rows RpR wf q.ts T q.css) (ky : ak wf wy) (hbl : wy.heap[rb]? = some (.cells ⟨cP x.t (eN x.e) x.n u⟩ T0))
  (hK : ∀ w' q', nV w' rn r q' (T ++ [x]) -> Ext (fun j => RdM rn q j \/ j = r4) w161 w' -> ag w' u x.d -> (∀ j, RdM rn q' j -> RdM rn q j \/ w161.heap.size <= j) -> (∀ j, RdF q' j -> RdF q j \/ ao u j) -> K (.tuple ⟨[.agg ⟨cP x.t (eN x.e) x.n u⟩, .bool true]⟩) w') :
  aj 4 E [.int .i64 0, .int .i64 0, .int .i64 0, (⟨none, 0, 0⟩ : Slc).v] wy q.ts (.slc ⟨some ⟨rb, 0, none⟩, 1, 1⟩) fun s' w' => yG rn r4 r114 w' sF s' K := by
 have hx : RpR.R wy x (cP x.t (eN x.e) x.n u) := ⟨u, rfl, ai hb ky⟩
 have lt := h.D.lt
 have z1 := kx.size
 have z2 := xf.size
 have z3 := ky.size
 have lF := Rows.lt (show Rows BQ wf sF (T.map (·.f) ++ [fm]) ((T.map (·.f) ++ [fm]).map rh) from F)
 have l4 := h.o4.lt
 refine (R.af ky).snoc (x := x) (cs := cP x.t (eN x.e) x.n u) rfl hx (fun k hk hh => (h.u k (zH hk).2).1 (.inr (.inr hh))) hbl (.inl (by simp)) hT (fun sT wt R' xt nt => ?_)
 have dd : ∀ j, ao sF j -> ¬ ao q.ts j := fun j hj hh => (nf j hj).elim (fun g => h.D.dd j g hh) (fun g => by have := lt.1 j (.inr (.inr hh)); omega)
 have hx0 : RpR.R w161 x (cP x.t (eN x.e) x.n u) := ⟨u, rfl, h.b⟩
 have iR : ∀ j, bD (q.css ++ [cP x.t (eN x.e) x.n u]) j -> RdF q j \/ (ao u j /\ j < w161.heap.size) := by
  rintro j ⟨cs, hcs, hj⟩
  rcases List.mem_append.1 hcs with g | g
  ·exact .inl ⟨cs, g, hj⟩
  ·rw [List.mem_singleton] at g; subst g; exact .inr ⟨(zH hj).2, RpR.lt hx0 j hj⟩
 have lrn : rn < w161.heap.size := lt.1 rn (.inl rfl)
 refine Cn (q := q) (T := T ++ [x]) ((of.af ky).ext xt h.D.dn.2) ((rB.af ky).ext xt h.n1.2) ((o4.af ky).ext xt h.n4.2.1) (aD (ai hb ky) xt (fun j hj hh => (h.u j hj).1 (.inr (.inr hh)))) ?_ R' ⟨fun hh => ?_, fun hh => ?_⟩ (fun j hj hh => ?_) (fun j hj => ?_) ⟨fun hh => ?_, fun hh => ?_⟩ (fun j hj => ⟨fun e => (h.u j hj).1 (.inl e), (h.u j hj).2⟩) h.ne (fun w' D' e' hb' => hK w' _ D' ?_ hb' ?_ ?_)
 ·rw [List.map_append]
  show bf wt sF (T.map (·.f) ++ [x.f])
  rw [hfm]
  exact (F.af ky).ext xt dd
 ·exact (nf _ hh).elim h.D.dn.1 (fun g => by omega)
 ·exact (nt _ hh).elim h.D.dn.2 (fun g => by omega)
 ·exact (nt j hh).elim (dd j hj) (fun g => by have := lF j hj; omega)
 ·rcases iR j hj with g | ⟨g, g2⟩
  ·have := lt.2 j g
   exact ⟨(h.D.df j g).1, fun hh => (nf j hh).elim (h.D.df j g).2 (fun g3 => by omega), fun e => h.n4.2.2 (e ▸ g)⟩
  ·exact ⟨fun e => (h.u j g).1 (.inl e), fun hh => (nf j hh).elim (fun g3 => (h.u j g).1 (.inr (.inl g3))) (fun g3 => by omega), (h.u j g).2⟩
 ·exact (nf _ hh).elim h.n4.1 (fun g => by omega)
 ·exact (nt _ hh).elim h.n4.2.1 (fun g => by omega)
 ·refine ((((kx.mono (fun _ h => h.elim)).trans xf (fun _ h => h) (fun j hj => .inl (.inl (.inr (.inl hj))))).trans ky (fun _ h => h) (fun _ h => h.elim)).trans xt (fun _ h => h) (fun j hj => .inl (.inl (.inr (.inr hj))))).trans e' (fun _ h => h) (fun j hj => ?_)
  rcases hj with hj | hj
  ·exact .inl (.inl (.inl hj))
  ·exact .inl (.inr hj)
 ·rintro j (hj | hj | hj)
  ·exact .inl (.inl hj)
  ·exact (nf j hj).imp (fun g => .inr (.inl g)) (fun g => by omega)
  ·exact (nt j hj).imp (fun g => .inr (.inr g)) (fun g => by omega)
 ·exact fun j hj => (iR j hj).imp (fun g => g) (fun g => g.1)
theorem Co {tyI tyR : TypeId} {fm : Int} {K : Value -> World -> Prop} (h : xW w161 rn r r4 r114 q T x u) (hfm : x.f = fm) (hT : T.length < 2 ^ 30)
  (hK : ∀ w' q', nV w' rn r q' (T ++ [x]) -> Ext (fun j => RdM rn q j \/ j = r4) w161 w' -> ag w' u x.d -> (∀ j, RdM rn q' j -> RdM rn q j \/ w161.heap.size <= j) -> (∀ j, RdF q' j -> RdF q j \/ ao u j) -> K (.tuple ⟨[.agg ⟨cP x.t (eN x.e) x.n u⟩, .bool true]⟩) w') :
  Fh tyI tyR rn r4 r114 fm w161 K := by
 unfold Fh
 have kd : ak w161 (World.drew w161) := Ext.drew _ _
 have hd := h.af kd
 refine aa rfl ⟨_, hd.D.c1, aa rfl ⟨_, hd.D.c2, _, _, _, _, hd.rB.row, au (fun r236 w237 hr236 hb236 k236 hs236 => ?_), au (fun r291 w292 hr291 hb291 k291 hs291 => ?_)⟩⟩
 ·have h237 := hd.af k236
  have kk := kd.trans k236
  refine ⟨⟨_, _, _, _, h237.rB.row, rfl⟩, ⟨_, h237.D.c2, rfl⟩, ⟨_, h237.D.c1, rfl⟩, ?_, au (fun r269 w270 hr269 hb269 k269 hs269 => ?_)⟩
  ·refine GH h237 hb236 hT (fun s244 w245 F xf nf of rB o4 hb R => ⟨⟨_, _, _, _, rB.row, rfl⟩, ⟨_, by rw [add_lit]; exact of.cell 2 (by simp), rfl⟩, au (fun r251 w252 hr251 hb251 k251 hs251 => ⟨⟨_, by rw [add_lit]; exact (of.af k251).cell 2 (by simp), rfl⟩, ?_⟩)⟩)
   exact GI h hfm hT kk F xf nf of rB o4 hb R k251 hb251 hK
  ·have h270 := h237.af k269
   refine ⟨⟨_, h270.D.c2, rfl⟩, ⟨_, h270.D.c1, rfl⟩, ?_⟩
   refine GH h270 (k269.heap hb236) hT (fun s273 w274 F xf nf of rB o4 hb R => ⟨⟨_, by rw [add_lit]; exact of.cell 2 (by simp), rfl⟩, ?_⟩)
   refine GI h hfm hT (kk.trans k269) F xf nf of rB o4 hb R (Ext.refl fb _) (xf.heap hb269 (fun hh => ?_)) hK
   have := h.D.lt.1 _ (.inr (.inl hh))
   have := kk.size
   omega
 ·have h292 := hd.af k291
  refine ⟨⟨_, h292.D.c2, rfl⟩, ⟨_, h292.D.c1, rfl⟩, au (fun r295 w296 hr295 hb295 k295 hs295 => ?_)⟩
  have h296 := h292.af k295
  have kk := (kd.trans k291).trans k295
  refine ⟨⟨_, h296.D.c2, rfl⟩, ⟨_, h296.D.c1, rfl⟩, ?_⟩
  refine GH h296 hb295 hT (fun s299 w300 F xf nf of rB o4 hb R => ⟨⟨_, by rw [add_lit]; exact of.cell 2 (by simp), rfl⟩, ?_⟩)
  refine GI h hfm hT kk F xf nf of rB o4 hb R (Ext.refl fb _) (xf.heap (k295.heap hb291) (fun hh => ?_)) hK
  have := h.D.lt.1 _ (.inr (.inl hh))
  have := kd.size
  omega
end
end Go.D
namespace Go.D
open Go Go.Proofs
def Fi (w : World) (x : List Value) : Option NdE -> Prop
 | none => x = Z4
 | some y => ∃ u : Slc, x = cP y.t (eN y.e) y.n u /\ ag w u y.d
structure RQ (wa w : World) (r k r114 : Nat) (fr fr' : RuF) (P' : List RuE) (top' : Int) (s2 : UnS) (c : List Value) : Prop where
 R : RuS w r k fr' P' top' s2
 x : Ext (fun j => RuW r fr j \/ j = r114) wa w
 o : aq w r114 c
 hw : ∀ j, RuW r fr' j -> RuW r fr j \/ wa.heap.size <= j
 hy : ∀ j, RuY fr' j -> RuY fr j \/ wa.heap.size <= j
 nw : r114 < wa.heap.size /\ ¬ RuW r fr r114 /\ ¬ RuY fr r114
section
variable {w wa w' w2 : World} {rn r k m r114 : Nat} {fr fr' : RuF} {P P' : List RuE} {top top' : Int} {s s' s2 : UnS} {q q' : RdP} {T T' : List NdE} {c : List Value}
theorem RQ.mk' (hR : RuS w r k fr' P' top' s2) (ht : dD r fr fr' wa w) (ho : aq wa r114 c) (nw : ¬ RuW r fr r114 /\ ¬ RuY fr r114) : RQ wa w r k r114 fr fr' P' top' s2 c :=
 ⟨hR, ht.1.mono (fun j hj => .inl hj), ho.ext ht.1 nw.1, ht.2.1, ht.2.2, ho.lt, nw⟩
theorem RQ.af (h : RQ wa w r k r114 fr fr' P' top' s2 c) (hk : ak w w') : RQ wa w' r k r114 fr fr' P' top' s2 c :=
 ⟨h.R.af hk, h.x.trans hk (fun _ h => h) (fun _ h => h.elim), h.o.af hk, h.hw, h.hy, h.nw⟩
theorem RQ.put (h : RQ wa w r k r114 fr fr' P' top' s2 c) (i : Nat) (hi : i < c.length) (v : Value) : ar w (⟨r114, i, none⟩ : Addr) 1 /\ ∀ w2 : World, w2 = World.setCell w (⟨r114, i, none⟩ : Addr) v -> RQ wa w2 r k r114 fr fr' P' top' s2 (c.set i v) /\ Ext (fun j => j = r114) w w2 := by
 obtain ⟨g1, g2⟩ := h.o.aM i hi v
 refine ⟨g1, fun w2 hw => ?_⟩
 obtain ⟨o, e, _⟩ := g2 w2 hw
 obtain ⟨n1, n2, n3⟩ := h.nw
 refine ⟨⟨h.R.ext e (fun j hj hh => ?_) (fun j hj hh => ?_), h.x.trans e (fun _ h => h) (fun j hj => .inl (.inr hj)), o, h.hw, h.hy, h.nw⟩, e⟩
 ·have e1 : j = r114 := hh
  subst e1
  exact (h.hw _ hj).elim n2 (fun g => by omega)
 ·have e1 : j = r114 := hh
  subst e1
  exact (h.hy _ hj).elim n3 (fun g => by omega)
theorem xp {i : Nat} (h : i < (hZ T).length) : (hZ T)[i] = T[T.length - 32 + i]'(by rw [mU] at h; omega) := by
 exact List.getElem_drop ..
theorem xq (h : oR w rn r k fr P top s q T) (hu : UOk k m s) (hm : m <= 2 ^ 59) (hsT : (s.T : Int) = max top (s.tr : Int)) (hP : P.length < 2 ^ 20) (hT : T.length <= 2 ^ 20) (fm : Int) (sl : Slc) (b : List UInt8) (hb : ag w sl b) (hl : sl.l <= 2 ^ 20) (hc : sl.l <= sl.c) :
  Calls Tryz.prog cS ⟨[aw rn, .int .i64 fm, sl.v]⟩ w fun e w' => ∃ (x : List Value), e = .returned (.tuple ⟨[.agg ⟨x⟩, .bool (ndStep k s T fm b).1.isSome]⟩) /\ Fi w' x (ndStep k s T fm b).1 /\
   ∃ fr' P' top' q', oR w' rn r k fr' P' top' (ndStep k s T fm b).2.1 q' (ndStep k s T fm b).2.2 /\ P'.length <= P.length + 1 /\ zI rn r fr q fr' q' w w' := by
 refine jD _ _ _ ?_
 unfold fX
 refine au (fun r4 w5 hr4 hb4 k4 hs4 => ?_)
 refine (xg sl b w5 (ai hb k4) hl hc).mono ?_
 rintro e w7 ⟨qv, pv, kind, ec, rfl, hres, k7⟩
 obtain ⟨t, kd, ep, a, sq, t2, e2, n2, sp, rfl, rfl, hcase⟩ := hres.CS
 refine ⟨_, _, _, _, _, _, _, _, _, _, _, rfl, ?_⟩
 refine au (fun r19 w20 hr19 hb19 k19 hs19 => au (fun r21 w22 hr21 hb21 k21 hs21 => ?_))
 obtain ⟨a1, a2⟩ := ((aq.cJ hb19).af k21).cQ (n := 5) (cs := lg t kd ep a sq) rfl rfl
 refine ⟨a1, fun w23 hw23 => ?_⟩
 obtain ⟨o19, e19, z23⟩ := a2 w23 hw23
 obtain ⟨b1, b2⟩ := ((aq.cJ hb21).ext e19 (by omega)).cQ (n := 4) (cs := cP t2 e2 n2 sp) rfl rfl
 refine ⟨b1, fun w24 hw24 => ?_⟩
 obtain ⟨o21, e21, z24⟩ := b2 w24 hw24
 have z5 := k4.size
 have z7 := k7.size
 have z20 := k19.size
 have z22 := k21.size
 have k24' : ak w7 w24 := ((k19.trans k21).ext e19 (fun j hj => by omega)).ext e21 (fun j hj => by omega)
 have k24 : ak w w24 := (k4.trans k7).trans k24'
 have o4 : aq w24 r4 Z4 := ((aq.cJ hb4).af k7).af k24'
 have o19' := o19.ext e21 (by omega)
 have h24 := h.af k24
 have hr4w : r4 = w.heap.size := hr4
 obtain ⟨y1, y2⟩ := o4.cQ (n := 4) (cs := Z4) rfl rfl
 have no : ∀ w26, w26 = setCells w24 (⟨r4, 0, none⟩ : Addr) 0 Z4 -> (ndStep k s T fm b) = (none, s, T) -> aq w26 r4 Z4 /\ ∃ (x : List Value), Ending.returned (Value.tuple ⟨[.agg ⟨Z4⟩, .bool false]⟩) = .returned (.tuple ⟨[.agg ⟨x⟩, .bool (ndStep k s T fm b).1.isSome]⟩) /\ Fi w26 x (ndStep k s T fm b).1 /\
   ∃ fr' P' top' q', oR w26 rn r k fr' P' top' (ndStep k s T fm b).2.1 q' (ndStep k s T fm b).2.2 /\ P'.length <= P.length + 1 /\ zI rn r fr q fr' q' w w26 := fun w26 hw he => by
  obtain ⟨o, e, _⟩ := y2 w26 hw
  have k26 : ak w w26 := k24.ext e (fun j hj => by omega)
  rw [he]
  exact ⟨o, Z4, rfl, rfl, fr, P, top, q, h.af k26, by omega, zI.af k26⟩
 rcases hcase with ⟨rfl, rfl, db, hR, hbq, hcq, hfq⟩ | ⟨rfl, rfl, db, hR, _⟩ | ⟨hne, rfl, j, hR⟩
 rotate_left
 ·refine ⟨fun _ => False, aV (fun hh => absurd rfl hh) (fun _ => aV (fun _ => ⟨y1, fun w31 hw => ?_⟩) (fun hh => absurd hh (by decide))), fun _ hh => hh.elim⟩
  obtain ⟨o, g⟩ := no w31 hw (by unfold ndStep; rw [hR])
  exact ⟨_, _, _, _, o.row, g⟩
 ·refine ⟨fun _ => False, aV (fun _ => ⟨y1, fun w31 hw => ?_⟩) (fun hh => absurd hh hne), fun _ hh => hh.elim⟩
  obtain ⟨o, g⟩ := no w31 hw (by unfold ndStep; rw [hR])
  exact ⟨_, _, _, _, o.row, g⟩
 have hright := pN hR
 refine ⟨fun w2 => w2 = w24, aV (fun hh => absurd rfl hh) (fun _ => aV (fun hh => absurd rfl hh) (fun _ => rfl)), ?_⟩
 rintro w36 rfl
 intros
 have hsl : q.ts.l = T.length := h.D.t.sl
 have hfl : q.fs.l = T.length := by have := Rows.sl h.D.f; simpa using this
 refine aa rfl ⟨_, h24.D.c2, aA (by omega), ?_⟩
 refine ⟨fun i w2 => ∃ j : Nat, i = j /\ T.length - 32 <= j /\ j <= T.length /\ ak w36 w2 /\ ∀ i2 (hi2 : i2 < T.length), T.length - 32 <= i2 -> i2 < j -> ¬ (T[i2].f = fm /\ T[i2].t = t), fun i _ => ((T.length : Int) - i).toNat, ⟨T.length - 32, ?_, Nat.le_refl _, by omega, Ext.refl _ _, fun i2 _ g1 g2 => by omega⟩, ?_⟩
 ·rw [hsl]; split <;> omega
 rintro i w50 ⟨j, rfl, hj1, hj2, k50, hno⟩
 intros
 have h50 := h24.af k50
 refine aa rfl ⟨_, h50.D.c2, ae (fun h1 => ?_) (fun h1 => ?_)⟩
 ·have hjl : j < T.length := by omega
  have kd : ak w50 (World.drew w50) := Ext.drew _ _
  have hd := h50.af kd
  have kd36 := k50.trans kd
  obtain ⟨⟨a1', ha1, hc1⟩, a2', u, ha2, hrow, hbu, hbf⟩ := hd.D.get hjl
  have more : ¬ (T[j].f = fm /\ T[j].t = t) -> inR .i64 ((j : Int) + 1) /\ (∃ j' : Nat, ((j : Int) + 1) = j' /\ T.length - 32 <= j' /\ j' <= T.length /\ ak w36 (World.drew w50) /\ ∀ i2 (hi2 : i2 < T.length), T.length - 32 <= i2 -> i2 < j' -> ¬ (T[i2].f = fm /\ T[i2].t = t)) /\ ((T.length : Int) - ((j : Int) + 1)).toNat < ((T.length : Int) - (j : Int)).toNat := by
   intro hn
   refine ⟨aA (by omega), ⟨j + 1, by omega, by omega, by omega, kd36, fun i2 hi2 g1 g2 => ?_⟩, by omega⟩
   by_cases e : i2 = j
   ·subst e; exact hn
   ·exact hno i2 hi2 g1 (by omega)
  refine aa rfl ⟨_, hd.D.c1, aa ha1 ⟨by omega, by omega, _, by rw [Int.toNat_natCast]; exact hc1, ae (fun g1 => aa rfl ⟨_, hd.D.c2, aa ha2 ⟨by omega, by omega, _, by rw [Int.toNat_natCast]; exact gl hrow 0 (by simp), _, (o19'.af kd36).cell 0 (by simp), ae (fun g2 => aa rfl ⟨_, hd.D.c2, aa ha2 ⟨by omega, by omega, _, _, _, _, by rw [Int.toNat_natCast]; exact hrow, ?_⟩⟩) (fun g2 => more (fun hh => g2 hh.2))⟩⟩) (fun g1 => more (fun hh => g1 hh.1))⟩⟩
  have hi : j - (T.length - 32) < (hZ T).length := by rw [mU]; omega
  have ei : (hZ T)[j - (T.length - 32)] = T[j] := by
   rw [xp]
   congr 1; omega
  have hstep : ndStep k s T fm b = (some T[j], s, T) := by
   unfold ndStep; rw [hR]; dsimp only
   rw [xa hi (by rw [ei]; exact ⟨g1, g2⟩) (fun i2 hi2 hlt => by rw [xp]; exact hno _ _ (by omega) (by omega)), ei]
  rw [hstep]
  obtain ⟨c1, c2⟩ := (o4.af kd36).cQ (n := 4) (cs := cP T[j].t (eN T[j].e) T[j].n u) rfl rfl
  refine ⟨c1, fun w108 hw => ?_⟩
  obtain ⟨o108, e108, _⟩ := c2 w108 hw
  have k108 : ak w w108 := (k24.trans kd36).ext e108 (fun x hx => by omega)
  have hbu2 : ag w108 u T[j].d := aN hbu e108 (fun h0 x hx hh => by have := h.D.lt.2 x (hbf h0 x hx); omega)
  exact ⟨_, _, _, _, o108.row, _, rfl, ⟨u, rfl, hbu2⟩, fr, P, top, q, h.af k108, by omega, zI.af k108⟩
 have hj : j = T.length := by omega
 have hfnone : th fm t T = none := xb (fun i2 hi2 => by rw [xp]; rw [mU] at hi2; exact hno _ _ (by omega) (by omega))
 have hstep : ndStep k s T fm b = (some ⟨fm, t, (bB k s kd ep a db).1.1, (bB k s kd ep a db).1.2.1, (bB k s kd ep a db).1.2.2⟩, (bB k s kd ep a db).2, T ++ [⟨fm, t, (bB k s kd ep a db).1.1, (bB k s kd ep a db).1.2.1, (bB k s kd ep a db).1.2.2⟩]) := by
  unfold ndStep; rw [hR]; dsimp only; rw [hfnone]
 rw [hstep]
 have kk50 := k24.trans k50
 have o19k := o19'.af k50
 have o4k := o4.af k50
 refine ⟨_, o19k.cell 0 (by simp), au (fun r114 w115 hr114 hb114 k114 hs114 => ?_)⟩
 obtain ⟨c1, c2⟩ := (aq.cJ hb114).cQ (n := 4) (cs := cP t 0 0 ⟨none, 0, 0⟩) rfl rfl
 refine ⟨c1, fun w116 hw116 => ?_⟩
 obtain ⟨o116, e116, z116⟩ := c2 w116 hw116
 have z50 := kk50.size
 have z115 := k114.size
 have k116 : ak w50 w116 := k114.ext e116 (fun x hx => by omega)
 have zz116 := k116.size
 have h116 := h50.af k116
 have lt0 := h.lt
 have o19q := o19k.af k116
 have o4q := o4k.af k116
 have n114 : ¬ RuW r fr r114 /\ ¬ RuY fr r114 := ⟨fun hh => by have := lt0.1 _ (.inl hh); omega, fun hh => by have := lt0.2 _ (.inl hh); omega⟩
 have nilB : ∀ w2, ag w2 (⟨none, 0, 0⟩ : Slc) [] := fun w2 => ⟨rfl, .inl rfl⟩
 have nilO : ∀ x, ¬ ao (⟨none, 0, 0⟩ : Slc) x := by rintro x ⟨a, ha, _⟩; cases ha
 have Q0 : RQ w116 w116 r k r114 fr fr P top s (cP t 0 0 ⟨none, 0, 0⟩) := RQ.mk' h116.R (dD.refl _ _ _) o116 n114
 have kd5 : 1 <= kd /\ kd <= 5 := hright.2.1
 refine aa rfl ⟨_, h116.D.c0, fun w2 => ∃ fr' P' top' u, RQ w116 w2 r k r114 fr fr' P' top' (bB k s kd ep a db).2 (cP t (eN (bB k s kd ep a db).1.1) (bB k s kd ep a db).1.2.1 u) /\ P'.length <= P.length + 1 /\ ag w2 u (bB k s kd ep a db).1.2.2 /\ (∀ x, ao u x -> w116.heap.size <= x /\ ¬ RuW r fr' x), ⟨_, o19q.cell 1 (by simp), ?_⟩, ?_⟩
 ·refine ae (fun g => ?_) (fun g1 => ae (fun g => ?_) (fun g2 => ae (fun g => ?_) (fun g3 => ae (fun g => ?_) (fun g4 => ae (fun g => ?_) (fun g5 => by omega)))))
  ·subst g
   refine ⟨_, o19q.cell 2 (by simp), _, o19q.cell 3 (by simp), sq, o19q.cell 4 (by simp), (xn h116.R hu hm hP ep a sq db (ai hbq ((k24'.trans k50).trans k116)) (by have := hright.2.2.2.2.1; omega) (fun x hx hh => by have := hfq x hx; have := lt0.1 _ (.inl hh); omega)).mono ?_⟩
   rintro e w125 ⟨rfl, fr', P', top', hR', hPl, hto⟩
   have Q := RQ.mk' hR' hto o116 n114
   obtain ⟨c1, c2⟩ := Q.put 1 (by simp) (.int .i64 (eN (writeP k s ep a db).1))
   refine ⟨_, rfl, c1, fun w127 hw => ?_⟩
   obtain ⟨Q2, _⟩ := c2 w127 hw
   exact ⟨fr', P', top', ⟨none, 0, 0⟩, Q2, hPl, nilB _, fun x hx => (nilO x hx).elim⟩
  ·subst g
   refine ⟨_, o19q.cell 2 (by simp), _, o19q.cell 3 (by simp), (xo h116.R (by omega) ep a).mono ?_⟩
   rintro e w131 ⟨u, rfl, hbu, k131, hfu⟩
   have Q1 := Q0.af k131
   obtain ⟨c1, c2⟩ := Q1.put 3 (by simp) u.v
   refine ⟨u, _, rfl, c1, fun w134 hw => ?_⟩
   obtain ⟨Q2, x2⟩ := c2 w134 hw
   obtain ⟨d1, d2⟩ := Q2.put 1 (by simp) (.int .i64 (eN (readE s.tr s.ep (pgM s.U s.tr) ep a)))
   refine ⟨d1, fun w135 hw2 => ?_⟩
   obtain ⟨Q3, x3⟩ := d2 w135 hw2
   have eP : bB k s 2 ep a db = (if 2000 < (qD s ep a).length then (some 2, 0, []) else (readE s.tr s.ep (pgM s.U s.tr) ep a, 0, qD s ep a), s) := rfl
   have hul : u.l = (qD s ep a).length := hbu.1
   have hub : ag w135 u (qD s ep a) := aD (aD hbu x2 (fun x hx hh => by have := hfu x hx; omega)) x3 (fun x hx hh => by have := hfu x hx; omega)
   rw [eP]
   refine ⟨_, Q3.o.cell 3 (by simp), ae (fun h5 => ?_) (fun h5 => ?_)⟩
   ·rw [if_pos (by omega)]
    obtain ⟨c1, c2⟩ := Q3.put 3 (by simp) (⟨none, 0, 0⟩ : Slc).v
    refine ⟨c1, fun w137 hw => ?_⟩
    obtain ⟨Q4, _⟩ := c2 w137 hw
    obtain ⟨d1, d2⟩ := Q4.put 1 (by simp) (.int .i64 3)
    refine ⟨d1, fun w138 hw2 => ?_⟩
    obtain ⟨Q5, _⟩ := d2 w138 hw2
    exact ⟨fr, P, top, ⟨none, 0, 0⟩, Q5, by omega, nilB _, fun x hx => (nilO x hx).elim⟩
   ·rw [if_neg (by omega)]
    exact ⟨fr, P, top, u, Q3, by omega, hub, fun x hx => ⟨hfu x hx, fun hh => by have := hfu x hx; have := lt0.1 _ (.inl hh); omega⟩⟩
  ·subst g
   refine ⟨_, o19q.cell 2 (by simp), _, o19q.cell 3 (by simp), (xV h116.R hu hm (by omega) ep a).mono ?_⟩
   rintro e w125 ⟨rfl, fr', hR', hto⟩
   have Q := RQ.mk' hR' hto o116 n114
   obtain ⟨c1, c2⟩ := Q.put 1 (by simp) (.int .i64 (eN (qA k s ep a).1))
   refine ⟨_, rfl, c1, fun w127 hw => ?_⟩
   obtain ⟨Q2, _⟩ := c2 w127 hw
   exact ⟨fr', P, top, ⟨none, 0, 0⟩, Q2, by omega, nilB _, fun x hx => (nilO x hx).elim⟩
  ·subst g
   refine ⟨_, o19q.cell 2 (by simp), (xU h116.R hu hm ep).mono ?_⟩
   rintro e w147 ⟨rfl, fr', hR', hto⟩
   have Q := RQ.mk' hR' hto o116 n114
   obtain ⟨c1, c2⟩ := Q.put 2 (by simp) (.int .i64 (if (dW k s ep).1 = none then ((dW k s ep).2.T : Int) else 0))
   refine ⟨_, _, rfl, c1, fun w150 hw => ?_⟩
   obtain ⟨Q2, _⟩ := c2 w150 hw
   obtain ⟨d1, d2⟩ := Q2.put 1 (by simp) (.int .i64 (eN (dW k s ep).1))
   refine ⟨d1, fun w151 hw2 => ?_⟩
   obtain ⟨Q3, _⟩ := d2 w151 hw2
   exact ⟨fr', P, top, ⟨none, 0, 0⟩, Q3, by omega, nilB _, fun x hx => (nilO x hx).elim⟩
  ·subst g
   refine (mj h116.R.A).mono ?_
   rintro e w153 ⟨rfl, k153⟩
   rw [<- hsT]
   have Q1 := Q0.af k153
   obtain ⟨c1, c2⟩ := Q1.put 2 (by simp) (.int .i64 (s.T : Int))
   refine ⟨_, rfl, c1, fun w155 hw => ?_⟩
   obtain ⟨Q2, x2⟩ := c2 w155 hw
   have kd155 : ak w155 (World.drew w155) := Ext.drew _ _
   have Q3 := Q2.af kd155
   have o19z := ((o19q.af k153).ext x2 (fun hh => by have e1 : r19 = r114 := hh; have := o19k.lt; omega)).af kd155
   have eP : bB k s 5 ep a db = (if ep < (s.ep : Int) then (some 7, 0, []) else (none, (s.T : Int), []), s) := rfl
   rw [eP]
   refine ⟨_, o19z.cell 2 (by simp), aa rfl ⟨_, Q3.R.A.cs.2.2.2.2.2.1, ae (fun h5 => ?_) (fun h5 => ?_)⟩⟩
   ·rw [if_pos h5]
    obtain ⟨c1, c2⟩ := Q3.put 2 (by simp) (.int .i64 0)
    refine ⟨c1, fun w159 hw => ?_⟩
    obtain ⟨Q4, _⟩ := c2 w159 hw
    obtain ⟨d1, d2⟩ := Q4.put 1 (by simp) (.int .i64 8)
    refine ⟨d1, fun w160 hw2 => ?_⟩
    obtain ⟨Q5, _⟩ := d2 w160 hw2
    exact ⟨fr, P, top, ⟨none, 0, 0⟩, Q5, by omega, nilB _, fun x hx => (nilO x hx).elim⟩
   ·rw [if_neg h5]
    exact ⟨fr, P, top, ⟨none, 0, 0⟩, Q3, by omega, nilB _, fun x hx => (nilO x hx).elim⟩
 rintro w161 ⟨fr', P', top', u, Q, hPl, hbu, hux⟩
 intros
 generalize hcv : (bB k s kd ep a db) = cs' at Q hbu ⊢
 obtain ⟨⟨ce, cn, cd⟩, s2⟩ := cs'
 dsimp only at Q hbu ⊢
 have z161 := Q.x.size
 have l4 : r4 < w116.heap.size := o4q.lt
 have l114 : r114 < w116.heap.size := o116.lt
 have nM : ∀ x, RdM rn q x -> ¬ (RuW r fr x \/ x = r114) := fun x hx hh => hh.elim (fun g => (h.sm x hx).1 g) (fun g => by have := lt0.1 x (.inr hx); omega)
 have nF : ∀ x, RdF q x -> ¬ (RuW r fr x \/ x = r114) := fun x hx hh => hh.elim (fun g => h.sf x hx g) (fun g => by have := lt0.2 x (.inr hx); omega)
 have n4 : ¬ (RuW r fr r4 \/ r4 = r114) := fun hh => hh.elim (fun g => by have := lt0.1 _ (.inl g); omega) (fun g => by have := o4k.lt; omega)
 have lrn : rn < w.heap.size := lt0.1 rn (.inr (.inl rfl))
 have l4k := o4k.lt
 have pre : xW w161 rn r r4 r114 q T ⟨fm, t, ce, cn, cd⟩ u := by
  refine ⟨h116.D.ext Q.x nM nF, Q.o, o4q.ext Q.x n4, hbu, fun x hx => ⟨fun hh => ?_, ?_⟩, ⟨by omega, by omega, by omega⟩, ⟨fun hh => ?_, fun hh => ?_, fun hh => ?_⟩, ⟨fun hh => ?_, fun hh => ?_⟩⟩
  ·have := (hux x hx).1; have := lt0.1 x (.inr hh); omega
  ·have := (hux x hx).1; omega
  ·have := lt0.1 _ (.inr (.inr (.inl hh))); omega
  ·have := lt0.1 _ (.inr (.inr (.inr hh))); omega
  ·have := lt0.2 _ (.inr hh); omega
  ·have := lt0.1 _ (.inr (.inr (.inl hh))); omega
  ·have := lt0.1 _ (.inr (.inr (.inr hh))); omega
 show Fh _ _ rn r4 r114 fm w161 (fun v w' => ∃ x : List Value, Ending.returned v = .returned (.tuple ⟨[.agg ⟨x⟩, .bool (some (⟨fm, t, ce, cn, cd⟩ : NdE)).isSome]⟩) /\ Fi w' x (some ⟨fm, t, ce, cn, cd⟩) /\
   ∃ fr' P' top' q', oR w' rn r k fr' P' top' s2 q' (T ++ [⟨fm, t, ce, cn, cd⟩]) /\ P'.length <= P.length + 1 /\ zI rn r fr q fr' q' w w')
 refine Co pre rfl (by omega) (fun w' q' D' e' hb' hm' hf' => ⟨_, rfl, ⟨u, rfl, hb'⟩, fr', P', top', q', ?_⟩)
 have hto : dD r fr fr' w50 w161 := ⟨Ext.trans k116 Q.x (fun _ h => h.elim) (fun x hx => hx.imp (fun g => g) (fun g => by omega)), fun x hx => (Q.hw x hx).imp (fun g => g) (fun g => by omega), fun x hx => (Q.hy x hx).imp (fun g => g) (fun g => by omega)⟩
 obtain ⟨g1, g2⟩ := h.next kk50 Q.R hto ⟨by omega, by omega⟩ e' D' hm' (fun x hx => (hf' x hx).imp (fun g => g) (fun g => ⟨by have := (hux x g).1; omega, (hux x g).2⟩))
 exact ⟨g1, hPl, g2⟩
end
end Go.D
namespace Go.D
open Go Go.Proofs
theorem aq.GJ {w : World} {r : Nat} {cs : List Value} (h : aq w r cs) (k : Nat) (l : List Value) (hl : ∀ j (hj : j < l.length), cs[k + j]? = some l[j]) : rowAt w ((⟨r, 0, none⟩ : Addr).add k) 0 l := by
 obtain ⟨T, f, hb, _⟩ := h
 refine mr fun j hj => ?_
 rw [add_lit, add_lit, cell_of hb, <- hl j hj]
 congr 1; omega
theorem uR : ∀ (cs : List Value) (k : Nat) (vs : List Value), (setFrom cs k vs).length = cs.length := by
 intro cs k vs
 induction vs generalizing cs k with
 | nil => rfl
 | cons v vs ih => show (setFrom (cs.set k v) (k + 1) vs).length = _; rw [ih]; simp
theorem aq.GK {w : World} {r : Nat} {cs : List Value} (h : aq w r cs) (k n : Nat) (vs : List Value) (hn : vs.length = n) (hk : k + n <= cs.length) :
  ar w ((⟨r, 0, none⟩ : Addr).add k) n /\ ∀ w2 : World, w2 = setCells w ((⟨r, 0, none⟩ : Addr).add k) 0 vs -> aq w2 r (setFrom cs k vs) /\ Ext (fun x => x = r) w w2 := by
 obtain ⟨T, f, hb, hf⟩ := h
 rw [add_lit, Nat.zero_add]
 refine ⟨jo hb hf k n hk, ?_⟩
 rintro w2 rfl
 have hh := cL vs w cs k 0 hb
 rw [Nat.add_zero] at hh
 exact ⟨⟨T, f, hh, by rw [uR]; exact hf⟩, Ext.setCells (M := fun x => x = r) (a := (⟨r, k, none⟩ : Addr)) rfl vs 0 w⟩
structure AkS where
 nx : Int
 msg : Option (List UInt8)
 tag : Int
 rt : Int
 re : Int
 rn : Int
 rd : List UInt8
 has : Bool
def akV (a : AkS) (sm sd : Slc) : List Value := [.int .i64 a.nx, sm.v, .int .i64 a.tag, .int .i64 a.rt, .int .i64 a.re, .int .i64 a.rn, sd.v, .bool a.has]
structure rC (w : World) (ra : Nat) (sm sd : Slc) (a : AkS) : Prop where
 o : aq w ra (akV a sm sd)
 m : sm.p.isSome = a.msg.isSome
 b : ag w sm (a.msg.getD [])
 d : ag w sd a.rd
 nm : ¬ ao sm ra
 nd : ¬ ao sd ra
 ml : (a.msg.getD []).length <= 2 ^ 20 /\ a.rd.length <= 2 ^ 20
def AkB (ra : Nat) (sm sd : Slc) (j : Nat) : Prop := j = ra \/ ao sm j \/ ao sd j
section
variable {w w' : World} {ra : Nat} {sm sd : Slc} {a : AkS}
theorem rC.ext {M : Nat -> Prop} (h : rC w ra sm sd a) (he : Ext M w w') (h1 : ∀ j, AkB ra sm sd j -> ¬ M j) : rC w' ra sm sd a :=
 ⟨h.o.ext he (h1 _ (.inl rfl)), h.m, aD h.b he (fun j hj => h1 j (.inr (.inl hj))), aD h.d he (fun j hj => h1 j (.inr (.inr hj))), h.nm, h.nd, h.ml⟩
theorem rC.af (h : rC w ra sm sd a) (he : ak w w') : rC w' ra sm sd a := h.ext he (fun _ _ h => h)
theorem rC.c (h : rC w ra sm sd a) (k : Nat) (hk : k < 8) : w.cell? ((⟨ra, 0, none⟩ : Addr).add k) = some ((akV a sm sd)[k]'hk) := by
 rw [add_lit, Nat.zero_add]
 exact h.o.cell k hk
theorem uc (h : rC w ra sm sd a) : Calls Tryz.prog dH ⟨[aw ra]⟩ w fun e w' => e = .returned (.bool a.msg.isSome) /\ w' = w := by
 refine qW _ ?_
 unfold oz
 refine aa rfl ⟨_, h.c 1 (by omega), ?_, rfl⟩
 rw [<- h.m]
 cases sm.p <;> rfl
theorem xX (A : Nat -> Addr) (n : Int) (w : World) (hE : cl A w) :
  Calls Tryz.prog ji ⟨[.int .i64 n]⟩ w fun e w' => ak w w' /\ ((n < 0 \/ 1073741824 < n) /\ e = .returned (.tuple ⟨[.pointer none, cI A (some 0)]⟩) \/
   (0 <= n /\ n <= 1073741824) /\ ∃ ra, e = .returned (.tuple ⟨[aw ra, .nilIface]⟩) /\ rC w' ra ⟨none, 0, 0⟩ ⟨none, 0, 0⟩ ⟨n, none, 0, 0, 0, 0, [], false⟩ /\ ra = w.heap.size) := by
 refine tI _ ?_
 unfold qw
 have nilO : ∀ x, ¬ ao (⟨none, 0, 0⟩ : Slc) x := by rintro x ⟨a, ha, _⟩; cases ha
 refine ae (fun h1 => ⟨_, cl.at (hE.af (Ext.drew fb w)) 0 (by omega), Ext.drew _ _, .inl ⟨.inl h1, rfl⟩⟩) (fun h1 => ae (fun h2 => ⟨_, cl.at (hE.af (Ext.drew fb w)) 0 (by omega), Ext.drew _ _, .inl ⟨.inr h2, rfl⟩⟩) (fun h2 => au (fun r4 w5 hr4 hb4 k4 hs4 => ⟨k4, .inr ⟨⟨by omega, by omega⟩, r4, rfl, ⟨aq.cJ hb4, rfl, ⟨rfl, .inl rfl⟩, ⟨rfl, .inl rfl⟩, nilO _, nilO _, by simp, by simp⟩, hr4⟩⟩)))
def DM (a : AkS) (kd ep at' : Int) (l : Nat) : Option Nat := if a.msg.isSome then some 16 else if 1073741824 < a.nx then some 12 else if dR a.nx kd ep at' l then none else some 3
def GL (a : AkS) (kd ep at' : Int) (d : List UInt8) : AkS := { a with nx := a.nx + 1, msg := some (bz (bc [1, a.nx, kd, ep, at'] d)), tag := a.nx, has := false }
theorem yH (b : List UInt8) : 0 < (bz b).length := by rw [bW]; omega
theorem DN (A : Nat -> Addr) (h : rC w ra sm sd a) (hE : bm A w.heap.size w) (kd ep at' : Int) (s : Slc) (d : List UInt8) (hd : ag w s d) :
  Calls Tryz.prog ix ⟨[aw ra, .int .i64 kd, .int .i64 ep, .int .i64 at', s.v]⟩ w fun e w' => ∃ f : Slc, e = .returned (.tuple ⟨[f.v, cI A (DM a kd ep at' d.length)]⟩) /\
   (DM a kd ep at' d.length ≠ none -> ak w w' /\ f = ⟨none, 0, 0⟩) /\
   (DM a kd ep at' d.length = none -> ag w' f (bz (bc [1, a.nx, kd, ep, at'] d)) /\ aF w f /\ f.l <= f.c /\ ∃ sm', rC w' ra sm' sd (GL a kd ep at' d) /\ aF w sm' /\ Ext (fun j => j = ra) w w') := by
 refine sh _ _ _ _ _ ?_
 unfold pD DM
 refine (uc h).mono ?_
 rintro e w7 ⟨rfl, rfl⟩
 refine ⟨_, rfl, av (fun hb => ?_) (fun hb => ?_)⟩
 ·rw [if_pos hb]
  have kd' : ak w7 (World.drew w7) := Ext.drew _ _
  exact ⟨_, cl.at (hE.af kd').1 16 (by omega), _, rfl, fun _ => ⟨kd', rfl⟩, fun hh => by cases hh⟩
 rw [if_neg (by rw [hb]; simp)]
 refine aa rfl ⟨_, h.c 0 (by omega), ae (fun h1 => ?_) (fun h1 => aa rfl ⟨_, h.c 0 (by omega), ?_⟩)⟩
 ·have h1' : 1073741824 < a.nx := h1
  rw [if_pos h1']
  have kd' : ak w7 (World.drew w7) := Ext.drew _ _
  exact ⟨_, cl.at (hE.af kd').1 12 (by omega), _, rfl, fun _ => ⟨kd', rfl⟩, fun hh => by cases hh⟩
 have h1' : ¬ 1073741824 < a.nx := h1
 rw [if_neg h1']
 refine (E5 A a.nx kd ep at' s d w7 hd hE).mono ?_
 rintro e w16 ⟨f, ev, rfl, k16, hcase⟩
 refine ⟨f, ev, rfl, ?_⟩
 rcases hcase with ⟨hr, rfl, ho, hf⟩ | ⟨hr, rfl, rfl⟩
 ·rw [if_pos hr]
  have h16 := h.af k16
  have hfp : f.p.isSome = true := by
   obtain ⟨a0, ha0, _⟩ := cM ho.bytes (yH _)
   rw [ha0]; rfl
  have hra : ra < w7.heap.size := h.o.lt
  have hfra : ∀ j, ao f j -> j ≠ ra := fun j hj => by have := hf j hj; omega
  refine ⟨trivial, av (fun hh => by cases hh) (fun _ => aa rfl ⟨_, h16.c 0 (by omega), aa rfl ?_⟩)⟩
  rw [add_lit]
  obtain ⟨c1, c2⟩ := h16.o.aM 1 (by simp [akV]) f.v
  refine ⟨c1, fun w22 hw => aa rfl ?_⟩
  obtain ⟨o22, e22, _⟩ := c2 w22 hw
  rw [add_lit]
  obtain ⟨c3, c4⟩ := o22.aM 2 (by simp [akV]) (.int .i64 a.nx)
  refine ⟨c3, fun w24 hw2 => aa rfl ?_⟩
  obtain ⟨o24, e24, _⟩ := c4 w24 hw2
  rw [add_lit]
  obtain ⟨c5, c6⟩ := o24.aM 7 (by simp [akV]) (.bool false)
  refine ⟨c5, fun w26 hw3 => aa rfl ?_⟩
  obtain ⟨o26, e26, _⟩ := c6 w26 hw3
  obtain ⟨c7, c8⟩ := o26.aM 0 (by simp [akV]) (.int .i64 (a.nx + 1))
  have hnx := hr.1
  refine ⟨a.nx, o26.cell 0 (by simp [akV]), aA (by omega), aa rfl ⟨c7, fun w30 hw4 => ?_⟩⟩
  obtain ⟨o30, e30, _⟩ := c8 w30 hw4
  have ee : Ext (fun j => j = ra) w16 w30 := ((e22.trans e24 (fun _ h => h) (fun _ h => .inl h)).trans e26 (fun _ h => h) (fun _ h => .inl h)).trans e30 (fun _ h => h) (fun _ h => .inl h)
  have hfb : ag w30 f (bz (bc [1, a.nx, kd, ep, at'] d)) := aD ho.bytes ee (fun j hj hh => hfra j hj hh)
  have hlen : (bz (bc [1, a.nx, kd, ep, at'] d)).length <= 2 ^ 20 := by
   rw [bW]; have := mT hr; omega
  have hfl := hfb.1
  refine (cj f _ w30 hfb (by omega)).mono ?_
  rintro e w32 ⟨u, rfl, hu, huf, k32⟩
  have e32 : Ext (fun j => j = ra) w7 w32 := (Ext.trans k16 ee (fun _ h => h.elim) (fun _ h => .inl h)).trans k32 (fun _ h => h) (fun _ h => h.elim)
  refine ⟨u, rfl, u, rfl, (fun hh => absurd rfl hh), fun _ => ⟨hu.bytes, huf.mono (by have := k16.size; have := ee.size; omega), hu.le (by omega), f, ⟨o30.af k32, hfp, ai hfb k32, ai (aD h16.d ee (fun j hj hh => h.nd ((show j = ra from hh) ▸ hj))) k32, (fun hh => hfra _ hh rfl), h.nd, hlen, h.ml.2⟩, hf, e32⟩⟩
 ·rw [if_neg hr]
  refine ⟨trivial, av (fun _ => ⟨_, rfl, fun _ => ⟨k16, rfl⟩, fun hh => by cases hh⟩) (fun hh => by cases hh)⟩
def lb (a : AkS) (b : List UInt8) : Option AkS :=
 match readR b with
 | .ok (.tell t e n d) => if a.msg.isSome = true /\ t = a.tag then some { a with msg := none, rt := t, re := e, rn := n, rd := d, has := true } else none
 | _ => none
theorem Cp (most : Int) (hm : 0 <= most) (st : InS) : ((ik most st).1.length : Int) <= most := by
 unfold ik
 have h : (rNum most st).1 <= most := by
  by_cases h0 : 0 < (rNum most st).1
  ·exact Dx most st (EJ most st h0)
  ·omega
 generalize rNum most st = x at h ⊢
 obtain ⟨n, bs, er⟩ := x
 dsimp only at h
 cases er with
 | some j => simp [rq]; exact hm
 | none =>
  by_cases hh : (bs.length : Int) < n
  ·rw [kn hh]; simpa using hm
  ·rw [mO hh]; simp only [List.length_take]; omega
theorem Fj {b : List UInt8} {t e n : Int} {d : List UInt8} (h : readR b = .ok (.tell t e n d)) : d.length <= 2 ^ 20 := by
 unfold readR at h
 split at h
 ·cases h
 ·split at h
  ·cases h
  ·dsimp only at h
   split at h
   ·split at h
    ·cases h
    ·injection h with h; injection h with h1 h2 h3 h4
     rw [<- h4]
     have h9 : ∀ st, (ik 2000 st).1.length <= 2 ^ 20 := fun st => by
      have := Cp 2000 (by omega) st
      omega
     exact h9 _
   ·split at h
    ·cases h
    ·split at h <;> cases h
theorem DO (A : Nat -> Addr) (h : rC w ra sm sd a) (hE : bm A w.heap.size w) (s : Slc) (b : List UInt8) (hb : ag w s b) (hl : s.l <= 2 ^ 20) (hc : s.l <= s.c) :
  Calls Tryz.prog gQ ⟨[aw ra, s.v]⟩ w fun e w' => e = .returned (.bool (lb a b).isSome) /\ (lb a b = none -> ak w w') /\ (∀ a', lb a b = some a' -> ∃ sd', rC w' ra ⟨none, 0, 0⟩ sd' a' /\ aF w sd' /\ Ext (fun j => j = ra) w w') := by
 refine qX _ _ ?_
 unfold oA
 refine (uL A s b w hb hl hc hE).mono ?_
 rintro e w4 ⟨q, pp, is, ev, rfl, hres, k4⟩
 obtain ⟨t, kd, ep, at', sq, t2, e2, n2, sp, rfl, rfl, hev, hcase⟩ := hres.CS
 refine ⟨_, _, _, _, _, _, _, _, _, _, _, rfl, ?_⟩
 refine au (fun r16 w17 hr16 hb16 k16 hs16 => au (fun r18 w19 hr18 hb18 k18 hs18 => ?_))
 obtain ⟨a1, a2⟩ := ((aq.cJ hb16).af k18).cQ (n := 5) (cs := lg t kd ep at' sq) rfl rfl
 refine ⟨a1, fun w20 hw20 => ?_⟩
 obtain ⟨o16, e16, z20⟩ := a2 w20 hw20
 obtain ⟨b1, b2⟩ := ((aq.cJ hb18).ext e16 (by omega)).cQ (n := 4) (cs := cP t2 e2 n2 sp) rfl rfl
 refine ⟨b1, fun w21 hw21 => ?_⟩
 obtain ⟨o18, e18, z21⟩ := b2 w21 hw21
 have z4 := k4.size
 have z17 := k16.size
 have z19 := k18.size
 have k21' : ak w4 w21 := ((k16.trans k18).ext e16 (fun j hj => by omega)).ext e18 (fun j hj => by omega)
 have k21 : ak w w21 := k4.trans k21'
 have kd21 : ak w21 (World.drew w21) := Ext.drew _ _
 have kkd := k21.trans kd21
 have none' : ∀ w2, ak w w2 -> lb a b = none -> Ending.returned (Value.bool false) = .returned (.bool (lb a b).isSome) /\ (lb a b = none -> ak w w2) /\ (∀ a', lb a b = some a' -> ∃ sd', rC w2 ra ⟨none, 0, 0⟩ sd' a' /\ aF w sd' /\ Ext (fun j => j = ra) w w2) := fun w2 hk hn => by
  rw [hn]
  exact ⟨rfl, fun _ => hk, fun a' hh => by cases hh⟩
 rcases hcase with ⟨hnil, rfl, db, hR, _⟩ | ⟨hnil, rfl, db, hR, hbq, hcq, hfq⟩ | ⟨hnil, j, hR⟩
 ·exact ⟨fun _ => False, ⟨hev, av (fun hh => by rw [hnil] at hh; cases hh) (fun _ => av (fun _ => none' _ kkd (by unfold lb; rw [hR])) (fun hh => by cases hh))⟩, fun _ hh => hh.elim⟩
 rotate_left
 ·exact ⟨fun _ => False, ⟨hev, av (fun _ => none' _ kkd (by unfold lb; rw [hR])) (fun hh => by rw [hnil] at hh; cases hh)⟩, fun _ hh => hh.elim⟩
 have hd := h.af kkd
 refine ⟨fun w2 => w2 = World.drew w21 /\ a.msg.isSome = true /\ t2 = a.tag, ⟨hev, av (fun hh => by rw [hnil] at hh; cases hh) (fun _ => av (fun hh => by cases hh) (fun _ => (uc hd).mono ?_))⟩, ?_⟩
 ·rintro e w24 ⟨rfl, rfl⟩
  refine ⟨_, rfl, av (fun hh => none' _ kkd (by unfold lb; rw [hR]; dsimp only; rw [if_neg (fun g => by rw [g.1] at hh; cases hh)])) (fun hh => ⟨_, (o18.af kd21).cell 0 (by simp), aa rfl ⟨_, hd.c 2 (by omega), aV (fun g => none' _ kkd (by unfold lb; rw [hR]; dsimp only; rw [if_neg (fun g2 => g g2.2)])) (fun g => ⟨rfl, by simpa using hh, g⟩)⟩⟩)⟩
 rintro w29 ⟨rfl, hbusy, heq⟩
 intros
 have hs : lb a b = some { a with msg := none, rt := t2, re := e2, rn := n2, rd := db, has := true } := by
  unfold lb; rw [hR]; dsimp only; rw [if_pos ⟨hbusy, heq⟩]
 have kdd : ak (World.drew w21) (World.drew (World.drew w21)) := Ext.drew _ _
 have h29 := hd.af kdd
 have o18d := (o18.af kd21).af kdd
 have hra : ra < w.heap.size := h.o.lt
 have hr18' : r18 ≠ ra := by omega
 refine ⟨_, _, _, _, o18d.row, aa rfl ?_⟩
 rw [add_lit]
 obtain ⟨c1, c2⟩ := h29.o.aM 1 (by simp [akV]) (⟨none, 0, 0⟩ : Slc).v
 refine ⟨c1, fun w55 hw => ?_⟩
 obtain ⟨o55, e55, _⟩ := c2 w55 hw
 refine ⟨⟨_, _, _, _, (o18d.ext e55 hr18').row, rfl⟩, aa rfl ?_⟩
 obtain ⟨c3, c4⟩ := o55.GK 3 4 (cP t2 e2 n2 sp) rfl (by simp [akV])
 refine ⟨c3, fun w61 hw2 => aa rfl ?_⟩
 obtain ⟨o61, e61⟩ := c4 w61 hw2
 rw [add_lit]
 obtain ⟨c5, c6⟩ := o61.aM 7 (by rw [uR]; simp [akV]) (.bool true)
 refine ⟨c5, fun w63 hw3 => ?_⟩
 obtain ⟨o63, e63, _⟩ := c6 w63 hw3
 rw [hs]
 have ee : Ext (fun j => j = ra) (World.drew (World.drew w21)) w63 := (e55.trans e61 (fun _ h => h) (fun _ h => .inl h)).trans e63 (fun _ h => h) (fun _ h => .inl h)
 have hf : ∀ j, ao sp j -> j ≠ ra := fun j hj => by have := hfq j hj; omega
 refine ⟨rfl, (fun hh => by cases hh), fun a' hh => ?_⟩
 injection hh with hh
 subst hh
 exact ⟨sp, ⟨o63, rfl, ⟨rfl, .inl rfl⟩, aD (ai hbq ((k21'.trans kd21).trans kdd)) ee (fun j hj hh => hf j hj hh), (by rintro ⟨x, hx, _⟩; cases hx), (fun hh => hf _ hh rfl), by simp, Fj hR⟩, hfq, Ext.trans (kkd.trans kdd) ee (fun _ h => h.elim) (fun _ h => .inl h)⟩
end
end Go.D
namespace Go.D
open Go Go.Proofs
theorem zJ (t k e a : Int) (s : Slc) (d : List UInt8) (w : World) (hd : ag w s d) (h : dR t k e a d.length) :
  Calls Tryz.prog fF ⟨[.agg ⟨lg t k e a s⟩]⟩ w fun x w' => ∃ f : Slc, x = .returned f.v /\ ak w w' /\ aF w f /\ f.l <= f.c /\ ag w' f (bz (bc [1, t, k, e, a] d)) := by
 refine oJ _ _ _ _ _ ?_
 unfold kI
 refine au (fun r6 w7 hr hb hk hs => ?_)
 have ho := aq.cJ hb
 refine ⟨_, ho.cell 4 (by simp), _, ho.cell 0 (by simp), _, ho.cell 1 (by simp), _, ho.cell 2 (by simp), _, ho.cell 3 (by simp), au (fun r13 w14 hr13 hb13 k13 hs13 => ?_)⟩
 have hi : jh w14 ⟨some ⟨r13, 0, none⟩, 5, 5⟩ [1, t, k, e, a] := Own.ints (Own.new (sz := 1) hb13 (.inl (by simp)) rfl)
 refine (mS s _ d _ w14 (ai hd (hk.trans k13)) hi (by simp) (F9 h) (mT h)).mono ?_
 rintro x w16 ⟨f, rfl, g1, g2, g3, g4⟩
 exact ⟨f, rfl, f, rfl, (hk.trans k13).trans g3, g2.mono (hk.trans k13).size, g4, g1⟩
theorem gp (most n : Int) (rest : List UInt8) (h : 0 <= n /\ n <= 4611686018427387903) (hm : n <= most) : rNum most (aT n.toNat ++ rest, none) = (n, (rest, none)) := by
 rw [wR most n.toNat rest (by omega) (by omega), show ((n.toNat : Nat) : Int) = n by omega]
theorem tm (b : List UInt8) (hl : b.length <= 2048) : fg (bz b) = .ok (b, []) := by
 have := Be b [] hl
 simpa using this
theorem DP {t k e a : Int} {d : List UInt8} (h : dR t k e a d.length) : readR (bz (bc [1, t, k, e, a] d)) = .ok (.ask t k e a d) := by
 have h0 := h
 obtain ⟨h1, h2, h3, h4, h5, h6⟩ := h
 rw [readR, tm _ (mT h0)]
 dsimp only
 rw [if_neg (by simp)]
 have e0 : bc [1, t, k, e, a] d = aT (1 : Int).toNat ++ (aT t.toNat ++ (aT k.toNat ++ (aT e.toNat ++ (aT a.toNat ++ (aT d.length ++ (d ++ [])))))) := by
  simp [bc, mQ]
 have e1 : rNum 2 (bc [1, t, k, e, a] d, none) = (1, (aT t.toNat ++ (aT k.toNat ++ (aT e.toNat ++ (aT a.toNat ++ (aT d.length ++ (d ++ []))))), none)) := by
  rw [e0]; exact gp 2 1 _ (by omega) (by omega)
 rw [e1]
 have e2 : bA (aT t.toNat ++ (aT k.toNat ++ (aT e.toNat ++ (aT a.toNat ++ (aT d.length ++ (d ++ []))))), none) = ⟨t, k, e, a, d, ([], none)⟩ := by
  rw [bA]
  rw [gp 1073741824 t _ (by omega) (by omega), gp 5 k _ (by omega) (by omega), gp 1073741824 e _ (by omega) (by omega), gp 4096 a _ (by omega) (by omega), tU 2000 d [] (by omega) (by omega)]
 dsimp only
 rw [e2, if_neg (by omega)]
 dsimp only [mh]
 rw [if_neg (by simp)]
 dsimp only
 rw [if_pos ⟨rfl, h0⟩]
theorem Cq {t e n : Int} {d : List UInt8} (h : jn t e n d.length) : readR (bz (bc [2, t, e, n] d)) = .ok (.tell t e n d) := by
 have h0 := h
 obtain ⟨h1, h2, h3, h5⟩ := h
 rw [readR, tm _ (tg h0)]
 dsimp only
 rw [if_neg (by simp)]
 have e0 : bc [2, t, e, n] d = aT (2 : Int).toNat ++ (aT t.toNat ++ (aT e.toNat ++ (aT n.toNat ++ (aT d.length ++ (d ++ []))))) := by
  simp [bc, mQ]
 have e1 : rNum 2 (bc [2, t, e, n] d, none) = (2, (aT t.toNat ++ (aT e.toNat ++ (aT n.toNat ++ (aT d.length ++ (d ++ [])))), none)) := by
  rw [e0]; exact gp 2 2 _ (by omega) (by omega)
 rw [e1]
 have e2 : bV (aT t.toNat ++ (aT e.toNat ++ (aT n.toNat ++ (aT d.length ++ (d ++ [])))), none) = ⟨t, e, n, d, ([], none)⟩ := by
  rw [bV]
  rw [gp 1073741824 t _ (by omega) (by omega), gp 19 e _ (by omega) (by omega), gp 4096 n _ (by omega) (by omega), tU 2000 d [] (by omega) (by omega)]
 dsimp only
 rw [e2, if_pos rfl]
 dsimp only [mh]
 rw [if_neg (by simp)]
end Go.D
namespace Go.D
open Go Go.Proofs
structure L34 (w0 w : World) (rn r rd rn2 r2 k m : Nat) (f : UnF) (d : aU) (p : NdP) (fr : RuF) (P : List RuE) (top : Int) (s : UnS) (q : RdP) (T : List NdE) : Prop where
 N : cW w w0.heap.size rn r rd f d s m p T
 R : oR w rn2 r2 k fr P top s q T
 k : d.n / 64 = k
 st : d.stops = false
 kp : ak w0 w
 wn : ∀ j, RB rn2 r2 fr q j -> w0.heap.size <= j
 ws : ∀ j, RB rn2 r2 fr q j -> ¬ NB rn r rd f p j /\ ¬ NY f p j
 ys : ∀ j, RY fr q j -> ¬ NB rn r rd f p j
 ok : ∀ x ∈ T, x.ok
section
variable {w0 w w' w2 : World} {rn r rd rn2 r2 k m m' : Nat} {f f' : UnF} {d d' : aU} {p p' : NdP} {fr fr' : RuF} {P P' : List RuE} {top top' : Int} {s s' : UnS} {q q' : RdP} {T T' : List NdE}
theorem L34.af (h : L34 w0 w rn r rd rn2 r2 k m f d p fr P top s q T) (hk : ak w w') : L34 w0 w' rn r rd rn2 r2 k m f d p fr P top s q T := ⟨h.N.af hk, h.R.af hk, h.k, h.st, h.kp.trans hk, h.wn, h.ws, h.ys, h.ok⟩
theorem L34.Hd (h : L34 w0 w rn r rd rn2 r2 k m f d p fr P top s q T) (hf : Ext (NB rn r rd f p) w w') : oR w' rn2 r2 k fr P top s q T :=
 h.R.ext hf (fun j hj hh => (h.ws j hj).1 hh) (fun j hj hh => h.ys j hj hh)
theorem L34.step (h : L34 w0 w rn r rd rn2 r2 k m f d p fr P top s q T) (hN : cW w' w0.heap.size rn r rd f' d' s' m' p' T') (hf : NTo rn r rd f p f' p' w w') (hn : d'.n = d.n) (hst : d'.stops = false) (hk : ak w' w2) {w3 : World} (hR : oR w3 rn2 r2 k fr' P' top' s' q' T') (ht : zI rn2 r2 fr q fr' q' w2 w3) (hok : ∀ x ∈ T', x.ok) :
  L34 w0 w3 rn r rd rn2 r2 k m' f' d' p' fr' P' top' s' q' T' := by
 have ltR := h.R.lt
 have hN2 := hN.af hk
 have ltN := hN2.lt
 have ws2 : ∀ j, RB rn2 r2 fr q j -> ¬ NB rn r rd f' p' j /\ ¬ NY f' p' j := fun j hj => ⟨fun hh => (hf.1.2 j hh).elim (h.ws j hj).1 (fun g => by have := ltR.1 j hj; omega), fun hh => (hf.2 j hh).elim (h.ws j hj).2 (fun g => by have := ltR.1 j hj; omega)⟩
 have ys2 : ∀ j, RY fr q j -> ¬ NB rn r rd f' p' j := fun j hj hh => (hf.1.2 j hh).elim (h.ys j hj) (fun g => by have := ltR.2 j hj; omega)
 have z1 := hf.1.1.size
 have z2 := hk.size
 have z0 := h.kp.size
 refine ⟨hN2.ext ht.1 (fun j hj hh => (ws2 j hh).1 hj) (fun j hj hh => (ws2 j hh).2 hj), hR, by rw [hn]; exact h.k, hst, ((h.kp.ext hf.1.1 h.N.gB).trans hk).ext ht.1 h.wn, fun j hj => (ht.2.1 j hj).elim (h.wn j) (fun g => by omega), fun j hj => ?_, fun j hj hh => ?_, hok⟩
 ·rcases ht.2.1 j hj with g | g
  ·exact ws2 j g
  ·exact ⟨fun hh => by have := ltN.1 j hh; omega, fun hh => by have := ltN.2 j hh; omega⟩
 ·rcases ht.2.2 j hj with g | g
  ·exact ys2 j g hh
  ·have := ltN.1 j hh; omega
end
theorem DQ {k : Nat} {s : UnS} {T : List NdE} {fr : Int} {b : List UInt8} (h1 : s.T <= 4096) (h2 : (ndStep k s T fr b).2.1.T <= 4096) (hT : ∀ x ∈ T, x.ok) : (∀ x ∈ (ndStep k s T fr b).2.2, x.ok) /\ ∀ x, (ndStep k s T fr b).1 = some x -> x.ok := by
 unfold ndStep at h2 ⊢
 split
 ·rename_i t kd ep a d hR
  rw [hR] at h2
  dsimp only at h2 ⊢
  cases hf : th fr t T with
  | some x =>
   dsimp only
   exact ⟨hT, fun y hy => by injection hy with hy; rw [<- hy]; exact hT _ (DK hf)⟩
  | none =>
   rw [hf] at h2
   dsimp only at h2 ⊢
   obtain ⟨g1, g2, g3, g4⟩ := Bi (k := k) (s := s) (kd := kd) (ep := ep) (a := a) (d := d) h1 h2
   have hx : NdE.ok ⟨fr, t, (bB k s kd ep a d).1.1, (bB k s kd ep a d).1.2.1, (bB k s kd ep a d).1.2.2⟩ := ⟨⟨(pN hR).1, Gd (fun j hj => (g1 j hj).1), ⟨g2, g3⟩, g4⟩, fun j hj => (g1 j hj).1⟩
   refine ⟨fun x hm => ?_, fun y hy => by injection hy with hy; rw [<- hy]; exact hx⟩
   rcases List.mem_append.1 hm with g | g
   ·exact hT x g
   ·rw [List.mem_singleton] at g; rw [g]; exact hx
 ·exact ⟨hT, fun x hx => by cases hx⟩
theorem Cr {k : Nat} {s : UnS} {T : List NdE} {fr : Int} {b : List UInt8} : (ndStep k s T fr b).2.2.length <= T.length + 1 := by
 unfold ndStep
 split
 ·split <;> simp
 ·simp
theorem tq {w : World} {rn r : Nat} {p : NdP} {L : List NdE} (h : lh w rn r p L) : Calls Tryz.prog fi ⟨[aw rn]⟩ w fun e w' => e = .returned (.int .i64 (L.length : Int)) /\ w' = w := by
 refine qV _ ?_
 unfold ow
 have hsl := h.t.sl
 exact aa rfl ⟨_, h.c1, by rw [hsl], rfl⟩
theorem Bn {w : World} {rn r : Nat} {p : NdP} {L : List NdE} (h : lh w rn r p L) : Calls Tryz.prog iw ⟨[aw rn]⟩ w fun e w' => e = .returned (.bool false) /\ w' = w := by
 refine se _ ?_
 unfold pC
 exact aa rfl ⟨_, h.c2, rfl, rfl⟩
theorem tu (A : Nat -> Addr) (w0 w : World) (hE : cl A w0) (hk : ak w0 w) :
  Calls Tryz.prog cX ⟨[]⟩ w fun e w' => ∃ rn r rd rn2 r2 f d p fr q, e = .returned (.tuple ⟨[aw rn, aw rn2]⟩) /\ L34 w0 w' rn r rd rn2 r2 3 0 f d p fr [] 0 ⟨[], 0, 0, 0⟩ q [] /\ (∀ j, NB rn r rd f p j -> w.heap.size <= j) /\ ak w w' := by
 refine mG ?_
 unfold jE
 have nilO : ∀ x, ¬ ao (⟨none, 0, 0⟩ : Slc) x := by rintro x ⟨a, ha, _⟩; cases ha
 refine (A5 A 3 (by omega) w0 w hE hk).mono ?_
 rintro e w2 ⟨rd, qd, d, rfl, k2, hdn, hds, hop⟩
 refine ⟨_, _, rfl, trivial, av (fun h => by cases h) (fun _ => (hop w2 (Ext.refl _ _)).mono ?_)⟩
 rintro e w6 ⟨r, f, rfl, hU, hq, k6, hUB, hUY⟩
 refine ⟨_, _, rfl, trivial, av (fun h => by cases h) (fun _ => av (fun h => by cases h) (fun _ => ?_))⟩
 refine Calls.mono (R := fun e w' => ∃ rn, e = .returned (aw rn) /\ ak w6 w' /\ rn = w6.heap.size /\ aq w' rn [aw r, (⟨none, 0, 0⟩ : Slc).v, .bool false]) (AB _ ?_) ?_
 ·unfold AA
  exact au (fun r2 w3 hr2 hb2 k2 hs2 => ⟨r2, rfl, k2, hr2, aq.cJ hb2⟩)
 rintro e w10 ⟨rn, rfl, k10, hrn, on⟩
 refine ⟨_, rfl, (zG w10 3).mono ?_⟩
 rintro e w13 ⟨r2, fr, rfl, hR, hW, hY, k13⟩
 refine ⟨_, rfl, au (fun r15 w16 hr15 hb15 k15 hs15 => ?_)⟩
 have lt := hU.lt
 have ltR := hR.A.lt
 have z0 := hk.size
 have z2 := k2.size
 have z6 := k6.size
 have z10 := k10.size
 have z13 := k13.size
 have l10 := on.lt
 have kk := (k10.trans k13).trans k15
 have noF : ∀ j, ¬ bD ([] : List (List Value)) j := by rintro j ⟨cs, hcs, _⟩; simp at hcs
 refine ⟨rn, r, rd, r15, r2, f, d, ⟨⟨none, 0, 0⟩, []⟩, fr, ⟨⟨none, 0, 0⟩, ⟨none, 0, 0⟩, []⟩, rfl, ⟨⟨hU.af kk, ⟨(on.af k13).af k15, Rows.nil _ _, nilO _, fun j hj => (noF j hj).elim⟩, ?_, fun j hj => (noF j hj).elim, ?_⟩, ⟨hR.af k15, ⟨aq.cJ hb15, bf.nil _, Rows.nil _ _, ⟨nilO _, nilO _⟩, fun j hj => (nilO j hj).elim, fun j hj => (noF j hj).elim⟩, ?_, fun j hj => (noF j hj).elim⟩, hdn, hds, ((((hk.trans k2).trans k6).trans kk)), ?_, ?_, ?_, fun x hx => by simp at hx⟩, ?_, (k2.trans k6).trans kk⟩
 ·rintro j (rfl | hj)
  ·exact ⟨fun hh => by have := lt.1 _ hh; omega, fun hh => by have := lt.2 _ hh; omega⟩
  ·exact (nilO j hj).elim
 ·rintro j (rfl | hj)
  ·omega
  ·exact (nilO j hj).elim
 ·rintro j (rfl | hj | hj)
  ·exact ⟨fun hh => by have := ltR.1 _ hh; omega, fun hh => by have := ltR.2 _ hh; omega⟩
  ·exact (nilO j hj).elim
  ·exact (nilO j hj).elim
 ·rintro j (hj | rfl | hj | hj)
  ·have := hW j hj; omega
  ·omega
  ·exact (nilO j hj).elim
  ·exact (nilO j hj).elim
 ·have key : ∀ j, w10.heap.size <= j -> ¬ NB rn r rd f ⟨⟨none, 0, 0⟩, []⟩ j /\ ¬ NY f ⟨⟨none, 0, 0⟩, []⟩ j := by
   intro j hj
   refine ⟨?_, ?_⟩
   ·rintro (hh | rfl | hh)
    ·have := lt.1 _ hh; omega
    ·omega
    ·exact (nilO j hh).elim
   ·rintro (hh | hh)
    ·have := lt.2 _ hh; omega
    ·exact (noF j hh).elim
  rintro j (hj | rfl | hj | hj)
  ·exact key j (hW j hj)
  ·exact key _ (by omega)
  ·exact (nilO j hj).elim
  ·exact (nilO j hj).elim
 ·rintro j (hj | hj)
  ·exact (hY j hj).elim
  ·exact (noF j hj).elim
 ·rintro j (hj | rfl | hj)
  ·exact hUB j hj
  ·omega
  ·exact (nilO j hj).elim
theorem zK (A : Nat -> Addr) (w : World) (hE : cl A w) : Calls Tryz.prog eQ ⟨[]⟩ w fun e w' => e = .returned (.bool true) /\ ak w w' := by
 refine mH ?_
 unfold jF
 have hB : bm A w.heap.size w := hE.b
 refine (tu A w w hE (Ext.refl _ _)).mono ?_
 rintro e w2 ⟨rn, r, rd, rn2, r2, f, d, p, fr, q, rfl, hL, hNB, k2⟩
 refine ⟨_, _, rfl, (xX A 0 w2 (hE.af k2)).mono ?_⟩
 rintro e w6 ⟨k6, hc⟩
 rcases hc with ⟨hbad, _⟩ | ⟨_, ra, rfl, hA, hra⟩
 ·omega
 refine ⟨_, _, rfl, fun w3 => w3 = w6, av (fun h => by cases h) (fun _ => ⟨trivial, av (fun h => by cases h) (fun _ => av (fun h => by cases h) (fun _ => rfl))⟩), ?_⟩
 rintro w10 rfl
 intros
 refine au (fun r22 w23 hr22 hb22 k22 hs22 => ?_)
 rintro w25 rfl
 have hb25 : ag (markW w23 r22) (⟨some ⟨r22, 0, none⟩, 1, 1⟩ : Slc) [120] /\ Ext (fun k => k = r22) w23 (markW w23 r22) := by
  obtain ⟨hb30, e30⟩ := BC hb22
  refine ⟨⟨rfl, .inr ⟨_, rfl, fun i hi => ?_⟩⟩, e30⟩
  have : i = 0 := by simp at hi; omega
  subst this
  rw [add_lit, cell_of hb30]
  rfl
 have z6 := k6.size
 have k25 : ak w10 (markW w23 r22) := k22.ext hb25.2 (fun j hj => by omega)
 have kk25 := (k2.trans k6).trans k25
 refine (DN A (hA.af k25) ((hB.af kk25).up kk25.size) 1 0 3 _ [120] hb25.1).mono ?_
 rintro e w27 ⟨fm, rfl, _, hok⟩
 have hae : DM ⟨0, none, 0, 0, 0, 0, [], false⟩ 1 0 3 1 = none := by decide
 obtain ⟨hfb, hff, hfc, sm', hA27, hsm', e27⟩ := hok hae
 have hae' : DM ⟨0, none, 0, 0, 0, 0, [], false⟩ 1 0 3 ([120] : List UInt8).length = none := hae
 rw [hae']
 refine ⟨fm, _, rfl, trivial, av (fun h => by cases h) (fun _ => ?_)⟩
 have lN := hL.N.lt
 have N27 : cW w27 w.heap.size rn r rd f d ⟨[], 0, 0, 0⟩ 0 p [] := ((hL.N.af k6).af k25).ext e27 (fun j hj hh => by have := lN.1 j hj; have e1 : j = ra := hh; omega) (fun j hj hh => by have := lN.2 j hj; have e1 : j = ra := hh; omega)
 have kk27 : ak w w27 := kk25.ext e27 (fun j hj => by have e1 : j = ra := hj; have := k2.size; omega)
 have z27 := kk27.size
 have hq : dR 0 1 0 3 [(120 : UInt8)].length := by decide
 have hfl : fm.l = (bz (bc [1, 0, 1, 0, 3] [120])).length := hfb.1
 have hfl2 : fm.l <= 2 ^ 20 := by rw [hfl, bW]; have := mT hq; omega
 have hR1 : readR (bz (bc [1, 0, 1, 0, 3] [120])) = .ok (.ask 0 1 0 3 [120]) := DP hq
 refine (pO A N27 (hB.af kk27) z27 (by omega) hL.st 1 fm _ hfb hfl2 hfc).mono ?_
 rintro e w31 ⟨u, rfl, hu, huf, huc, f', d', p', N31, hdn, hds, n31⟩
 have hP : bB (d.n / 64) ⟨[], 0, 0, 0⟩ 1 0 3 [120] = ((none, 0, []), ⟨[⟨0, 0, [.dm 3 [120]]⟩], 0, 0, 4⟩) := by rw [hL.k]; rfl
 have st1 : ndStep (d.n / 64) ⟨[], 0, 0, 0⟩ [] 1 (bz (bc [1, 0, 1, 0, 3] [120])) = (some ⟨1, 0, none, 0, []⟩, ⟨[⟨0, 0, [.dm 3 [120]]⟩], 0, 0, 4⟩, [⟨1, 0, none, 0, []⟩]) := by
  unfold ndStep
  rw [hR1]
  dsimp only
  rw [hP]
  rfl
 rw [st1] at hu N31 ⊢
 refine ⟨u, _, rfl, ?_⟩
 obtain ⟨n31, nu31⟩ := n31
 have z10 := k25.size
 have kk31 : ak w w31 := kk27.ext n31.1.1 N27.gB
 have hfb31 : ag w31 fm (bz (bc [1, 0, 1, 0, 3] [120])) := aD hfb n31.1.1 (fun j hj hh => by have := hff j hj; have := lN.1 j hh; omega)
 have st2 : ndStep (d'.n / 64) ⟨[⟨0, 0, [.dm 3 [120]]⟩], 0, 0, 4⟩ [⟨1, 0, none, 0, []⟩] 1 (bz (bc [1, 0, 1, 0, 3] [120])) = (some ⟨1, 0, none, 0, []⟩, ⟨[⟨0, 0, [.dm 3 [120]]⟩], 0, 0, 4⟩, [⟨1, 0, none, 0, []⟩]) := by
  unfold ndStep
  rw [hR1]
  rfl
 refine (pO A N31 (hB.af kk31) kk31.size (by omega) hds 1 fm _ hfb31 hfl2 hfc).mono ?_
 rintro e w35 ⟨u2, rfl, hu2, huf2, huc2, f2, d2, p2, N35, hdn2, hds2, n35, nu35⟩
 rw [st2] at hu2 N35 ⊢
 have hu35 : ag w35 u (uM (some ⟨1, 0, none, 0, []⟩)) := aD hu n35.1.1 nu31
 have kk35 : ak w w35 := kk31.ext n35.1.1 N31.gB
 have hrp : jn 0 (eN none) 0 ([] : List UInt8).length := by decide
 have hul : u.l = (NdE.msg ⟨1, 0, none, 0, []⟩).length := hu35.1
 have hml := CT (x := ⟨1, 0, none, 0, []⟩) hrp
 have lA : ra < w27.heap.size := hA27.o.lt
 have nA : ∀ j, AkB ra sm' ⟨none, 0, 0⟩ j -> ¬ NB rn r rd f p j := by
  rintro j (rfl | hj | ⟨x, hx, _⟩) hh
  ·have := lN.1 _ hh; omega
  ·have := hsm' j hj; have := lN.1 _ hh; omega
  ·cases hx
 have ltA : ∀ j, AkB ra sm' ⟨none, 0, 0⟩ j -> j < w27.heap.size := by
  rintro j (rfl | hj | ⟨x, hx, _⟩)
  ·exact lA
  ·exact cA hA27.b (by rw [hA27.b.1]; exact yH _) j hj
  ·cases hx
 have A31 := hA27.ext n31.1.1 nA
 have A35 := A31.ext n35.1.1 (fun j hj hh => (n31.1.2 j hh).elim (nA j hj) (fun g => by have := ltA j hj; omega))
 refine ⟨u2, _, rfl, av (fun _ => av (fun _ => ⟨_, hu35, _, hu2, ae (fun _ => ?_) (fun hh => absurd rfl hh)⟩) (fun hh => by cases hh)) (fun hh => by cases hh)⟩
 refine (DO A A35 ((hB.af kk35).up kk35.size) u _ hu35 (by rw [hul]; exact hml) huc).mono ?_
 have hR2 : readR (uM (some ⟨1, 0, none, 0, []⟩)) = .ok (.tell 0 0 0 []) := Cq (d := []) hrp
 have hh : lb (GL ⟨0, none, 0, 0, 0, 0, [], false⟩ 1 0 3 [120]) (uM (some ⟨1, 0, none, 0, []⟩)) = some { GL ⟨0, none, 0, 0, 0, 0, [], false⟩ 1 0 3 [120] with msg := none, rt := 0, re := 0, rn := 0, rd := [], has := true } := by
  unfold lb
  rw [hR2]
  rfl
 rintro e w41 ⟨rfl, _, hA'⟩
 obtain ⟨sd', hA41, _, e41⟩ := hA' _ hh
 rw [hh]
 refine ⟨_, rfl, av (fun _ => (uc hA41).mono ?_) (fun g => by cases g)⟩
 rintro e w44 ⟨rfl, rfl⟩
 have lt35 := N35.lt
 have nra : ∀ j, j = ra -> ¬ NB rn r rd f2 p2 j /\ ¬ NY f2 p2 j := by
  rintro j rfl
  refine ⟨fun g => ?_, fun g => ?_⟩
  ·rcases n35.1.2 _ g with g | g
   ·exact (n31.1.2 _ g).elim (nA _ (.inl rfl)) (fun g2 => by omega)
   ·have := n31.1.1.size; omega
  ·rcases n35.2 _ g with g | g
   ·rcases n31.2 _ g with g | g
    ·have := lN.2 _ g; omega
    ·omega
   ·have := n31.1.1.size; omega
 have N44 := N35.ext e41 (fun j hj g => (nra j g).1 hj) (fun j hj g => (nra j g).2 hj)
 refine ⟨_, rfl, av (fun _ => (tq N44.N).mono ?_) (fun g => by cases g)⟩
 rintro e w47 ⟨rfl, rfl⟩
 exact ⟨_, rfl, rfl, kk35.ext e41 (fun j hj => by have e1 : j = ra := hj; have := k2.size; omega)⟩
end Go.D
namespace Go.D
open Go Go.Proofs
structure Bo where
 fr : Int
 t : Int
 kd : Int
 ep : Int
 a : Int
 d : List UInt8
 raw : Bool
 b : List UInt8
def rD (x : Bo) (sq sb : Slc) : List Value := [.int .i64 x.fr, .int .i64 x.t, .int .i64 x.kd, .int .i64 x.ep, .int .i64 x.a, sq.v, .bool x.raw, sb.v]
def Bp (w : World) (s : Slc) (xs : List Bo) : Prop := s.l = xs.length /\ ∀ i (h : i < xs.length), ∃ (a : Addr) (sq sb : Slc), s.p = some a /\ rowAt w (a.add (i * 8)) 0 (rD xs[i] sq sb) /\ ag w sq xs[i].d /\ ag w sb xs[i].b /\ sb.l <= sb.c
abbrev GM : Rd (Int × Int × Int × Int × (Slc × List UInt8)) := Rd.pair (Rd.int .i64) (Rd.pair (Rd.int .i64) (Rd.pair (Rd.int .i64) (Rd.pair (Rd.int .i64) Rd.bytes)))
abbrev CW : Rd (Int × (Int × Int × Int × Int × (Slc × List UInt8)) × Bool × (Slc × List UInt8)) := Rd.pair (Rd.int .i64) (Rd.pair GM (Rd.pair Rd.bool Rd.bytes))
def F5 (x : Int × (Int × Int × Int × Int × (Slc × List UInt8)) × Bool × (Slc × List UInt8)) : Bo := ⟨x.1, x.2.1.1, x.2.1.2.1, x.2.1.2.2.1, x.2.1.2.2.2.1, x.2.1.2.2.2.2.2, x.2.2.1, x.2.2.2.2⟩
theorem DR {w : World} {s : Slc} {xs : List (Int × (Int × Int × Int × Int × (Slc × List UInt8)) × Bool × (Slc × List UInt8))} (h : Al CW w s xs) : Bp w s (xs.map F5) := by
 obtain ⟨h1, h2, _, h3⟩ := h
 refine ⟨by rw [h1, List.length_map], fun i hi => ?_⟩
 have hi2 : i < xs.length := by simpa using hi
 obtain ⟨a, cs, ha, ⟨_, _, hcs, ⟨rfl, _⟩, ⟨_, _, rfl, ⟨_, _, rfl, ⟨rfl, _⟩, ⟨_, _, rfl, ⟨rfl, _⟩, ⟨_, _, rfl, ⟨rfl, _⟩, ⟨_, _, rfl, ⟨rfl, _⟩, ⟨rfl, hD, hDc, _⟩⟩⟩⟩⟩, ⟨_, _, rfl, rfl, ⟨rfl, hB, hBc, _⟩⟩⟩⟩, hrow⟩ := h3 i hi2
 subst hcs
 refine ⟨a, xs[i].2.1.2.2.2.2.1, xs[i].2.2.2.1, ha, ?_, ?_, ?_, hBc⟩
 ·rw [List.getElem_map]; exact hrow
 ·rw [List.getElem_map]; exact hD
 ·rw [List.getElem_map]; exact hB
theorem zL (x : Bo) (sq sb : Slc) (w : World) (hq : ag w sq x.d) (hb : ag w sb x.b) (hl : x.b.length <= 3000) (hc : sb.l <= sb.c) :
  Calls Tryz.prog dq ⟨[.agg ⟨rD x sq sb⟩]⟩ w fun e w' => ∃ (u : Slc) (ok : Bool), e = .returned (.tuple ⟨[u.v, .bool ok]⟩) /\ ak w w' /\ (ok = true -> (∃ bs, ag w' u bs) /\ u.l <= 2 ^ 20 /\ u.l <= u.c /\ (u = sb \/ aF w u)) := by
 refine kl _ _ _ _ _ _ _ _ ?_
 unfold gM
 refine au (fun r9 w10 hr9 hb9 k9 hs9 => ?_)
 have o9 := aq.cJ hb9
 have hbl := hb.1
 refine ⟨_, o9.cell 6 (by simp), av (fun hr => ⟨sb, o9.cell 7 (by simp), sb, true, rfl, k9, fun _ => ⟨⟨_, ai hb k9⟩, by omega, hc, .inl rfl⟩⟩) (fun hr => ?_)⟩
 have hrow : rowAt w10 (⟨r9, 1, none⟩ : Addr) 0 (lg x.t x.kd x.ep x.a sq) := by
  have := o9.GJ 1 (lg x.t x.kd x.ep x.a sq) (fun j hj => by rcases j with _ | _ | _ | _ | _ | j <;> first | rfl | (simp at hj; omega))
  rw [add_lit] at this
  exact this
 refine ⟨_, _, _, _, _, hrow, au (fun r18 w19 hr18 hb18 k18 hs18 => ?_)⟩
 obtain ⟨c1, c2⟩ := (aq.cJ hb18).cQ (n := 5) (cs := lg x.t x.kd x.ep x.a sq) rfl rfl
 refine ⟨c1, fun w20 hw => ?_⟩
 obtain ⟨o20, e20, _⟩ := c2 w20 hw
 have k20 : ak w w20 := (k9.trans k18).ext e20 (fun j hj => by have := k9.size; omega)
 refine ⟨_, _, _, _, _, o20.row, (qC _ _ _ _ sq w20).mono ?_⟩
 rintro e w27 ⟨rfl, k27⟩
 have kk27 := k20.trans k27
 refine ⟨_, rfl, aV (fun hn => ⟨⟨none, 0, 0⟩, false, rfl, kk27, fun hh => by cases hh⟩) (fun hrt => ?_)⟩
 rw [hq.1] at hrt
 refine ⟨_, _, _, _, _, (o20.af k27).row, (zJ _ _ _ _ sq x.d w27 (ai hq kk27) hrt).mono ?_⟩
 rintro e w35 ⟨u, rfl, k35, huf, huc, hub⟩
 have hul := hub.1
 exact ⟨u, rfl, u, true, rfl, kk27.trans k35, fun _ => ⟨⟨_, hub⟩, by rw [hul, bW]; have := mT hrt; omega, huc, .inr (huf.mono kk27.size)⟩⟩
theorem ud (A : Nat -> Addr) (sl0 : Slc) (xs : List Bo) (w : World) (hl : Bp w sl0 xs) (hE : cl A w) :
  Calls Tryz.prog cR ⟨[sl0.v]⟩ w fun e w' => e = .returned (.bool true) /\ ak w w' := by
 refine jG _ ?_
 unfold fY
 have hB : bm A w.heap.size w := hE.b
 have hll := hl.1
 refine (zK A w hE).mono ?_
 rintro e w3 ⟨rfl, k3⟩
 refine ⟨_, rfl, av (fun h => by cases h) (fun _ => ae (fun h80 => ⟨rfl, k3⟩) (fun h80 => (tu A w w3 hE k3).mono ?_))⟩
 rintro e w6 ⟨rn, r, rd, rn2, r2, f, d, p, fr, q, rfl, hL, _, _⟩
 refine ⟨_, _, rfl, av (fun h => by cases h) (fun _ => ?_)⟩
 refine ⟨fun i w2 => ∃ t : Nat, i = t /\ t <= xs.length /\ ∃ f d p fr P top s q T, L34 w w2 rn r rd rn2 r2 3 t f d p fr P top s q T /\ P.length <= t /\ T.length <= t, fun i _ => ((xs.length : Int) - i).toNat, ⟨0, rfl, by omega, f, d, p, fr, _, _, _, q, _, hL, by simp, by simp⟩, ?_⟩
 rintro i w12 ⟨t, rfl, ht, f, d, p, fr, P, top, s, q, T, h, hPt, hTt⟩
 intros
 refine ae (fun h1 => ?_) (fun h1 => ⟨rfl, h.kp⟩)
 have htl : t < xs.length := by omega
 obtain ⟨a1, sq, sb, ha1, hrow, hq0, hb0, hc0⟩ := hl.2 t htl
 generalize hact : xs[t] = x at hrow hq0 hb0
 refine aa ha1 ⟨by omega, h1, _, _, _, _, _, _, _, _, by rw [Int.toNat_natCast]; exact vJ hrow h.kp, ?_⟩
 refine tC (cs := rD x sq sb) rfl rfl (fun r95 w97 hr95 o95 k97 hs97 => ?_)
 have h97 := h.af k97
 have hbl := hb0.1
 refine ⟨fun w2 => w2 = w97 /\ x.b.length <= 3000, ⟨sb, o95.cell 7 (by simp [rD]), ae (fun g => ⟨rfl, h97.kp⟩) (fun g => ⟨sq, o95.cell 5 (by simp [rD]), ae (fun g2 => ⟨rfl, h97.kp⟩) (fun g2 => ⟨rfl, by omega⟩)⟩)⟩, ?_⟩
 rintro w101 ⟨rfl, hb3⟩
 intros
 refine ⟨_, _, _, _, _, _, _, _, o95.row, (zL x sq sb w101 (ai hq0 h97.kp) (ai hb0 h97.kp) hb3 hc0).mono ?_⟩
 rintro e w123 ⟨u, ok, rfl, k123, huok⟩
 have h123 := h97.af k123
 have go : ∀ {w2}, (∃ f d p fr P top s q T, L34 w w2 rn r rd rn2 r2 3 (t + 1) f d p fr P top s q T /\ P.length <= t + 1 /\ T.length <= t + 1) -> inR .i64 ((t : Int) + 1) /\ ((∃ t' : Nat, ((t : Int) + 1) = t' /\ t' <= xs.length /\ ∃ f d p fr P top s q T, L34 w w2 rn r rd rn2 r2 3 t' f d p fr P top s q T /\ P.length <= t' /\ T.length <= t') /\ ((xs.length : Int) - ((t : Int) + 1)).toNat < ((xs.length : Int) - (t : Int)).toNat) := fun hh => ⟨aA (by omega), ⟨t + 1, by omega, htl, hh⟩, by omega⟩
 refine ⟨u, ok, rfl, av (fun hn => go ⟨f, d, p, fr, P, top, s, q, T, ⟨h123.N.up (by omega), h123.R, h123.k, h123.st, h123.kp, h123.wn, h123.ws, h123.ys, h123.ok⟩, by omega, by omega⟩) (fun hy => ?_)⟩
 have hok : ok = true := by simpa using hy
 obtain ⟨⟨bs, hub⟩, hul, huc, hown⟩ := huok hok
 have ltN := h97.N.lt
 have z123 := k123.size
 have uN : ∀ j, 0 < u.l -> ao u j -> ¬ NB rn r rd f p j := by
  intro j h0 hj hh
  rcases hown with rfl | hf
  ·have := cA hb0 h0 j hj; have := h97.N.gB j hh; omega
  ·have := hf j hj; have := ltN.1 j hh; omega
 have o123 := o95.af k123
 refine ⟨_, o123.cell 0 (by simp [rD]), (pO A h123.N (hB.af h123.kp) h123.kp.size (by omega) h123.st x.fr u bs hub hul huc).mono ?_⟩
 rintro e w128 ⟨v, rfl, hv, hvf, hvc, f', d', p', N', hdn, hds, nto, nv⟩
 have hn95 : ¬ NB rn r rd f p r95 := fun hh => by have := h.N.lt.1 _ hh; omega
 have o128 := o123.ext nto.1.1 hn95
 have hub128 : ag w128 u bs := aN hub nto.1.1 (fun h0 j hj => uN j h0 hj)
 have hR128 := h123.Hd nto.1.1
 have huO : UOk 3 t s := by have := h123.N.U.ok; rw [h123.k] at this; exact this
 refine ⟨v, _, rfl, _, o128.cell 0 (by simp [rD]), (xq hR128 huO (by omega) h123.R.R.K.t.2.symm (by omega) (by omega) x.fr u bs hub128 hul huc).mono ?_⟩
 rintro e w133 ⟨xv, rfl, hrep, fr', P', top', q', R', hPl, rto⟩
 rw [h123.k] at hv N' ⊢
 have hT4 : s.T <= 4096 := h123.N.U.T.1
 have hT5 := N'.U.T.1
 obtain ⟨hok1, hok2⟩ := DQ (k := 3) (s := s) (T := T) (fr := x.fr) (b := bs) hT4 hT5 h123.ok
 have h133 := h123.step N' nto hdn hds (Ext.refl fb _) R' rto hok1
 have hTl := Cr (k := 3) (s := s) (T := T) (fr := x.fr) (b := bs)
 have ltR := h123.R.lt
 have hv133 : ag w133 v (uM (ndStep 3 s T x.fr bs).1) := aD hv rto.1 (fun j hj hh => by have := hvf j hj; have := ltR.1 j hh; omega)
 generalize hst : ndStep 3 s T x.fr bs = st at hrep hok1 hok2 h133 hTl hv133 ⊢
 obtain ⟨so, s', T'⟩ := st
 dsimp only at hrep hok1 hok2 h133 hTl hv133 ⊢
 obtain ⟨y1, y2, y3, sy, rfl⟩ : ∃ (y1 y2 y3 : Int) (sy : Slc), xv = cP y1 y2 y3 sy := by
  cases so with
  | none => exact ⟨0, 0, 0, ⟨none, 0, 0⟩, hrep⟩
  | some y => obtain ⟨sy, rfl, _⟩ := hrep; exact ⟨_, _, _, sy, rfl⟩
 refine ⟨_, _, _, _, _, rfl, au (fun r139 w140 hr139 hb139 k140 hs140 => ?_)⟩
 obtain ⟨c1, c2⟩ := (aq.cJ hb139).cQ (n := 4) (cs := cP y1 y2 y3 sy) rfl rfl
 refine ⟨c1, fun w141 hw => ?_⟩
 obtain ⟨o141, e141, _⟩ := c2 w141 hw
 have k141 : ak w133 w141 := k140.ext e141 (fun j hj => by omega)
 have kd141 := k141.trans (Ext.drew fb w141)
 have h141 := h133.af kd141
 refine av (fun hh => by simp at hh) (fun _ => (Bn h141.N.N).mono ?_)
 rintro e w143 ⟨rfl, rfl⟩
 refine ⟨_, rfl, av (fun hh => by cases hh) (fun _ => aa rfl ⟨_, h141.R.D.c2, (tq h141.N.N).mono ?_⟩)⟩
 rintro e w148 ⟨rfl, rfl⟩
 have hsl : q'.ts.l = T'.length := h141.R.D.t.sl
 have hnl := mU T'
 refine ⟨_, rfl, ⟨_, h141.R.D.c2, rfl⟩, aV (fun hh => absurd (by rw [hsl]; split <;> omega) hh) (fun _ => ?_)⟩
 have kd2 : ak (World.drew w141) (World.drew (World.drew w141)) := Ext.drew _ _
 cases so with
 | none =>
  exact av (fun hh => by cases hh) (fun _ => go ⟨f', d', p', fr', P', top', s', q', T', h141.af kd2, by omega, by omega⟩)
 | some y =>
  obtain ⟨sy2, hsy, hby⟩ := hrep
  have hyok := hok2 y rfl
  have hvd : ag (World.drew (World.drew w141)) v y.msg := ai hv133 (kd141.trans kd2)
  have od := (o141.af (Ext.drew fb w141)).af kd2
  rw [hsy] at od
  have hbyd := ai hby (kd141.trans kd2)
  refine av (fun _ => ⟨_, hvd, _, _, _, _, od.row, (zr y.t (eN y.e) y.n sy2 y.d _ hbyd hyok.1).mono ?_⟩) (fun hh => by cases hh)
  rintro e w157 ⟨s158, rfl, k157, hb157⟩
  exact ⟨s158, rfl, ⟨_, ai hvd k157, rfl⟩, _, hb157, aV (fun hh => absurd rfl hh) (fun _ => go ⟨f', d', p', fr', P', top', s', q', T', (h141.af kd2).af k157, by omega, by omega⟩)⟩
theorem uY (sl0 : Slc) (xs : List (Int × (Int × Int × Int × Int × (Slc × List UInt8)) × Bool × (Slc × List UInt8))) (w : World) (hl : Al CW w sl0 xs) (A : Nat -> Addr) (hE : cl A w) :
  Calls Tryz.prog cR ⟨[sl0.v]⟩ w fun e w' => e = .returned (.bool true) /\ ak w w' := ud A sl0 _ w (DR hl) hE
end Go.D

