/-
  WHAT IS PROVED: contracts of functions, and the plain law, for this proof. No further conditions.
-/
import Derived.Test.YtlahdjoonioegaaDoorDisk1
set_option linter.unusedVariables false
set_option linter.unusedSimpArgs false
namespace Go.D
open Go Go.Proofs

def putSec (img : List UInt8) (at_ : Int) (data : List UInt8) (cut : Nat) : List UInt8 := img.take (at_.toNat * 64) ++ data.take cut ++ img.drop (at_.toNat * 64 + cut)
theorem putSec_length {img : List UInt8} {at_ : Int} {data : List UInt8} {cut : Nat} (hm : img.length % 64 = 0) (h0 : 0 ≤ at_) (h1 : at_ < ((img.length / 64 : Nat) : Int)) (hd : data.length = 64) (hc : cut ≤ 64) :
    (putSec img at_ data cut).length = img.length := by
  unfold putSec
  simp only [List.length_append, List.length_take, List.length_drop]
  omega
theorem DevOk.put {d : DevS} (h : DevOk d) {img : List UInt8} (hl : img.length = d.img.length) : DevOk { d with img := img } :=
  ⟨by rw [hl]; exact h.m, by rw [hl]; exact h.l, fun x hx => by have := h.p x hx; unfold DevS.n at this ⊢; rw [hl]; exact this, h.f⟩
theorem DevOk.sec {d : DevS} (h : DevOk d) {at_ : Int} {data : List UInt8} {cut : Nat} (h0 : 0 ≤ at_) (h1 : at_ < (d.n : Int)) (hd : data.length = 64) (hc : cut ≤ 64) : DevOk { d with img := putSec d.img at_ data cut } :=
  h.put (putSec_length h.m h0 h1 hd hc)

theorem do_spec7 {w : World} {r : Nat} {q : DevP} {d : DevS} (h : DevAt w r q d) (at_ : Int) (s : Slc) (data : List UInt8) (cut : Int) (hb : bytesAt w s data) (hs : s.l ≤ s.c) (h0 : 0 ≤ at_) (h1 : at_ < (d.n : Int))
    (hc0 : 0 ≤ cut) (hc1 : cut ≤ 64) (hd : data.length = 64) (hlt : ∀ k, ownB s k → k < w.heap.size) :
    Calls Tryd.prog fn_disk_Device_do ⟨[ptrR' r, .agg ⟨wrC at_ s⟩, .int .i64 cut]⟩ w fun e w' => e = .returned (.tuple #[]) ∧ DevAt w' r q { d with img := putSec d.img at_ data cut.toNat } ∧ Ext (ownB q.si) w w' := by
  refine disk_Device_do_ok _ _ _ _ ?_
  unfold disk_Device_do
  refine newS_mk (fun r5 w6 hr5 hb5 k5 hs5 => ?_)
  have kd : Keep w w6.drew := k5.drew
  have h6 := h.keep kd
  have o5 : ObjAt w6.drew r5 (wrC at_ s) := (ObjAt.new' hb5).keep (Ext.drew _ _)
  have hil := h.il
  have hnl := h.ok.l
  have hm := h.ok.m
  have hn : d.n = d.img.length / 64 := rfl
  have hic := h.i.le (by omega)
  have hsl := hb.1
  refine needSome_mk rfl ⟨_, h6.c0, at_, o5.cell 0 (by simp [wrC]), inR64 (by omega), by omega, by omega, by omega, by omega, s, o5.cell 1 (by simp [wrC]), by omega, by omega, by omega, by omega, ?_⟩
  have hb6 : bytesAt w6.drew s data := bytesAt_keep hb kd
  have hsub := bytesAt_sub hb6 (lo := 0) (hi := cut.toNat) (c := s.c) (by omega) (by omega) (by omega)
  have hdr : (data.take cut.toNat).drop 0 = data.take cut.toNat := by simp
  rw [hdr] at hsub
  have hln : (Slc.sub s 1 0 cut.toNat s.c).l = cut.toNat := by simp [Slc.sub]
  refine copy_own (sz := 1) (lo := (at_ * 64).toNat) (new := (data.take cut.toNat).map byteV) h6.i (by rw [hln]; omega) hic (by rw [hln]; simp; omega) hsub.2 (one_bytes _) (fun w' g1 g2 g3 => ?_)
  refine ⟨rfl, ?_, ?_⟩
  · refine ⟨h6.o.ext g2 h.di, ?_, h6.p.ext g2 (fun k hk hh => h.dd k hh hk) (fun k hk hh => (h.df k hk).2 hh), h.di, h.dp, h.dd, h.df, h.ok.sec h0 h1 hd (by omega)⟩
    have e1 : (at_ * 64).toNat = at_.toNat * 64 := by omega
    have e2 : (data.take cut.toNat).length = cut.toNat := by rw [List.length_take]; omega
    rw [e1] at g1
    simp only [Nat.mul_one, List.length_map, e2] at g1
    simp only [putSec, List.map_append, List.map_take, List.map_drop]
    simpa only [List.map_take] using g1
  · exact Ext.trans kd g2 (fun _ h => h.elim) (fun _ h => .inl h)

def applyL : List Wr → List UInt8 → List UInt8
  | [], m => m
  | x :: l, m => applyL l (putSec m x.1 x.2 64)
theorem applyL_snoc (l : List Wr) (x : Wr) (m : List UInt8) : applyL (l ++ [x]) m = putSec (applyL l m) x.1 x.2 64 := by
  induction l generalizing m with
  | nil => rfl
  | cons y l ih => exact ih _

/-- The k-th write, read. -/
theorem DevAt.wr {w : World} {r : Nat} {q : DevP} {d : DevS} (h : DevAt w r q d) {k : Nat} (hk : k < d.pend.length) :
    ∃ (a : Addr) (s : Slc), q.sp.p = some a ∧ rowAt w (a.add (k * 2)) 0 (wrC d.pend[k].1 s) ∧ bytesAt w s d.pend[k].2 ∧ s.l ≤ s.c ∧ (∃ hk' : k < q.wss.length, q.wss[k] = wrC d.pend[k].1 s) ∧ (0 < s.l → ∀ j, ownB s j → footC q.wss j) := by
  have hk2 : k < q.wss.length := by rw [h.p.len]; exact hk
  obtain ⟨a, ha, hsp, hrow⟩ := h.p.get hk2
  obtain ⟨s, hs, hb, hc⟩ := h.p.row k hk2 hk
  rw [hs] at hrow
  exact ⟨a, s, ha, hrow, hb, hc, ⟨hk2, hs⟩, fun h0 j hj => ⟨_, List.getElem_mem hk2, by rw [hs]; exact foot_wr_mk h0 hj⟩⟩

theorem take_snoc' {α : Type} (l : List α) (k : Nat) (h : k < l.length) : l.take (k + 1) = l.take k ++ [l[k]] := by
  rw [List.take_succ_eq_append_getElem h]

def flushS (d : DevS) : Option Nat × DevS := if (downS d).1 then (some 11, (downS d).2) else (none, { (downS d).2 with img := applyL d.pend d.img, pend := [] })

theorem DevB_nil {r : Nat} {q : DevP} {k : Nat} (h : DevB r ⟨q.si, ⟨none, 0, 0⟩, []⟩ k) : DevB r q k := by
  rcases h with rfl | hk | ⟨a, ha, _⟩ | ⟨cs, hc, _⟩
  · exact .inl rfl
  · exact .inr (.inl hk)
  · cases ha
  · simp at hc
/-- The writes are forgotten. -/
theorem DevAt.forget {w : World} {r : Nat} {q : DevP} {d : DevS} (h : DevAt w r q d) :
    canW w ((⟨r, 0, none⟩ : Addr).add 1) 1 ∧ ∀ w' : World, w' = w.setCell ((⟨r, 0, none⟩ : Addr).add 1) (⟨none, 0, 0⟩ : Slc).v → DevAt w' r ⟨q.si, ⟨none, 0, 0⟩, []⟩ { d with pend := [] } ∧ Ext (fun k => k = r) w w' := by
  rw [add_lit]
  obtain ⟨g1, g2⟩ := h.o.setOne 1 (by simp) (⟨none, 0, 0⟩ : Slc).v
  refine ⟨g1, fun w' hw => ?_⟩
  obtain ⟨g3, g4, g5⟩ := g2 w' hw
  refine ⟨⟨g3, h.i.ext g4 (fun k hk hh => h.di (hh ▸ hk)), Rows.nil WrR w', h.di, ?_, ?_, ?_, ⟨h.ok.m, h.ok.l, by simp, h.ok.f⟩⟩, g4⟩
  · rintro ⟨a, ha, _⟩; cases ha
  · rintro k _ ⟨a, ha, _⟩; cases ha
  · rintro k ⟨cs, hc, _⟩; simp at hc

theorem Flush_spec (A : Nat → Addr) {w : World} {r : Nat} {q : DevP} {d : DevS} (h : DevAt w r q d) {n0 : Nat} (hE : ErrsG dskG A n0 w) (hn : n0 ≤ r) (hp : d.pend.length ≤ 2 ^ 40) :
    Calls Tryd.prog fn_disk_Device_Flush ⟨[ptrR' r]⟩ w fun e w' => ∃ q', e = .returned (errO A (flushS d).1) ∧ DevAt w' r q' (flushS d).2 ∧ Foot (DevB r q) (DevB r q') w w' := by
  refine disk_Device_Flush_ok _ ?_
  unfold disk_Device_Flush
  refine (down_spec7 h).mono ?_
  rintro e w3 ⟨rfl, h3, k3⟩
  have hpe : (downS d).2.pend = d.pend := downS_pend d
  have him : (downS d).2.img = d.img := downS_img d
  have k3' : Ext (DevB r q) w w3 := k3.mono (fun k hk => .inl hk)
  refine ⟨_, rfl, BIf_mk (fun hb => ?_) (fun hb => ?_)⟩
  · refine ⟨_, errV_at (hE.ext k3 (fun k hk => by rw [hk]; exact hn)) 11 (by omega) _ rfl, q, ?_, ?_, k3', fun k hk => .inl hk⟩
    · simp [flushS, hb]
    · simp only [flushS, hb, if_true]; exact h3
  · generalize hd3 : (downS d).2 = d3 at h3 hpe him
    refine needSome_mk rfl ⟨_, h3.c1, ?_⟩
    have hsl := h3.p.sl
    have hp3 : d3.pend.length ≤ 2 ^ 40 := by rw [hpe]; exact hp
    refine ⟨fun i w2 => ∃ k : Nat, i = k ∧ k ≤ d3.pend.length ∧ DevAt w2 r q { d3 with img := applyL (d3.pend.take k) d3.img } ∧ Ext (ownB q.si) w3 w2, fun i _ => ((d3.pend.length : Int) - i).toNat,
      ⟨0, rfl, by omega, h3, Ext.refl _ _⟩, ?_⟩
    rintro i w11 ⟨k, rfl, hk, h11, k11⟩
    intros
    refine BIf_dec (fun h1 => ?_) (fun h1 => ?_)
    · have hkl : k < d3.pend.length := by omega
      obtain ⟨a, s, ha, hrow, hb', hc', _, hfoot⟩ := h11.wr (k := k) hkl
      refine needSome_mk ha ⟨by omega, h1, _, _, by rw [show Int.toNat (k : Int) * 2 = k * 2 by omega]; exact hrow, ?_⟩
      refine var_mk (cs := wrC d3.pend[k].1 s) rfl rfl (fun r23 w25 hr23 o23 k23 hs23 => ?_)
      refine ⟨_, _, o23.row, ?_⟩
      have hx := h3.ok.p _ (List.getElem_mem hkl)
      have h25 := h11.keep k23
      have hn : (DevS.mk (applyL (d3.pend.take k) d3.img) d3.pend d3.stops d3.left).n = d3.n := by
        have := (h11.ok.p _ (List.getElem_mem (l := d3.pend) hkl))
        have h9 : ∀ l : List Wr, (∀ x ∈ l, 0 ≤ x.1 ∧ x.1 < (d3.n : Int) ∧ x.2.length = 64) → ∀ m : List UInt8, m.length = d3.img.length → (applyL l m).length = d3.img.length := by
          intro l
          induction l with
          | nil => intro _ m hm; exact hm
          | cons x l ih =>
            intro hl m hm
            refine ih (fun y hy => hl y (by simp [hy])) _ ?_
            have hx := hl x (by simp)
            rw [putSec_length (by rw [hm]; exact h3.ok.m) hx.1 (by rw [hm]; exact hx.2.1) hx.2.2 (by omega)]
            exact hm
        show (applyL (d3.pend.take k) d3.img).length / 64 = d3.img.length / 64
        rw [h9 _ (fun x hx => h3.ok.p x (List.mem_of_mem_take hx)) _ rfl]
      have hl64 : 0 < s.l := by rw [hb'.1, hx.2.2]; omega
      refine (do_spec7 h25 d3.pend[k].1 s d3.pend[k].2 64 (bytesAt_keep hb' k23) hc' hx.1 (by rw [hn]; exact hx.2.1) (by omega) (by omega) hx.2.2 (fun j hj => h25.lt j (.inr (.inr (.inr (hfoot hl64 j hj)))))).mono ?_
      rintro e w29 ⟨rfl, h29, k29⟩
      refine ⟨rfl, inR64 (by omega), ⟨k + 1, rfl, hkl, ?_, ?_⟩, by dsimp only; omega⟩
      · rw [take_snoc' _ _ hkl, applyL_snoc]
        exact h29
      · exact (k11.trans k23 (fun _ h => h) (fun _ h => h.elim)).trans k29 (fun _ h => h) (fun _ h => .inl h)
    · have hkl : k = d3.pend.length := by omega
      subst hkl
      rw [List.take_length] at h11
      obtain ⟨g1, g2⟩ := h11.forget
      refine needSome_mk rfl ⟨g1, fun w31 hw31 => ?_⟩
      obtain ⟨g3, g4⟩ := g2 w31 hw31
      refine ⟨⟨q.si, ⟨none, 0, 0⟩, []⟩, ?_, ?_, ?_, fun k hk => .inl (DevB_nil hk)⟩
      · simp [flushS, hb]; rfl
      · simp only [flushS, hb, hd3, Bool.false_eq_true, if_false]
        rw [hpe, him] at g3
        exact g3
      · exact (k3'.trans (k11.mono (fun k hk => .inr (.inl hk))) (fun _ h => h) (fun _ h => .inl h)).trans g4 (fun _ h => h) (fun k hk => .inl (.inl hk))

/-! ### writing -/
def writeS (d : DevS) (i : Int) (b : List UInt8) : Option Nat × DevS :=
  if hasD d i = false then (some 0, d) else if b.length ≠ 64 then (some 3, d) else if (downS d).1 then (some 11, (downS d).2) else (none, { (downS d).2 with pend := d.pend ++ [(i, b)] })

theorem Write_spec7 (A : Nat → Addr) {w : World} {r : Nat} {q : DevP} {d : DevS} (h : DevAt w r q d) (i : Int) (s : Slc) (b : List UInt8) (hb : bytesAt w s b) (hl : s.l ≤ 2 ^ 30) {n0 : Nat} (hE : ErrsG dskG A n0 w) (hn : n0 ≤ r)
    (hsep : ∀ k, ownB s k → k ≠ r) (hp : d.pend.length < 2 ^ 30) :
    Calls Tryd.prog fn_disk_Device_Write ⟨[ptrR' r, .int .i64 i, s.v]⟩ w fun e w' => ∃ q', e = .returned (errO A (writeS d i b).1) ∧ DevAt w' r q' (writeS d i b).2 ∧ Foot (DevB r q) (DevB r q') w w' := by
  refine disk_Device_Write_ok _ _ _ ?_
  unfold disk_Device_Write
  refine (has_spec7 h i).mono ?_
  rintro e w5 ⟨rfl, rfl⟩
  have hsl := hb.1
  refine ⟨_, rfl, BIf_mk (fun h0 => ?_) (fun h0 => BIf_ndec (fun h1 => ?_) (fun h1 => ?_))⟩
  · have e1 : writeS d i b = (some 0, d) := by unfold writeS; rw [if_pos (by simpa using h0)]
    rw [e1]
    exact ⟨_, errV_at hE 0 (by omega) _ rfl, q, rfl, h, Foot.refl _ _⟩
  · have e1 : writeS d i b = (some 3, d) := by unfold writeS; rw [if_neg (by simpa using h0), if_pos (by omega)]
    rw [e1]
    exact ⟨_, errV_at hE 3 (by omega) _ rfl, q, rfl, h, Foot.refl _ _⟩
  · refine (down_spec7 h).mono ?_
    rintro e w10 ⟨rfl, h3, k3⟩
    have hpe : (downS d).2.pend = d.pend := downS_pend d
    have him : (downS d).2.img = d.img := downS_img d
    have k3' : Ext (DevB r q) w5 w10 := k3.mono (fun k hk => .inl hk)
    refine ⟨_, rfl, BIf_mk (fun h2 => ?_) (fun h2 => ?_)⟩
    · have e1 : writeS d i b = (some 11, (downS d).2) := by unfold writeS; rw [if_neg (by simpa using h0), if_neg (by omega), if_pos h2]
      rw [e1]
      exact ⟨_, errV_at (hE.ext k3 (fun k hk => by rw [hk]; exact hn)) 11 (by omega) _ rfl, q, rfl, h3, k3', fun k hk => .inl hk⟩
    · have e1 : writeS d i b = (none, { (downS d).2 with pend := d.pend ++ [(i, b)] }) := by unfold writeS; rw [if_neg (by simpa using h0), if_neg (by omega), if_neg (by simpa using h2)]
      rw [e1]
      generalize hd3 : (downS d).2 = d3 at h3 hpe him
      have hd := h3.keep (Ext.drew none0 _)
      refine needSome_mk rfl ⟨_, hd.c1, ?_⟩
      have hb3 : bytesAt w10.drew s b := bytesAt_keep (bytesAt_ext hb k3 hsep) (Ext.drew _ _)
      refine (CloneB_own s b _ hb3 hl).mono ?_
      rintro e w16 ⟨t, rfl, ht, hf, kc⟩
      have h16 := hd.keep kc
      refine ⟨t, rfl, ⟨_, h16.c1, rfl⟩, newS_mk (fun r19 w20 hr19 hb19 k19 hs19 => ?_)⟩
      have h20 := h16.keep k19
      have ht20 := ht.keep k19
      refine ⟨⟨_, h20.c1, rfl⟩, ?_⟩
      have hlt : ∀ k, ownB q.sp k → k < w10.heap.size := h3.p.lt
      have htl : ∀ k, ownB t k → w10.heap.size ≤ k ∧ k < w16.heap.size := fun k hk => ⟨hf k hk, OwnLt ht k hk⟩
      refine Rows.snoc (cs := wrC i t) (x := (i, b)) (z := [.int .i64 0, (⟨none, 0, 0⟩ : Slc).v]) h20.p rfl ⟨t, rfl, ht20.bytes, ht20.le (by omega)⟩ (fun k hk hh => ?_) hb19 (.inl (by simp)) (by rw [hpe]; omega) (fun s' w' g1 g2 g3 => ?_)
      · have := (htl k (foot_wr hk).2).1
        have := hlt k hh; omega
      · have o' := h20.o.ext g2 (fun hh => h3.dp hh)
        obtain ⟨c1, c2⟩ := o'.setOne 1 (by simp) s'.v
        rw [show (⟨r, 1, none⟩ : Addr) = (⟨r, 0, none⟩ : Addr).add 1 by rw [add_lit]] at c1 c2
        refine needSome_mk rfl ⟨c1, fun w25 hw25 => ?_⟩
        obtain ⟨c3, c4, c5⟩ := c2 w25 hw25
        have hsz := k19.size
        have hsz2 := kc.size
        have hds : w10.drew.heap.size = w10.heap.size := rfl
        have hrl := h3.o.lt
        have hrs : ¬ ownB s' r := fun hh => by
          rcases g3 r hh with h5 | h5
          · exact h3.dp h5
          · omega
        have g1' : Rows WrR w25 s' (d3.pend ++ [(i, b)]) (q.wss ++ [wrC i t]) := g1.ext c4 (fun k hk hh => hrs (hh ▸ hk)) (fun k hk hh => by
          obtain ⟨cs, hc, hk⟩ := hk
          rcases List.mem_append.1 hc with h6 | h6
          · exact (h3.df k ⟨cs, h6, hk⟩).1 hh
          · rw [List.mem_singleton] at h6; subst h6
            have := (htl k (foot_wr hk).2).1; omega)
        have hfoot : ∀ k, DevB r ⟨q.si, s', q.wss ++ [wrC i t]⟩ k → DevB r q k ∨ w5.heap.size ≤ k := by
          have hz := k3.size
          rintro k (rfl | hk | hk | ⟨cs, hc, hk⟩)
          · exact .inl (.inl rfl)
          · exact .inl (.inr (.inl hk))
          · rcases g3 k hk with h5 | h5
            · exact .inl (.inr (.inr (.inl h5)))
            · exact .inr (by omega)
          · rcases List.mem_append.1 hc with h6 | h6
            · exact .inl (.inr (.inr (.inr ⟨cs, h6, hk⟩)))
            · rw [List.mem_singleton] at h6; subst h6
              have := (htl k (foot_wr hk).2).1
              exact .inr (by omega)
        refine ⟨⟨q.si, s', q.wss ++ [wrC i t]⟩, rfl, ⟨c3, ?_, by rw [hpe] at g1'; exact g1', h3.di, hrs, ?_, ?_, ?_⟩, ?_, hfoot⟩
        · exact (h20.i.ext g2 (fun k hk hh => h3.dd k hk hh)).ext c4 (fun k hk hh => h3.di (hh ▸ hk))
        · intro k hk hh
          rcases g3 k hh with h5 | h5
          · exact h3.dd k hk h5
          · have := OwnLt h3.i k hk; omega
        · rintro k ⟨cs, hc, hk⟩
          rcases List.mem_append.1 hc with h6 | h6
          · exact h3.df k ⟨cs, h6, hk⟩
          · rw [List.mem_singleton] at h6; subst h6
            have h7 := (htl k (foot_wr hk).2).1
            exact ⟨by omega, fun hh => by have := OwnLt h3.i k hh; omega⟩
        · refine ⟨h3.ok.m, h3.ok.l, fun x hx => ?_, h3.ok.f⟩
          have hn3 : (DevS.mk d3.img (d.pend ++ [(i, b)]) d3.stops d3.left).n = d3.n := rfl
          rcases List.mem_append.1 hx with h6 | h6
          · rw [hn3]; exact h3.ok.p x (by rw [hpe]; exact h6)
          · rw [List.mem_singleton] at h6; subst h6
            rw [hn3]
            have h7 : hasD d i = true := by simpa using h0
            have h8 : d3.n = d.n := by unfold DevS.n; rw [him]
            unfold hasD at h7
            have h9 := of_decide_eq_true h7
            exact ⟨h9.1, by rw [h8]; exact h9.2, by show b.length = 64; omega⟩
        · have x1 : Ext (DevB r q) w5 w20 := (k3'.trans (Keep.trans (Ext.drew none0 _) (kc.trans k19)) (fun _ h => h) (fun _ h => h.elim))
          exact (x1.trans g2 (fun _ h => h) (fun k hk => .inl (.inr (.inr (.inl hk))))).trans c4 (fun _ h => h) (fun k hk => .inl (.inl hk))
end Go.D
