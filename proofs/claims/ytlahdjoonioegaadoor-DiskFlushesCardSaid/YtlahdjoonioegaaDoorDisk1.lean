/-
  WHAT IS PROVED: contracts of functions, and the plain law, for this proof. No further conditions.
-/
import Derived.Test.YtlahdjoonioegaaDoorVCdisk
import Derived.Test.YtlahdjoonioegaaDoorCloneB
import Derived.Test.YtlahdjoonioegaaDoorErrB
import Derived.Test.YtlahdjoonioegaaDoorRowsM
import Derived.Test.YtlahdjoonioegaaDoorRangeM
import Derived.Test.YtlahdjoonioegaaDoorCopyM
set_option linter.unusedVariables false
set_option linter.unusedSimpArgs false
namespace Go.D
open Go Go.Proofs

theorem bytesAt_ltX {w : World} {s : Slc} {b : List UInt8} (h : bytesAt w s b) (hl : 0 < s.l) : ∀ k, ownB s k → k < w.heap.size := by
  rintro k ⟨a, ha, rfl⟩
  have hb : 0 < (b.map byteV).length := by rw [List.length_map, ← h.1]; exact hl
  obtain ⟨a', ha', hc⟩ := cellsAt_get h.2 hb
  rw [ha] at ha'
  cases ha'
  have := World.block_lt_of_cell? w _ hc
  rwa [add_block] at this
theorem bytesAt_stayX {M : Nat → Prop} {w w' : World} {s : Slc} {b : List UInt8} (h : bytesAt w s b) (he : Ext M w w') (hm : 0 < s.l → ∀ k, ownB s k → ¬ M k) : bytesAt w' s b := by
  rcases Nat.eq_zero_or_pos s.l with h0 | h0
  · have : b = [] := by have := h.1; rw [h0] at this; exact List.length_eq_zero_iff.1 this.symm
    subst this
    exact ⟨h.1, .inl rfl⟩
  · exact bytesAt_ext h he (hm h0)
theorem drew_heap (w : World) (k : Nat) : w.drew.heap[k]? = w.heap[k]? := rfl
theorem drew_size (w : World) : w.drew.heap.size = w.heap.size := rfl

/-! ### writes that aren't durable -/
abbrev Wr := Int × List UInt8
def wrC (n : Int) (s : Slc) : List Value := [.int .i64 n, s.v]
theorem foot_wr {n : Int} {s : Slc} {k : Nat} (h : footV (wrC n s) k) : 0 < s.l ∧ ownB s k := by
  obtain ⟨s', hs, h1, h2⟩ := h
  have : s' = s := by
    obtain ⟨p, l, c⟩ := s
    obtain ⟨p', l', c'⟩ := s'
    simp [wrC, Slc.v] at hs
    obtain ⟨rfl, rfl, rfl⟩ := hs
    rfl
  subst this
  exact ⟨h1, h2⟩
theorem foot_wr_mk {n : Int} {s : Slc} {k : Nat} (h0 : 0 < s.l) (h : ownB s k) : footV (wrC n s) k := ⟨s, by simp [wrC], h0, h⟩
def WrR : RowD Wr where
  n := 2
  pos := by omega
  R w x cs := ∃ s : Slc, cs = wrC x.1 s ∧ bytesAt w s x.2 ∧ s.l ≤ s.c
  len := by rintro w x cs ⟨s, rfl, _⟩; rfl
  one := by rintro w x cs ⟨s, rfl, _⟩; intro v hv; simp [wrC] at hv; rcases hv with rfl | rfl <;> rfl
  ext := by
    rintro M w w' x cs ⟨s, rfl, h, h2⟩ he hm
    exact ⟨s, rfl, bytesAt_stayX h he (fun h0 k hk => hm k (foot_wr_mk h0 hk)), h2⟩
  lt := by
    rintro w x cs ⟨s, rfl, h, _⟩ k hk
    obtain ⟨h0, hk⟩ := foot_wr hk
    exact bytesAt_ltX h h0 k hk

/-! ### a device -/
structure DevP where
  si : Slc
  sp : Slc
  wss : List (List Value)
structure DevS where
  img : List UInt8
  pend : List Wr
  stops : Bool
  left : Int
def DevS.n (d : DevS) : Nat := d.img.length / 64
structure DevOk (d : DevS) : Prop where
  m : d.img.length % 64 = 0
  l : d.img.length ≤ 262144
  p : ∀ x ∈ d.pend, 0 ≤ x.1 ∧ x.1 < (d.n : Int) ∧ x.2.length = 64
  f : 0 ≤ d.left ∧ d.left ≤ 9223372036854775807
structure DevAt (w : World) (r : Nat) (q : DevP) (d : DevS) : Prop where
  o : ObjAt w r [q.si.v, q.sp.v, .bool d.stops, .int .i64 d.left]
  i : Own w q.si 1 (d.img.map byteV)
  p : Rows WrR w q.sp d.pend q.wss
  di : ¬ ownB q.si r
  dp : ¬ ownB q.sp r
  dd : ∀ k, ownB q.si k → ¬ ownB q.sp k
  df : ∀ k, footC q.wss k → k ≠ r ∧ ¬ ownB q.si k
  ok : DevOk d
/-- The blocks of a device. -/
def DevB (r : Nat) (q : DevP) (k : Nat) : Prop := k = r ∨ ownB q.si k ∨ ownB q.sp k ∨ footC q.wss k

section
variable {w w' : World} {r : Nat} {q : DevP} {d : DevS}
theorem DevAt.ext {M : Nat → Prop} (h : DevAt w r q d) (he : Ext M w w') (hm : ∀ k, DevB r q k → ¬ M k) : DevAt w' r q d :=
  ⟨h.o.ext he (hm r (.inl rfl)), h.i.ext he (fun k hk => hm k (.inr (.inl hk))), h.p.ext he (fun k hk => hm k (.inr (.inr (.inl hk)))) (fun k hk => hm k (.inr (.inr (.inr hk)))), h.di, h.dp, h.dd, h.df, h.ok⟩
theorem DevAt.keep (h : DevAt w r q d) (he : Keep w w') : DevAt w' r q d := h.ext he (fun _ _ h => h)
theorem DevAt.lt (h : DevAt w r q d) : ∀ k, DevB r q k → k < w.heap.size := by
  rintro k (rfl | hk | hk | hk)
  · exact h.o.lt
  · exact OwnLt h.i k hk
  · exact h.p.lt k hk
  · exact h.p.flt k hk
theorem DevAt.c0 (h : DevAt w r q d) : w.cell? ⟨r, 0, none⟩ = some q.si.v := h.o.cell 0 (by simp)
theorem DevAt.c1 (h : DevAt w r q d) : w.cell? ((⟨r, 0, none⟩ : Addr).add 1) = some q.sp.v := by rw [add_lit]; exact h.o.cell 1 (by simp)
theorem DevAt.c2 (h : DevAt w r q d) : w.cell? ((⟨r, 0, none⟩ : Addr).add 2) = some (.bool d.stops) := by rw [add_lit]; exact h.o.cell 2 (by simp)
theorem DevAt.c3 (h : DevAt w r q d) : w.cell? ((⟨r, 0, none⟩ : Addr).add 3) = some (.int .i64 d.left) := by rw [add_lit]; exact h.o.cell 3 (by simp)
theorem DevAt.il (h : DevAt w r q d) : q.si.l = d.img.length := by have := h.i.1; simpa using this
end
abbrev ptrR' (r : Nat) : Value := .pointer (some ⟨r, 0, none⟩)

/-- The errors of this layer. -/
def dskG : List Nat := [gl_ErrRange, gl_ErrForm, gl_ErrDown]
theorem errV_at {A : Nat → Addr} {n0 : Nat} {w : World} (h : ErrsG dskG A n0 w) (k : Nat) (hk : k < 19) (g : Nat) (hg : g = errG.getD k 0) (hm : g ∈ dskG := by simp [dskG]) : w.cell? (⟨g, 0, none⟩ : Addr) = some (errO A (some k)) := by
  subst hg; exact h.at hm
theorem dskG_sub : ∀ g ∈ dskG, g ∈ errG := by decide

/-! ### its functions -/
theorem Len_spec7 {w : World} {r : Nat} {q : DevP} {d : DevS} (h : DevAt w r q d) :
    Calls Tryd.prog fn_disk_Device_Len ⟨[ptrR' r]⟩ w fun e w' => e = .returned (.int .i64 (d.n : Int)) ∧ w' = w := by
  refine disk_Device_Len_ok _ ?_
  unfold disk_Device_Len
  have hl := h.il
  have := h.ok.l
  refine needSome_mk rfl ⟨_, h.c0, by omega, by omega, inR64 (by omega), ?_, rfl⟩
  rw [hl]; rfl
def hasD (d : DevS) (i : Int) : Bool := decide (0 ≤ i ∧ i < (d.n : Int))
theorem has_spec7 {w : World} {r : Nat} {q : DevP} {d : DevS} (h : DevAt w r q d) (i : Int) :
    Calls Tryd.prog fn_disk_Device_has ⟨[ptrR' r, .int .i64 i]⟩ w fun e w' => e = .returned (.bool (hasD d i)) ∧ w' = w := by
  refine disk_Device_has_ok _ _ ?_
  unfold disk_Device_has hasD
  refine BIf_dec (fun h0 => ?_) (fun h0 => ⟨by rw [decide_eq_false (by omega)], rfl⟩)
  refine (Len_spec7 h).mono ?_
  rintro e w4 ⟨rfl, rfl⟩
  exact ⟨_, rfl, by congr 2; simp [h0], rfl⟩
theorem Pending_spec {w : World} {r : Nat} {q : DevP} {d : DevS} (h : DevAt w r q d) :
    Calls Tryd.prog fn_disk_Device_Pending ⟨[ptrR' r]⟩ w fun e w' => e = .returned (.int .i64 (d.pend.length : Int)) ∧ w' = w := by
  refine disk_Device_Pending_ok _ ?_
  unfold disk_Device_Pending
  refine needSome_mk rfl ⟨_, h.c1, ?_, rfl⟩
  rw [h.p.sl]
theorem Down_spec {w : World} {r : Nat} {q : DevP} {d : DevS} (h : DevAt w r q d) :
    Calls Tryd.prog fn_disk_Device_Down ⟨[ptrR' r]⟩ w fun e w' => e = .returned (.bool (d.stops && decide (d.left = 0))) ∧ w' = w := by
  refine disk_Device_Down_ok _ ?_
  unfold disk_Device_Down
  refine needSome_mk rfl ⟨_, h.c2, BIf_mk (fun h0 => ?_) (fun h0 => ⟨by rw [h0]; rfl, rfl⟩)⟩
  exact needSome_mk rfl ⟨_, h.c3, by rw [h0]; rfl, rfl⟩
theorem Image_spec {w : World} {r : Nat} {q : DevP} {d : DevS} (h : DevAt w r q d) :
    Calls Tryd.prog fn_disk_Device_Image ⟨[ptrR' r]⟩ w fun e w' => ∃ t : Slc, e = .returned t.v ∧ Own w' t 1 (d.img.map byteV) ∧ Fresh w t ∧ Keep w w' := by
  refine disk_Device_Image_ok _ ?_
  unfold disk_Device_Image
  have := h.ok.l
  have hl := h.il
  refine needSome_mk rfl ⟨_, h.c0, (CloneB_own q.si d.img w h.i.bytes (by omega)).mono ?_⟩
  rintro e w5 ⟨t, rfl, ht, hf, hk⟩
  exact ⟨t, rfl, t, rfl, ht, hf, hk⟩

def downS (d : DevS) : Bool × DevS := if d.stops = false then (false, d) else if d.left = 0 then (true, d) else (false, { d with left := d.left - 1 })
theorem downS_img (d : DevS) : (downS d).2.img = d.img := by unfold downS; split; rfl; split <;> rfl
theorem downS_pend (d : DevS) : (downS d).2.pend = d.pend := by unfold downS; split; rfl; split <;> rfl
theorem downS_stops (d : DevS) : (downS d).2.stops = d.stops := by unfold downS; split; rfl; split <;> rfl
theorem down_spec7 {w : World} {r : Nat} {q : DevP} {d : DevS} (h : DevAt w r q d) :
    Calls Tryd.prog fn_disk_Device_down ⟨[ptrR' r]⟩ w fun e w' => e = .returned (.bool (downS d).1) ∧ DevAt w' r q (downS d).2 ∧ Ext (fun k => k = r) w w' := by
  refine disk_Device_down_ok _ ?_
  unfold disk_Device_down downS
  refine needSome_mk rfl ⟨_, h.c2, BIf_mk (fun h0 => ?_) (fun h0 => ?_)⟩
  · have : d.stops = false := by simpa using h0
    rw [if_pos this]
    exact ⟨rfl, h, Ext.refl _ _⟩
  · have : ¬ d.stops = false := by simpa using h0
    rw [if_neg this]
    refine needSome_mk rfl ⟨_, h.c3, BIf_dec (fun h1 => ?_) (fun h1 => ?_)⟩
    · rw [if_pos h1]; exact ⟨rfl, h, Ext.refl _ _⟩
    · rw [if_neg h1]
      have hf := h.ok.f
      refine needSome_mk rfl ⟨_, h.c3, inR64 (by omega), needSome_mk rfl ?_⟩
      obtain ⟨g1, g2⟩ := h.o.setOne 3 (by simp) (.int .i64 (d.left - 1))
      rw [add_lit]
      refine ⟨g1, fun w9 hw9 => ?_⟩
      obtain ⟨g3, g4, g5⟩ := g2 w9 hw9
      exact ⟨rfl, ⟨g3, h.i.ext g4 (fun k hk hh => h.di (hh ▸ hk)), h.p.ext g4 (fun k hk hh => h.dp (hh ▸ hk)) (fun k hk hh => (h.df k hk).1 hh), h.di, h.dp, h.dd, h.df, ⟨h.ok.m, h.ok.l, h.ok.p, by simp only; omega⟩⟩, g4⟩

/-- A device of noughts, or of an image. -/
theorem dev_new {w : World} {si : Slc} {img : List UInt8} {T : TypeId} {K : Value → World → Prop} (hi : Own w si 1 (img.map byteV)) (hm : img.length % 64 = 0) (hl : img.length ≤ 262144)
    (hK : ∀ r w', DevAt w' r ⟨si, ⟨none, 0, 0⟩, []⟩ ⟨img, [], false, 0⟩ → Keep w w' → w.heap.size ≤ r → K (ptrR' r) w') :
    newS w (.cells ⟨[si.v, (⟨none, 0, 0⟩ : Slc).v, .bool false, .int .i64 0]⟩ T) fun r w1 => K (ptrR' r) w1 := by
  refine newS_mk (fun r w1 hr hb hk hs => hK r w1 ⟨ObjAt.new' hb, hi.keep hk, Rows.nil WrR w1, fun hh => by have := OwnLt hi r hh; omega, ?_, ?_, ?_, ⟨hm, hl, by simp, by simp⟩⟩ hk (by omega))
  · rintro ⟨a, ha, _⟩; cases ha
  · rintro k _ ⟨a, ha, _⟩; cases ha
  · rintro k ⟨cs, hc, _⟩; simp at hc

theorem DevB_new {r : Nat} {si : Slc} {w0 : World} (hr : w0.heap.size ≤ r) (hf : Fresh w0 si) : ∀ k, DevB r ⟨si, ⟨none, 0, 0⟩, []⟩ k → w0.heap.size ≤ k := by
  rintro k (rfl | hk | ⟨a, ha, _⟩ | ⟨cs, hc, _⟩)
  · exact hr
  · exact hf k hk
  · cases ha
  · simp at hc

def newD (n : Nat) : DevS := ⟨List.replicate (n * 64) 0, [], false, 0⟩
theorem New_spec7 (A : Nat → Addr) (n : Int) (w : World) {n0 : Nat} (hE : ErrsG dskG A n0 w) :
    Calls Tryd.prog fn_disk_New ⟨[.int .i64 n]⟩ w fun e w' => Keep w w' ∧
      (if n < 1 ∨ 4096 < n then e = .returned (.tuple ⟨[.pointer none, errO A (some 0)]⟩)
       else ∃ r q, e = .returned (.tuple ⟨[ptrR' r, .nilIface]⟩) ∧ DevAt w' r q (newD n.toNat) ∧ ∀ k, DevB r q k → w.heap.size ≤ k) := by
  refine disk_New_ok _ ?_
  unfold disk_New
  refine BIf_dec (fun h0 => ?_) (fun h0 => BIf_dec (fun h1 => ?_) (fun h1 => ?_))
  · exact ⟨_, errV_at hE 0 (by omega) _ rfl, Ext.drew _ _, by rw [if_pos (.inl h0)]⟩
  · exact ⟨_, errV_at hE 0 (by omega) _ rfl, Ext.drew _ _, by rw [if_pos (.inr h1)]⟩
  · refine ⟨inR64 (by omega), by omega, by omega, by omega, newS_mk (fun r w5 hr hb hk hs => ?_)⟩
    have e1 : Int.toNat (n * 64) = n.toNat * 64 := by omega
    rw [e1] at hb
    have ho := Own.zeros hb
    rw [e1]
    refine dev_new (K := fun v w' => Keep w w' ∧ (if n < 1 ∨ 4096 < n then Ending.returned (Value.tuple ⟨[v, Value.nilIface]⟩) = .returned (.tuple ⟨[.pointer none, errO A (some 0)]⟩)
       else ∃ r q, Ending.returned (Value.tuple ⟨[v, Value.nilIface]⟩) = .returned (.tuple ⟨[ptrR' r, .nilIface]⟩) ∧ DevAt w' r q (newD n.toNat) ∧ ∀ k, DevB r q k → w.heap.size ≤ k)) ho (by simp) (by simp; omega) (fun r6 w7 h7 k7 hr6 => ?_)
    exact ⟨hk.trans k7, by rw [if_neg (by omega)]; exact ⟨r6, _, rfl, h7, DevB_new (by have := hk.size; omega) (Fresh.at (by omega))⟩⟩

theorem From_spec (A : Nat → Addr) (s : Slc) (img : List UInt8) (w : World) (hb : bytesAt w s img) (hl : s.l ≤ 2 ^ 30) {n0 : Nat} (hE : ErrsG dskG A n0 w) :
    Calls Tryd.prog fn_disk_From ⟨[s.v]⟩ w fun e w' => Keep w w' ∧
      (if img.length = 0 ∨ img.length % 64 ≠ 0 ∨ 262144 < img.length then e = .returned (.tuple ⟨[.pointer none, errO A (some 3)]⟩)
       else ∃ r q, e = .returned (.tuple ⟨[ptrR' r, .nilIface]⟩) ∧ DevAt w' r q ⟨img, [], false, 0⟩ ∧ ∀ k, DevB r q k → w.heap.size ≤ k) := by
  refine disk_From_ok _ ?_
  unfold disk_From
  have hsl := hb.1
  refine BIf_dec (fun h0 => ?_) (fun h0 => ⟨by omega, by omega, BIf_ndec (fun h1 => ?_) (fun h1 => ⟨by omega, by omega, inR64 (by omega), BIf_dec (fun h2 => ?_) (fun h2 => ?_)⟩)⟩)
  · exact ⟨_, errV_at hE 3 (by omega) _ rfl, Ext.drew _ _, by rw [if_pos (.inl (by omega))]⟩
  · exact ⟨_, errV_at hE 3 (by omega) _ rfl, Ext.drew _ _, by rw [if_pos (.inr (.inl (by omega)))]⟩
  · exact ⟨_, errV_at hE 3 (by omega) _ rfl, Ext.drew _ _, by rw [if_pos (.inr (.inr (by omega)))]⟩
  · refine (CloneB_own s img w hb hl).mono ?_
    rintro e w6 ⟨t, rfl, ht, hf, hk⟩
    refine ⟨t, rfl, ?_⟩
    refine dev_new (K := fun v w' => Keep w w' ∧ (if img.length = 0 ∨ img.length % 64 ≠ 0 ∨ 262144 < img.length then Ending.returned (Value.tuple ⟨[v, Value.nilIface]⟩) = .returned (.tuple ⟨[.pointer none, errO A (some 3)]⟩)
       else ∃ r q, Ending.returned (Value.tuple ⟨[v, Value.nilIface]⟩) = .returned (.tuple ⟨[ptrR' r, .nilIface]⟩) ∧ DevAt w' r q ⟨img, [], false, 0⟩ ∧ ∀ k, DevB r q k → w.heap.size ≤ k)) ht (by omega) (by omega) (fun r6 w7 h7 k7 hr6 => ?_)
    exact ⟨hk.trans k7, by rw [if_neg (by omega)]; exact ⟨r6, _, rfl, h7, DevB_new (by have := hk.size; omega) hf⟩⟩
end Go.D
