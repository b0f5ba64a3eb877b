/-
  WHAT IS PROVED: contracts of functions, and the plain law, for this proof. No further conditions.
-/
import Derived.Test.YtjhhgmcigjgojaaDoorParts1
set_option linter.unusedVariables false
set_option linter.unusedSimpArgs false
namespace Go.D
open Go Go.Proofs

/-! ### the parts of a checkpoint -/
abbrev Pt := Int × Int × List UInt8
def ptC (sh up p q : Int) (sd : Slc) : List Value := [.int .i64 5, .int .i64 sh, .int .i64 0, .int .i64 0, .int .i64 0, .int .i64 0, (⟨none, 0, 0⟩ : Slc).v, strV [], .int .i64 up, .int .i64 p, .int .i64 q, sd.v]
theorem foot_pt {sh up p q : Int} {s : Slc} {k : Nat} (h : footV (ptC sh up p q s) k) : 0 < s.l ∧ ownB s k := by
  obtain ⟨s', hs, h1, h2⟩ := h
  have : s' = s := by
    obtain ⟨p, l, c⟩ := s
    obtain ⟨p', l', c'⟩ := s'
    simp [ptC, Slc.v, strV] at hs
    rcases hs with ⟨rfl, rfl, rfl⟩ | ⟨rfl, rfl, rfl⟩
    · simp at h1
    · rfl
  subst this
  exact ⟨h1, h2⟩
theorem foot_pt_mk {sh up p q : Int} {s : Slc} {k : Nat} (h0 : 0 < s.l) (h : ownB s k) : footV (ptC sh up p q s) k := ⟨s, by simp [ptC], h0, h⟩
def PtR (sh up : Int) : RowD Pt where
  n := 12
  pos := by omega
  R w x cs := ∃ s : Slc, cs = ptC sh up x.1 x.2.1 s ∧ bytesAt w s x.2.2 ∧ s.l ≤ s.c
  len := by rintro w x cs ⟨s, rfl, _⟩; rfl
  one := by rintro w x cs ⟨s, rfl, _⟩; intro v hv; simp [ptC] at hv; rcases hv with rfl | rfl | rfl | rfl | rfl | rfl | rfl | rfl | rfl <;> rfl
  ext := by
    rintro M w w' x cs ⟨s, rfl, h, h2⟩ he hm
    exact ⟨s, rfl, bytesAt_stayX h he (fun h0 k hk => hm k (foot_pt_mk h0 hk)), h2⟩
  lt := by
    rintro w x cs ⟨s, rfl, h, _⟩ k hk
    obtain ⟨h0, hk⟩ := foot_pt hk
    exact bytesAt_ltX h h0 k hk

/-- The first k parts, m of which tell the number of parts. -/
def ptsL (B : List UInt8) (n m k : Nat) : List Pt := (List.range k).map fun (i : Nat) => ((i : Int), if i < m then (n : Int) else 0, chunkB B 256 i)
theorem ptsL_len (B : List UInt8) (n m k : Nat) : (ptsL B n m k).length = k := by simp [ptsL]
theorem ptsL_get {B : List UInt8} {n m k i : Nat} (h : i < (ptsL B n m k).length) : (ptsL B n m k)[i] = ((i : Int), if i < m then (n : Int) else 0, chunkB B 256 i) := by simp [ptsL]
theorem ptsL_succ {B : List UInt8} {n m k : Nat} (h : m ≤ k) : ptsL B n m (k + 1) = ptsL B n m k ++ [((k : Int), 0, chunkB B 256 k)] := by
  unfold ptsL
  rw [List.range_succ, List.map_append]
  simp; omega
theorem ptsL_set {B : List UInt8} {n m k : Nat} (h : m < k) : (ptsL B n m k).set m ((m : Int), (n : Int), chunkB B 256 m) = ptsL B n (m + 1) k := by
  refine List.ext_getElem (by simp [ptsL]) (fun i h1 h2 => ?_)
  rw [ptsL_get h2, List.getElem_set]
  split
  · rename_i he; subst he; simp
  · rename_i he
    rw [ptsL_get]
    have : i < m ↔ i < m + 1 := by omega
    simp [this]
def partsN (b : List UInt8) : Nat := (4 + b.length + 255) / 256
def partsOk (sh up : Int) : Bool := decide (0 ≤ sh ∧ sh ≤ 12 ∧ 0 ≤ up ∧ up ≤ 4096)
def partsP (sh up : Int) (b : List UInt8) : Except Nat (List Pt) :=
  if partsOk sh up = false then .error 0 else if 64 < partsN b then .error 12 else .ok (ptsL (summedB b) (partsN b) (partsN b) (partsN b))
def ckG : List Nat := [gl_ErrRange, gl_ErrFull]

theorem bytesAt_loop {M : Nat → Prop} {w w' : World} {sd : Slc} {b : List UInt8} {lr : Nat} {o : Loop} (h : bytesAt w sd b) (hl : w.heap[lr]? = some (.loop o)) (he : Ext (fun k => k = lr) w w') : bytesAt w' sd b := by
  refine bytesAt_stayX h he (fun h0 j hj hh => ?_)
  subst hh
  obtain ⟨a, ha, rfl⟩ := hj
  obtain ⟨a', ha', hc'⟩ := cellsAt_get h.2 (i := 0) (by rw [List.length_map, ← h.1]; exact h0)
  rw [ha] at ha'; cases ha'
  have : w.cell? (a.add 0) = none := by
    unfold World.cell?
    rw [add_block, hl]
  rw [this] at hc'; cases hc'

def PartsRes (A : Nat → Addr) (w : World) (sh up : Int) (b : List UInt8) (x : Ending) (w' : World) : Prop :=
  Keep w w' ∧ match partsP sh up b with
    | .ok L => ∃ (t : Slc) (css : List (List Value)), x = .returned (.tuple ⟨[t.v, .nilIface]⟩) ∧ Rows (PtR sh up) w' t L css
    | .error k => x = .returned (.tuple ⟨[(⟨none, 0, 0⟩ : Slc).v, errO A (some k)]⟩)

theorem Parts_spec (A : Nat → Addr) {n0 : Nat} (sh up : Int) (s : Slc) (b : List UInt8) (w : World) (hb : bytesAt w s b) (hl : b.length ≤ 2 ^ 19) (hE : ErrsG ckG A n0 w) :
    Calls Tryd.prog fn_check_Parts ⟨[.int .i64 sh, .int .i64 up, s.v]⟩ w fun x w' => PartsRes A w sh up b x w' := by
  refine check_Parts_ok _ _ _ ?_
  unfold check_Parts
  refine newS_mk (fun r4 w5 hr4 hb4 k4 hs4 => newS_mk (fun r6 w7 hr6 hb6 k6 hs6 => ?_))
  have z4 := k4.size
  have k7 := k4.trans k6
  have o4 : ObjAt w7 r4 [.int .i64 sh] := (ObjAt.new' hb4).keep k6
  have o6 : ObjAt w7 r6 [.int .i64 up] := ObjAt.new' hb6
  have bad : partsOk sh up = false → PartsRes A w sh up b (.returned (.tuple ⟨[(⟨none, 0, 0⟩ : Slc).v, errO A (some 0)]⟩)) w7.drew := fun h => by
    refine ⟨k7.drew, ?_⟩
    have : partsP sh up b = .error 0 := by unfold partsP; rw [if_pos h]
    rw [this]
  have hErr : (World.drew w7).cell? ⟨gl_ErrRange, 0, none⟩ = some (errO A (some 0)) := errG_at (hE.keep k7.drew) 0 _ rfl (by simp [ckG])
  refine ⟨_, o4.cell 0 (by simp), BIf_dec (fun h1 => ⟨_, hErr, bad (decide_eq_false (by omega))⟩) (fun h1 => ⟨_, o4.cell 0 (by simp), BIf_dec (fun h2 => ⟨_, hErr, bad (decide_eq_false (by omega))⟩) (fun h2 =>
    ⟨_, o6.cell 0 (by simp), BIf_dec (fun h3 => ⟨_, hErr, bad (decide_eq_false (by omega))⟩) (fun h3 => ⟨_, o6.cell 0 (by simp), BIf_dec (fun h4 => ⟨_, hErr, bad (decide_eq_false (by omega))⟩) (fun h4 => ?_)⟩)⟩)⟩)⟩
  have hok : partsOk sh up = true := decide_eq_true (by omega)
  refine newS_mk (fun r16 w17 hr16 hb16 k16 hs16 => ?_)
  have k17 := k7.trans k16
  have z6 := k6.size
  have o16 : ObjAt w17 r16 [(⟨none, 0, 0⟩ : Slc).v] := ObjAt.new' hb16
  refine (summed_spec s b w17 (bytesAt_keep hb k17) (by omega)).mono ?_
  rintro e w19 ⟨s20, rfl, h20, f20, k19⟩
  refine ⟨s20, rfl, ?_⟩
  refine (Chunk_spec s20 256 (by omega) w19).mono ?_
  rintro e w22 ⟨b1, b2, rfl, ob1, ob2, k22, hb1, hb2⟩
  refine ⟨_, rfl, fn_slices_Chunk_byte_1, [], [ptrR' b1, ptrR' b2], rfl, by rfl, ?_⟩
  intro D lr rc w27 hD hlr hw27 hY
  have N := newRange hD hlr hw27
  obtain ⟨B, hB⟩ : ∃ B, B = summedB b := ⟨_, rfl⟩
  rw [← hB] at h20
  have hBl : B.length = 4 + b.length := by rw [hB, summed_len]
  have k1927 : Keep w19 w27 := k22.trans N.k
  have k1727 : Keep w17 w27 := k19.trans k1927
  have k27 : Keep w w27 := k17.trans k1727
  have z16 := k16.size
  have z19 := k19.size
  have z22 := k22.size
  have hdw := N.dw
  have hdl := N.dl
  have o4' := (o4.keep k16).keep k1727
  have o6' := (o6.keep k16).keep k1727
  have o16' := o16.keep k1727
  have h20' := h20.keep k1927
  have ob1' := ob1.keep N.k
  have ob2' := ob2.keep N.k
  have hb1D : b1 < D := by have := ob1.lt; omega
  have hb2D : b2 < D := by have := ob2.lt; omega
  have h20D : ∀ j, ownB s20 j → w17.heap.size ≤ j ∧ j < D := fun j hj => ⟨f20 j hj, by have := OwnLt h20 j hj; omega⟩
  have h20c : s20.l ≤ s20.c := h20.le (by omega)
  let J : Nat → World → Prop := fun k w2 => Ext (fun j => j = r16 ∨ D ≤ j) w27 w2 ∧ w2.heap[lr]? = some (.loop (rc .ready none)) ∧ w2.heap[D]? = some (.deferred (some [])) ∧
    ∃ (t : Slc) (css : List (List Value)), ObjAt w2 r16 [t.v] ∧ Rows (PtR sh up) w2 t (ptsL B 0 0 k) css ∧ (∀ j, ownB t j → lr < j) ∧ ∀ j, footC css j → lr < j
  have hJs : ∀ {k w2}, J k w2 → Own w2 s20 1 (B.map byteV) := fun hj => h20'.ext hj.1 (fun k hk hh => by have := h20D k hk; omega)
  have step : ∀ k (hk : k * 256 < B.length) (w : World) (sd : Slc), J k w → bytesAt w sd (chunkB B 256 k) →
      YieldC Tryd.prog lr ⟨[sd.v]⟩ w fun e w' => e = .returned (.bool true) ∧ J (k + 1) w' := by
    intro k hk w28 sd hj hsd
    obtain ⟨x28, l28, d28, t, css, ot, hR, ht, hcss⟩ := hj
    refine hY _ _ _ l28 ⟨l28, fun w31 hw31 => ?_⟩
    have e31 : Ext (fun j => j = lr) w28 w31 := by rw [hw31]; exact Ext.putObj _ _ _
    have l31 : w31.heap[lr]? = some (.loop (rc .busy none)) := by rw [hw31]; exact putObj_new l28
    have d31 : w31.heap[D]? = some (.deferred (some [])) := e31.heap d28 (fun hh => by omega)
    have hlrlt := lt_of_heap l28
    have hz31 : w31.heap.size = w28.heap.size := by rw [hw31]; exact putObj_size _ _ _
    have sd31 := bytesAt_loop (M := none0) hsd l28 e31
    have x31 : Ext (fun j => j = r16 ∨ D ≤ j) w27 w31 := x28.trans e31 (fun _ h => h) (fun j hj => .inl (by omega))
    have kd : Keep w31 w31.drew := Ext.drew none0 _
    have xd : Ext (fun j => j = r16 ∨ D ≤ j) w27 w31.drew := x31.trans kd (fun _ h => h) (fun _ h => h.elim)
    have otd := (ot.ext e31 (fun hh => by omega)).keep kd
    have o4d := o4'.ext xd (fun hh => by omega)
    have o6d := o6'.ext xd (fun hh => by omega)
    refine ⟨t, otd.cell 0 (by simp), sh, o4d.cell 0 (by simp), up, o6d.cell 0 (by simp), t, otd.cell 0 (by simp), ?_⟩
    have hcl : (chunkB B 256 k).length ≤ 256 := by unfold chunkB; simp; omega
    refine (CloneB_own sd _ _ (bytesAt_keep sd31 kd) (by rw [sd31.1]; omega)).mono ?_
    rintro e w37 ⟨s38, rfl, h38, f38, k37⟩
    have k3137 : Keep w31 w37 := kd.trans k37
    have x37 : Ext (fun j => j = r16 ∨ D ≤ j) w27 w37 := x31.trans k3137 (fun _ h => h) (fun _ h => h.elim)
    have ot37 := otd.keep k37
    have o4e := o4d.keep k37
    have o6e := o6d.keep k37
    refine ⟨s38, rfl, ⟨t, ot37.cell 0 (by simp), rfl⟩, ⟨up, o6e.cell 0 (by simp), rfl⟩, ⟨sh, o4e.cell 0 (by simp), rfl⟩, ⟨t, ot37.cell 0 (by simp), rfl⟩, newS_mk (fun r43 w44 hr43 hb43 k43 hs43 => ?_)⟩
    have k3144 := k3137.trans k43
    have ot44 := ot37.keep k43
    refine ⟨⟨t, ot44.cell 0 (by simp), rfl⟩, ?_⟩
    have z37 := k3137.size
    have z43 := k43.size
    have hR44 : Rows (PtR sh up) w44 t (ptsL B 0 0 k) css := (hR.ext e31 (fun j hj hh => by have := ht j hj; omega) (fun j hj hh => by have := hcss j hj; omega)).keep k3144
    have hf38 : ∀ j, ownB s38 j → w31.heap.size ≤ j := fun j hj => f38 j hj
    have hkl : t.l = k := by rw [hR44.sl, ptsL_len]
    rw [hkl] at hb43
    refine hR44.snoc (cs := ptC sh up k 0 s38) (x := ((k : Int), 0, chunkB B 256 k)) (z := _) rfl ⟨s38, rfl, (h38.keep k43).bytes, h38.le (by omega)⟩ (fun j hj ho => ?_) hb43 (.inl (by simp)) (by rw [ptsL_len]; omega) (fun s' w' g1 g2 g3 => ?_)
    · have h1 := hf38 j (foot_pt hj).2
      have h2 := hR.lt j ho
      omega
    rw [← ptsL_succ (by omega)] at g1
    have hnr : ¬ ownB t r16 := fun hh => by have := ht _ hh; omega
    have ot47 := ot44.ext g2 hnr
    obtain ⟨c1, c2⟩ := ot47.setOne 0 (by simp) s'.v
    refine ⟨c1, fun w48 hw48 => ?_⟩
    obtain ⟨ot48, g4, hz48⟩ := c2 w48 hw48
    have hownt : ∀ j, ownB t j → D ≤ j := fun j hj => by have := ht j hj; omega
    have x48 : Ext (fun j => j = r16 ∨ D ≤ j) w27 w48 := ((x31.trans k3144 (fun _ h => h) (fun _ h => h.elim)).trans g2 (fun _ h => h) (fun j hj => .inl (.inr (hownt j hj)))).trans g4 (fun _ h => h) (fun j hj => .inl (.inl hj))
    have l48 := g4.heap (g2.heap (k3144.heap l31) (fun hh => by have := ht _ hh; omega)) (fun hh => by omega)
    have d48 := g4.heap (g2.heap (k3144.heap d31) (fun hh => by have := ht _ hh; omega)) (fun hh => by omega)
    refine ⟨l48, fun w49 hw49 => ⟨rfl, ?_⟩⟩
    have e49 : Ext (fun j => j = lr) w48 w49 := by rw [hw49]; exact Ext.putObj _ _ _
    have hs' : ∀ j, ownB s' j → lr < j := fun j hj => (g3 j hj).elim (fun h => ht j h) (fun h => by omega)
    have hc' : ∀ j, footC (css ++ [ptC sh up k 0 s38]) j → lr < j := by
      rintro j ⟨cs, hc, hj⟩
      rcases List.mem_append.1 hc with h | h
      · exact hcss j ⟨cs, h, hj⟩
      · rw [List.mem_singleton] at h; subst h
        have := hf38 j (foot_pt hj).2
        omega
    refine ⟨x48.trans e49 (fun _ h => h) (fun j hj => .inl (by omega)), by rw [hw49]; exact putObj_new l48, e49.heap d48 (fun hh => by omega), s', _, ot48.ext e49 (fun hh => by omega), ?_, hs', hc'⟩
    exact (g1.ext g4 (fun j hj hh => by have := hs' j hj; omega) (fun j hj hh => by have := hc' j hj; omega)).ext e49 (fun j hj hh => by have := hs' j hj; omega) (fun j hj hh => by have := hc' j hj; omega)
  have hC := Chunk_1_spec s20 B 256 lr b1 b2 J (by omega) (by omega) (by omega) h20c
    (fun k w2 hj => ⟨(ob1'.ext hj.1 (fun hh => by omega)).cell 0 (by simp), (ob2'.ext hj.1 (fun hh => by omega)).cell 0 (by simp), (hJs hj).bytes⟩)
    (fun k w2 hj => by
      obtain ⟨x28, l28, d28, t, css, ot, hR, ht, hcss⟩ := hj
      have kd : Keep w2 w2.drew := Ext.drew none0 _
      exact ⟨x28.trans kd (fun _ h => h) (fun _ h => h.elim), l28, d28, t, css, ot.keep kd, hR.keep kd, ht, hcss⟩)
    step w27 ⟨Ext.refl _ _, N.l, N.d, ⟨none, 0, 0⟩, [], o16', Rows.nil _ _, (by rintro j ⟨a, ha, _⟩; cases ha), (by rintro j ⟨cs, hc, _⟩; simp at hc)⟩
  refine hC.mono ?_
  rintro e w54 ⟨rfl, K, hK1, hK2, x54, l54, d54, t, css, ot, hR, ht, hcss⟩
  have hKn : K = partsN b := by unfold partsN; omega
  refine ⟨⟨_, rfl⟩, l54, fun w55 hw55 => ?_⟩
  have e55 : Ext (fun j => j = lr) w54 w55 := by rw [hw55]; exact Ext.putObj _ _ _
  have d55 := e55.heap d54 (fun hh => by omega)
  have ot55 := ot.ext e55 (fun hh => by have := N.dw; omega)
  have hR55 := hR.ext e55 (fun j hj hh => by have := ht j hj; omega) (fun j hj hh => by have := hcss j hj; omega)
  have htl : t.l = K := by rw [hR.sl, ptsL_len]
  have x55 : Ext (fun j => j = r16 ∨ D ≤ j) w27 w55 := x54.trans e55 (fun _ h => h) (fun j hj => .inl (by omega))
  have k55 : Keep w w55 := k27.ext x55 (fun j hj => by omega)
  refine ⟨t, ot55.cell 0 (by simp), BIf_dec (fun h5 => ?_) (fun h5 => ?_)⟩
  · have kd : Keep w55 w55.drew := Ext.drew none0 _
    refine ⟨_, errG_at (hE.keep (k55.trans kd)) 12 _ rfl (by simp [ckG]), kd.heap d55, fun w58 hw58 => ⟨?_, ?_⟩⟩
    · have e58 : Ext (fun j => j = D) w55.drew w58 := by rw [hw58]; exact Ext.putObj _ _ _
      exact (k55.trans kd).ext e58 (fun j hj => by omega)
    · have : partsP sh up b = .error 12 := by unfold partsP; rw [if_neg (by rw [hok]; simp), if_pos (by omega)]
      rw [this]
  · refine ⟨t, ot55.cell 0 (by simp), fun i w2 => ∃ (m : Nat) (css : List (List Value)), i = m ∧ m ≤ K ∧ Ext (ownB t) w55 w2 ∧ Rows (PtR sh up) w2 t (ptsL B K m K) css ∧ ∀ j, footC css j → lr < j, fun i _ => ((K : Int) - i).toNat, ⟨0, css, rfl, by omega, Ext.refl _ _, ?_, hcss⟩, ?_⟩
    · have : ptsL B K 0 K = ptsL B 0 0 K := by unfold ptsL; simp
      rw [this]; exact hR55
    rintro i w63 ⟨m, css2, rfl, hm, x63, hR63, hc63⟩
    intros
    have hnr : ¬ ownB t r16 := fun hh => by have := ht _ hh; omega
    have ot63 := ot55.ext x63 hnr
    refine BIf_dec (fun h6 => ?_) (fun h6 => ?_)
    · have hmK : m < K := by omega
      have hm2 : m < css2.length := by rw [hR63.len, ptsL_len]; exact hmK
      obtain ⟨a, ha, _, _⟩ := hR63.get hm2
      obtain ⟨sd, hcs, hbd, hcd⟩ := hR63.row m hm2 (by rw [ptsL_len]; exact hmK)
      rw [ptsL_get] at hcs hbd
      have hcs' : css2[m] = ptC sh up (m : Int) 0 sd := by rw [hcs]; simp
      obtain ⟨g1, g2⟩ := hR63.set hm2 10 [.int .i64 (K : Int)] (by simp [PtR]) ((m : Int), (K : Int), chunkB B 256 m) ha
        (fun w' hw' => by
          rw [hcs']
          exact ⟨sd, rfl, bytesAt_stayX hbd hw' (fun h0 j hj hh => hR63.sep j ⟨css2[m], List.getElem_mem hm2, by rw [hcs']; exact foot_pt_mk h0 hj⟩ hh), hcd⟩)
        (fun j hj hh => by
          rw [hcs'] at hj
          have hj2 := foot_pt (sh := sh) (up := up) (p := (m : Int)) (q := (K : Int)) (s := sd) hj
          exact hR63.sep j ⟨css2[m], List.getElem_mem hm2, by rw [hcs']; exact foot_pt_mk hj2.1 hj2.2⟩ hh)
      refine ⟨t, ot63.cell 0 (by simp), t, ot63.cell 0 (by simp), needSome_mk ha ⟨by omega, by omega, by rw [show Int.toNat (m : Int) * 12 = m * 12 by omega]; exact g1, fun w77 hw77 => ?_⟩⟩
      rw [show Int.toNat (m : Int) * 12 = m * 12 by omega, htl] at hw77
      have hw77' : w77 = setCells w63 ((a.add (m * (PtR sh up).n)).add 10) 0 [.int .i64 (K : Int)] := by
        rw [hw77]
        show World.setCell w63 ((Addr.add a (m * 12)).add 10) _ = World.setCell w63 (((Addr.add a (m * 12)).add 10).add 0) _
        rw [show (((Addr.add a (m * 12)).add 10).add 0) = ((Addr.add a (m * 12)).add 10) by simp [Addr.add]]
      obtain ⟨g3, g4, g5⟩ := g2 w77 hw77'
      rw [ptsL_set hmK] at g3
      refine ⟨inR64 (by omega), ⟨m + 1, _, rfl, hmK, x63.trans g4 (fun _ h => h) (fun _ h => .inl h), g3, ?_⟩, by first | (dsimp only; omega) | omega⟩
      rintro j ⟨cs, hc, hj⟩
      rcases List.mem_or_eq_of_mem_set hc with h | h
      · exact hc63 j ⟨cs, h, hj⟩
      · subst h
        rw [hcs'] at hj
        have hj2 := foot_pt (sh := sh) (up := up) (p := (m : Int)) (q := (K : Int)) (s := sd) hj
        exact hc63 j ⟨css2[m], List.getElem_mem hm2, by rw [hcs']; exact foot_pt_mk hj2.1 hj2.2⟩
    · have hmK : m = K := by omega
      subst hmK
      refine ⟨t, ot63.cell 0 (by simp), x63.heap d55 (fun hh => by have := ht _ hh; omega), fun w79 hw79 => ?_⟩
      have e79 : Ext (fun j => j = D) w63 w79 := by rw [hw79]; exact Ext.putObj _ _ _
      refine ⟨(k55.ext x63 (fun j hj => by have := ht j hj; omega)).ext e79 (fun j hj => by omega), ?_⟩
      have : partsP sh up b = .ok (ptsL B m m m) := by unfold partsP; rw [if_neg (by rw [hok]; simp), if_neg (by omega), hKn, hB]
      rw [this]
      exact ⟨t, css2, rfl, hR63.ext e79 (fun j hj hh => by have := ht j hj; omega) (fun j hj hh => by have := hc63 j hj; omega)⟩
end Go.D
