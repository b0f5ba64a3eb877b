/-
  WHAT IS PROVED: contracts of functions, and the plain law, for this proof. No further conditions.
-/
import Derived.Test.YtpnchpkklamnnaaDoorPackRef
import Derived.Test.YtpnchpkklamnnaaDoorPackLeast
set_option linter.unusedVariables false
set_option linter.unusedSimpArgs false
namespace Go.D
open Go Go.Proofs

abbrev Item4 := Int × Int × List UInt8 × (Slc × List Int)
abbrev rdItem : Rd Item4 := Rd.pair (Rd.int .i64) (Rd.pair (Rd.int .i64) (Rd.pair Rd.str Rd.ints))
abbrev rightN (n : Int) : Prop := 0 ≤ n ∧ n ≤ 4611686018427387903
def shortI (x : Item4) : Prop := x.2.2.1.length ≤ 300 ∧ x.2.2.2.2.length ≤ 30
theorem rdItem_get {w : World} {s : Slc} {xs : List Item4} (h : rowsR rdItem w s xs) {i : Nat} (hi : i < xs.length) :
    ∃ a, s.p = some a ∧ rowAt w (a.add (i * 4)) 0 [.int .i64 xs[i].1, .int .i64 xs[i].2.1, strV xs[i].2.2.1, xs[i].2.2.2.1.v] ∧ intsAt w xs[i].2.2.2.1 xs[i].2.2.2.2 ∧
      (-9223372036854775808 ≤ xs[i].2.1 ∧ xs[i].2.1 ≤ 9223372036854775807) ∧ ∀ n ∈ xs[i].2.2.2.2, -9223372036854775808 ≤ n ∧ n ≤ 9223372036854775807 := by
  obtain ⟨a, cs, h1, ⟨c1, c2, rfl, h2, ⟨c3, c4, rfl, h3, ⟨c5, c6, rfl, h4, h5⟩⟩⟩, h6⟩ := h.2.2.2 i hi
  obtain ⟨rfl, _⟩ := h2
  obtain ⟨rfl, h3⟩ := h3
  obtain ⟨rfl, _⟩ := h4
  obtain ⟨rfl, h7, h8, _⟩ := h5
  refine ⟨a, h1, h6, h7, ?_, h8⟩
  exact h3

theorem intsAt_lt {w : World} {s : Slc} {l : List Int} (h : intsAt w s l) (hl : l ≠ []) : ∀ k, ownB s k → k < w.heap.size := by
  rintro k ⟨a, ha, rfl⟩
  obtain ⟨b, hb, hc⟩ := intsAt_cell h (i := 0) (by cases l <;> simp at hl ⊢)
  rw [ha] at hb
  cases hb
  have := World.block_lt_of_cell? w _ hc
  rwa [add_block] at this

theorem long04_spec (s : Slc) (xs : List Item4) (w : World) (h : rowsR rdItem w s xs) :
    Calls Tryd.prog fn_tidewaterlaw04_long ⟨[s.v]⟩ w fun e w' => ∃ b : Bool, e = .returned (.bool b) ∧ Keep w w' ∧ (b = false → xs.length ≤ 20 ∧ ∀ x ∈ xs, shortI x) := by
  have hsl := h.1
  refine tidewaterlaw04_long_ok _ ?_
  unfold tidewaterlaw04_long
  refine BIf_dec (fun h1 => ⟨true, rfl, Ext.refl _ _, by simp⟩) (fun h1 => ?_)
  refine ⟨fun i w2 => ∃ k : Nat, i = k ∧ k ≤ xs.length ∧ Keep w w2 ∧ ∀ x ∈ xs.take k, shortI x, fun i _ => ((xs.length : Int) - i).toNat, ⟨0, rfl, by omega, Ext.refl _ _, by simp⟩, ?_⟩
  rintro i w2 ⟨k, rfl, hk, hkp, hpre⟩
  intros
  refine BIf_dec (fun hlt => ?_) (fun hlt => ?_)
  · have hkx : k < xs.length := by omega
    obtain ⟨a, ha, hrow, hint, _⟩ := rdItem_get (rowsR_keep h hkp) hkx
    refine needSome_mk ha ⟨by omega, hlt, _, _, _, _, by rw [show Int.toNat (k : Int) * 4 = k * 4 by omega]; exact hrow, ?_⟩
    refine var_mk rfl rfl (fun r27 w29 hr ho kk hs => ⟨_, ho.cell 2 (by simp), BIf_dec (fun h2 => ⟨true, rfl, hkp.trans kk, by simp⟩) (fun h2 => ⟨_, ho.cell 3 (by simp), BIf_dec (fun h3 => ⟨true, rfl, hkp.trans kk, by simp⟩) (fun h3 => ?_)⟩)⟩)
    have hil := hint.1
    refine ⟨inR64 (by omega), ⟨k + 1, rfl, hkx, hkp.trans kk, ?_⟩, by dsimp only; omega⟩
    rw [List.take_succ_eq_append_getElem hkx]
    intro x hx
    rcases List.mem_append.1 hx with hx | hx
    · exact hpre x hx
    · obtain rfl := List.mem_singleton.1 hx
      exact ⟨by omega, by omega⟩
  · have : k = xs.length := by omega
    subst this
    rw [List.take_length] at hpre
    exact ⟨false, rfl, hkp, fun _ => ⟨by omega, hpre⟩⟩

/-! ### what is written of an item -/
def okI (x : Item4) : Bool := if x.1 = 0 then decide (rightN x.2.1) else if x.1 = 1 then true else x.2.2.2.2.all fun n => decide (rightN n)
def encI (x : Item4) : List UInt8 := if x.1 = 0 then encN x.2.1.toNat else if x.1 = 1 then encN x.2.2.1.length ++ x.2.2.1 else encL x.2.2.2.2
def oItem (x : Item4) (st : InS) : InS := if x.1 = 0 then oNum x.2.1 st else if x.1 = 1 then oText x.2.2.1 st else oNums x.2.2.2.2 st

theorem oNum_ok {n : Int} (b : List UInt8) (h : rightN n) : oNum n (b, none) = (b ++ encN n.toNat, none) := by
  rw [oNum, if_neg (by omega)]
theorem oNum_bad {n : Int} (b : List UInt8) (h : ¬ rightN n) : (oNum n (b, none)).2 = some 0 := by
  rw [oNum, if_pos (by omega)]; rfl
theorem oNum_err {n : Int} {st : InS} (h : st.2 = some 0) : (oNum n st).2 = some 0 := by
  rw [oNum]; split <;> simp [h]
theorem oFold_err : ∀ (l : List Int) {st : InS}, st.2 = some 0 → (l.foldl (fun st n => oNum n st) st).2 = some 0
  | [], _, h => h
  | n :: l, st, h => oFold_err l (oNum_err h)
theorem oFold_ok : ∀ (l : List Int) (b : List UInt8), (∀ n ∈ l, rightN n) → l.foldl (fun st n => oNum n st) (b, none) = (b ++ (l.map fun n => encN n.toNat).flatten, none)
  | [], b, h => by simp
  | n :: l, b, h => by
    rw [List.foldl_cons, oNum_ok b (h n (by simp)), oFold_ok l _ (fun n hn => h n (by simp [hn]))]; simp
theorem oFold_bad : ∀ (l : List Int) (b : List UInt8), (¬ ∀ n ∈ l, rightN n) → (l.foldl (fun st n => oNum n st) (b, none)).2 = some 0
  | [], b, h => absurd (fun n hn => by cases hn) h
  | n :: l, b, h => by
    rw [List.foldl_cons]
    by_cases hn : rightN n
    · rw [oNum_ok b hn]
      refine oFold_bad l _ (fun hh => h (fun m hm => ?_))
      rcases List.mem_cons.1 hm with rfl | hm
      · exact hn
      · exact hh m hm
    · exact oFold_err l (oNum_bad b hn)
theorem oItem_err {x : Item4} {st : InS} (h : st.2 = some 0) : (oItem x st).2 = some 0 := by
  rw [oItem]
  split
  · exact oNum_err h
  · split
    · exact h
    · exact oFold_err _ (oNum_err h)
theorem oItem_ok {x : Item4} (b : List UInt8) (h : okI x = true) (hs : shortI x) : oItem x (b, none) = (b ++ encI x, none) := by
  rw [okI] at h
  rw [oItem, encI]
  split at h
  · rename_i h0; rw [if_pos h0, if_pos h0]; exact oNum_ok b (by simpa using h)
  · rename_i h0
    rw [if_neg h0, if_neg h0]
    split at h
    · rename_i h1; rw [if_pos h1, if_pos h1, oText]; simp
    · rename_i h1
      rw [if_neg h1, if_neg h1, oNums, oNum_ok b (by have := hs.2; omega), oFold_ok _ _ (by simpa using h)]
      simp [encL]
theorem oItem_bad {x : Item4} (b : List UInt8) (h : okI x = false) (hs : shortI x) : (oItem x (b, none)).2 = some 0 := by
  rw [okI] at h
  rw [oItem]
  split at h
  · rename_i h0; rw [if_pos h0]; exact oNum_bad b (by simpa using h)
  · rename_i h0
    rw [if_neg h0]
    split at h
    · cases h
    · rename_i h1
      rw [if_neg h1, oNums, oNum_ok b (by have := hs.2; omega)]
      refine oFold_bad _ _ (fun hh => ?_)
      have : (x.2.2.2.2.all fun n => decide (rightN n)) = true := by simpa using hh
      rw [h] at this; cases this
theorem oItem_len {x : Item4} (st : InS) (hs : shortI x) : (oItem x st).1.length ≤ st.1.length + 400 := by
  obtain ⟨h1, h2⟩ := hs
  rw [oItem]
  split
  · have := oNum_len x.2.1 st; omega
  · split
    · have := encN_len x.2.2.1.length 8 (by omega)
      simp [oText]; omega
    · have h3 := oNums_len x.2.2.2.2 (oNum x.2.2.2.2.length st)
      have h4 := oNum_len x.2.2.2.2.length st
      rw [oNums]; omega

/-- A writer and a row of bytes beside it. -/
structure PW (A : Nat → Addr) (w0 w : World) (r : Nat) (s : Slc) (st : InS) (want : Slc) (wb : List UInt8) : Prop where
  out : OutS A w r s st
  kp : Keep w0 w
  old : ∀ k, OutM r s k → w0.heap.size ≤ k
  own : Own w want 1 (wb.map byteV)
  sep : ∀ k, ownB want k → w0.heap.size ≤ k ∧ ¬ OutM r s k
theorem OutM_lt {A : Nat → Addr} {w : World} {r : Nat} {s : Slc} {st : InS} (h : OutS A w r s st) : ∀ k, OutM r s k → k < w.heap.size := by
  rintro k (rfl | hk)
  · exact h.1.lt
  · exact OwnLt h.2.1 k hk
theorem PW.keep {A : Nat → Addr} {w0 w w' : World} {r : Nat} {s : Slc} {st : InS} {want : Slc} {wb : List UInt8} (h : PW A w0 w r s st want wb) (hk : Keep w w') : PW A w0 w' r s st want wb :=
  ⟨OutAt.keep h.out hk, h.kp.trans hk, h.old, h.own.keep hk, h.sep⟩
theorem PW.step {A : Nat → Addr} {w0 w w' : World} {r : Nat} {s s' : Slc} {st st' : InS} {want : Slc} {wb : List UInt8} (h : PW A w0 w r s st want wb) (ho : OutS A w' r s' st') (hf : Foot (OutM r s) (OutM r s') w w') : PW A w0 w' r s' st' want wb := by
  obtain ⟨h1, h2⟩ := hf.new h.kp h.old
  refine ⟨ho, h1, h2, h.own.ext hf.1 (fun k hk => (h.sep k hk).2), fun k hk => ⟨(h.sep k hk).1, fun hm => ?_⟩⟩
  rcases hf.2 k hm with h3 | h3
  · exact (h.sep k hk).2 h3
  · have := OwnLt h.own k hk; omega
theorem PW.app {A : Nat → Addr} {w0 w w' : World} {r : Nat} {s : Slc} {st : InS} {want want' : Slc} {wb wb' : List UInt8} (h : PW A w0 w r s st want wb) (ho : Own w' want' 1 (wb'.map byteV)) (he : Ext (ownB want) w w')
    (hn : ∀ b, ownB want' b → ownB want b ∨ w.heap.size ≤ b) : PW A w0 w' r s st want' wb' := by
  refine ⟨OutAt.ext h.out he (fun k hk hm => (h.sep k hm).2 hk), h.kp.ext he (fun k hk => (h.sep k hk).1), h.old, ho, fun k hk => ?_⟩
  rcases hn k hk with h1 | h1
  · exact h.sep k h1
  · have := h.kp.size
    exact ⟨by omega, fun hm => by have := OutM_lt h.out k hm; omega⟩

/-! ### it is read back -/
theorem rMany_enc (most : Int) : ∀ (l : List Int) (acc : List Int) (rest : List UInt8), (∀ n ∈ l, rightN n ∧ n ≤ most) →
    rMany most l.length acc ((l.map fun n => encN n.toNat).flatten ++ rest, none) = (some (acc ++ l), (rest, none))
  | [], acc, rest, h => by simp [rMany]
  | n :: l, acc, rest, h => by
    obtain ⟨h1, h2⟩ := h n (by simp)
    have e : rNum most (((n :: l).map fun n => encN n.toNat).flatten ++ rest, none) = ((n.toNat : Int), ((l.map fun n => encN n.toNat).flatten ++ rest, none)) := by
      simp only [List.map_cons, List.flatten_cons, List.append_assoc]
      exact rNum_enc most _ _ (by omega) (by omega)
    rw [List.length_cons, rMany_ok (by rw [e]; rfl), e]
    dsimp only
    rw [rMany_enc most l _ rest (fun m hm => h m (by simp [hm])), show ((n.toNat : Nat) : Int) = n by omega]
    simp
theorem rNums_enc (many most : Int) (l : List Int) (rest : List UInt8) (hl : (l.length : Int) ≤ many) (hl2 : l.length ≤ 4611686018427387903) (h : ∀ n ∈ l, rightN n ∧ n ≤ most) :
    rNums many most (encL l ++ rest, none) = (l, (rest, none)) := by
  have e : rNum many (encL l ++ rest, none) = ((l.length : Int), ((l.map fun n => encN n.toNat).flatten ++ rest, none)) := by
    rw [encL, List.append_assoc]
    exact rNum_enc many _ _ hl2 hl
  rw [rNums, e]
  dsimp only
  rw [show ((l.length : Int)).toNat = l.length by omega, rMany_enc most l [] rest h]
  simp

theorem encI_len {x : Item4} (h : okI x = true) (hs : shortI x) : (encI x).length ≤ 400 := by
  have := oItem_len ([], none) hs
  rw [oItem_ok [] h hs] at this
  simpa using this
theorem flat_len : ∀ (l : List Item4), (∀ x ∈ l, okI x = true ∧ shortI x) → (l.map encI).flatten.length ≤ 400 * l.length
  | [], _ => by simp
  | x :: l, h => by
    have h1 := flat_len l (fun y hy => h y (by simp [hy]))
    have h2 := encI_len (h x (by simp)).1 (h x (by simp)).2
    simp at h1 ⊢; omega

theorem back04_spec (A : Nat → Addr) (n0 : Nat) (sb s : Slc) (xs : List Item4) (w : World) (hb : bytesAt w sb (xs.map encI).flatten) (h : rowsR rdItem w s xs) (hx : xs.length ≤ 20) (hs : ∀ x ∈ xs, okI x = true ∧ shortI x)
    (hE : ErrsB A n0 w) (hn0 : n0 ≤ w.heap.size) :
    Calls Tryd.prog fn_tidewaterlaw04_back ⟨[sb.v, s.v]⟩ w fun e w' => e = .returned (.bool true) ∧ Keep w w' := by
  have hsl := h.1
  have hfl := flat_len xs hs
  have hbl := hb.1
  refine tidewaterlaw04_back_ok _ _ ?_
  unfold tidewaterlaw04_back
  refine (Read_spec A sb _ w hb (by omega)).mono ?_
  rintro e w4 ⟨r, F, rfl, hR, k4, hr, hF⟩
  have hrn : n0 ≤ r := by omega
  refine ⟨_, rfl, fun i w9 => ∃ k : Nat, i = k ∧ k ≤ xs.length ∧ Keep w w9 ∧ InR A w9 r F (((xs.drop k).map encI).flatten, none) ∧ ∀ k, F k → k < w9.heap.size, fun i _ => ((xs.length : Int) - i).toNat,
    ⟨0, rfl, by omega, k4, by simpa using hR, fun k hk => (hF k hk).2⟩, ?_⟩
  rintro i w9 ⟨k, rfl, hk, hkp, hR9, hF9⟩
  intros
  have hr9 : r < w9.heap.size := by obtain ⟨s, h1, _⟩ := hR9; exact h1.1.lt
  refine BIf_dec (fun hlt => ?_) (fun hlt => ?_)
  · have hkx : k < xs.length := by omega
    obtain ⟨a, ha, hrow, hint, _, _⟩ := rdItem_get (rowsR_keep h hkp) hkx
    obtain ⟨_, _, _, hint0, _, _⟩ := rdItem_get h hkx
    obtain ⟨hok, hsh⟩ := hs _ (List.getElem_mem hkx)
    have hdl : ((xs.drop k).map encI).flatten.length ≤ 8000 := by
      have := flat_len (xs.drop k) (fun x hx => hs x (List.mem_of_mem_drop hx))
      simp only [List.length_drop] at this; omega
    have hd : ((xs.drop k).map encI).flatten = encI xs[k] ++ ((xs.drop (k + 1)).map encI).flatten := by
      rw [List.drop_eq_getElem_cons hkx, List.map_cons, List.flatten_cons]
    rw [hd] at hR9 hdl
    generalize hre : ((xs.drop (k + 1)).map encI).flatten = rest at hR9 hdl
    refine needSome_mk ha ⟨by omega, hlt, _, _, _, _, by rw [show Int.toNat (k : Int) * 4 = k * 4 by omega]; exact hrow, ?_⟩
    generalize xs[k] = x at hrow hint hint0 hok hsh hR9 hdl ⊢
    refine var_mk rfl rfl (fun r43 w45 hr43 ho kk hs45 => ⟨x.1, ho.cell 0 (by simp), ?_⟩)
    have kk' := kk.drew
    have hod := ObjAt.keep ho (Ext.drew _ w45)
    have hne : ¬ eqB r r43 := fun hh => by have : r43 = r := hh; omega
    have hRd := hR9.keep kk'
    have hEd := hE.keep (hkp.trans kk')
    have hFd : ∀ k, F k → k < w45.drew.heap.size := fun k hk => by have := hF9 k hk; have := kk'.size; omega
    have fin : ∀ w6, Ext (eqB r) w45.drew w6 → InR A w6 r F (rest, none) → inR .i64 ((k : Int) + 1) ∧ (∃ k1 : Nat, ((k : Int) + 1) = k1 ∧ k1 ≤ xs.length ∧ Keep w w6 ∧ InR A w6 r F (((xs.drop k1).map encI).flatten, none) ∧ ∀ k, F k → k < w6.heap.size) ∧
        ((xs.length : Int) - ((k : Int) + 1)).toNat < ((xs.length : Int) - (k : Int)).toNat := by
      intro w6 he hR6
      refine ⟨inR64 (by omega), ⟨k + 1, rfl, hkx, (hkp.trans kk').ext he (fun k hk => by rw [show k = r from hk]; omega), hre ▸ hR6, fun k hk => by have := hFd k hk; have := he.size; omega⟩, by omega⟩
    unfold okI at hok
    unfold encI at hRd hdl
    obtain ⟨hs1, hs2⟩ := hsh
    refine BIf_dec (fun hk0 => ?_) (fun hk0 => ?_)
    · have hk0 : x.1 = 0 := hk0
      rw [if_pos hk0] at hok hRd hdl
      have hok : rightN x.2.1 := by simpa using hok
      refine ⟨_, hod.cell 1 (by simp), (In_Num_spec A n0 r F _ _ _ hRd (by dsimp only; omega) hEd hrn).mono ?_⟩
      rintro e w49 ⟨rfl, hR49, k49⟩
      rw [rNum_enc _ _ _ (by omega) (by omega)] at hR49 ⊢
      refine ⟨_, rfl, ⟨_, (hod.ext k49 hne).cell 1 (by simp), rfl⟩, BIf_ndec (fun h => absurd (show ((x.2.1.toNat : Nat) : Int) = x.2.1 by omega) h) (fun _ => fin _ k49 hR49)⟩
    · have hk0 : ¬ x.1 = 0 := hk0
      rw [if_neg hk0] at hok hRd hdl
      refine BIf_dec (fun hk1 => ?_) (fun hk1 => ?_)
      · have hk1 : x.1 = 1 := hk1
        rw [if_pos hk1] at hok hRd hdl
        refine ⟨_, hod.cell 2 (by simp), (In_Text_spec A n0 r F _ _ _ hRd (by dsimp only; omega) hEd hrn).mono ?_⟩
        rintro e w49 ⟨rfl, hR49, k49⟩
        rw [List.append_assoc, rText_enc _ _ _ (by omega) (by omega)] at hR49 ⊢
        refine ⟨_, rfl, ⟨_, (hod.ext k49 hne).cell 2 (by simp), rfl⟩, BIf_ndec (fun h => absurd rfl h) (fun _ => fin _ k49 hR49)⟩
      · have hk1 : ¬ x.1 = 1 := hk1
        rw [if_neg hk1] at hok hRd hdl
        have hok : ∀ n ∈ x.2.2.2.2, rightN n := by simpa using hok
        refine ⟨_, hod.cell 3 (by simp), (In_Nums_spec A n0 r F _ _ _ _ hRd (by dsimp only; omega) hEd hrn hFd (by omega)).mono ?_⟩
        rintro e w59 ⟨t, rfl, ht, hR59, k59, hft⟩
        rw [rNums_enc _ _ _ _ (by omega) (by omega) (fun n hn => ⟨hok n hn, (hok n hn).2⟩)] at hR59 ht
        have hi59 : intsAt w59 x.2.2.2.1 x.2.2.2.2 := intsAt_keep hint0 ((hkp.trans kk').ext k59 (fun k hk => by rw [show k = r from hk]; omega))
        refine ⟨t, rfl, ⟨_, (hod.ext k59 hne).cell 3 (by simp), rfl⟩, (SameInts_spec t x.2.2.2.1 x.2.2.2.2 x.2.2.2.2 w59 ht hi59 (by omega)).mono ?_⟩
        rintro e w63 ⟨rfl, k63⟩
        refine ⟨_, rfl, BIf_mk (fun h => by simp at h) (fun _ => fin _ (k59.trans k63 (fun _ h => h) (fun _ h => h.elim)) (hR59.keep k63))⟩
  · refine (In_Left_spec A r F _ w9 hR9).mono ?_
    rintro e w66 ⟨rfl, rfl⟩
    have : k = xs.length := by omega
    subst this
    have e0 : ((xs.drop xs.length).map encI).flatten = [] := by simp
    rw [e0] at hR9 ⊢
    refine ⟨_, rfl, BIf_dec (fun _ => ?_) (fun h => absurd rfl h)⟩
    refine (In_End_spec A n0 r F _ w66 hR9 (hE.keep hkp)).mono ?_
    rintro e w69 ⟨rfl, rfl⟩
    exact ⟨_, rfl, trivial, rfl, hkp⟩

theorem PackWrites_walk (s : Slc) (xs : List Item4) (w : World) (hx : rowsR rdItem w s xs) (A : Nat → Addr) (hE0 : Errs A w) :
    Calls Tryd.prog fn_tidewaterlaw04_PackWrites ⟨[s.v]⟩ w fun e w' => e = .returned (.bool true) ∧ Keep w w' := by
  have hE := hE0.b
  have hsl := hx.1
  refine tidewaterlaw04_PackWrites_ok _ ?_
  unfold tidewaterlaw04_PackWrites
  refine (alive04_spec A _ w hE).mono ?_
  rintro e w3 ⟨rfl, k3⟩
  refine ⟨_, rfl, BIf_mk (fun h => by cases h) (fun _ => ?_)⟩
  refine (long04_spec s xs w3 (rowsR_keep hx k3)).mono ?_
  rintro e w6 ⟨b, rfl, k6, hb⟩
  refine ⟨b, rfl, BIf_mk (fun _ => ⟨rfl, k3.trans k6⟩) (fun hbf => ?_)⟩
  obtain ⟨h20, hsh⟩ := hb hbf
  refine newS_mk (fun r8 w9 hr8 hb8 k9 hs9 => newS_mk (fun r10 w11 hr10 hb10 k11 hs11 => ?_))
  have k6w := k3.trans k6
  have hs6 := k6w.size
  have h0 : PW A w w11 r8 ⟨none, 0, 0⟩ ([], none) ⟨some ⟨r10, 0, none⟩, 0, 0⟩ [] := by
    refine ⟨OutAt.keep (OutS.new A hb8) k11, k6w.trans (k9.trans k11), fun k hk => by rw [OutM_nil hk]; omega, Own.new (sz := 1) (n := 0) hb10 (.inl (by simp)) rfl, ?_⟩
    rintro k ⟨a, ha, rfl⟩
    cases ha
    exact ⟨by show w.heap.size ≤ r10; omega, fun hm => by have := OutM_nil hm; have : r10 = r8 := this; omega⟩
  refine ⟨fun want ok i w17 => ∃ (k : Nat) (s8 : Slc) (st : InS) (wb : List UInt8), i = k ∧ k ≤ xs.length ∧ PW A w w17 r8 s8 st want wb ∧ st.1.length ≤ 400 * k ∧ wb.length ≤ 400 * k ∧
      (ok = true → st = (wb, none) ∧ wb = ((xs.take k).map encI).flatten ∧ ∀ x ∈ xs.take k, okI x = true) ∧ (ok = false → st.2 = some 0),
    fun _ _ i _ => ((xs.length : Int) - i).toNat, ⟨0, _, _, _, rfl, by omega, h0, by simp, by simp, fun _ => ⟨rfl, by simp, by simp⟩, fun h => by cases h⟩, ?_⟩
  rintro want ok i w17 ⟨k, s8, st, wb, rfl, hk, hpw, hl1, hl2, hgood, hbad⟩
  intros
  have hkp := hpw.kp
  refine BIf_dec (fun hlt => ?_) (fun hlt => ?_)
  · have hkx : k < xs.length := by omega
    obtain ⟨a, ha, hrow, hint, hr1, hr2⟩ := rdItem_get (rowsR_keep hx hkp) hkx
    obtain ⟨_, _, _, hint0, _, _⟩ := rdItem_get hx hkx
    have hshx := hsh _ (List.getElem_mem hkx)
    have htk : xs.take (k + 1) = xs.take k ++ [xs[k]] := List.take_succ_eq_append_getElem hkx
    refine needSome_mk ha ⟨by omega, hlt, _, _, _, _, by rw [show Int.toNat (k : Int) * 4 = k * 4 by omega]; exact hrow, ?_⟩
    generalize xs[k] = x at hrow hint hint0 hr1 hr2 hshx htk ⊢
    refine var_mk rfl rfl (fun r83 w85 hr83 ho kk hs85 => ⟨x.1, ho.cell 0 (by simp), ?_⟩)
    have hpw5 := hpw.keep kk
    have hE5 := hE.keep hpw5.kp
    have hst8 : st.1.length ≤ 8000 := by omega
    have hwl := hpw.own.bytes.1
    have hnm : ¬ OutM r8 s8 r83 := fun hm => by have := OutM_lt hpw.out r83 hm; omega
    -- how a round ends
    have fin : ∀ (want' : Slc) (ok' : Bool) (w' : World) (s9 : Slc) (wb' : List UInt8) (st' : InS) (ox : Bool) (ex : List UInt8), oItem x st = st' → okI x = ox → encI x = ex → PW A w w' r8 s9 st' want' wb' → wb'.length ≤ wb.length + 400 → ok' = (ok && ox) → (ok' = true → wb' = wb ++ ex) →
        inR .i64 ((k : Int) + 1) ∧ ((∃ (k' : Nat) (s8 : Slc) (st : InS) (wb : List UInt8), ((k : Int) + 1) = k' ∧ k' ≤ xs.length ∧ PW A w w' r8 s8 st want' wb ∧ st.1.length ≤ 400 * k' ∧ wb.length ≤ 400 * k' ∧
          (ok' = true → st = (wb, none) ∧ wb = ((xs.take k').map encI).flatten ∧ ∀ x ∈ xs.take k', okI x = true) ∧ (ok' = false → st.2 = some 0)) ∧ ((xs.length : Int) - ((k : Int) + 1)).toNat < ((xs.length : Int) - (k : Int)).toNat) := by
      rintro want' ok' w' s9 wb' _ _ _ rfl rfl rfl hp hl hok' hwb
      have hol := oItem_len st hshx
      refine ⟨inR64 (by omega), ⟨k + 1, s9, _, wb', rfl, hkx, hp, by omega, by omega, fun ht => ?_, fun hf => ?_⟩, by omega⟩
      · have hb' := hwb ht
        rw [ht] at hok'
        have hok1 : ok = true ∧ okI x = true := by simpa using hok'.symm
        obtain ⟨g1, g2, g3⟩ := hgood hok1.1
        refine ⟨by rw [g1, oItem_ok _ hok1.2 hshx, hb'], by rw [htk, hb', List.map_append, List.flatten_append, ← g2]; simp, fun y hy => ?_⟩
        rw [htk] at hy
        rcases List.mem_append.1 hy with hy | hy
        · exact g3 y hy
        · rw [List.mem_singleton.1 hy]; exact hok1.2
      · rw [hf] at hok'
        cases hok : ok with
        | false => exact oItem_err (hbad hok)
        | true =>
          rw [hok] at hok'
          have hox : okI x = false := by simpa using hok'.symm
          rw [(hgood hok).1]
          exact oItem_bad _ hox hshx
    obtain ⟨hs1, hs2⟩ := hshx
    refine BIf_dec (fun hk0 => ?_) (fun hk0 => ?_)
    · have hk0 : x.1 = 0 := hk0
      have e1 : oItem x st = oNum x.2.1 st := by rw [oItem, if_pos hk0]
      have e2 : okI x = decide (rightN x.2.1) := by rw [okI, if_pos hk0]
      have e3 : encI x = encN x.2.1.toNat := by rw [encI, if_pos hk0]
      refine ⟨_, ho.cell 1 (by simp), (OutS_Num A _ r8 s8 st x.2.1 w85 hpw5.out hr1 (by omega) hE5).mono ?_⟩
      rintro e w89 ⟨rfl, s9, h9, f9⟩
      have hp9 := hpw5.step h9 f9
      have ho9 := ho.ext f9.1 hnm
      refine ⟨rfl, BIf_mk (fun hok => ?_) (fun hok => fin _ _ _ _ _ _ _ _ e1 e2 e3 hp9 (by omega) (by simp [hok]) (fun h => by cases h))⟩
      refine ⟨_, ho9.cell 1 (by simp), (right04_spec _ w89).mono ?_⟩
      rintro e w92 ⟨rfl, rfl⟩
      refine ⟨_, rfl, BIf_dec (fun hr => ?_) (fun hr => fin _ _ _ _ _ _ _ _ e1 e2 e3 hp9 (by omega) (by simp [hok]) (fun h => absurd (of_decide_eq_true h) hr))⟩
      have en : x.2.1 = ((x.2.1.toNat : Nat) : Int) := by have := hr.1; omega
      have hle := encN_len x.2.1.toNat 9 (by omega)
      refine ⟨x.2.1, ho9.cell 1 (by simp), ?_⟩
      have hcall := ref04_Num_spec x.2.1.toNat w92 (by omega)
      rw [← en] at hcall
      refine hcall.mono ?_
      rintro e w96 ⟨s97, rfl, h97, f97, k97⟩
      have hp97 := hp9.keep k97
      have h971 := h97.bytes.1
      refine ⟨s97, rfl, appendS_own hp97.own (by omega) rfl (srcAt_bytes h97.bytes) (one_bytes _) (by simp only [Src.n]; omega) (fun s98 w99 g1 g2 g3 g4 => ?_)⟩
      rw [← List.map_append] at g1
      refine fin _ _ _ _ _ _ _ _ e1 e2 e3 (hp97.app g1 g2 g3) (by simp; omega) (by simp [hok]) (fun _ => rfl)
    · have hk0 : ¬ x.1 = 0 := hk0
      refine BIf_dec (fun hk1 => ?_) (fun hk1 => ?_)
      · have hk1 : x.1 = 1 := hk1
        have e1 : oItem x st = oText x.2.2.1 st := by rw [oItem, if_neg hk0, if_pos hk1]
        have e2 : okI x = true := by rw [okI, if_neg hk0, if_pos hk1]
        have e3 : encI x = encN x.2.2.1.length ++ x.2.2.1 := by rw [encI, if_neg hk0, if_pos hk1]
        refine ⟨_, ho.cell 2 (by simp), (OutS_Text A _ r8 s8 st x.2.2.1 w85 hpw5.out (by omega) (by omega) hE5).mono ?_⟩
        rintro e w102 ⟨rfl, s9, h9, f9⟩
        have hp9 := hpw5.step h9 f9
        have ho9 := ho.ext f9.1 hnm
        refine ⟨rfl, _, ho9.cell 2 (by simp), (ref04_Text_spec _ w102 (by simp; omega)).mono ?_⟩
        rintro e w105 ⟨s97, rfl, h97, f97, k97⟩
        have hp97 := hp9.keep k97
        have h971 := h97.bytes.1
        have hle := encN_len x.2.2.1.length 8 (by omega)
        simp only [List.length_append] at h971
        refine ⟨s97, rfl, appendS_own hp97.own (by omega) rfl (srcAt_bytes h97.bytes) (one_bytes _) (by simp only [Src.n]; omega) (fun s98 w99 g1 g2 g3 g4 => ?_)⟩
        rw [← List.map_append] at g1
        refine fin _ _ _ _ _ _ _ _ e1 e2 e3 (hp97.app g1 g2 g3) (by simp; omega) (by simp) (fun _ => rfl)
      · have hk1 : ¬ x.1 = 1 := hk1
        have e1 : oItem x st = oNums x.2.2.2.2 st := by rw [oItem, if_neg hk0, if_neg hk1]
        have e2 : okI x = (x.2.2.2.2.all fun n => decide (rightN n)) := by rw [okI, if_neg hk0, if_neg hk1]
        have e3 : encI x = encL x.2.2.2.2 := by rw [encI, if_neg hk0, if_neg hk1]
        refine ⟨_, ho.cell 3 (by simp), (OutS_Nums A _ r8 s8 _ st x.2.2.2.2 w85 hpw5.out (by omega) (by omega) hr2 (intsAt_keep hint kk) (intsAt_lt hint0) hE5 hpw5.old hpw5.kp.size).mono ?_⟩
        rintro e w111 ⟨rfl, s9, h9, f9⟩
        have hp9 := hpw5.step h9 f9
        have ho9 := ho.ext f9.1 hnm
        have hi9 := intsAt_keep hint0 hp9.kp
        have hil := hi9.1
        refine ⟨rfl, _, ho9.cell 3 (by simp), fun ok2 i2 w2 => w2 = w111 ∧ ∃ j : Nat, i2 = j ∧ j ≤ x.2.2.2.2.length ∧ ok2 = (ok && (x.2.2.2.2.take j).all fun n => decide (rightN n)), fun _ i2 _ => ((x.2.2.2.2.length : Int) - i2).toNat, ⟨rfl, 0, rfl, by omega, by simp⟩, ?_⟩
        rintro ok2 i2 w2 ⟨rfl, j, rfl, hj, hok2⟩
        intros
        refine BIf_dec (fun hlt2 => ?_) (fun hlt2 => ?_)
        · have hjl : j < x.2.2.2.2.length := by omega
          obtain ⟨b, hb, hc⟩ := intsAt_cell hi9 hjl
          have htj : x.2.2.2.2.take (j + 1) = x.2.2.2.2.take j ++ [x.2.2.2.2[j]] := List.take_succ_eq_append_getElem hjl
          refine needSome_mk hb ⟨by omega, hlt2, _, by rw [show Int.toNat (j : Int) * 1 = j by omega]; exact hc, BIf_mk (fun ho2 => ?_) (fun ho2 => ?_)⟩
          · refine (right04_spec _ w2).mono ?_
            rintro e w131 ⟨rfl, rfl⟩
            refine ⟨_, rfl, inR64 (by omega), ⟨rfl, j + 1, rfl, hjl, ?_⟩, by dsimp only; omega⟩
            rw [htj, List.all_append, ← Bool.and_assoc, ← hok2, ho2]
            simp
          · refine ⟨inR64 (by omega), ⟨rfl, j + 1, rfl, hjl, ?_⟩, by dsimp only; omega⟩
            rw [htj, List.all_append, ← Bool.and_assoc, ← hok2, ho2]
            simp
        · have hjl : j = x.2.2.2.2.length := by omega
          subst hjl
          rw [List.take_length] at hok2
          refine BIf_mk (fun ho2 => ?_) (fun ho2 => fin _ _ _ _ _ _ _ _ e1 e2 e3 hp9 (by omega) hok2 (fun h => by rw [ho2] at h; cases h))
          have hall : ∀ n ∈ x.2.2.2.2, rightN n := by
            rw [ho2] at hok2
            have := (Bool.and_eq_true_iff.1 hok2.symm).2
            simpa using this
          refine ⟨_, ho9.cell 3 (by simp), (ref04_Nums_spec _ x.2.2.2.2 w2 hi9 (by omega) hall).mono ?_⟩
          rintro e w135 ⟨s97, rfl, h97, f97, k97⟩
          have hp97 := hp9.keep k97
          have h971 := h97.bytes.1
          have hle := encN_len x.2.2.2.2.length 8 (by omega)
          have hle2 := encs_len x.2.2.2.2 (fun n hn => (hall n hn).2)
          have hel : (encL x.2.2.2.2).length ≤ 300 := by rw [encL, List.length_append]; omega
          refine ⟨s97, rfl, appendS_own hp97.own (by omega) rfl (srcAt_bytes h97.bytes) (one_bytes _) (by simp only [Src.n]; omega) (fun s98 w99 g1 g2 g3 g4 => ?_)⟩
          rw [← List.map_append] at g1
          refine fin _ _ _ _ _ _ _ _ e1 e2 e3 (hp97.app g1 g2 g3) (by rw [List.length_append]; omega) hok2 (fun _ => rfl)
  · have hkl : k = xs.length := by omega
    subst hkl
    rw [List.take_length] at hgood
    refine (OutS_Done A _ r8 s8 st w17 hpw.out (by omega) (hE.keep hkp)).mono ?_
    rintro e w140 ⟨t, e2, rfl, g1, g2, g3, g5, g6⟩
    have k140 := hkp.trans g1
    refine ⟨t, _, rfl, ?_⟩
    cases hok : ok with
    | false =>
      have hst := hbad hok
      rw [hst] at g3
      dsimp only at g3
      subst g3
      rw [g5 rfl]
      refine BIf_mk (fun _ => BIf_dec (fun _ => ?_) (fun h => absurd rfl h)) (fun h => by cases h)
      refine (Num_o A _ (some 0) (by simp) w140 (hE.keep k140)).mono ?_
      rintro e w144 ⟨rfl, k144⟩
      exact ⟨_, rfl, by simp, k140.trans k144⟩
    | true =>
      obtain ⟨h1, h2, h3⟩ := hgood hok
      rw [h1] at g3 g6
      dsimp only at g3 g6
      rw [if_neg (by omega)] at g3
      subst g3
      have hbt := g6 rfl
      refine BIf_mk (fun h => by cases h) (fun _ => ⟨trivial, BIf_mk (fun _ => ⟨wb, hbt, wb, (hpw.own.keep g1).bytes, BIf_dec (fun _ => ?_) (fun h => absurd rfl h)⟩) (fun h => by cases h)⟩)
      rw [h2] at hbt
      refine (back04_spec A _ t s xs w140 hbt (rowsR_keep hx k140) h20 (fun x hx => ⟨h3 x hx, hsh x hx⟩) (hE.keep k140) k140.size).mono ?_
      rintro e w149 ⟨rfl, k149⟩
      exact ⟨_, rfl, rfl, k140.trans k149⟩
end Go.D
