/-
  WHAT IS PROVED: contracts of functions, and the plain law, for this proof. No further conditions.
-/
import Derived.Test.YtmfdpgjnmdlajaaDoorOrder11
set_option linter.unusedVariables false
set_option linter.unusedSimpArgs false
set_option maxRecDepth 8000
namespace Go.D
open Go Go.Proofs

/-- The integers that a slice shows. -/
def rdI (w : World) (s : Slc) : List Int := (List.range s.l).map fun i => match s.p with | some a => (match w.cell? (a.add (i * 1)) with | some (.int _ n) => n | _ => 0) | none => 0
theorem rdI_eq {w : World} {s : Slc} {l : List Int} (h : IntsAt w s l) : rdI w s = l := by
  have hsl := h.sl
  refine List.ext_getElem (by simp [rdI]; omega) (fun i h1 h2 => ?_)
  obtain ⟨a, ha, hc⟩ := h.get (i := i) h2
  simp only [rdI, List.getElem_map, List.getElem_range]
  rw [ha]
  simp only
  rw [hc]
theorem ids_in {n : Nat} {o : List Int} (h : o.Perm (idsI 0 n)) : (∀ a ∈ o, inI n a) ∧ o.length = n ∧ o.Nodup := by
  refine ⟨fun a ha => ?_, by have := h.length_eq; simpa [idsI] using this, ?_⟩
  · have := h.mem_iff.1 ha
    unfold idsI at this
    obtain ⟨j, hj, rfl⟩ := List.mem_map.1 this
    rw [List.mem_range'_1] at hj
    exact ⟨by omega, by omega⟩
  · rw [h.nodup_iff]
    unfold idsI
    refine List.Pairwise.map _ (fun a b (h : a ≠ b) => ?_) (List.nodup_range' (s := 0) (n := n) (step := 1))
    intro hh; exact h (by omega)
theorem ids_asc (n : Nat) : (idsI 0 n).Pairwise (fun a b => a < b) := by
  unfold idsI
  refine List.Pairwise.map _ (fun a b (h : a < b) => ?_) (List.pairwise_lt_range' (s := 0) (n := n) (step := 1))
  omega

theorem refFind_spec35 (s : Slc) (L : List Ev) (w : World) (h : EvAt w s L) (hl : L.length ≤ 12) (hall : L.all rightB = true) :
    Calls Tryd.prog fn_tidewaterref35_Find ⟨[s.v]⟩ w fun x w' => ∃ (t : Slc) (b : Bool), x = .returned (.tuple ⟨[t.v, .bool b]⟩) ∧ Keep w w' ∧ (b = true → ∃ o, findP L = .ok o ∧ IntsAt w' t o) ∧ (b = false → ∃ k, findP L = .error k) := by
  have hsl := h.1
  refine tidewaterref35_Find_ok _ ?_
  unfold tidewaterref35_Find
  refine newS_mk (fun r2 w3 hr2 hb2 k2 hs2 => ?_)
  have z2 := k2.size
  refine ⟨fun ord i w2 => ∃ k : Nat, i = k ∧ k ≤ L.length ∧ IntsAt w2 ord (idsI 0 k) ∧ Fresh w ord ∧ Keep w w2, fun _ i _ => ((L.length : Int) - i).toNat, ⟨0, rfl, by omega, IntsAt.new hb2, Fresh.at (by omega), k2⟩, ?_⟩
  rintro ord i w8 ⟨k, rfl, hk, hi, hf, k8⟩
  intros
  refine BIf_dec (fun h1 => ?_) (fun h1 => ?_)
  · refine newS_mk (fun r17 w18 hr17 hb17 k17 hs17 => ?_)
    have hi18 : Rows IntR w18 ord (idsI 0 k) ((idsI 0 k).map intC) := hi.keep k17
    have hol := hi.sl
    have hil : (idsI 0 k).length = k := by simp [idsI]
    refine hi18.snoc (cs := intC (k : Int)) (x := (k : Int)) (z := [.int .i64 0]) rfl rfl (fun k hk => (foot_int hk).elim) hb17 (.inl (by simp)) (by omega) (fun s' w' g1 g2 g3 => ?_)
    have e1 : idsI 0 k ++ [(k : Int)] = idsI 0 (k + 1) := by
      unfold idsI
      rw [List.range'_concat]
      simp
    rw [e1] at g1
    have z8 := k8.size
    have z17 := k17.size
    refine ⟨inR64 (by omega), ⟨k + 1, rfl, by omega, IntsAt.of g1, fun j hj => (g3 j hj).elim (fun h => hf j h) (fun h => by omega), (k8.trans k17).ext g2 (fun j hj => hf j hj)⟩, by first | (dsimp only; omega) | omega⟩
  · have hkn : k = L.length := by omega
    subst hkn
    refine ⟨fun w2 => ∃ o, IntsAt w2 ord o ∧ o.Perm (idsI 0 L.length) ∧ Keep w w2 ∧ ∀ q, checkB L q = true → ¬ lexLt q o, fun w2 => L.length ^ L.length - lvI L.length (rdI w2 ord), ⟨_, hi, List.Perm.refl _, k8, fun q hq => asc_min (ids_asc _) (check_perm hq)⟩, ?_⟩
    rintro w23 ⟨o, io, hp, k23, hmin⟩
    intros
    obtain ⟨hin, hol, hnd⟩ := ids_in hp
    refine (Stands_spec s ord L o w23 (h.keep k23) io.ints io.cap (by omega)).mono ?_
    rintro x w34 ⟨rfl, k34⟩
    rw [← check_stand]
    have kk := k23.trans k34
    refine ⟨_, rfl, BIf_mk (fun h2 => ⟨ord, true, rfl, kk, fun _ => ?_, fun hh => by cases hh⟩) (fun h2 => ?_)⟩
    · obtain ⟨o', ho'⟩ := findP_some hall hl h2
      refine ⟨o', ho', ?_⟩
      have h3 := findP_ok ho'
      have h4 := findP_least ho' h2
      have h5 := hmin o' h3.2
      have : o = o' := by
        rcases lexLt_total o o' (by omega) with h | h | h
        · exact (h4 h).elim
        · exact h
        · exact (h5 h).elim
      rw [← this]
      exact io.keep k34
    · refine (Next_spec35 ord o w34 (io.keep k34) hnd (by omega)).mono ?_
      rintro x w37 ⟨b, rfl, x37, hno, hyes⟩
      have k37 : Keep w w37 := kk.ext x37 (fun j hj => hf j hj)
      refine ⟨_, rfl, BIf_mk (fun h3 => ⟨⟨none, 0, 0⟩, false, rfl, k37, fun hh => (by cases hh), fun _ => ?_⟩) (fun h3 => ?_)⟩
      · have hb : b = false := by simpa using h3
        cases hfp : findP L with
        | error k => exact ⟨k, rfl⟩
        | ok o' =>
          exfalso
          have h4 := findP_ok hfp
          rcases lexLt_total o o' (by omega) with h | h | h
          · exact hno hb o' ((check_perm h4.2).trans hp.symm) h
          · rw [h] at h2; rw [h4.2] at h2; cases h2
          · exact hmin o' h4.2 h
      · have hb : b = true := by simpa using h3
        obtain ⟨o', io', hp', hlt, hnx⟩ := hyes hb
        obtain ⟨hin', hol', _⟩ := ids_in (hp'.trans hp)
        refine ⟨⟨o', io', hp'.trans hp, k37, fun q hq => ?_⟩, ?_⟩
        · have hqp := (check_perm hq).trans hp.symm
          rcases lexLt_total o q (by have := hqp.length_eq; omega) with h | h | h
          · exact hnx q hqp h
          · rw [← h, h2] at hq; cases hq
          · exact (hmin q hq h).elim
        · show L.length ^ L.length - lvI L.length (rdI w37 ord) < L.length ^ L.length - lvI L.length (rdI w23 ord)
          rw [rdI_eq io', rdI_eq io]
          have h6 := lvI_mono hin hin' (by omega) hlt
          have h7 := lvI_lt hin'
          rw [hol'] at h7
          omega

theorem findP_err {L : List Ev} {k : Nat} (hall : L.all rightB = true) (hl : L.length ≤ 12) (h : findP L = .error k) : k = 17 := by
  unfold findP at h
  rw [if_neg (by omega), if_neg (by rw [hall]; simp)] at h
  cases hg : goP L L.length [] [] with
  | some o => rw [hg] at h; cases h
  | none => rw [hg] at h; cases h; rfl

theorem OrderFinds_walk (s : Slc) (xs : List EvT) (w : World) (hx : rowsR rdEv w s xs) (A : Nat → Addr) (hE0 : Errs A w) :
    Calls Tryd.prog fn_tidewaterlaw35_OrderFinds ⟨[s.v]⟩ w fun e w' => e = .returned (.bool true) ∧ Keep w w' := by
  have hE := hE0.b
  have hG := hE.g.sub (H := ordG) (by decide)
  have h := EvAt.rows hx
  generalize xs.map evOf = L at h
  have hsl := h.1
  refine tidewaterlaw35_OrderFinds_ok _ ?_
  unfold tidewaterlaw35_OrderFinds
  refine (alive35_spec A w hE0).mono ?_
  rintro e w3 ⟨rfl, k3⟩
  refine ⟨_, rfl, BIf_mk (fun h => by cases h) (fun _ => ?_)⟩
  refine (of_spec s L 6 w3 (h.keep k3) (by omega)).mono ?_
  rintro e w6 ⟨t, b, rfl, k6, hb⟩
  have k36 := k3.trans k6
  refine ⟨_, _, rfl, BIf_mk (fun _ => ⟨rfl, k36⟩) (fun hb1 => ?_)⟩
  obtain ⟨hl, ht, hf⟩ := hb (by simpa using hb1)
  refine (Find_spec35 A s L w6 (h.keep k36) (by omega) (hG.keep k36)).mono ?_
  rintro x w10 ⟨k10, hres⟩
  have kk10 := k36.trans k10
  obtain ⟨s11, e12, rfl, hok, herr⟩ : ∃ (s11 : Slc) (e12 : Value), x = .returned (.tuple ⟨[s11.v, e12]⟩) ∧ (∀ o, findP L = .ok o → e12 = .nilIface ∧ Own w10 s11 1 (o.map intV)) ∧ (∀ k, findP L = .error k → s11 = ⟨none, 0, 0⟩ ∧ e12 = errO A (some k)) := by
    cases hfp : findP L with
    | ok o =>
      rw [hfp] at hres
      obtain ⟨t, rfl, ht, _⟩ := hres
      exact ⟨_, _, rfl, fun o' ho' => (by cases ho'; exact ⟨rfl, ht⟩), fun k hk => by cases hk⟩
    | error k =>
      rw [hfp] at hres
      exact ⟨_, _, hres, fun o' ho' => (by cases ho'), fun k' hk' => by cases hk'; exact ⟨rfl, rfl⟩⟩
  clear hres
  have hT : EvAt w10 t L := (EvAt.own ht).keep k10
  have htl := hT.1
  refine ⟨_, _, rfl, fun i w2 => ∃ k : Nat, i = k ∧ k ≤ L.length ∧ Keep w10 w2 ∧ ∀ j (hj : j < L.length), j < k → rightB L[j] = true, fun i _ => ((L.length : Int) - i).toNat, ⟨0, rfl, by omega, Ext.refl _ _, fun j hj hh => by omega⟩, ?_⟩
  rintro i w16 ⟨k, rfl, hk, k16, hr⟩
  intros
  have kk16 := kk10.trans k16
  refine BIf_dec (fun h1 => ?_) (fun h1 => ?_)
  · have hkl : k < L.length := by omega
    obtain ⟨a, _, ha, hrow⟩ := (hT.keep k16).row (n := (k : Int)) (by omega) (by omega)
    refine needSome_mk ha ⟨by omega, h1, _, _, _, _, _, _, _, hrow, ?_⟩
    simp only [Int.toNat_natCast]
    refine var_mk (cs := evC L[k]) rfl rfl (fun r50 w52 hr50 o50 k50 hs50 => ?_)
    refine ⟨_, _, _, _, _, _, _, o50.row, ?_⟩
    refine (Right_spec35 L[k] w52).mono ?_
    rintro e w61 ⟨rfl, k61⟩
    have k1661 := k50.trans k61
    have kk61 := kk16.trans k1661
    refine ⟨_, rfl, BIf_mk (fun h2 => ?_) (fun h2 => ⟨inR64 (by omega), ⟨k + 1, rfl, hkl, k16.trans k1661, fun j hj hjk => ?_⟩, by first | (dsimp only; omega) | omega⟩)⟩
    · have hrf : rightB L[k] = false := by simpa using h2
      have hall : L.all rightB = false := by rw [List.all_eq_false]; exact ⟨_, List.getElem_mem hkl, by simp [hrf]⟩
      have hfp : findP L = .error 3 := by unfold findP; rw [if_neg (by omega), if_pos hall]
      obtain ⟨rfl, rfl⟩ := herr 3 hfp
      refine BIf_dec (fun _ => ?_) (fun h => absurd rfl h)
      refine (Num_spec A 3 (by omega) w61 (hE.keep kk61).1).mono ?_
      rintro e w64 ⟨rfl, k64⟩
      refine ⟨_, rfl, BIf_dec (fun _ => ?_) (fun h => absurd rfl h)⟩
      have kk64 := kk61.trans k64
      refine (Most_spec35 A s L w64 (h.keep kk64) (by omega) (hG.keep kk64)).mono ?_
      rintro e w67 ⟨r, m, rfl, hst, hrm, _, hno, k67⟩
      refine ⟨_, rfl, ?_, kk64.trans k67⟩
      have : m ≤ k := by
        refine Classical.byContradiction fun hlt => ?_
        have := hst.2.2.1 k hkl (by omega)
        rw [hrf] at this; cases this
      rw [decide_eq_true (by omega)]
    · by_cases hjj : j = k
      · subst hjj; simpa using h2
      · exact hr j hj (by omega)
  · have hkn : k = L.length := by omega
    subst hkn
    have hall : L.all rightB = true := by
      rw [List.all_eq_true]; intro e he; obtain ⟨j, hj, rfl⟩ := List.getElem_of_mem he; exact hr j hj hj
    refine (refFind_spec35 t L w16 (hT.keep k16) (by omega) hall).mono ?_
    rintro x w70 ⟨s71, b72, rfl, k70, hyes, hno⟩
    have kk70 := kk16.trans k70
    refine ⟨_, _, rfl, fun w2 => Keep w10 w2, ?_, ?_⟩
    · refine BIf_mk (fun h2 => ?_) (fun h2 => ?_)
      · obtain ⟨k, hfp⟩ := hno (by simpa using h2)
        have hk17 := findP_err hall (by omega) hfp
        subst hk17
        obtain ⟨rfl, rfl⟩ := herr 17 hfp
        refine BIf_ndec (fun h => absurd rfl h) (fun _ => ?_)
        refine (Num_spec A 17 (by omega) w70 (hE.keep kk70).1).mono ?_
        rintro e w75 ⟨rfl, k75⟩
        exact ⟨_, rfl, BIf_ndec (fun h => absurd rfl h) (fun _ => (k16.trans k70).trans k75)⟩
      · obtain ⟨o, hfp, io⟩ := hyes (by simpa using h2)
        obtain ⟨rfl, ho⟩ := hok o hfp
        refine ⟨trivial, BIf_mk (fun h => by cases h) (fun _ => ?_)⟩
        have hol := (findP_ok hfp).1
        refine (SameInts_spec s11 s71 o o w70 (ho.keep (k16.trans k70)).ints io.ints (by omega)).mono ?_
        rintro e w78 ⟨rfl, k78⟩
        exact ⟨_, rfl, BIf_mk (fun h => by simp at h) (fun _ => (k16.trans k70).trans k78)⟩
    · intro w80 k80
      intros
      refine ⟨fun i w2 => ∃ k : Nat, i = k ∧ k ≤ L.length ∧ Keep w10 w2 ∧ ∀ j, k < j → j ≤ L.length → fndB (L.take j) = false, fun i _ => i.toNat, ⟨L.length, by omega, Nat.le_refl _, k80, fun j h1 h2 => by omega⟩, ?_⟩
      rintro i w103 ⟨k, rfl, hk, k103, hnf⟩
      intros
      -- the end
      have fin : ∀ {w2 : World}, Keep w10 w2 → (0 < k → fndB (L.take k) = true) → Calls Tryd.prog fn_order_Most ⟨[s.v]⟩ w2 fun e123 w124 => ∃ n125 : Int, e123 = .returned (Value.int .i64 n125) ∧ (Ending.returned (Value.bool (decide (n125 = (k : Int)))) = .returned (.bool true) ∧ Keep w w124) := by
        intro w2 k2 hfk
        have kk2 := kk10.trans k2
        refine (Most_spec35 A s L w2 (h.keep kk2) (by omega) (hG.keep kk2)).mono ?_
        rintro e w67 ⟨r, m, rfl, hst, hrm, hfr, hno, k67⟩
        refine ⟨_, rfl, ?_, kk2.trans k67⟩
        have hm : m = L.length := by
          rcases hst.2.2.2 with h1 | ⟨h1, _, h2⟩
          · omega
          · have := List.all_eq_true.1 hall _ (List.getElem_mem h1)
            rw [h2] at this; cases this
        have hrk : r = k := by
          refine Classical.byContradiction fun hne => ?_
          by_cases hlt : r < k
          · have := hno k hlt (by omega)
            rw [hfk (by omega)] at this; cases this
          · have := hnf r (by omega) (by omega)
            rw [hfr] at this; cases this
        rw [decide_eq_true (by omega)]
      refine BIf_dec (fun h2 => ?_) (fun h2 => fin k103 (fun h => by omega))
      have htc := hT.2.1
      refine ⟨by omega, by omega, by omega, by omega, ?_⟩
      rw [sub0, Int.toNat_natCast]
      have hall2 : (L.take k).all rightB = true := by
        rw [List.all_eq_true]; intro e he; exact List.all_eq_true.1 hall e (List.mem_of_mem_take he)
      refine (refFind_spec35 ⟨t.p, k, t.c⟩ (L.take k) w103 ((hT.keep k103).sub k hk) (by simp; omega) hall2).mono ?_
      rintro x w120 ⟨s121, b122, rfl, k120, hyes2, hno2⟩
      refine ⟨_, _, rfl, BIf_mk (fun h3 => ?_) (fun h3 => ⟨inR64 (by omega), ⟨k - 1, by omega, by omega, k103.trans k120, fun j h4 h5 => ?_⟩, by first | (dsimp only; omega) | omega⟩)⟩
      · obtain ⟨o, ho, _⟩ := hyes2 h3
        exact fin (k103.trans k120) (fun _ => by unfold fndB; rw [ho])
      · by_cases hjk : j = k
        · subst hjk
          obtain ⟨e, he⟩ := hno2 h3
          unfold fndB; rw [he]
        · exact hnf j (by omega) h5
end Go.D
