/-
  WHAT IS PROVED: contracts of functions, and the plain law, for this proof. No further conditions.
-/
import Derived.Test.YtjhhgmcigjgojaaDoorParts2
import Derived.Test.YtjhhgmcigjgojaaDoorVCref05
import Derived.Test.YtjhhgmcigjgojaaDoorPackRefB
set_option linter.unusedVariables false
set_option linter.unusedSimpArgs false
namespace Go.D
open Go Go.Proofs

/-! ### a part, by definition -/
theorem upto5_spec (n m : Int) (w : World) : Calls Tryd.prog fn_tidewaterref05_upto ⟨[.int .i64 n, .int .i64 m]⟩ w fun e w' => e = .returned (.bool (decide (1 ≤ n) && decide (n ≤ m))) ∧ w' = w := by
  refine tidewaterref05_upto_ok _ _ ?_
  unfold tidewaterref05_upto
  refine BIf_dec (fun h => ⟨by rw [decide_eq_true h]; rfl, rfl⟩) (fun h => ⟨by rw [decide_eq_false h]; rfl, rfl⟩)
structure PtOk (sh up p q : Int) (d : List UInt8) : Prop where
  h1 : 0 ≤ sh ∧ sh ≤ 12
  h2 : 0 ≤ up ∧ up ≤ 4096
  h3 : 1 ≤ q ∧ q ≤ 64
  h4 : 0 ≤ p ∧ p < q
  h5 : d.length ≤ 256
theorem Right5_spec (sh up p q : Int) (sd : Slc) (d : List UInt8) (w : World) (h : PtOk sh up p q d) (hd : bytesAt w sd d) :
    Calls Tryd.prog fn_tidewaterref05_Right ⟨[.agg ⟨ptC sh up p q sd⟩]⟩ w fun e w' => e = .returned (.bool true) ∧ Keep w w' := by
  obtain ⟨h1, h2, h3, h4, h5⟩ := h
  have hl := hd.1
  refine tidewaterref05_Right_ok _ _ _ _ _ _ _ _ _ _ _ _ ?_
  unfold tidewaterref05_Right
  refine newS_mk (fun r w14 hr hb hk hs => ?_)
  have o : ObjAt w14 r (ptC sh up p q sd) := ObjAt.new' hb
  refine ⟨fun two w2 => Keep w14 w2, ?_, ?_⟩
  · refine ⟨_, o.cell 1 (by simp [ptC]), ?_⟩
    refine (upto5_spec _ _ w14).mono ?_
    rintro e w18 ⟨rfl, rfl⟩
    refine ⟨_, rfl, BIf_mk (fun _ => ⟨_, o.cell 2 (by simp [ptC]), ?_⟩) (fun _ => Ext.refl _ _)⟩
    refine (upto5_spec _ _ _).mono ?_
    rintro e w22 ⟨rfl, rfl⟩
    refine ⟨_, rfl, BIf_mk (fun _ => ⟨_, o.cell 1 (by simp [ptC]), _, o.cell 2 (by simp [ptC]), Ext.refl _ _⟩) (fun _ => Ext.refl _ _)⟩
  · intro two w27 k27
    intros
    have o := o.keep k27
    refine ⟨_, o.cell 0 (by simp [ptC]), BIf_dec (fun h => by cases h) (fun _ => BIf_dec (fun h => by cases h) (fun _ => BIf_dec (fun h => by cases h) (fun _ => BIf_dec (fun h => by cases h) (fun _ => BIf_dec (fun _ => ?_) (fun h => absurd rfl h)))))⟩
    refine ⟨_, o.cell 1 (by simp [ptC]), BIf_dec (fun _ => ⟨_, o.cell 1 (by simp [ptC]), BIf_dec (fun _ => ⟨_, o.cell 8 (by simp [ptC]), BIf_dec (fun _ => ⟨_, o.cell 8 (by simp [ptC]), BIf_dec (fun _ => ⟨_, o.cell 10 (by simp [ptC]), ?_⟩) (fun h => absurd h2.2 h)⟩) (fun h => absurd h2.1 h)⟩) (fun h => absurd h1.2 h)⟩) (fun h => absurd h1.1 h)⟩
    refine (upto5_spec _ _ _).mono ?_
    rintro e w185 ⟨rfl, rfl⟩
    refine ⟨_, rfl, BIf_mk (fun _ => ⟨_, o.cell 9 (by simp [ptC]), BIf_dec (fun _ => ⟨_, o.cell 9 (by simp [ptC]), _, o.cell 10 (by simp [ptC]), BIf_dec (fun _ => ⟨_, o.cell 11 (by simp [ptC]), ?_, hk.trans k27⟩) (fun h => absurd h4.2 h)⟩) (fun h => absurd h4.1 h)⟩) (fun h => by rw [decide_eq_true h3.1, decide_eq_true h3.2] at h; cases h)⟩
    rw [decide_eq_true (by omega)]

def bytes5 (sh up p q : Int) (d : List UInt8) : List UInt8 := ([5, sh, up, q, p].flatMap fun (n : Int) => encN n.toNat) ++ (encN d.length ++ d)
theorem encF_len : ∀ (l : List Int), (∀ n ∈ l, n ≤ 2 ^ 40) → (l.flatMap fun (n : Int) => encN n.toNat).length ≤ 6 * l.length
  | [], _ => by simp
  | n :: l, h => by
    have h1 := encF_len l (fun n hn => h n (by simp [hn]))
    have h2 := h n (by simp)
    have h3 := encN_len n.toNat 5 (by omega)
    simp at h1 ⊢; omega
theorem Bytes5_spec (sh up p q : Int) (sd : Slc) (d : List UInt8) (w : World) (h : PtOk sh up p q d) (hd : bytesAt w sd d) :
    Calls Tryd.prog fn_tidewaterref05_Bytes ⟨[.agg ⟨ptC sh up p q sd⟩]⟩ w fun e w' => ∃ t : Slc, e = .returned t.v ∧ Own w' t 1 ((bytes5 sh up p q d).map byteV) ∧ Fresh w t ∧ Keep w w' := by
  obtain ⟨h1, h2, h3, h4, h5⟩ := h
  have hl := hd.1
  refine tidewaterref05_Bytes_ok _ _ _ _ _ _ _ _ _ _ _ _ ?_
  unfold tidewaterref05_Bytes
  refine newS_mk (fun r w14 hr hb hk hs => ?_)
  have o : ObjAt w14 r (ptC sh up p q sd) := ObjAt.new' hb
  refine ⟨_, o.cell 0 (by simp [ptC]), _, o.cell 1 (by simp [ptC]), newS_mk (fun r17 w18 hr17 hb17 k17 hs17 => ?_)⟩
  have o18 := o.keep k17
  have z14 := hk.size
  have z17 := k17.size
  obtain ⟨LL, hLL⟩ : ∃ LL : List Int, LL = [5, sh, up, q, p] := ⟨_, rfl⟩
  refine ⟨fun l w2 => Own w2 l 1 (LL.map intV) ∧ Fresh w l ∧ Keep w w2 ∧ Keep w14 w2, ?_, ?_⟩
  · refine ⟨_, o18.cell 0 (by simp [ptC]), BIf_dec (fun h => by cases h) (fun _ => BIf_dec (fun h => by cases h) (fun _ => BIf_dec (fun h => by cases h) (fun _ => BIf_dec (fun h => by cases h) (fun _ => BIf_dec (fun _ => ?_) (fun h => absurd rfl h)))))⟩
    refine ⟨_, o18.cell 8 (by simp [ptC]), _, o18.cell 10 (by simp [ptC]), _, o18.cell 9 (by simp [ptC]), newS_mk (fun r47 w48 hr47 hb47 k47 hs47 => ?_)⟩
    have o17 : Own w48 ⟨some ⟨r17, 0, none⟩, 2, 2⟩ 1 (([5, sh] : List Int).map intV) := Own.keep (Own.new (sz := 1) (n := 2) hb17 (.inl (by simp)) rfl) k47
    have o47 : Own w48 ⟨some ⟨r47, 0, none⟩, 3, 3⟩ 1 (([up, q, p] : List Int).map intV) := Own.new (sz := 1) (n := 3) hb47 (.inl (by simp)) rfl
    refine appendS_own o17 (by omega) rfl (srcAt_slc o47.cells (by simp)) (one_ints _) (by simp only [Src.n]; omega) (fun s' w' g1 g2 g3 g4 => ?_)
    have hf17 : ∀ j, ownB ⟨some ⟨r17, 0, none⟩, 2, 2⟩ j → j = r17 := by rintro j ⟨a, ha, rfl⟩; cases ha; rfl
    have k48 := (hk.trans k17).trans k47
    refine ⟨by rw [hLL]; simpa using g1, fun j hj => (g3 j hj).elim (fun h => by rw [hf17 j h]; omega) (fun h => by have := k48.size; omega), k48.ext g2 (fun j hj => by rw [hf17 j hj]; omega), (k17.trans k47).ext g2 (fun j hj => by rw [hf17 j hj]; omega)⟩
  · rintro l51 w52 ⟨hl51, hf51, k52, k1452⟩
    intros
    have hll : l51.l = 5 := by have := hl51.1; rw [hLL] at this; simpa using this
    have hin : ∀ n ∈ LL, 0 ≤ n ∧ n ≤ 2 ^ 40 := by
      intro n hn; rw [hLL] at hn; simp at hn
      rcases hn with rfl | rfl | rfl | rfl | rfl <;> omega
    refine newS_mk (fun r101 w102 hr101 hb101 k101 hs101 => ?_)
    have z52 := k52.size
    refine ⟨fun out i w2 => ∃ k : Nat, i = k ∧ k ≤ 5 ∧ Own w2 out 1 (((LL.take k).flatMap fun (n : Int) => encN n.toNat).map byteV) ∧ Fresh w out ∧ Keep w w2 ∧ Ext (fun j => w52.heap.size ≤ j) w52 w2 ∧ Fresh w52 out, fun _ i _ => ((5 : Int) - i).toNat,
      ⟨0, rfl, by omega, Own.new (sz := 1) (n := 0) hb101 (.inl (by simp)) rfl, Fresh.at (by omega), k52.trans k101, k101.mono (fun _ h => h.elim), Fresh.at (by omega)⟩, ?_⟩
    rintro out i w107 ⟨k, rfl, hk5, ho, hf, k107, x107, hf52⟩
    intros
    have hLl : LL.length = 5 := by rw [hLL]; rfl
    have holen : out.l = ((LL.take k).flatMap fun (n : Int) => encN n.toNat).length := by have := ho.1; simpa using this
    have hole := encF_len (LL.take k) (fun n hn => (hin n (List.mem_of_mem_take hn)).2)
    have htk : (LL.take k).length ≤ 5 := by simp; omega
    have hl51' : Own w107 l51 1 (LL.map intV) := hl51.ext x107 (fun j hj hh => by have := OwnLt hl51 j hj; omega)
    refine BIf_dec (fun h6 => ?_) (fun h6 => ?_)
    · have hk4 : k < LL.length := by omega
      obtain ⟨a, ha, hc⟩ := intsAt_cell hl51'.ints hk4
      have hlk := hin _ (List.getElem_mem hk4)
      refine needSome_mk ha ⟨by omega, by omega, _, by rw [show Int.toNat (k : Int) * 1 = k by omega]; exact hc, ?_⟩
      refine (ref04_Num_specZ (LL[k]).toNat LL[k] w107 (by omega) (by omega)).mono ?_
      rintro e w120 ⟨s121, rfl, h121, f121, k120⟩
      have h121l : s121.l = (encN (LL[k]).toNat).length := by have := h121.1; simpa using this
      have h121e := encN_len (LL[k]).toNat 5 (by omega)
      refine ⟨s121, rfl, append_bytes2 (w0 := w) (ho.keep k120) rfl hf (k107.trans k120) (srcAt_bytes h121.bytes) (by simp only [Src.n]; omega) (fun s' w' g1 g2 g3 g4 g5 => ?_)⟩
      have x' : Ext (fun j => w52.heap.size ≤ j) w52 w' := (x107.trans k120 (fun _ h => h) (fun _ h => h.elim)).trans g4 (fun _ h => h) (fun j hj => .inl (hf52 j hj))
      refine ⟨inR64 (by omega), ⟨k + 1, rfl, by omega, ?_, g3, g2, x', fun j hj => (g5 j hj).elim (fun h => hf52 j h) (fun h => by have := x107.size; have := k120.size; omega)⟩, by first | (dsimp only; omega) | omega⟩
      rw [List.take_succ_eq_append_getElem hk4, List.flatMap_append]
      simpa using g1
    · have hk5 : k = 5 := by omega
      subst hk5
      rw [show LL.take 5 = LL by rw [← hLl, List.take_length]] at ho holen
      have o107 := (o.keep k1452).ext x107 (fun hh => by have := k1452.size; omega)
      refine ⟨_, o107.cell 0 (by simp [ptC]), BIf_dec (fun h => by cases h) (fun _ => BIf_dec (fun h => by cases h) (fun _ => BIf_dec (fun _ => ?_) (fun h => absurd rfl h)))⟩
      have hd107 := bytesAt_keep hd k107
      refine ⟨_, o107.cell 11 (by simp [ptC]), d, hd107, ?_⟩
      refine (ref04_Text_spec d w107 (by omega)).mono ?_
      rintro e w258 ⟨s259, rfl, h259, f259, k258⟩
      have h259l : s259.l = (encN d.length ++ d).length := by have := h259.1; simpa using this
      have h259e := encN_len d.length 5 (by omega)
      have hole2 := encF_len LL (fun n hn => (hin n hn).2)
      rw [List.length_append] at h259l
      refine ⟨s259, rfl, append_bytes (w0 := w) (ho.keep k258) rfl hf (k107.trans k258) (srcAt_bytes h259.bytes) (by simp only [Src.n]; omega) (fun s' w' g1 g2 g3 g4 => ⟨s', rfl, ?_, g3, g2⟩)⟩
      unfold bytes5
      rw [← hLL]
      exact g1
theorem Same5_spec (sh up p q : Int) (sd se : Slc) (d : List UInt8) (w : World) (h : PtOk sh up p q d) (hd : bytesAt w sd d) (he : bytesAt w se d) :
    Calls Tryd.prog fn_tidewaterref05_Same ⟨[.agg ⟨ptC sh up p q sd⟩, .agg ⟨ptC sh up p q se⟩]⟩ w fun e w' => e = .returned (.bool true) ∧ Keep w w' := by
  refine tidewaterref05_Same_ok _ _ _ _ _ _ _ _ _ _ _ _ _ _ _ _ _ _ _ _ _ _ _ _ ?_
  unfold tidewaterref05_Same
  refine newS_mk (fun r25 w26 hr25 hb25 k25 hs25 => newS_mk (fun r27 w28 hr27 hb27 k27 hs27 => ?_))
  have kd : Keep w28 w28.drew := Ext.drew none0 _
  have o25 : ObjAt w28 r25 (ptC sh up p q sd) := (ObjAt.new' hb25).keep k27
  have o27 : ObjAt w28 r27 (ptC sh up p q se) := ObjAt.new' hb27
  have kk := (k25.trans k27).trans kd
  refine ⟨_, _, _, _, _, _, _, _, _, _, _, _, (o25.keep kd).row, ?_⟩
  refine (Right5_spec sh up p q sd d _ h (bytesAt_keep hd kk)).mono ?_
  rintro e w42 ⟨rfl, k42⟩
  refine ⟨_, rfl, BIf_mk (fun _ => ?_) (fun h => by cases h)⟩
  refine ⟨_, _, _, _, _, _, _, _, _, _, _, _, ((o27.keep kd).keep k42).row, ?_⟩
  refine (Right5_spec sh up p q se d _ h (bytesAt_keep he (kk.trans k42))).mono ?_
  rintro e w57 ⟨rfl, k57⟩
  have k2857 := (kd.trans k42).trans k57
  have kk57 := (kk.trans k42).trans k57
  refine ⟨_, rfl, BIf_mk (fun _ => ?_) (fun h => by cases h)⟩
  refine ⟨_, _, _, _, _, _, _, _, _, _, _, _, (o25.keep k2857).row, _, _, _, _, _, _, _, _, _, _, _, _, (o27.keep k2857).row, ?_⟩
  refine (Bytes5_spec sh up p q sd d w57 h (bytesAt_keep hd kk57)).mono ?_
  rintro e w84 ⟨t, rfl, ht, ft, k84⟩
  refine ⟨t, rfl, ⟨_, _, _, _, _, _, _, _, _, _, _, _, (o27.keep (k2857.trans k84)).row, rfl⟩, _, ht.bytes, ?_⟩
  refine (Bytes5_spec sh up p q se d w84 h (bytesAt_keep he (kk57.trans k84))).mono ?_
  rintro e w100 ⟨u, rfl, hu, fu, k100⟩
  exact ⟨u, rfl, ⟨_, (ht.keep k100).bytes, rfl⟩, _, hu.bytes, by simp, (kk57.trans k84).trans k100⟩

/-! ### the document's parts -/
theorem ptsL_snoc {B : List UInt8} {n k : Nat} : ptsL B n (k + 1) (k + 1) = ptsL B n k k ++ [((k : Int), (n : Int), chunkB B 256 k)] := by
  unfold ptsL
  rw [List.range_succ, List.map_append]
  congr 1
  · refine List.map_congr_left (fun i hi => ?_)
    have := List.mem_range.1 hi
    rw [if_pos (by omega), if_pos (by omega)]
  · simp
theorem refParts_spec (sh up : Int) (s : Slc) (b : List UInt8) (w : World) (hb : bytesAt w s b) (hl : b.length ≤ 2 ^ 19) :
    Calls Tryd.prog fn_tidewaterref24_Parts ⟨[.int .i64 sh, .int .i64 up, s.v]⟩ w fun x w' => Keep w w' ∧ match partsP sh up b with
      | .ok L => ∃ (t : Slc) (css : List (List Value)), x = .returned (.tuple ⟨[t.v, .int .i64 0]⟩) ∧ Rows (PtR sh up) w' t L css
      | .error k => x = .returned (.tuple ⟨[(⟨none, 0, 0⟩ : Slc).v, .int .i64 ((k + 1 : Nat) : Int)]⟩) := by
  refine tidewaterref24_Parts_ok _ _ _ ?_
  unfold tidewaterref24_Parts
  refine ⟨fun w2 => w2 = w ∧ partsOk sh up = true, ?_, ?_⟩
  · have bad : partsOk sh up = false → Keep w w ∧ (match partsP sh up b with
      | .ok L => ∃ (t : Slc) (css : List (List Value)), Ending.returned (.tuple ⟨[(⟨none, 0, 0⟩ : Slc).v, .int .i64 1]⟩) = .returned (.tuple ⟨[t.v, .int .i64 0]⟩) ∧ Rows (PtR sh up) w t L css
      | .error k => Ending.returned (.tuple ⟨[(⟨none, 0, 0⟩ : Slc).v, .int .i64 1]⟩) = .returned (.tuple ⟨[(⟨none, 0, 0⟩ : Slc).v, .int .i64 ((k + 1 : Nat) : Int)]⟩)) := fun h => by
      have : partsP sh up b = .error 0 := by unfold partsP; rw [if_pos h]
      rw [this]
      exact ⟨Ext.refl _ _, rfl⟩
    exact BIf_dec (fun h1 => bad (decide_eq_false (by omega))) (fun h1 => BIf_dec (fun h2 => bad (decide_eq_false (by omega))) (fun h2 => BIf_dec (fun h3 => bad (decide_eq_false (by omega))) (fun h3 => BIf_dec (fun h4 => bad (decide_eq_false (by omega))) (fun h4 => ⟨rfl, decide_eq_true (by omega)⟩))))
  · rintro w5 ⟨rfl, hok⟩
    intros
    refine (refSummed_spec s b w5 hb (by omega)).mono ?_
    rintro e w23 ⟨s24, rfl, h24, f24, k23⟩
    obtain ⟨B, hB⟩ : ∃ B, B = summedB b := ⟨_, rfl⟩
    rw [← hB] at h24
    have hBl : B.length = 4 + b.length := by rw [hB, summed_len]
    have hsl : s24.l = B.length := by have := h24.1; simpa using this
    obtain ⟨n, hn⟩ : ∃ n : Nat, n = partsN b := ⟨_, rfl⟩
    have hnI : (((s24.l : Nat) : Int) + 255) / 256 = (n : Int) := by rw [hn]; unfold partsN; omega
    refine ⟨s24, rfl, ?_⟩
    rw [hnI]
    refine ⟨inR64 (by omega), by omega, by omega, inR64 (by omega), BIf_dec (fun h1 => ⟨k23, ?_⟩) (fun h1 => newS_mk (fun r25 w26 hr25 hb25 k25 hs25 => ?_))⟩
    · have : partsP sh up b = .error 12 := by unfold partsP; rw [if_neg (by rw [hok]; simp), if_pos (by omega)]
      rw [this]
      rfl
    have z23 := k23.size
    have z25 := k25.size
    have k26 := k23.trans k25
    have hc24 := h24.le (by omega)
    refine ⟨fun out i w2 => ∃ (k : Nat) (css : List (List Value)), i = k ∧ k ≤ n ∧ Rows (PtR sh up) w2 out (ptsL B n k k) css ∧ (∀ j, ownB out j → w23.heap.size ≤ j) ∧ Ext (fun j => w23.heap.size ≤ j) w23 w2, fun _ i _ => ((n : Int) - i).toNat,
      ⟨0, [], rfl, by omega, ⟨Own.new (sz := 12) (n := 0) hb25 (.inl (by simp)) rfl, rfl, fun i h => by simp at h, by rintro k ⟨cs, hc, _⟩; simp at hc⟩, (by rintro j ⟨a, ha, rfl⟩; cases ha; simp only; omega), k25.mono (fun _ h => h.elim)⟩, ?_⟩
    rintro out i w31 ⟨k, css, rfl, hk, hR, hout, x31⟩
    intros
    have k31 : Keep w5 w31 := k23.ext x31 (fun j hj => by omega)
    have z31 := x31.size
    refine BIf_dec (fun h2 => ?_) (fun h2 => ?_)
    · have hkn : k < n := by omega
      obtain ⟨hi, hhi⟩ : ∃ hi : Nat, (hi : Int) = if (((256 : Int) * (k : Int)) + (256 : Int)) < ((s24.l : Nat) : Int) then (((256 : Int) * (k : Int)) + (256 : Int)) else ((s24.l : Nat) : Int) := by
        split
        · exact ⟨256 * k + 256, by omega⟩
        · exact ⟨s24.l, rfl⟩
      have hnB : n = (4 + b.length + 255) / 256 := by rw [hn]; rfl
      have hhi2 : hi = min (256 * k + 256) B.length := by split at hhi <;> omega
      rw [← hhi]
      refine ⟨inR64 (by omega), inR64 (by omega), newS_mk (fun r59 w60 hr59 hb59 k59 hs59 => ⟨inR64 (by omega), by omega, by omega, by omega, by omega, ?_⟩)⟩
      have h24' : Own w60 s24 1 (B.map byteV) := (h24.ext x31 (fun j hj hh => by have := OwnLt h24 j hj; omega)).keep k59
      rw [show Int.toNat ((256 : Int) * (k : Int)) = 256 * k by omega, Int.toNat_natCast]
      have hsub := bytesAt_sub h24'.bytes (lo := 256 * k) (hi := hi) (c := s24.c) (by omega) (by omega) (by omega)
      have e3 : chunkB B 256 k = (B.take hi).drop (256 * k) := by
        unfold chunkB
        rw [List.drop_take, Nat.mul_comm 256 k]
        by_cases hmm : hi - k * 256 = 256
        · rw [hmm]
        · rw [List.take_of_length_le (by simp; omega), List.take_of_length_le (by simp; omega)]
      rw [← e3] at hsub
      have hcl : (chunkB B 256 k).length ≤ 256 := by unfold chunkB; simp; omega
      have hsubl := hsub.1
      have z59 := k59.size
      refine append_bytes (vs := []) (w0 := w31) (Own.new (sz := 1) (n := 0) hb59 (.inl (by simp)) rfl) rfl (Fresh.at (by omega)) k59 (srcAt_bytes hsub) (by simp only [Src.n]; omega) (fun s62 w63 g1 g2 g3 g4 => ?_)
      rw [List.nil_append] at g1
      refine newS_mk (fun r64 w65 hr64 hb64 k64 hs64 => ?_)
      have k3165 := g2.trans k64
      have hR65 := hR.keep k3165
      refine hR65.snoc (cs := ptC sh up k n s62) (x := ((k : Int), (n : Int), chunkB B 256 k)) (z := _) rfl ⟨s62, rfl, (g1.keep k64).bytes, g1.le (by omega)⟩ (fun j hj ho => ?_) hb64 (.inl (by simp)) (by rw [ptsL_len]; omega) (fun s' w' q1 q2 q3 => ?_)
      · have h1 := g3 j (foot_pt hj).2
        have h2 := hR.lt j ho
        omega
      rw [← ptsL_snoc] at q1
      have z65 := k3165.size
      refine ⟨inR64 (by omega), ⟨k + 1, _, rfl, hkn, q1, fun j hj => (q3 j hj).elim (hout j) (fun h => by omega), (x31.trans k3165 (fun _ h => h) (fun _ h => h.elim)).trans q2 (fun _ h => h) (fun j hj => .inl (hout j hj))⟩, by first | (dsimp only; omega) | omega⟩
    · have hkn : k = n := by omega
      subst hkn
      refine ⟨k31, ?_⟩
      have : partsP sh up b = .ok (ptsL B k k k) := by unfold partsP; rw [if_neg (by rw [hok]; simp), if_neg (by omega), hn, hB]
      rw [this]
      exact ⟨out, css, rfl, hR⟩
end Go.D
